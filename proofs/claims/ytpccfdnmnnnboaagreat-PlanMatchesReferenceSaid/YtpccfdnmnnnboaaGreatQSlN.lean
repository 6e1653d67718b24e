/-
  The owned things, written out anew: what is nested in choices is told once.
-/
import Derived.Lib.MakeNoZero
import Derived.Laws.Externs
import Derived.Test.YtpccfdnmnnnboaaGreatQSlG
section
namespace Go.Sl
section
variable {X : Cx} {β : Base} {n : Nat} {ds : List Deferred} {ops : Array Oper} {Q : Exit → Act → World → Prop} {Γ : Env} {R H : List Pr} {rest : List Oper}
theorem C.norm {c : Code} {H' : List Pr} (hs : List Nat) (hp : Pk H hs H') (hn : hs.Nodup) (h : C X β n ds Q c Γ R H') : C X β n ds Q c Γ R H := fun a w hf hw => h a w hf (hw.pk hp hn)
theorem L.norm {H' : List Pr} (hs : List Nat) (hp : Pk H hs H') (hn : hs.Nodup) (h : L X β n ds ops Q rest Γ R H') : L X β n ds ops Q rest Γ R H := fun a w hf hw => h a w hf (hw.pk hp hn)
theorem QE.norm {x : Exit} {H' : List Pr} (hs : List Nat) (hp : Pk H hs H') (hn : hs.Nodup) (h : QE β n ds Q x Γ R H') : QE β n ds Q x Γ R H := fun a w hf hw => h a w hf (hw.pk hp hn)
end
end Go.Sl
end
/-
  The small separation logic: new bytes of no given content; slices with a given room; lists of rows that grow.
-/
section
namespace Go.Sl
section
variable {X : Cx} {β : Base} {n : Nat} {ds : List Deferred} {ops : Array Oper} {Q : Exit → Act → World → Prop} {rest : List Oper} {Γ : Env} {R H : List Pr}

/-- One more row behind the rows that can be read. -/
theorem Has.kidsSnoc (i j : Nat) (c : Nat) {hs : List Hd} {vss : List (List Value)} {A : Option Addr} {xs : List Value} (hi : R[i]? = some (KidsR hs vss)) (hj : R[j]? = some (Rd A xs)) (hl : hs.length = vss.length) : Has R H (KidsR (hs ++ [(A, c)]) (vss ++ [xs])) := by
 have get : ∀ (q : Nat) (h : Hd) (v : List Value), (hs ++ [(A, c)])[q]? = some h → (vss ++ [xs])[q]? = some v → (hs[q]? = some h ∧ vss[q]? = some v) ∨ (h = (A, c) ∧ v = xs) := by
   intro q h v hh hv
   rw [List.getElem?_append] at hh hv
   split at hh
   · rename_i h1
     rw [if_pos (by omega)] at hv
     exact .inl ⟨hh, hv⟩
   · rename_i h1
     rw [if_neg (by omega)] at hv
     have q0 : q - hs.length = 0 := by
       rcases Nat.eq_zero_or_pos (q - hs.length) with h0 | h0
       · exact h0
       · rw [List.getElem?_eq_none (by simp; omega)] at hh; cases hh
     rw [q0] at hh
     rw [← hl, q0] at hv
     simp at hh hv
     exact .inr ⟨hh.symm, hv.symm⟩
 refine ⟨fun β w hw q h v hh hv => ?_, fun k ⟨q, h, v, hh, hv, hk⟩ => ?_⟩
 · rcases get q h v hh hv with ⟨a, b⟩ | ⟨rfl, rfl⟩
   · exact hw.rd _ (List.mem_of_getElem? hi) q h v a b
   · exact hw.rd _ (List.mem_of_getElem? hj)
 · rcases get q h v hh hv with ⟨a, b⟩ | ⟨rfl, rfl⟩
   · exact .inl ⟨_, List.mem_of_getElem? hi, q, h, v, a, b, hk⟩
   · exact .inl ⟨_, List.mem_of_getElem? hj, hk⟩
end
end Go.Sl
end
/-
  The small separation logic: one inner slice is taken out of the owned ones; rows of structs; contracts whose results are only read.
-/
section
namespace Go.Sl

section
variable {X : Cx} {β : Base} {n : Nat} {ds : List Deferred} {ops : Array Oper} {Q : Exit → Act → World → Prop} {rest : List Oper} {Γ : Env} {R H : List Pr}

theorem Own.none (e : TypeId) (w : World) : (Own e 1 none 0 0 []).p w := World.ownsRow_nil w 0 e 1

/-- One inner slice is taken out: in its place stands an empty one. -/
theorem Sat.takeKid {w : World} (h : Sat β w R H) {j e i : Nat} {hs : List Hd} {vss : List (List Value)} (hj : H[j]? = some (OwnKids e hs vss)) (hi : i < vss.length) (js : List Nat) (hn : (j :: js).Nodup) :
   Sat β w R (Own e 1 (hs.getD i (none, 0)).1 (vss.getD i []).length (hs.getD i (none, 0)).2 (vss.getD i []) :: OwnKids e (hs.set i (none, 0)) (vss.set i []) :: Sl.sel H js) := by
 have hjs : j ∉ js := (List.nodup_cons.1 hn).1
 have nd : js.Nodup := (List.nodup_cons.1 hn).2
 have ok := h.own j _ hj
 have hil : i < hs.length := by rw [ok.1]; exact hi
 have gh : hs[i]? = some (hs.getD i (none, 0)) := getD_some hil
 have gv : vss[i]? = some (vss.getD i []) := getD_some hi
 have f1 : ∀ k, (Own e 1 (hs.getD i (none, 0)).1 (vss.getD i []).length (hs.getD i (none, 0)).2 (vss.getD i [])).fp k → hblk (hs.getD i (none, 0)) k := fun k hk => hk
 have f2 : ∀ k, (OwnKids e (hs.set i (none, 0)) (vss.set i [])).fp k → ∃ (q : Nat) (g : Hd), q ≠ i ∧ hs[q]? = some g ∧ hblk g k := by
   rintro k ⟨q, g, hg, hk⟩
   rw [List.getElem?_set] at hg
   by_cases hqi : i = q
   · rw [if_pos hqi, if_pos hil] at hg
     injection hg with hg
     subst hg
     obtain ⟨a, ha, _⟩ := hk
     cases ha
   · rw [if_neg hqi] at hg
     exact ⟨q, g, fun x => hqi x.symm, hg, hk⟩
 refine h.put (Stp.refl w fun _ => False) (fun _ hk => hk.elim) R _ (fun r hr => .inl hr) ?_ ?_ ?_
 · intro q d hd
   match q with
   | 0 =>
     simp at hd
     subst hd
     refine ⟨?_, fun k hk => ⟨(h.ofp j _ hj k ⟨i, _, gh, hk⟩).1, .inr ⟨j, _, hj, ⟨i, _, gh, hk⟩⟩⟩⟩
     have := ok.2.1 i _ _ gh gv
     simpa using this
   | 1 =>
     simp at hd
     subst hd
     refine ⟨⟨by simp [ok.1], ?_, ?_⟩, fun k hk => ?_⟩
     · intro q g v hg hv
       rw [List.getElem?_set] at hg hv
       by_cases hqi : i = q
       · rw [if_pos hqi, if_pos hil] at hg
         rw [if_pos hqi, if_pos hi] at hv
         injection hg with hg
         injection hv with hv
         subst hg hv
         exact Own.none e w
       · rw [if_neg hqi] at hg hv
         exact ok.2.1 q g v hg hv
     · intro p q g d hg hd hpq k hk
       rw [List.getElem?_set] at hg hd
       by_cases hpi : i = p
       · rw [if_pos hpi, if_pos hil] at hg
         injection hg with hg
         subst hg
         obtain ⟨a, ha, _⟩ := hk
         cases ha
       · rw [if_neg hpi] at hg
         by_cases hqi : i = q
         · rw [if_pos hqi, if_pos hil] at hd
           injection hd with hd
           subst hd
           rintro ⟨a, ha, _⟩
           cases ha
         · rw [if_neg hqi] at hd
           exact ok.2.2 p q g d hg hd hpq k hk
     · obtain ⟨q, g, _, hg, hb⟩ := f2 k hk
       exact ⟨(h.ofp j _ hj k ⟨q, g, hg, hb⟩).1, .inr ⟨j, _, hj, ⟨q, g, hg, hb⟩⟩⟩
   | q + 2 =>
     simp at hd
     obtain ⟨p, hp, hpd⟩ := sel_mem (List.mem_of_getElem? hd)
     exact ⟨h.own p d hpd, fun k hk => ⟨(h.ofp p d hpd k hk).1, .inr ⟨p, d, hpd, hk⟩⟩⟩
 · have apart : ∀ k, hblk (hs.getD i (none, 0)) k → (∃ (q : Nat) (g : Hd), q ≠ i ∧ hs[q]? = some g ∧ hblk g k) → False := by
     rintro k hk ⟨p, g, hne, hg, hb⟩
     exact ok.2.2 i p _ _ gh hg (fun x => hne x.symm) k hk hb
   have old : ∀ (q : Nat) (d : Pr), (Sl.sel H js)[q]? = some d → ∀ k, (∃ (p : Nat) (g : Hd), hs[p]? = some g ∧ hblk g k) → ¬ d.fp k := by
     intro q d hd k hk hdk
     obtain ⟨p, hp, hpd⟩ := sel_mem (List.mem_of_getElem? hd)
     exact h.dis j p _ _ hj hpd (fun x => hjs (x ▸ hp)) k hk hdk
   intro p q c d hc hd hne k hck hdk
   match p, q with
   | 0, 0 => exact hne rfl
   | 1, 1 => exact hne rfl
   | 0, 1 => simp at hc hd; subst hc hd; exact apart k hck (f2 k hdk)
   | 1, 0 => simp at hc hd; subst hc hd; exact apart k hdk (f2 k hck)
   | 0, q + 2 => simp at hc hd; subst hc; exact old q d hd k ⟨i, _, gh, hck⟩ hdk
   | p + 2, 0 => simp at hc hd; subst hd; exact old p c hc k ⟨i, _, gh, hdk⟩ hck
   | 1, q + 2 => simp at hc hd; subst hc; obtain ⟨s, g, _, hg, hb⟩ := f2 k hck; exact old q d hd k ⟨s, g, hg, hb⟩ hdk
   | p + 2, 1 => simp at hc hd; subst hd; obtain ⟨s, g, _, hg, hb⟩ := f2 k hdk; exact old p c hc k ⟨s, g, hg, hb⟩ hck
   | p + 2, q + 2 =>
     simp at hc hd
     exact (h.sel nd).dis p q c d hc hd (fun x => hne (by omega)) k hck hdk
 · intro r hr q d hd k hrk hdk
   match q with
   | 0 => simp at hd; subst hd; exact h.sep r hr j _ hj k hrk ⟨i, _, gh, hdk⟩
   | 1 => simp at hd; subst hd; obtain ⟨s, g, _, hg, hb⟩ := f2 k hdk; exact h.sep r hr j _ hj k hrk ⟨s, g, hg, hb⟩
   | q + 2 =>
     simp at hd
     obtain ⟨p, hp, hpd⟩ := sel_mem (List.mem_of_getElem? hd)
     exact h.sep r hr p d hpd k hrk hdk
theorem C.takeKid {c : Code} (j i : Nat) {e : Nat} {hs : List Hd} {vss : List (List Value)} (hj : H[j]? = some (OwnKids e hs vss)) (hi : i < vss.length) (js : List Nat) (hn : (j :: js).Nodup)
   (h : C X β n ds Q c Γ R (Own e 1 (hs.getD i (none, 0)).1 (vss.getD i []).length (hs.getD i (none, 0)).2 (vss.getD i []) :: OwnKids e (hs.set i (none, 0)) (vss.set i []) :: Sl.sel H js)) : C X β n ds Q c Γ R H :=
 fun a w hf hs' => h a w hf (hs'.takeKid hj hi js hn)

theorem C.cap {x : Code} (j : Nat) {e sz m c : Nat} {A : Option Addr} {xs : List Value} (hj : H[j]? = some (Own e sz A m c xs)) (h : m ≤ c → C X β n ds Q x Γ R H) : C X β n ds Q x Γ R H :=
 fun a w hf hs => h (Own.cap (hs.own j _ hj)).1 a w hf hs
theorem U8_drop (l : List UInt8) (k : Nat) : (U8 l).drop k = U8 (l.drop k) := by simp [U8, List.map_drop]
theorem I64_drop (l : List Int) (k : Nat) : (I64 l).drop k = I64 (l.drop k) := by simp [I64, List.map_drop]
theorem Bs_app (a b : List Bool) : Bs a ++ Bs b = Bs (a ++ b) := by simp [Bs]

/-- The cells of a step of a script: the fields and where the bytes lie. -/
structure Stp6 where
 er : Bool
 se : UInt8
 at_ : UInt8
 data : List UInt8
 yA : Option Addr
 yc : Nat
 torn : Bool
 mask : List UInt8
 mA : Option Addr
 mc : Nat
def Stp6.cells (s : Stp6) : List Value := [.bool s.er, .int .u8 (s.se.toNat : Int), .int .u8 (s.at_.toNat : Int), .slice s.yA s.data.length s.yc, .bool s.torn, .slice s.mA s.mask.length s.mc]
def Stp6.zero : Stp6 := ⟨false, 0, 0, [], none, 0, false, [], none, 0⟩
end
end Go.Sl
end
