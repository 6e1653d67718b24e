/-
  The small separation logic, ninth text: slices of slices.
-/
import Derived.Test.YtbkmahjhhncfcaaGreatUSlG
namespace Go.Sl

abbrev Hd := Option Addr × Nat

def hblk (h : Hd) (k : Nat) : Prop := ∃ a, h.1 = some a ∧ a.block = k

/-- Each inner slice reads as its list. -/
def KidsR (hs : List Hd) (vss : List (List Value)) : Pr where
 fp k := ∃ (i : Nat) (h : Hd) (v : List Value), hs[i]? = some h ∧ vss[i]? = some v ∧ (Rd h.1 v).fp k
 p w := ∀ (i : Nat) (h : Hd) (v : List Value), hs[i]? = some h → vss[i]? = some v → (Rd h.1 v).p w
 st := by
   intro w w' hk hp i h v hh hv
   exact (Rd h.1 v).st w w' (fun k hkk => hk k ⟨i, h, v, hh, hv, hkk⟩) (hp i h v hh hv)

/-- Each inner slice is owned; they lie apart. -/
def OwnKids (e : TypeId) (hs : List Hd) (vss : List (List Value)) : Pr where
 fp k := ∃ (i : Nat) (h : Hd), hs[i]? = some h ∧ hblk h k
 p w := hs.length = vss.length ∧ (∀ (i : Nat) (h : Hd) (v : List Value), hs[i]? = some h → vss[i]? = some v → (Own e 1 h.1 v.length h.2 v).p w) ∧
   (∀ (i j : Nat) (g h : Hd), hs[i]? = some g → hs[j]? = some h → i ≠ j → ∀ k, hblk g k → ¬ hblk h k)
 st := by
   intro w w' hk hp
   refine ⟨hp.1, fun i h v hh hv => (Own e 1 h.1 v.length h.2 v).st w w' (fun k hkk => hk k ⟨i, h, hh, hkk⟩) (hp.2.1 i h v hh hv), hp.2.2⟩

section
variable {X : Cx} {β : Base} {n : Nat} {ds : List Deferred} {ops : Array Oper} {Q : Exit → Act → World → Prop} {rest : List Oper} {Γ : Env} {R H : List Pr}

theorem getD_some {α : Type} {l : List α} {i : Nat} {d : α} (h : i < l.length) : l[i]? = some (l.getD i d) := by simp [h]

theorem Src.kid (j : Nat) {hs : List Hd} {vss : List (List Value)} (hj : R[j]? = some (KidsR hs vss)) (hl : hs.length = vss.length) (i : Nat) (hi : i < vss.length) : Src R H (hs.getD i (none, 0)).1 (vss.getD i []) := by
 intro β w hsat q u hu
 exact (hsat.rd _ (List.mem_of_getElem? hj)) i _ _ (getD_some (by omega)) (getD_some hi) q u hu
theorem Has.okids (j : Nat) {e : TypeId} {hs : List Hd} {vss : List (List Value)} (hj : H[j]? = some (OwnKids e hs vss)) : Has R H (KidsR hs vss) := by
 refine ⟨fun β w hsat i h v hh hv q u hu => ?_, fun k hk => ?_⟩
 · obtain ⟨g, hA, hc, _⟩ := Own.cell ((hsat.own j _ hj).2.1 i h v hh hv) hu
   exact ⟨_, hA, by rw [adz]; exact hc⟩
 · obtain ⟨i, h, v, hh, hv, hk⟩ := hk
   exact .inr ⟨j, _, hj, i, h, hh, hk.2⟩
/-- One of the inner slices, as a fact of its own. -/
theorem Has.kid (j : Nat) {hs : List Hd} {vss : List (List Value)} (hj : R[j]? = some (KidsR hs vss)) (hl : hs.length = vss.length) (i : Nat) (hi : i < vss.length) : Has R H (Rd (hs.getD i (none, 0)).1 (vss.getD i [])) :=
 ⟨fun β w hsat => Src.kid (H := H) j hj hl i hi β w hsat, fun k hk => .inl ⟨_, List.mem_of_getElem? hj, i, _, _, getD_some (by omega), getD_some hi, hk⟩⟩
theorem Has.kids0 : Has R H (KidsR [] []) := ⟨fun _ _ _ i h v hh => by simp at hh, fun k ⟨i, h, v, hh, _⟩ => by simp at hh⟩
theorem Sat.kids0 {w : World} (h : Sat β w R H) (e : TypeId) : Sat β w R (H ++ [OwnKids e [] []]) := by
 refine h.snoc (Stp.refl w fun _ => False) (fun _ h _ => h) _ ⟨rfl, fun i h v hh => by simp at hh, fun i j g h hg => by simp at hg⟩ ?_
 rintro k ⟨i, h, hh, _⟩
 simp at hh
theorem L.kids0 (e : TypeId) (h : L X β n ds ops Q rest Γ R (H ++ [OwnKids e [] []])) : L X β n ds ops Q rest Γ R H := fun a w hf hs => h a w hf (hs.kids0 e)
theorem C.kids0 {c : Code} (e : TypeId) (h : C X β n ds Q c Γ R (H ++ [OwnKids e [] []])) : C X β n ds Q c Γ R H := fun a w hf hs => h a w hf (hs.kids0 e)

/-- An owned row becomes one more inner slice; js: the places that stay, the inner slices' place among them not. -/
theorem Sat.absorb {w : World} (h : Sat β w R H) {j q e m c : Nat} {hs : List Hd} {vss : List (List Value)} {A : Option Addr} {xs : List Value} (hj : H[j]? = some (OwnKids e hs vss)) (hq : H[q]? = some (Own e 1 A m c xs))
   (js : List Nat) (hn : (j :: q :: js).Nodup) : Sat β w R (OwnKids e (hs ++ [(A, c)]) (vss ++ [xs]) :: Sl.sel H js) := by
 have hjq : j ≠ q := fun e => by subst e; simp at hn
 have hjs : j ∉ js := fun e => by simp [e] at hn
 have hqs : q ∉ js := fun e => by simp [e] at hn
 have nd : js.Nodup := by
   have := (List.nodup_cons.1 (List.nodup_cons.1 hn).2).2
   exact this
 have ok := h.own j _ hj
 have oq := h.own q _ hq
 have hm : xs.length = m := by have := Own.len oq; omega
 have hap : ∀ k, (OwnKids e hs vss).fp k → ¬ (Own e 1 A m c xs).fp k := fun k h1 h2 => h.dis j q _ _ hj hq hjq k h1 h2
 have hfp : ∀ k, (OwnKids e (hs ++ [(A, c)]) (vss ++ [xs])).fp k → (OwnKids e hs vss).fp k ∨ (Own e 1 A m c xs).fp k := by
   rintro k ⟨i, g, hg, hk⟩
   rw [List.getElem?_append] at hg
   split at hg
   · exact .inl ⟨i, g, hg, hk⟩
   · cases hi : i - hs.length with
     | zero => rw [hi] at hg; simp at hg; subst hg; exact .inr hk
     | succ i => rw [hi] at hg; simp at hg
 refine h.put (Stp.refl w fun _ => False) (fun _ hk => hk.elim) R _ (fun r hr => .inl hr) ?_ ?_ ?_
 · intro i d hd
   cases i with
   | zero =>
     simp at hd
     subst hd
     refine ⟨⟨by simp [ok.1], ?_, ?_⟩, fun k hk => ?_⟩
     · intro i g v hg hv
       rw [List.getElem?_append] at hg hv
       split at hg
       · rename_i hlt
         rw [if_pos (by rw [← ok.1]; exact hlt)] at hv
         exact ok.2.1 i g v hg hv
       · rename_i hge
         rw [if_neg (by rw [← ok.1]; exact hge)] at hv
         rw [← ok.1] at hv
         cases hi : i - hs.length with
         | zero =>
           rw [hi] at hg hv
           simp at hg hv
           subst hg hv
           rw [hm]
           exact oq
         | succ i => rw [hi] at hg; simp at hg
     · intro i i' g g' hg hg' hne k hk hk'
       rw [List.getElem?_append] at hg hg'
       split at hg
       · split at hg'
         · exact ok.2.2 i i' g g' hg hg' hne k hk hk'
         · cases hi : i' - hs.length with
           | zero => rw [hi] at hg'; simp at hg'; subst hg'; exact hap k ⟨i, g, hg, hk⟩ hk'
           | succ i => rw [hi] at hg'; simp at hg'
       · cases hi : i - hs.length with
         | zero =>
           rw [hi] at hg; simp at hg; subst hg
           split at hg'
           · exact hap k ⟨i', g', hg', hk'⟩ hk
           · cases hi' : i' - hs.length with
             | zero => omega
             | succ i => rw [hi'] at hg'; simp at hg'
         | succ i => rw [hi] at hg; simp at hg
     · rcases hfp k hk with y | y
       · exact ⟨(h.ofp j _ hj k y).1, .inr ⟨j, _, hj, y⟩⟩
       · exact ⟨(h.ofp q _ hq k y).1, .inr ⟨q, _, hq, y⟩⟩
   | succ i =>
     simp at hd
     obtain ⟨p, _, hp⟩ := sel_mem (List.mem_of_getElem? hd)
     exact ⟨h.own p d hp, fun k hk => ⟨(h.ofp p d hp k hk).1, .inr ⟨p, d, hp, hk⟩⟩⟩
 · have cross : ∀ (d : Pr), d ∈ Sl.sel H js → ∀ k, (OwnKids e (hs ++ [(A, c)]) (vss ++ [xs])).fp k → ¬ d.fp k := by
     intro d hd k hk hk'
     obtain ⟨p, hp, hpd⟩ := sel_mem hd
     rcases hfp k hk with y | y
     · exact h.dis j p _ d hj hpd (fun e => hjs (e ▸ hp)) k y hk'
     · exact h.dis q p _ d hq hpd (fun e => hqs (e ▸ hp)) k y hk'
   intro i i' d d' hd hd' hne k hk hk'
   cases i with
   | zero =>
     simp at hd
     subst hd
     cases i' with
     | zero => exact hne rfl
     | succ i' => simp at hd'; exact cross d' (List.mem_of_getElem? hd') k hk hk'
   | succ i =>
     simp at hd
     cases i' with
     | zero => simp at hd'; subst hd'; exact cross d (List.mem_of_getElem? hd) k hk' hk
     | succ i' =>
       simp at hd'
       obtain ⟨p, q, _, _, hpq, hp, hq⟩ := sel_inj nd i i' d d' hd hd' (by omega)
       exact h.dis p q d d' hp hq hpq k hk hk'
 · intro r hr i d hd k hk hk'
   cases i with
   | zero =>
     simp at hd
     subst hd
     rcases hfp k hk' with y | y
     · exact h.sep r hr j _ hj k hk y
     · exact h.sep r hr q _ hq k hk y
   | succ i =>
     simp at hd
     obtain ⟨p, _, hp⟩ := sel_mem (List.mem_of_getElem? hd)
     exact h.sep r hr p d hp k hk hk'

theorem L.absorb (j q : Nat) {e m c : Nat} {hs : List Hd} {vss : List (List Value)} {A : Option Addr} {xs : List Value} (hj : H[j]? = some (OwnKids e hs vss)) (hq : H[q]? = some (Own e 1 A m c xs)) (js : List Nat) (hn : (j :: q :: js).Nodup)
   (h : L X β n ds ops Q rest Γ R (OwnKids e (hs ++ [(A, c)]) (vss ++ [xs]) :: Sl.sel H js)) : L X β n ds ops Q rest Γ R H := fun a w hf hs' => h a w hf (hs'.absorb hj hq js hn)
theorem QE.absorb {x : Exit} (j q : Nat) {e m c : Nat} {hs : List Hd} {vss : List (List Value)} {A : Option Addr} {xs : List Value} (hj : H[j]? = some (OwnKids e hs vss)) (hq : H[q]? = some (Own e 1 A m c xs)) (js : List Nat) (hn : (j :: q :: js).Nodup)
   (h : QE β n ds Q x Γ R (OwnKids e (hs ++ [(A, c)]) (vss ++ [xs]) :: Sl.sel H js)) : QE β n ds Q x Γ R H := fun a w hf hs' => h a w hf (hs'.absorb hj hq js hn)

theorem Sat.freezeKids {w : World} (h : Sat β w R H) {j e : Nat} {hs : List Hd} {vss : List (List Value)} (hj : H[j]? = some (OwnKids e hs vss)) {js : List Nat} (hn : js.Nodup) (hjj : js.contains j = false) : Sat β w (KidsR hs vss :: R) (Sl.sel H js) := by
 have hnj : j ∉ js := by simpa using hjj
 have hk1 : ∀ k, (KidsR hs vss).fp k → (OwnKids e hs vss).fp k := by
   rintro k ⟨i, g, v, hg, hv, hk⟩
   exact ⟨i, g, hg, hk.2⟩
 refine h.put (Stp.refl w fun _ => False) (fun _ hk => hk.elim) _ _ ?_ ?_ ?_ ?_
 · intro r hr
   rcases List.mem_cons.1 hr with rfl | hr
   · exact .inr ⟨(Has.okids (R := R) j hj).1 β w h, fun k hk => ⟨(h.ofp j _ hj k (hk1 k hk)).1, .inr (.inl ⟨j, _, hj, hk1 k hk⟩)⟩⟩
   · exact .inl hr
 · intro i d hd
   obtain ⟨q, _, hq⟩ := sel_mem (List.mem_of_getElem? hd)
   exact ⟨h.own q d hq, fun k hk => ⟨(h.ofp q d hq k hk).1, .inr ⟨q, d, hq, hk⟩⟩⟩
 · intro i i' d d' hd hd' hne k hk hk'
   obtain ⟨p, q, _, _, hpq, hp, hq⟩ := sel_inj hn i i' d d' hd hd' hne
   exact h.dis p q d d' hp hq hpq k hk hk'
 · intro r hr i d hd k hk hk'
   obtain ⟨q, hq, hqd⟩ := sel_mem (List.mem_of_getElem? hd)
   rcases List.mem_cons.1 hr with rfl | hr
   · exact h.dis j q _ d hj hqd (fun e => hnj (e ▸ hq)) k (hk1 k hk) hk'
   · exact h.sep r hr q d hqd k hk hk'
theorem L.freezeKids (j : Nat) {e : Nat} {hs : List Hd} {vss : List (List Value)} (hj : H[j]? = some (OwnKids e hs vss)) (js : List Nat) (hn : js.Nodup) (hjj : js.contains j = false) (h : L X β n ds ops Q rest Γ (KidsR hs vss :: R) (Sl.sel H js)) : L X β n ds ops Q rest Γ R H :=
 fun a w hf hs' => h a w hf (hs'.freezeKids hj hn hjj)
theorem C.freezeKids {x : Code} (j : Nat) {e : Nat} {hs : List Hd} {vss : List (List Value)} (hj : H[j]? = some (OwnKids e hs vss)) (js : List Nat) (hn : js.Nodup) (hjj : js.contains j = false) (h : C X β n ds Q x Γ (KidsR hs vss :: R) (Sl.sel H js)) : C X β n ds Q x Γ R H :=
 fun a w hf hs' => h a w hf (hs'.freezeKids hj hn hjj)
theorem QE.freezeKids {x : Exit} (j : Nat) {e : Nat} {hs : List Hd} {vss : List (List Value)} (hj : H[j]? = some (OwnKids e hs vss)) (js : List Nat) (hn : js.Nodup) (hjj : js.contains j = false) (h : QE β n ds Q x Γ (KidsR hs vss :: R) (Sl.sel H js)) : QE β n ds Q x Γ R H :=
 fun a w hf hs' => h a w hf (hs'.freezeKids hj hn hjj)

end

/-! ### Lists of bytes -/
def B8 (ls : List (List UInt8)) : List (List Value) := ls.map U8
theorem B8_len (ls : List (List UInt8)) : (B8 ls).length = ls.length := by simp [B8]
theorem B8_get {ls : List (List UInt8)} (i : Nat) : (B8 ls).getD i [] = U8 (ls.getD i []) := by
 by_cases h : i < ls.length
 · simp [B8, h]
 · simp [B8, List.getElem?_eq_none (Nat.le_of_not_lt h), U8]
end Go.Sl
