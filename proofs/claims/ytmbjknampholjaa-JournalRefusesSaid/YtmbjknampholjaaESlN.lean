/-
  The owned things, written out anew: what is nested in choices is told once.
-/
import Derived.Test.YtmbjknampholjaaESlG
section
namespace Go.Sl
section
variable {X : Cx} {β : Base} {n : Nat} {ds : List Deferred} {ops : Array Oper} {Q : Exit → Act → World → Prop} {Γ : Env} {R H : List Pr} {rest : List Oper}
theorem C.norm {c : Code} {H' : List Pr} (hs : List Nat) (hp : Pk H hs H') (hn : hs.Nodup) (h : C X β n ds Q c Γ R H') : C X β n ds Q c Γ R H := fun a w hf hw => h a w hf (hw.pk hp hn)
theorem L.norm {H' : List Pr} (hs : List Nat) (hp : Pk H hs H') (hn : hs.Nodup) (h : L X β n ds ops Q rest Γ R H') : L X β n ds ops Q rest Γ R H := fun a w hf hw => h a w hf (hw.pk hp hn)
theorem QE.norm {x : Exit} {H' : List Pr} (hs : List Nat) (hp : Pk H hs H') (hn : hs.Nodup) (h : QE β n ds Q x Γ R H') : QE β n ds Q x Γ R H := fun a w hf hw => h a w hf (hw.pk hp hn)
end
end Go.Sl
end
/-
  The small separation logic, ninth text: slices of slices.
-/
section
namespace Go.Sl

abbrev Hd := Option Addr × Nat

/-- The cells of the outer row: each inner slice begins at its own address. -/
def rowsV (hs : List Hd) (vss : List (List Value)) : List Value := List.zipWith (fun h v => .slice h.1 v.length h.2) hs vss

theorem rowsV_len {hs : List Hd} {vss : List (List Value)} (h : hs.length = vss.length) : (rowsV hs vss).length = vss.length := by simp [rowsV, h]
theorem rowsV_get {hs : List Hd} {vss : List (List Value)} (h : hs.length = vss.length) {i : Nat} (hi : i < vss.length) : (rowsV hs vss)[i]? = some (.slice (hs.getD i (none, 0)).1 (vss.getD i []).length (hs.getD i (none, 0)).2) := by
 have h1 : i < hs.length := by omega
 simp [rowsV, List.getElem?_zipWith, h1, hi]
theorem rowsV_one (hs : List Hd) (vss : List (List Value)) : ∀ v ∈ rowsV hs vss, v.oneCell' = true := by
 intro v hv
 obtain ⟨i, hi, rfl⟩ := List.getElem_of_mem hv
 simp [rowsV, Value.oneCell']
theorem rowsV_app {hs : List Hd} {vss : List (List Value)} (h : hs.length = vss.length) (g : Hd) (v : List Value) : rowsV hs vss ++ [.slice g.1 v.length g.2] = rowsV (hs ++ [g]) (vss ++ [v]) := by
 unfold rowsV
 rw [List.zipWith_append h]
 rfl

def hblk (h : Hd) (k : Nat) : Prop := ∃ a, h.1 = some a ∧ a.block = k

/-- Each inner slice reads as its list. -/
def KidsR (hs : List Hd) (vss : List (List Value)) : Pr where
 fp k := ∃ (i : Nat) (h : Hd) (v : List Value), hs[i]? = some h ∧ vss[i]? = some v ∧ (Rd h.1 v).fp k
 p w := ∀ (i : Nat) (h : Hd) (v : List Value), hs[i]? = some h → vss[i]? = some v → (Rd h.1 v).p w
 st := by
   intro w w' hk hp i h v hh hv
   exact (Rd h.1 v).st w w' (fun k hkk => hk k ⟨i, h, v, hh, hv, hkk⟩) (hp i h v hh hv)

/-- Each inner slice is owned; they lie apart. -/
def OwnKids (e : TypeId) (hs : List Hd) (vss : List (List Value)) : Pr where
 fp k := ∃ (i : Nat) (h : Hd), hs[i]? = some h ∧ hblk h k
 p w := hs.length = vss.length ∧ (∀ (i : Nat) (h : Hd) (v : List Value), hs[i]? = some h → vss[i]? = some v → (Own e 1 h.1 v.length h.2 v).p w) ∧
   (∀ (i j : Nat) (g h : Hd), hs[i]? = some g → hs[j]? = some h → i ≠ j → ∀ k, hblk g k → ¬ hblk h k)
 st := by
   intro w w' hk hp
   refine ⟨hp.1, fun i h v hh hv => (Own e 1 h.1 v.length h.2 v).st w w' (fun k hkk => hk k ⟨i, h, hh, hkk⟩) (hp.2.1 i h v hh hv), hp.2.2⟩

section
variable {X : Cx} {β : Base} {n : Nat} {ds : List Deferred} {ops : Array Oper} {Q : Exit → Act → World → Prop} {rest : List Oper} {Γ : Env} {R H : List Pr}

theorem getD_some {α : Type} {l : List α} {i : Nat} {d : α} (h : i < l.length) : l[i]? = some (l.getD i d) := by simp [h]

theorem Src.kid (j : Nat) {hs : List Hd} {vss : List (List Value)} (hj : R[j]? = some (KidsR hs vss)) (hl : hs.length = vss.length) (i : Nat) (hi : i < vss.length) : Src R H (hs.getD i (none, 0)).1 (vss.getD i []) := by
 intro β w hsat q u hu
 exact (hsat.rd _ (List.mem_of_getElem? hj)) i _ _ (getD_some (by omega)) (getD_some hi) q u hu
theorem Src.okid (j : Nat) {e : TypeId} {hs : List Hd} {vss : List (List Value)} (hj : H[j]? = some (OwnKids e hs vss)) (hl : hs.length = vss.length) (i : Nat) (hi : i < vss.length) : Src R H (hs.getD i (none, 0)).1 (vss.getD i []) := by
 intro β w hsat q u hu
 have := (hsat.own j _ hj).2.1 i (hs.getD i (none, 0)) (vss.getD i []) (getD_some (by omega)) (getD_some hi)
 obtain ⟨g, hA, hc, _⟩ := Own.cell this hu
 exact ⟨_, hA, by rw [adz]; exact hc⟩
theorem Has.okids (j : Nat) {e : TypeId} {hs : List Hd} {vss : List (List Value)} (hj : H[j]? = some (OwnKids e hs vss)) : Has R H (KidsR hs vss) := by
 refine ⟨fun β w hsat i h v hh hv q u hu => ?_, fun k hk => ?_⟩
 · obtain ⟨g, hA, hc, _⟩ := Own.cell ((hsat.own j _ hj).2.1 i h v hh hv) hu
   exact ⟨_, hA, by rw [adz]; exact hc⟩
 · obtain ⟨i, h, v, hh, hv, hk⟩ := hk
   exact .inr ⟨j, _, hj, i, h, hh, hk.2⟩
/-- One of the inner slices, as a fact of its own. -/
theorem Has.kid (j : Nat) {hs : List Hd} {vss : List (List Value)} (hj : R[j]? = some (KidsR hs vss)) (hl : hs.length = vss.length) (i : Nat) (hi : i < vss.length) : Has R H (Rd (hs.getD i (none, 0)).1 (vss.getD i [])) :=
 ⟨fun β w hsat => Src.kid (H := H) j hj hl i hi β w hsat, fun k hk => .inl ⟨_, List.mem_of_getElem? hj, i, _, _, getD_some (by omega), getD_some hi, hk⟩⟩
theorem Has.okid (j : Nat) {e : TypeId} {hs : List Hd} {vss : List (List Value)} (hj : H[j]? = some (OwnKids e hs vss)) (hl : hs.length = vss.length) (i : Nat) (hi : i < vss.length) : Has R H (Rd (hs.getD i (none, 0)).1 (vss.getD i [])) :=
 ⟨fun β w hsat => Src.okid (R := R) j hj hl i hi β w hsat, fun k hk => .inr ⟨j, _, hj, i, _, getD_some (by omega), hk.2⟩⟩

theorem Has.kids0 : Has R H (KidsR [] []) := ⟨fun _ _ _ i h v hh => by simp at hh, fun k ⟨i, h, v, hh, _⟩ => by simp at hh⟩
theorem Has.kidsSet (i j s c : Nat) {hs : List Hd} {vss : List (List Value)} {A : Option Addr} {xs : List Value} (hi : R[i]? = some (KidsR hs vss)) (hj : R[j]? = some (Rd A xs)) : Has R H (KidsR (hs.set s (A, c)) (vss.set s xs)) := by
 refine ⟨fun β w hw q h v hh hv => ?_, fun k ⟨q, h, v, hh, hv, hk⟩ => ?_⟩
 · by_cases hq : s = q
   · subst hq
     rw [List.getElem?_set] at hh hv
     simp only [if_true] at hh hv
     split at hh
     · split at hv
       · cases hh; cases hv
         exact hw.rd _ (List.mem_of_getElem? hj)
       · cases hv
     · cases hh
   · rw [List.getElem?_set_ne hq] at hh hv
     exact hw.rd _ (List.mem_of_getElem? hi) q h v hh hv
 · by_cases hq : s = q
   · subst hq
     rw [List.getElem?_set] at hh hv
     simp only [if_true] at hh hv
     split at hh
     · split at hv
       · cases hh; cases hv
         exact .inl ⟨_, List.mem_of_getElem? hj, hk⟩
       · cases hv
     · cases hh
   · rw [List.getElem?_set_ne hq] at hh hv
     exact .inl ⟨_, List.mem_of_getElem? hi, q, h, v, hh, hv, hk⟩
theorem Sat.kids0 {w : World} (h : Sat β w R H) (e : TypeId) : Sat β w R (H ++ [OwnKids e [] []]) := by
 refine h.snoc (Stp.refl w fun _ => False) (fun _ h _ => h) _ ⟨rfl, fun i h v hh => by simp at hh, fun i j g h hg => by simp at hg⟩ ?_
 rintro k ⟨i, h, hh, _⟩
 simp at hh
theorem L.kids0 (e : TypeId) (h : L X β n ds ops Q rest Γ R (H ++ [OwnKids e [] []])) : L X β n ds ops Q rest Γ R H := fun a w hf hs => h a w hf (hs.kids0 e)
theorem C.kids0 {c : Code} (e : TypeId) (h : C X β n ds Q c Γ R (H ++ [OwnKids e [] []])) : C X β n ds Q c Γ R H := fun a w hf hs => h a w hf (hs.kids0 e)

/-- An owned row becomes one more inner slice; js: the places that stay, the inner slices' place among them not. -/
theorem Sat.absorb {w : World} (h : Sat β w R H) {j q e m c : Nat} {hs : List Hd} {vss : List (List Value)} {A : Option Addr} {xs : List Value} (hj : H[j]? = some (OwnKids e hs vss)) (hq : H[q]? = some (Own e 1 A m c xs))
   (js : List Nat) (hn : (j :: q :: js).Nodup) : Sat β w R (OwnKids e (hs ++ [(A, c)]) (vss ++ [xs]) :: Sl.sel H js) := by
 have hjq : j ≠ q := fun e => by subst e; simp at hn
 have hjs : j ∉ js := fun e => by simp [e] at hn
 have hqs : q ∉ js := fun e => by simp [e] at hn
 have nd : js.Nodup := by
   have := (List.nodup_cons.1 (List.nodup_cons.1 hn).2).2
   exact this
 have ok := h.own j _ hj
 have oq := h.own q _ hq
 have hm : xs.length = m := by have := Own.len oq; omega
 have hap : ∀ k, (OwnKids e hs vss).fp k → ¬ (Own e 1 A m c xs).fp k := fun k h1 h2 => h.dis j q _ _ hj hq hjq k h1 h2
 have hfp : ∀ k, (OwnKids e (hs ++ [(A, c)]) (vss ++ [xs])).fp k → (OwnKids e hs vss).fp k ∨ (Own e 1 A m c xs).fp k := by
   rintro k ⟨i, g, hg, hk⟩
   rw [List.getElem?_append] at hg
   split at hg
   · exact .inl ⟨i, g, hg, hk⟩
   · cases hi : i - hs.length with
     | zero => rw [hi] at hg; simp at hg; subst hg; exact .inr hk
     | succ i => rw [hi] at hg; simp at hg
 refine h.put (Stp.refl w fun _ => False) (fun _ hk => hk.elim) R _ (fun r hr => .inl hr) ?_ ?_ ?_
 · intro i d hd
   cases i with
   | zero =>
     simp at hd
     subst hd
     refine ⟨⟨by simp [ok.1], ?_, ?_⟩, fun k hk => ?_⟩
     · intro i g v hg hv
       rw [List.getElem?_append] at hg hv
       split at hg
       · rename_i hlt
         rw [if_pos (by rw [← ok.1]; exact hlt)] at hv
         exact ok.2.1 i g v hg hv
       · rename_i hge
         rw [if_neg (by rw [← ok.1]; exact hge)] at hv
         rw [← ok.1] at hv
         cases hi : i - hs.length with
         | zero =>
           rw [hi] at hg hv
           simp at hg hv
           subst hg hv
           rw [hm]
           exact oq
         | succ i => rw [hi] at hg; simp at hg
     · intro i i' g g' hg hg' hne k hk hk'
       rw [List.getElem?_append] at hg hg'
       split at hg
       · split at hg'
         · exact ok.2.2 i i' g g' hg hg' hne k hk hk'
         · cases hi : i' - hs.length with
           | zero => rw [hi] at hg'; simp at hg'; subst hg'; exact hap k ⟨i, g, hg, hk⟩ hk'
           | succ i => rw [hi] at hg'; simp at hg'
       · cases hi : i - hs.length with
         | zero =>
           rw [hi] at hg; simp at hg; subst hg
           split at hg'
           · exact hap k ⟨i', g', hg', hk'⟩ hk
           · cases hi' : i' - hs.length with
             | zero => omega
             | succ i => rw [hi'] at hg'; simp at hg'
         | succ i => rw [hi] at hg; simp at hg
     · rcases hfp k hk with y | y
       · exact ⟨(h.ofp j _ hj k y).1, .inr ⟨j, _, hj, y⟩⟩
       · exact ⟨(h.ofp q _ hq k y).1, .inr ⟨q, _, hq, y⟩⟩
   | succ i =>
     simp at hd
     obtain ⟨p, _, hp⟩ := sel_mem (List.mem_of_getElem? hd)
     exact ⟨h.own p d hp, fun k hk => ⟨(h.ofp p d hp k hk).1, .inr ⟨p, d, hp, hk⟩⟩⟩
 · have cross : ∀ (d : Pr), d ∈ Sl.sel H js → ∀ k, (OwnKids e (hs ++ [(A, c)]) (vss ++ [xs])).fp k → ¬ d.fp k := by
     intro d hd k hk hk'
     obtain ⟨p, hp, hpd⟩ := sel_mem hd
     rcases hfp k hk with y | y
     · exact h.dis j p _ d hj hpd (fun e => hjs (e ▸ hp)) k y hk'
     · exact h.dis q p _ d hq hpd (fun e => hqs (e ▸ hp)) k y hk'
   intro i i' d d' hd hd' hne k hk hk'
   cases i with
   | zero =>
     simp at hd
     subst hd
     cases i' with
     | zero => exact hne rfl
     | succ i' => simp at hd'; exact cross d' (List.mem_of_getElem? hd') k hk hk'
   | succ i =>
     simp at hd
     cases i' with
     | zero => simp at hd'; subst hd'; exact cross d (List.mem_of_getElem? hd) k hk' hk
     | succ i' =>
       simp at hd'
       obtain ⟨p, q, _, _, hpq, hp, hq⟩ := sel_inj nd i i' d d' hd hd' (by omega)
       exact h.dis p q d d' hp hq hpq k hk hk'
 · intro r hr i d hd k hk hk'
   cases i with
   | zero =>
     simp at hd
     subst hd
     rcases hfp k hk' with y | y
     · exact h.sep r hr j _ hj k hk y
     · exact h.sep r hr q _ hq k hk y
   | succ i =>
     simp at hd
     obtain ⟨p, _, hp⟩ := sel_mem (List.mem_of_getElem? hd)
     exact h.sep r hr p d hp k hk hk'

theorem L.absorb (j q : Nat) {e m c : Nat} {hs : List Hd} {vss : List (List Value)} {A : Option Addr} {xs : List Value} (hj : H[j]? = some (OwnKids e hs vss)) (hq : H[q]? = some (Own e 1 A m c xs)) (js : List Nat) (hn : (j :: q :: js).Nodup)
   (h : L X β n ds ops Q rest Γ R (OwnKids e (hs ++ [(A, c)]) (vss ++ [xs]) :: Sl.sel H js)) : L X β n ds ops Q rest Γ R H := fun a w hf hs' => h a w hf (hs'.absorb hj hq js hn)
theorem QE.absorb {x : Exit} (j q : Nat) {e m c : Nat} {hs : List Hd} {vss : List (List Value)} {A : Option Addr} {xs : List Value} (hj : H[j]? = some (OwnKids e hs vss)) (hq : H[q]? = some (Own e 1 A m c xs)) (js : List Nat) (hn : (j :: q :: js).Nodup)
   (h : QE β n ds Q x Γ R (OwnKids e (hs ++ [(A, c)]) (vss ++ [xs]) :: Sl.sel H js)) : QE β n ds Q x Γ R H := fun a w hf hs' => h a w hf (hs'.absorb hj hq js hn)

/-- A store into one of the inner slices. -/
theorem L.storeKid {t ty k j e i : Nat} {pos : String} {af : Array Edge} {x y : Operand} {v : Value} {ii : Ti} {hs : List Hd} {vss : List (List Value)} (ht : tlook t X.tab = some ii) (hj : H[j]? = some (OwnKids e hs vss)) (hl : hs.length = vss.length) (hi : i < vss.length)
   (hx : ev Γ x = some (ptrOf (hs.getD i (none, 0)).1 k)) (hy : ev Γ y = some v) (hv : v.cells = #[v]) (h1 : v.oneCell' = true) (hsz : ii.size = 1) (hk : k < (vss.getD i []).length)
   (hh : L X β n ds ops Q rest Γ R (H.set j (OwnKids e hs (vss.set i ((vss.getD i []).set k v))))) :
   L X β n ds ops Q (⟨none, .store t x y, ty, pos, af, none⟩ :: rest) Γ R H := by
 intro a w hf hsat
 refine wpList_plain rfl fun K hK => ?_
 have ok := hsat.own j _ hj
 have hgi : hs[i]? = some (hs.getD i (none, 0)) := getD_some (by omega)
 have hvi : vss[i]? = some (vss.getD i []) := getD_some hi
 have oi := ok.2.1 i _ _ hgi hvi
 generalize hs.getD i (none, 0) = hdi at *
 generalize vss.getD i [] = vi at *
 obtain ⟨g, hA, hc, hfr⟩ := Own.cell oi (List.getElem?_eq_getElem hk)
 obtain ⟨A, cc⟩ := hdi
 simp only at hA
 subst hA
 have hx' : a.eval x = .pointer (some ⟨g, k, none⟩) := by rw [hf.eval hx, ptrOf, Option.map_some, adz]
 have hS := run_sizeOf' (P := X.P) w (X.ok _ _ ht)
 have hst : (Go.store ⟨g, k, none⟩ v).run X.P w = .ok () (w.setCell ⟨g, k, none⟩ v) := by rw [run_store _ _ _ _ _ h1]; simp [hc, hfr]
 have ha0 : (⟨g, k, none⟩ : Addr).add 0 = ⟨g, k, none⟩ := rfl
 unfold Oper.wp
 have hrun : (execOp a.eval ⟨none, .store t x y, ty, pos, af, none⟩).run X.P w = .ok .skip (w.setCell ⟨g, k, none⟩ v) := by
   simp [execOp, hx', hf.eval hy, Instr.storeAt, Instr.sureAddr, storeVar, hv, hS, hsz, storeCells, ha0, hst]
 rw [hrun]
 refine hK _ _ (hh _ _ (hf.put_none _) ?_)
 have hstr := World.ownsRow.stored (show w.ownsRow 0 e 1 (.slice (some ⟨g, 0, none⟩) vi.length cc) vi.length vi from oi) k v
 have hgb : hblk (some ⟨g, 0, none⟩, cc) g := ⟨_, rfl, rfl⟩
 refine hsat.upd (w' := w.setCell ⟨g, k, none⟩ v) (m := fun b => b = g) hj (Stp.setCell w ⟨g, k, none⟩ v) (fun b hb _ => ⟨i, _, hgi, by subst hb; exact hgb⟩) (OwnKids e hs (vss.set i (vi.set k v))) ?_ (fun b hb => ⟨?_, .inr hb⟩)
 · refine ⟨by simpa using hl, ?_, ok.2.2⟩
   intro q h u hq hu
   rw [List.getElem?_set] at hu
   split at hu
   · rename_i hiq
     subst hiq
     injection hu with hu
     subst hu
     rw [hgi] at hq
     injection hq with hq
     subst hq
     rw [List.length_set]
     exact hstr.1
   · rename_i hiq
     refine (Own e 1 h.1 u.length h.2 u).st w _ (fun b hb => ?_) (ok.2.1 q h u hq hu)
     refine (Stp.setCell w ⟨g, k, none⟩ v).block b ?_ ?_
     · exact (hsat.ofp j _ hj b ⟨q, h, hq, hb⟩).1
     · intro hbg
       have hbg' : b = g := hbg
       subst hbg'
       exact ok.2.2 i q _ h hgi hq hiq b hgb hb
 · rw [World.size_setCell]
   exact (hsat.ofp j _ hj b hb).1

theorem Sat.freezeKids {w : World} (h : Sat β w R H) {j e : Nat} {hs : List Hd} {vss : List (List Value)} (hj : H[j]? = some (OwnKids e hs vss)) {js : List Nat} (hn : js.Nodup) (hjj : js.contains j = false) : Sat β w (KidsR hs vss :: R) (Sl.sel H js) := by
 have hnj : j ∉ js := by simpa using hjj
 have hk1 : ∀ k, (KidsR hs vss).fp k → (OwnKids e hs vss).fp k := by
   rintro k ⟨i, g, v, hg, hv, hk⟩
   exact ⟨i, g, hg, hk.2⟩
 refine h.put (Stp.refl w fun _ => False) (fun _ hk => hk.elim) _ _ ?_ ?_ ?_ ?_
 · intro r hr
   rcases List.mem_cons.1 hr with rfl | hr
   · exact .inr ⟨(Has.okids (R := R) j hj).1 β w h, fun k hk => ⟨(h.ofp j _ hj k (hk1 k hk)).1, .inr (.inl ⟨j, _, hj, hk1 k hk⟩)⟩⟩
   · exact .inl hr
 · intro i d hd
   obtain ⟨q, _, hq⟩ := sel_mem (List.mem_of_getElem? hd)
   exact ⟨h.own q d hq, fun k hk => ⟨(h.ofp q d hq k hk).1, .inr ⟨q, d, hq, hk⟩⟩⟩
 · intro i i' d d' hd hd' hne k hk hk'
   obtain ⟨p, q, _, _, hpq, hp, hq⟩ := sel_inj hn i i' d d' hd hd' hne
   exact h.dis p q d d' hp hq hpq k hk hk'
 · intro r hr i d hd k hk hk'
   obtain ⟨q, hq, hqd⟩ := sel_mem (List.mem_of_getElem? hd)
   rcases List.mem_cons.1 hr with rfl | hr
   · exact h.dis j q _ d hj hqd (fun e => hnj (e ▸ hq)) k (hk1 k hk) hk'
   · exact h.sep r hr q d hqd k hk hk'
theorem L.freezeKids (j : Nat) {e : Nat} {hs : List Hd} {vss : List (List Value)} (hj : H[j]? = some (OwnKids e hs vss)) (js : List Nat) (hn : js.Nodup) (hjj : js.contains j = false) (h : L X β n ds ops Q rest Γ (KidsR hs vss :: R) (Sl.sel H js)) : L X β n ds ops Q rest Γ R H :=
 fun a w hf hs' => h a w hf (hs'.freezeKids hj hn hjj)
theorem C.freezeKids {x : Code} (j : Nat) {e : Nat} {hs : List Hd} {vss : List (List Value)} (hj : H[j]? = some (OwnKids e hs vss)) (js : List Nat) (hn : js.Nodup) (hjj : js.contains j = false) (h : C X β n ds Q x Γ (KidsR hs vss :: R) (Sl.sel H js)) : C X β n ds Q x Γ R H :=
 fun a w hf hs' => h a w hf (hs'.freezeKids hj hn hjj)
theorem QE.freezeKids {x : Exit} (j : Nat) {e : Nat} {hs : List Hd} {vss : List (List Value)} (hj : H[j]? = some (OwnKids e hs vss)) (js : List Nat) (hn : js.Nodup) (hjj : js.contains j = false) (h : QE β n ds Q x Γ (KidsR hs vss :: R) (Sl.sel H js)) : QE β n ds Q x Γ R H :=
 fun a w hf hs' => h a w hf (hs'.freezeKids hj hn hjj)

end

/-! ### Lists of bytes -/
def B8 (ls : List (List UInt8)) : List (List Value) := ls.map U8
theorem B8_len (ls : List (List UInt8)) : (B8 ls).length = ls.length := by simp [B8]
theorem B8_get {ls : List (List UInt8)} (i : Nat) : (B8 ls).getD i [] = U8 (ls.getD i []) := by
 by_cases h : i < ls.length
 · simp [B8, h]
 · simp [B8, List.getElem?_eq_none (Nat.le_of_not_lt h), U8]
theorem B8_app (a b : List (List UInt8)) : B8 a ++ B8 b = B8 (a ++ b) := by simp [B8]
theorem B8_set (ls : List (List UInt8)) (i : Nat) (l : List UInt8) : (B8 ls).set i (U8 l) = B8 (ls.set i l) := by simp [B8, List.map_set]
theorem rows8_get {hs : List Hd} {ls : List (List UInt8)} (h : hs.length = ls.length) {i : Nat} (hi : i < ls.length) : (rowsV hs (B8 ls))[i]? = some (.slice (hs.getD i (none, 0)).1 (ls.getD i []).length (hs.getD i (none, 0)).2) := by
 rw [rowsV_get (by rw [B8_len]; exact h) (by rw [B8_len]; exact hi), B8_get, U8_len]

end Go.Sl
end
