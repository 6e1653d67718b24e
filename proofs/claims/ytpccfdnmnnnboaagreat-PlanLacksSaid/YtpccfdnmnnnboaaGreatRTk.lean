/-
  What a plan that is made is, as plain data.
-/
import Derived.Test.YtpccfdnmnnnboaaGreatRTj
import Derived.Test.YtpccfdnmnnnboaaGreatRWPlK
section
namespace Go.Sl

theorem getD_mem {l : List Nat} {i : Nat} (h : i < l.length) : l.getD i 0 ∈ l := by
 rw [List.getD_eq_getElem?_getD, List.getElem?_eq_getElem h]
 exact List.getElem_mem h
section
variable {l : List Sy} {inn : Int} {S n : Nat}
end
section
variable {lf : Bool} {inn out sz n : Int} {ops : List Po} {ol : Nat}
end
end Go.Sl
end
/-
  What is lacking, as the law tells it, as plain data.
-/
section
namespace Go.Sl

section
variable {X : Cx} {β : Base} {Γ : Env} {R H : List Pr}
theorem Ev.remT {t ty : Nat} {x y : Operand} {k : IntKind} {a b : Int} (hx : ev Γ x = some (.int k a)) (hy : ev Γ y = some (.int k b)) (h1 : 0 < b) :
   Ev X β Γ R H (.binOp .rem t x y ty) (.int k (a.tmod b)) := by
 intro ρ w hρ hs o ho
 have hb : ¬ b = 0 := by omega
 simp [execOp, ho, hρ _ _ hx, hρ _ _ hy, run_guard, binOp, Op.intDiv, hb]
end
theorem tmod_bd (x : Int) {b : Int} (hb : 0 < b) : -b < x.tmod b ∧ x.tmod b < b := ⟨Int.lt_tmod_of_pos _ hb, Int.tmod_lt_of_pos _ hb⟩
def lxN (n : Nat) (x : Int) : Nat := (max 0 ((n : Int) + x.tmod 3)).toNat
theorem lxN_eq (n : Nat) (x : Int) : max 0 ((n : Int) + x.tmod 3) = ((lxN n x : Nat) : Int) := by
 unfold lxN
 rw [Int.toNat_of_nonneg (by omega)]
theorem lxN_le (n : Nat) (x : Int) : lxN n x ≤ n + 2 := by
 have := tmod_bd x (b := 3) (by decide)
 unfold lxN
 omega

/-! ### Wear and death as the law tells them -/
def wvI (l : List UInt8) (e j : Nat) : Int := if j < l.length then (((l.getD j 0).toNat % 101 : Nat) : Int) else 100 - (e : Int)
def wrL (l : List UInt8) (e N i : Nat) : List Int := (List.range N).map fun j => if j < i then wvI l e j else 0
def ddV (l : List UInt8) (j : Nat) : Bool := decide (j < l.length) && decide ((240 : Int) ≤ ((l.getD j 0).toNat : Int))
def ddL (l : List UInt8) (N i : Nat) : List Bool := (List.range N).map fun j => decide (j < i) && ddV l j
section
variable {l : List UInt8} {e N i : Nat}
theorem wrL_len : (wrL l e N i).length = N := by simp [wrL]
theorem ddL_len : (ddL l N i).length = N := by simp [ddL]
theorem wrL_zero : wrL l e N 0 = List.replicate N 0 := by
 refine ext_getD (d := 0) (by simp [wrL]) (fun j hj => ?_)
 rw [wrL_len] at hj
 unfold wrL
 rw [map_range_getD hj]
 simp [hj]
theorem ddL_zero : ddL l N 0 = List.replicate N false := by
 refine ext_getD (d := false) (by simp [ddL]) (fun j hj => ?_)
 rw [ddL_len] at hj
 unfold ddL
 rw [map_range_getD hj]
 simp [hj]
theorem wrL_set (h : i < N) : (wrL l e N i).set i (wvI l e i) = wrL l e N (i + 1) := by
 refine ext_getD (d := 0) (by rw [List.length_set, wrL_len, wrL_len]) (fun j hj => ?_)
 rw [List.length_set, wrL_len] at hj
 have g : ∀ k, (wrL l e N k).getD j 0 = if j < k then wvI l e j else 0 := fun k => map_range_getD hj _
 by_cases q : i = j
 · subst q
   rw [getD_set_eq (by rw [wrL_len]; exact h), g, if_pos (by omega)]
 · rw [getD_set_ne q, g, g]
   by_cases r : j < i
   · rw [if_pos r, if_pos (by omega)]
   · rw [if_neg r, if_neg (by omega)]
theorem ddL_set (h : i < N) : (ddL l N i).set i (ddV l i) = ddL l N (i + 1) := by
 refine ext_getD (d := false) (by rw [List.length_set, ddL_len, ddL_len]) (fun j hj => ?_)
 rw [List.length_set, ddL_len] at hj
 have g : ∀ k, (ddL l N k).getD j false = (decide (j < k) && ddV l j) := fun k => map_range_getD hj _
 by_cases q : i = j
 · subst q
   rw [getD_set_eq (by rw [ddL_len]; exact h), g, decide_eq_true (by omega), Bool.true_and]
 · rw [getD_set_ne q, g, g]
   by_cases r : j < i
   · rw [decide_eq_true r, decide_eq_true (by omega)]
   · rw [decide_eq_false r, decide_eq_false (by omega)]
theorem ddL_no (h : i < N) (h2 : ¬i < l.length) : ddL l N i = ddL l N (i + 1) := by
 have hv : ddV l i = false := by unfold ddV; rw [decide_eq_false h2]; rfl
 rw [← ddL_set h, hv]
 refine (ext_getD (d := false) (by rw [List.length_set]) (fun j hj => ?_)).symm
 rw [List.length_set, ddL_len] at hj
 have g : ∀ k, (ddL l N k).getD j false = (decide (j < k) && ddV l j) := fun k => map_range_getD hj _
 by_cases q : i = j
 · subst q
   rw [getD_set_eq (by rw [ddL_len]; exact h), g, decide_eq_false (by omega), Bool.false_and]
 · rw [getD_set_ne q]
theorem wrL_bd (he : 1 ≤ e ∧ e ≤ 100) (j : Nat) : 0 ≤ (wrL l e N i).getD j 0 ∧ (wrL l e N i).getD j 0 ≤ 1000000 := by
 by_cases h : j < N
 · have g : (wrL l e N i).getD j 0 = if j < i then wvI l e j else 0 := map_range_getD h _
   rw [g]
   unfold wvI
   split
   · split <;> omega
   · omega
 · rw [getD_ge (by rw [wrL_len]; omega)]
   decide
theorem upI_bd {a c m : Nat} (h : a + c ≤ m) : ∀ i, i < (upI a c).length → 0 ≤ (upI a c).getD i 0 ∧ (upI a c).getD i 0 < (m : Int) := by
 intro i hi
 rw [upI_len] at hi
 rw [upI_get hi]
 omega
end
/-! ### What is lacking -/
theorem lk_mem {a b c d : Int} : ∀ {k : Nat} {r : Int × Int}, r ∈ lkN a b c d k ↔ ∃ j, j < k ∧ r = (1 + (j : Int), lkB a b c d j) ∧ 0 < lkB a b c d j
 | 0, r => by
   constructor
   · intro h
     cases h
   · rintro ⟨j, h, _⟩
     exact absurd h (Nat.not_lt_zero _)
 | k + 1, r => by
   rw [lkN, lkS]
   constructor
   · intro h
     split at h
     · rename_i hb
       rcases List.mem_append.1 h with h | h
       · obtain ⟨j, h1, h2⟩ := lk_mem.1 h
         exact ⟨j, by omega, h2⟩
       · obtain rfl := List.mem_singleton.1 h
         exact ⟨k, by omega, rfl, hb⟩
     · obtain ⟨j, h1, h2⟩ := lk_mem.1 h
       exact ⟨j, by omega, h2⟩
   · rintro ⟨j, h1, rfl, h3⟩
     by_cases e : j = k
     · subst e
       rw [if_pos h3]
       exact List.mem_append_right _ (by simp)
     · have := lk_mem.2 ⟨j, show j < k by omega, rfl, h3⟩
       split
       · exact List.mem_append_left _ this
       · exact this
theorem lk_at {a b c d : Int} {i : Nat} (hi : i < (lkN a b c d 4).length) : 1 ≤ ((lkN a b c d 4).getD i (0, 0)).2 ∧ (((lkN a b c d 4).getD i (0, 0)).1 = 1 → ((lkN a b c d 4).getD i (0, 0)).2 = a) ∧ (((lkN a b c d 4).getD i (0, 0)).1 = 2 → ((lkN a b c d 4).getD i (0, 0)).2 = b) ∧ (((lkN a b c d 4).getD i (0, 0)).1 = 3 → ((lkN a b c d 4).getD i (0, 0)).2 = c) := by
 have hm : (lkN a b c d 4).getD i (0, 0) ∈ lkN a b c d 4 := by
   rw [List.getD_eq_getElem?_getD, List.getElem?_eq_getElem hi]
   exact List.getElem_mem hi
 obtain ⟨j, h1, h2, h3⟩ := lk_mem.1 hm
 rw [h2]
 dsimp only
 refine ⟨h3, fun h => ?_, fun h => ?_, fun h => ?_⟩
 · obtain rfl : j = 0 := by omega
   rfl
 · obtain rfl : j = 1 := by omega
   rfl
 · obtain rfl : j = 2 := by omega
   rfl
theorem lk_none {a b c d : Int} : (lkN a b c d 4).length = 0 ↔ a ≤ 0 ∧ b ≤ 0 ∧ c ≤ 0 ∧ d ≤ 0 := by
 rw [List.length_eq_zero_iff]
 constructor
 · intro h
   have g : ∀ j, j < 4 → lkB a b c d j ≤ 0 := fun j hj => by
     refine Int.not_lt.1 fun q => ?_
     have := lk_mem.2 ⟨j, hj, rfl, q⟩
     rw [h] at this
     cases this
   exact ⟨g 0 (by decide), g 1 (by decide), g 2 (by decide), g 3 (by decide)⟩
 · rintro ⟨h0, h1, h2, h3⟩
   refine List.eq_nil_iff_forall_not_mem.2 fun r hr => ?_
   obtain ⟨j, hj, -, hb⟩ := lk_mem.1 hr
   match j, hj, hb with
   | 0, _, hb => exact absurd (show 0 < a from hb) (by omega)
   | 1, _, hb => exact absurd (show 0 < b from hb) (by omega)
   | 2, _, hb => exact absurd (show 0 < c from hb) (by omega)
   | 3, _, hb => exact absurd (show 0 < d from hb) (by omega)
end Go.Sl
end
