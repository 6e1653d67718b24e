/-
  What is marked, and where labels stand.
-/
import Derived.Test.YtkjhcjhfegakoaaVLao
namespace Go.Sl

theorem num_low {w n : Nat} (o : Int) (hn : n < 65536) : numW w o n % 65536 = n := by
 unfold numW
 rcases fld_cases o.toNat with e | e <;> rw [e] <;> omega
theorem liftW_low {l : List Nat} (hl : l.length ≤ 16384) {i : Nat} (hi : i < l.length) (hk : lnk l i = true) : liftW l i % 65536 = idxL (labs l) (insAt l i).n ∧ liftW l i / 16777216 = l.getD i 0 / 16777216 := by
 have hx := idx_lt hl hi hk
 refine ⟨?_, (liftW_link hl hi hk).1⟩
 unfold liftW
 rw [if_pos hk]
 exact num_low _ (by omega)
theorem liftW_plain {l : List Nat} {i : Nat} (hk : lnk l i = false) : liftW l i = l.getD i 0 := by
 unfold liftW
 rw [if_neg (by rw [hk]; decide)]
theorem sorted_at {l : List Int} (h : l.Pairwise (· < ·)) {i j : Nat} (hij : i < j) (hj : j < l.length) : l.getD i 0 < l.getD j 0 := by
 have := List.pairwise_iff_getElem.1 h i j (by omega) hj hij
 rw [List.getD_eq_getElem?_getD, List.getD_eq_getElem?_getD, List.getElem?_eq_getElem hj, List.getElem?_eq_getElem (show i < l.length by omega)]
 exact this
theorem idxL_at {l : List Int} (h : l.Pairwise (· < ·)) {k : Nat} (hk : k < l.length) : idxL l (l.getD k 0) = k := by
 have hm : l.getD k 0 ∈ l := by
   rw [List.getD_eq_getElem?_getD, List.getElem?_eq_getElem hk]
   exact List.getElem_mem hk
 have h1 := idxL_get h hm
 have h2 := idxL_lt h hm
 have h3 : l.getD (idxL l (l.getD k 0)) 0 = l.getD k 0 := by
   conv => lhs; rw [List.getD_eq_getElem?_getD]
   rw [h1]
   rfl
 generalize idxL l (l.getD k 0) = q at h2 h3
 rcases Nat.lt_trichotomy q k with g | g | g
 · have := sorted_at h g hk; omega
 · exact g
 · have := sorted_at h g h2; omega
theorem named_all {l : List Nat} {nm : List Bool} (h : ∀ j, j < l.length → lnk l j = true → nm.getD (idxL (labs l) (insAt l j).n) false = true) {k : Nat} (hk : k < (labs l).length) : nm.getD k false = true := by
 have hm : (labs l).getD k 0 ∈ labs l := by
   rw [List.getD_eq_getElem?_getD, List.getElem?_eq_getElem hk]
   exact List.getElem_mem hk
 obtain ⟨j, hj, e⟩ := List.mem_map.1 ((labsOf_mem _ _).1 hm)
 obtain ⟨hj1, hj2⟩ := List.mem_filter.1 hj
 have := h j (List.mem_range.1 hj1) hj2
 rwa [e, idxL_at (labs_sorted l) hk] at this
theorem named_set {l : List Nat} {nm : List Bool} {i : Nat} (h : ∀ j, j < i → lnk l j = true → nm.getD (idxL (labs l) (insAt l j).n) false = true) (hd : idxL (labs l) (insAt l i).n < nm.length) :
   ∀ j, j < i + 1 → lnk l j = true → (nm.set (idxL (labs l) (insAt l i).n) true).getD (idxL (labs l) (insAt l j).n) false = true := by
 intro j hj hk
 rw [List.getD_eq_getElem?_getD, List.getElem?_set]
 split
 · rename_i e
   rfl
 · rename_i e
   have hji : j ≠ i := fun g => e (by rw [g])
   rw [← List.getD_eq_getElem?_getD]
   exact h j (by omega) hk
theorem named_skip {l : List Nat} {nm : List Bool} {i : Nat} (h : ∀ j, j < i → lnk l j = true → nm.getD (idxL (labs l) (insAt l j).n) false = true) (hd : lnk l i = false) :
   ∀ j, j < i + 1 → lnk l j = true → nm.getD (idxL (labs l) (insAt l j).n) false = true := by
 intro j hj hk
 by_cases e : j = i
 · subst e
   rw [hd] at hk
   cases hk
 · exact h j (by omega) hk
end Go.Sl
