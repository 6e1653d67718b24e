/-
  The reference's readings of a patch, as plain data.
-/
import Derived.Test.YtpccfdnmnnnboaaGreatQWOrR
namespace Go.Sl

theorem opsV_get {l : List Po} {i j : Nat} (hi : i < l.length) (hj : j < 5) : (opsV l)[i * 5 + j]? = (l.getD i Po.zero).cells[j]? := by
 rw [← opsV_at l i hi, List.getElem?_take, if_pos hj, List.getElem?_drop]
theorem symsV_get {l : List Sy} {i j : Nat} (hi : i < l.length) (hj : j < 3) : (symsV l)[i * 3 + j]? = (l.getD i Sy.zero).cells[j]? := by
 rw [← symsV_at l i hi, List.getElem?_take, if_pos hj, List.getElem?_drop]
theorem any_yes {n k : Nat} {p : Nat → Bool} (hk : k < n) (h : p k = true) : (List.range n).any p = true := List.any_eq_true.2 ⟨k, List.mem_range.2 hk, h⟩
theorem any_no {n : Nat} {p : Nat → Bool} (h : ∀ k, k < n → p k = false) : (List.range n).any p = false := by
 rw [List.any_eq_false]
 intro k hk
 rw [h k (List.mem_range.1 hk)]
 decide
def chY (l : List Sy) (inn : Int) (i : Nat) : Bool := if i < l.length then decide (l.getD i Sy.zero ≠ ⟨true, (i : Int), 0⟩) else decide ((i : Int) < inn)
/-- A sector changes. -/
def chgB (l : List Sy) (inn : Int) (S t : Nat) : Bool := (List.range S).any fun j => chY l inn (t * S + j)
/-- A sector has a symbol of another one. -/
def hitB (l : List Sy) (S u t : Nat) : Bool := (List.range S).any fun j => decide (u * S + j < l.length) && (l.getD (u * S + j) Sy.zero).old && decide (rdT (l.getD (u * S + j) Sy.zero) S = t)
def rdsB (l : List Sy) (inn : Int) (S u t : Nat) : Bool := !decide (u = t) && chgB l inn S u && chgB l inn S t && hitB l S u t
def rdsR (l : List Sy) (inn : Int) (S u t : Nat) : List Nat := (List.range t).filter (rdsB l inn S u)
def rdsL (l : List Sy) (inn : Int) (S n k : Nat) : List (List Int) := (List.range k).map fun u => NI (rdsR l inn S u n)
section
variable {l : List Sy} {inn out : Int} {S n k u t : Nat}
theorem rdsR_yes (h : rdsB l inn S u t = true) : rdsR l inn S u (t + 1) = rdsR l inn S u t ++ [t] := by simp [rdsR, List.range_succ, List.filter_append, h]
theorem rdsR_no (h : rdsB l inn S u t = false) : rdsR l inn S u (t + 1) = rdsR l inn S u t := by simp [rdsR, List.range_succ, List.filter_append, h]
theorem rdsR_len (l : List Sy) (inn : Int) (S u t : Nat) : (rdsR l inn S u t).length ≤ t := by
 have := List.length_filter_le (rdsB l inn S u) (List.range t)
 rwa [List.length_range] at this
theorem rdsL_len (l : List Sy) (inn : Int) (S n k : Nat) : (rdsL l inn S n k).length = k := by simp [rdsL]
theorem rdsL_snoc (l : List Sy) (inn : Int) (S n k : Nat) : rdsL l inn S n (k + 1) = rdsL l inn S n k ++ [NI (rdsR l inn S k n)] := by simp [rdsL, List.range_succ]
theorem in_sector {i : Nat} (hS : 1 ≤ S) : i / S = t ↔ t * S ≤ i ∧ i < t * S + S := by
 constructor
 · rintro rfl
   exact ⟨Nat.div_mul_le_self i S, Nat.lt_div_mul_add hS⟩
 · rintro ⟨h1, h2⟩
   rw [Nat.div_eq_iff hS]
   omega
theorem chg_eq (hS : 1 ≤ S) (hl : (l.length : Int) = out) (ht : t < rdN inn out S) : (rdC inn out S l).getD t false = chgB l inn S t := by
 unfold rdC chL
 rw [map_range_getD ht, Bool.eq_iff_iff]
 unfold chgB
 rw [List.any_eq_true, List.any_eq_true]
 constructor
 · rintro ⟨i, hi, h⟩
   have hi := List.mem_range.1 hi
   rw [Bool.and_eq_true, decide_eq_true_eq] at h
   obtain ⟨h1, h2⟩ := (in_sector hS).1 h.1
   refine ⟨i - t * S, List.mem_range.2 (by omega), ?_⟩
   rw [show t * S + (i - t * S) = i by omega]
   have h3 := h.2
   unfold chX at h3
   unfold chY
   split
   · rename_i hlt
     rwa [if_pos hlt] at h3
   · exact decide_eq_true (by omega)
 · rintro ⟨j, hj, h⟩
   have hj := List.mem_range.1 hj
   have hsec : (t * S + j) / S = t := (in_sector hS).2 ⟨by omega, by omega⟩
   refine ⟨t * S + j, List.mem_range.2 ?_, ?_⟩
   · unfold chY at h
     split at h
     · omega
     · have := of_decide_eq_true h
       omega
   · rw [decide_eq_true hsec, Bool.true_and]
     unfold chX
     unfold chY at h
     split
     · rename_i hlt
       rwa [if_pos hlt] at h
     · rfl
theorem rows_eq (hS : 1 ≤ S) (hl : (l.length : Int) = out) (hn : n = rdN inn out S) : rwM (rdC inn out S l) S n l l.length = rdsL l inn S n n := by
 unfold rwM rdsL
 refine List.map_congr_left fun u hu => ?_
 have hu := List.mem_range.1 hu
 unfold rwR rdsR
 rw [List.filter_congr fun t ht => ?_]
 have ht := List.mem_range.1 ht
 rw [Bool.eq_iff_iff]
 unfold rwP rdsB
 rw [List.any_eq_true]
 constructor
 · rintro ⟨i, hi, h⟩
   have hi := List.mem_range.1 hi
   rw [Bool.and_eq_true, Bool.and_eq_true, decide_eq_true_eq, decide_eq_true_eq, Bool.not_eq_true'] at h
   obtain ⟨⟨h1, h2⟩, h3⟩ := h
   unfold skipB at h2
   rw [h1, h3] at h2
   simp only [Bool.or_eq_false_iff, Bool.not_eq_false', decide_eq_false_iff_not] at h2
   obtain ⟨⟨⟨h4, h5⟩, h6⟩, h7⟩ := h2
   rw [chg_eq hS hl (by omega)] at h6
   rw [chg_eq hS hl (by omega)] at h7
   rw [decide_eq_false h5, h6, h7]
   obtain ⟨h8, h9⟩ := (in_sector hS).1 h1
   unfold hitB
   rw [Bool.not_false, Bool.true_and, Bool.true_and, Bool.true_and, List.any_eq_true]
   refine ⟨i - u * S, List.mem_range.2 (by omega), ?_⟩
   rw [show u * S + (i - u * S) = i by omega, decide_eq_true hi, h4, decide_eq_true h3]
   rfl
 · intro h
   rw [Bool.and_eq_true, Bool.and_eq_true, Bool.and_eq_true, Bool.not_eq_true', decide_eq_false_iff_not] at h
   obtain ⟨⟨⟨h1, h2⟩, h3⟩, h4⟩ := h
   unfold hitB at h4
   rw [List.any_eq_true] at h4
   obtain ⟨j, hj, h4⟩ := h4
   have hj := List.mem_range.1 hj
   rw [Bool.and_eq_true, Bool.and_eq_true, decide_eq_true_eq, decide_eq_true_eq] at h4
   obtain ⟨⟨h5, h6⟩, h7⟩ := h4
   have hsec : (u * S + j) / S = u := (in_sector hS).2 ⟨by omega, by omega⟩
   refine ⟨u * S + j, List.mem_range.2 h5, ?_⟩
   unfold skipB
   rw [hsec, h6, h7, chg_eq hS hl (by omega), chg_eq hS hl (by omega), h2, h3, decide_eq_true rfl, decide_eq_true rfl, decide_eq_false h1]
   rfl
end
end Go.Sl
