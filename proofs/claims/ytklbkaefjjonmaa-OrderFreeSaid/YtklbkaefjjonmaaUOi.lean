/-
  Made readings, as plain data.
-/
import Derived.Test.YtklbkaefjjonmaaUOe
namespace Go.Sl

def mdN (l : List UInt8) : Nat := max 1 (min l.length 6)
def mdB (l : List UInt8) (u t : Nat) : Bool := decide (t ≠ u) && (l.getD u 0).toNat.testBit t
def mdR (l : List UInt8) (u t : Nat) : List Nat := (List.range t).filter (mdB l u)
def mdL (l : List UInt8) (k : Nat) : List (List Int) := (List.range k).map fun u => NI (mdR l u (mdN l))
def madeL (l : List UInt8) : List (List Int) := mdL l (mdN l)
section
variable {l : List UInt8} {u t k : Nat}
theorem mdN_le (l : List UInt8) : mdN l ≤ 6 := by unfold mdN; omega
theorem mdN_pos (l : List UInt8) : 1 ≤ mdN l := by unfold mdN; omega
theorem mdR_yes (h : t ≠ u) (h2 : (l.getD u 0).toNat.testBit t = true) : mdR l u (t + 1) = mdR l u t ++ [t] := by
  have : mdB l u t = true := by unfold mdB; rw [decide_eq_true h, h2]; rfl
  simp [mdR, List.range_succ, List.filter_append, this]
theorem mdR_no (h : mdB l u t = false) : mdR l u (t + 1) = mdR l u t := by
  simp [mdR, List.range_succ, List.filter_append, h]
theorem mdB_no1 (h : t = u) : mdB l u t = false := by unfold mdB; rw [decide_eq_false (fun g => g h)]; rfl
theorem mdB_no2 (h : (l.getD u 0).toNat.testBit t = false) : mdB l u t = false := by unfold mdB; rw [h, Bool.and_false]
theorem mdR_big (h : l.length ≤ u) (t : Nat) : mdR l u t = [] := by
  unfold mdR
  rw [List.filter_eq_nil_iff]
  intro i _
  rw [mdB_no2 (by rw [getD_ge h]; exact Nat.zero_testBit i)]
  decide
theorem mdR_len (l : List UInt8) (u t : Nat) : (mdR l u t).length ≤ t := by
  have := List.length_filter_le (mdB l u) (List.range t)
  rwa [List.length_range] at this
theorem mdL_len (l : List UInt8) (k : Nat) : (mdL l k).length = k := by simp [mdL]
theorem madeL_len (l : List UInt8) : (madeL l).length = mdN l := mdL_len _ _
theorem mdL_snoc (l : List UInt8) (k : Nat) : mdL l (k + 1) = mdL l k ++ [NI (mdR l k (mdN l))] := by simp [mdL, List.range_succ]
theorem madeL_get (h : u < mdN l) : (madeL l).getD u [] = NI (mdR l u (mdN l)) := map_range_getD h _
theorem madeL_row (l : List UInt8) (u : Nat) : ((madeL l).getD u []).length ≤ 6 := by
  rcases Nat.lt_or_ge u (mdN l) with h | h
  · rw [madeL_get h, NI_len]
    exact Nat.le_trans (mdR_len _ _ _) (mdN_le l)
  · rw [getD_ge (by rw [madeL_len]; exact h)]
    exact Nat.zero_le _
theorem mem_mdR : t ∈ mdR l u k ↔ t < k ∧ mdB l u t = true := by simp [mdR]
theorem madeL_p (h : u < mdN l) (t : Nat) : rdP (madeL l) u t = (decide (t < mdN l) && mdB l u t) := by
  unfold rdP
  rw [madeL_get h, NI_has, Bool.eq_iff_iff, List.contains_iff_mem, mem_mdR, Bool.and_eq_true, decide_eq_true_eq]
theorem NI_get {l : List Nat} {i : Nat} (h : i < l.length) : (NI l).getD i 0 = ((l[i] : Nat) : Int) := by simp [NI, h]
/-- Numbers of a range that rise are readings. -/
theorem rd_filter {n u : Nat} {p : Nat → Bool} (hp : p u = false) : rdRow n u (NI ((List.range n).filter p)) = true := by
  have hs : List.Pairwise (· < ·) ((List.range n).filter p) := List.Pairwise.filter p List.pairwise_lt_range
  rw [List.pairwise_iff_getElem] at hs
  refine rdRow_yes (fun i hi => ?_)
  rw [NI_len] at hi
  have hm := List.getElem_mem hi
  rw [List.mem_filter, List.mem_range] at hm
  unfold NotRd
  rw [NI_get hi]
  rintro (h | h | h | ⟨h, h2⟩)
  · omega
  · omega
  · have e : ((List.range n).filter p)[i] = u := by omega
    rw [e, hp] at hm
    cases hm.2
  · rw [NI_get (by omega)] at h2
    have := hs (i - 1) i (by omega) hi (by omega)
    omega
theorem madeL_ok (l : List UInt8) : readB (madeL l) = true := by
  refine readB_yes (fun u hu => ?_)
  rw [madeL_len] at *
  rw [madeL_get hu]
  exact rd_filter (mdB_no1 rfl)
end
end Go.Sl
