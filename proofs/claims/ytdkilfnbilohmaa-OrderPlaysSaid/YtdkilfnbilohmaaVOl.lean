/-
  The readings of a patch, as plain data: rows as filters of a range.
-/
import Derived.Test.YtdkilfnbilohmaaVOg
import Derived.Test.YtdkilfnbilohmaaVOi
import Derived.Test.YtdkilfnbilohmaaVOh
namespace Go.Sl

def insJ (t : Int) : List Int → List Int
 | [] => [t]
 | y :: ys => if y < t then y :: insJ t ys else t :: y :: ys
theorem ins_at {t : Int} : ∀ {x : List Int} {k : Nat}, k ≤ x.length → (∀ q, q < k → x.getD q 0 < t) → (∀ q, k ≤ q → q < x.length → t ≤ x.getD q 0) → x.take k ++ [t] ++ x.drop k = insJ t x
 | [], 0, _, _, _ => rfl
 | y :: x, 0, _, _, h => by
   have := h 0 (Nat.le_refl _) (Nat.succ_pos _)
   have h1 : ¬y < t := by
     have e : (y :: x).getD 0 0 = y := rfl
     omega
   rw [insJ, if_neg h1]
   rfl
 | y :: x, k + 1, hk, h1, h2 => by
   have h3 : y < t := h1 0 (Nat.succ_pos _)
   rw [insJ, if_pos h3, ← ins_at (x := x) (k := k) (Nat.le_of_succ_le_succ hk) (fun q hq => h1 (q + 1) (Nat.succ_lt_succ hq)) (fun q hq hq2 => h2 (q + 1) (Nat.succ_le_succ hq) (Nat.succ_lt_succ hq2))]
   rfl
theorem ins_len {α : Type} (x : List α) (k : Nat) (t : α) : (x.take k ++ [t] ++ x.drop k).length = x.length + 1 := by
 simp only [List.length_append, List.length_take, List.length_drop, List.length_singleton]
 omega
theorem filter_gt {p : Nat → Bool} {t : Nat} : ∀ (m a : Nat), t < a → (List.range' a m).filter (fun i => p i || decide (t = i)) = (List.range' a m).filter p := by
 intro m a h
 refine List.filter_congr fun i hi => ?_
 have := List.mem_range'_1.1 hi
 rw [decide_eq_false (by omega), Bool.or_false]
theorem insJ_gt {t : Int} {x : List Int} (h : ∀ y ∈ x, t < y) : insJ t x = t :: x := by
 cases x with
 | nil => rfl
 | cons y x =>
   have := h y List.mem_cons_self
   rw [insJ, if_neg (by omega)]
theorem ins_range {p : Nat → Bool} {t : Nat} (hp : p t = false) : ∀ (m a : Nat), a ≤ t → t < a + m → insJ (t : Int) (NI ((List.range' a m).filter p)) = NI ((List.range' a m).filter fun i => p i || decide (t = i))
 | 0, a, h1, h2 => by omega
 | m + 1, a, h1, h2 => by
   rw [List.range'_succ, List.filter_cons, List.filter_cons]
   by_cases e : t = a
   · subst e
     rw [hp, decide_eq_true rfl, filter_gt m (t + 1) (by omega)]
     simp only [Bool.false_or, if_true, Bool.false_eq_true, if_false]
     refine insJ_gt fun y hy => ?_
     simp only [NI, List.mem_map, List.mem_filter] at hy
     obtain ⟨i, ⟨hi, _⟩, rfl⟩ := hy
     have := List.mem_range'_1.1 hi
     omega
   · have ih := ins_range hp m (a + 1) (by omega) (by omega)
     rw [decide_eq_false e, Bool.or_false]
     cases hpa : p a with
     | true =>
       simp only [if_true]
       show insJ (t : Int) ((a : Int) :: NI ((List.range' (a + 1) m).filter p)) = (a : Int) :: NI _
       rw [insJ, if_pos (by omega), ih]
     | false =>
       simp only [Bool.false_eq_true, if_false]
       exact ih
def rwP (ch : List Bool) (S : Nat) (l : List Sy) (k u t : Nat) : Bool := (List.range k).any fun i => decide (i / S = u) && !skipB ch S i (l.getD i Sy.zero) && decide (rdT (l.getD i Sy.zero) S = t)
def rwR (ch : List Bool) (S n : Nat) (l : List Sy) (k u : Nat) : List Nat := (List.range n).filter (rwP ch S l k u)
def rwM (ch : List Bool) (S n : Nat) (l : List Sy) (k : Nat) : List (List Int) := (List.range n).map fun u => NI (rwR ch S n l k u)
section
variable {ch : List Bool} {S n k u t : Nat} {l : List Sy}
theorem rwP_succ : rwP ch S l (k + 1) u t = (rwP ch S l k u t || (decide (k / S = u) && !skipB ch S k (l.getD k Sy.zero) && decide (rdT (l.getD k Sy.zero) S = t))) := by
 unfold rwP
 rw [List.range_succ, List.any_append]
 simp
theorem rwM_len (ch : List Bool) (S n : Nat) (l : List Sy) (k : Nat) : (rwM ch S n l k).length = n := by simp [rwM]
theorem rwM_get (h : u < n) : (rwM ch S n l k).getD u [] = NI (rwR ch S n l k u) := map_range_getD h _
theorem rwR_len (ch : List Bool) (S n : Nat) (l : List Sy) (k u : Nat) : (rwR ch S n l k u).length ≤ n := by
 have := List.length_filter_le (rwP ch S l k u) (List.range n)
 rwa [List.length_range] at this
theorem rwM_row (ch : List Bool) (S n : Nat) (l : List Sy) (k u : Nat) : ((rwM ch S n l k).getD u []).length ≤ n := by
 rcases Nat.lt_or_ge u n with h | h
 · rw [rwM_get h, NI_len]; exact rwR_len _ _ _ _ _ _
 · rw [getD_ge (by rw [rwM_len]; exact h)]; exact Nat.zero_le _
theorem rwM_zero : rwM ch S n l 0 = List.replicate n [] := by
 refine ext_getD (d := []) (by simp [rwM]) (fun i hi => ?_)
 rw [rwM_len] at hi
 rw [rwM_get hi, getD_rep _ _ _ _ hi]
 have : rwR ch S n l 0 i = [] := by
   unfold rwR
   rw [List.filter_eq_nil_iff]
   intro j _
   simp [rwP]
 rw [this]
 rfl
theorem rwM_srt (ch : List Bool) (S n : Nat) (l : List Sy) (k u : Nat) : ∀ i j, i < j → j < ((rwM ch S n l k).getD u []).length → ((rwM ch S n l k).getD u []).getD i 0 < ((rwM ch S n l k).getD u []).getD j 0 := by
 intro i j hij hj
 rcases Nat.lt_or_ge u n with h | h
 · rw [rwM_get h] at hj ⊢
   rw [NI_len] at hj
   have hs : List.Pairwise (· < ·) (rwR ch S n l k u) := List.Pairwise.filter _ List.pairwise_lt_range
   rw [List.pairwise_iff_getElem] at hs
   rw [NI_get (by omega), NI_get hj]
   have := hs i j (by omega) hj hij
   omega
 · rw [getD_ge (by rw [rwM_len]; exact h)] at hj
   cases hj
theorem rwM_eq {k' : Nat} (h : ∀ u t, u < n → t < n → rwP ch S l k u t = rwP ch S l k' u t) : rwM ch S n l k = rwM ch S n l k' := by
 unfold rwM
 refine List.map_congr_left fun u hu => ?_
 unfold rwR
 rw [List.filter_congr fun t ht => h u t (List.mem_range.1 hu) (List.mem_range.1 ht)]
theorem rwM_skip (h : skipB ch S k (l.getD k Sy.zero) = true) : rwM ch S n l (k + 1) = rwM ch S n l k := by
 refine rwM_eq fun u t _ _ => ?_
 rw [rwP_succ, h]
 simp
theorem rwM_has (hu : u < n) (ht : t < n) : ((rwM ch S n l k).getD u []).contains (t : Int) = rwP ch S l k u t := by
 rw [rwM_get hu, NI_has, Bool.eq_iff_iff, List.contains_iff_mem]
 simp [rwR, ht]
theorem rwM_old (hu : k / S < n) (ht : rdT (l.getD k Sy.zero) S < n) (h : ((rwM ch S n l k).getD (k / S) []).contains (rdT (l.getD k Sy.zero) S : Int) = true) : rwM ch S n l (k + 1) = rwM ch S n l k := by
 rw [rwM_has hu ht] at h
 refine rwM_eq fun u t _ _ => ?_
 rw [rwP_succ]
 by_cases e1 : k / S = u
 · by_cases e2 : rdT (l.getD k Sy.zero) S = t
   · subst e1 e2
     rw [h]
     rfl
   · rw [decide_eq_false e2]
     simp
 · rw [decide_eq_false e1]
   simp
theorem rwM_new {q : Nat} (hu : k / S < n) (ht : rdT (l.getD k Sy.zero) S < n) (h0 : skipB ch S k (l.getD k Sy.zero) = false) (h : ((rwM ch S n l k).getD (k / S) []).contains (rdT (l.getD k Sy.zero) S : Int) = false)
   (hq : q ≤ ((rwM ch S n l k).getD (k / S) []).length) (h1 : ∀ i, i < q → ((rwM ch S n l k).getD (k / S) []).getD i 0 < (rdT (l.getD k Sy.zero) S : Int)) (h2 : ∀ i, q ≤ i → i < ((rwM ch S n l k).getD (k / S) []).length → (rdT (l.getD k Sy.zero) S : Int) ≤ ((rwM ch S n l k).getD (k / S) []).getD i 0) :
   rwM ch S n l (k + 1) = (rwM ch S n l k).set (k / S) (((rwM ch S n l k).getD (k / S) []).take q ++ [(rdT (l.getD k Sy.zero) S : Int)] ++ ((rwM ch S n l k).getD (k / S) []).drop q) := by
 rw [ins_at hq h1 h2]
 rw [rwM_has hu ht] at h
 refine ext_getD (d := []) (by rw [List.length_set, rwM_len, rwM_len]) (fun u hun => ?_)
 rw [rwM_len] at hun
 rw [rwM_get hun]
 by_cases e1 : k / S = u
 · subst e1
   rw [getD_set_eq (by rw [rwM_len]; exact hu), rwM_get hu]
   have := ins_range (p := rwP ch S l k (k / S)) h n 0 (Nat.zero_le _) (by omega)
   rw [← List.range_eq_range'] at this
   unfold rwR
   rw [this]
   congr 1
   refine List.filter_congr fun t _ => ?_
   rw [rwP_succ, h0, decide_eq_true rfl]
   rfl
 · rw [getD_set_ne e1, rwM_get hun]
   unfold rwR
   congr 1
   refine List.filter_congr fun t _ => ?_
   rw [rwP_succ, decide_eq_false e1]
   simp
end
def rdM (lf : Bool) (inn out size : Int) (ops : List Po) : List (List Int) :=
 if rdE lf inn out size ops = 0 then rwM (rdC inn out size.toNat (symL ops)) size.toNat (rdN inn out size.toNat) (symL ops) (symL ops).length else []
section
variable {lf : Bool} {inn out size : Int} {ops : List Po}
theorem rdM_no (h : rdE lf inn out size ops ≠ 0) : rdM lf inn out size ops = [] := by unfold rdM; rw [if_neg h]
theorem rdM_ok (h : rdE lf inn out size ops = 0) : rdM lf inn out size ops = rwM (rdC inn out size.toNat (symL ops)) size.toNat (rdN inn out size.toNat) (symL ops) (symL ops).length := by unfold rdM; rw [if_pos h]
end
end Go.Sl
