/-
  Chains of records, and bytes that differ at every second place, as plain data.
-/
import Derived.Test.YthfjkdgopkmgoaaUPy
namespace Go.Sl

def altB (n k : Nat) : List UInt8 := (List.range n).map fun i => if i % 2 = 0 ∧ i < 2 * k then 1 else 0
theorem altB_len (n k : Nat) : (altB n k).length = n := by simp [altB]
theorem altB_get {n k i : Nat} (h : i < n) : (altB n k).getD i 0 = if i % 2 = 0 ∧ i < 2 * k then 1 else 0 := by rw [altB, map_range_getD h]
theorem altB_zero (n : Nat) : altB n 0 = List.replicate n 0 := by
  refine ext_getD (d := 0) (by simp [altB]) (fun i hi => ?_)
  rw [altB_len] at hi
  rw [altB_get hi, if_neg (by omega), getD_rep _ _ _ _ hi]
theorem altB_set {n k : Nat} : (altB n k).set (2 * k) 1 = altB n (k + 1) := by
  refine ext_getD (d := 0) (by simp [altB]) (fun i hi => ?_)
  rw [List.length_set, altB_len] at hi
  rw [altB_get hi]
  by_cases h1 : i = 2 * k
  · subst h1
    rw [getD_set_eq (by rw [altB_len]; exact hi), if_pos (by omega)]
  · have e : ((altB n k).set (2 * k) 1).getD i 0 = (altB n k).getD i 0 := by
      simp only [List.getD_eq_getElem?_getD]
      rw [List.getElem?_set_ne (by omega)]
    rw [e, altB_get hi]
    by_cases h2 : i % 2 = 0 ∧ i < 2 * k
    · rw [if_pos h2, if_pos (by omega)]
    · rw [if_neg h2, if_neg (by omega)]
def altR (j : Nat) : List (Nat × Nat) := (List.range j).map fun i => (2 * i, 2 * i + 1)
theorem altR_len (j : Nat) : (altR j).length = j := by simp [altR]
theorem altR_succ (j : Nat) : altR (j + 1) = altR j ++ [(2 * j, 2 * j + 1)] := by simp [altR, List.range_succ]
theorem chg_alt {a b : List UInt8} : ∀ j, (∀ i, i < j → a.getD (2 * i) 0 ≠ b.getD (2 * i) 0 ∧ a.getD (2 * i + 1) 0 = b.getD (2 * i + 1) 0) → chgN a b (2 * j) = altR j ∧ diffN a b (2 * j) = j
  | 0, _ => ⟨rfl, rfl⟩
  | j + 1, h => by
    obtain ⟨h1, h2⟩ := chg_alt j (fun i hi => h i (by omega))
    obtain ⟨h3, h4⟩ := h j (by omega)
    have hs : stepR (altR j) (2 * j) = altR j ++ [(2 * j, 2 * j + 1)] := by
      refine stepR_app ?_
      cases j with
      | zero => exact .inl rfl
      | succ j =>
        refine .inr ?_
        rw [altR_len, Nat.add_sub_cancel, altR_succ]
        simp only [List.getD_eq_getElem?_getD]
        rw [List.getElem?_append_right (by rw [altR_len]; omega), altR_len, Nat.sub_self]
        show 2 * j + 1 ≠ 2 * (j + 1)
        omega
    rw [show 2 * (j + 1) = 2 * j + 1 + 1 from by omega]
    refine ⟨?_, ?_⟩
    · rw [chgN, if_pos h4, chgN, if_neg h3, h1, hs, altR_succ]
    · rw [diffN, if_pos h4, diffN, if_neg h3, h2]
theorem alt_len {n k : Nat} {r : List UInt8} (hn : n = 2 * k) (h : RecIs 0 (altB n k) (List.replicate n 0) r) : r.length = 5 + 4 * k + k := by
  subst hn
  have h2 := chg_alt (a := altB (2 * k) k) (b := List.replicate (2 * k) 0) k (fun i hi => by
    rw [altB_get (by omega), altB_get (by omega), getD_rep _ _ _ _ (by omega), getD_rep _ _ _ _ (by omega), if_pos (by omega), if_neg (by omega)]
    exact ⟨by decide, rfl⟩)
  rw [h.len, altB_len, h2.1, h2.2, altR_len]

/-! ### Chains -/
def chSt (o : List UInt8) (ls : List (List (UInt8 × UInt8))) (n : Nat) : Nat → List UInt8
  | 0 => o
  | i + 1 => newL (chSt o ls n i) (ls.getD i []) n
def chRec (o : List UInt8) (ls : List (List (UInt8 × UInt8))) (n i : Nat) : List UInt8 := recS ((3 : Nat) : Int) (chSt o ls n i) (chSt o ls n (i + 1))
def chRecs (o : List UInt8) (ls : List (List (UInt8 × UInt8))) (n m : Nat) : List (List UInt8) := (List.range m).map (chRec o ls n)
section
variable {o : List UInt8} {ls : List (List (UInt8 × UInt8))} {n : Nat}
theorem chSt_len (h : o.length = n) : ∀ i, (chSt o ls n i).length = n
  | 0 => h
  | _ + 1 => newL_len _ _ _
theorem chRec_is (h : o.length = n) (h1 : 1 ≤ n) (h2 : n ≤ 4096) (i : Nat) : RecIs 3 (chSt o ls n i) (chSt o ls n (i + 1)) (chRec o ls n i) := by
  have e := chSt_len (ls := ls) h i
  have e' := chSt_len (ls := ls) h (i + 1)
  exact RecIs.of rfl (by decide) (by rw [e, e']) (by omega) (by omega)
theorem chRecs_len (m : Nat) : (chRecs o ls n m).length = m := by simp [chRecs]
theorem chRecs_succ (m : Nat) : chRecs o ls n (m + 1) = chRecs o ls n m ++ [chRec o ls n m] := by simp [chRecs, List.range_succ]
theorem chRecs_get {m i : Nat} (h : i < m) : (chRecs o ls n m).getD i [] = chRec o ls n i := by rw [chRecs, map_range_getD h]
end
end Go.Sl
