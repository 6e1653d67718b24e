/-
  The stashes in their order, as plain data.
-/
import Derived.Test.YtklbkaefjjonmaaUOb
namespace Go.Sl

def stL : Nat → Nat → Nat → List (List Nat)
  | 0, _, _ => [[]]
  | k + 1, f, n => (List.range' f (n - f)).flatMap fun t => (stL k (t + 1) n).map (t :: ·)
def stP (k f n d : Nat) : List (List Nat) := (List.range' f d).flatMap fun t => (stL k (t + 1) n).map (t :: ·)
theorem stP_zero (k f n : Nat) : stP k f n 0 = [] := rfl
theorem stP_succ (k f n d : Nat) : stP k f n (d + 1) = stP k f n d ++ (stL k (f + d + 1) n).map ((f + d) :: ·) := by
  simp [stP, List.range'_concat]
theorem stP_all (k f n : Nat) : stP k f n (n - f) = stL (k + 1) f n := rfl
theorem stL_len : ∀ (k f n : Nat), (stL k f n).length ≤ 2 ^ (n - f)
  | 0, _, _ => Nat.one_le_two_pow
  | k + 1, f, n => by
    have key : ∀ d, d ≤ n - f → (stP k f n d).length + 2 ^ (n - (f + d)) ≤ 2 ^ (n - f) := by
      intro d
      induction d with
      | zero =>
        intro _
        rw [stP_zero]
        simp
      | succ d ih =>
        intro hd
        have h1 := ih (by omega)
        have h2 := stL_len k (f + d + 1) n
        rw [stP_succ, List.length_append, List.length_map]
        rw [show n - (f + d) = n - (f + d + 1) + 1 from by omega, Nat.pow_succ] at h1
        rw [show f + (d + 1) = f + d + 1 from by omega]
        omega
    have := key (n - f) (Nat.le_refl _)
    rw [stP_all] at this
    exact Nat.le_trans (Nat.le_add_right _ _) this
theorem stP_len (k f n d : Nat) (h : d ≤ n - f) : (stP k f n d).length ≤ 2 ^ (n - f) := by
  have e : (stL (k + 1) f n) = stP k f n d ++ (List.range' (f + d) (n - f - d)).flatMap fun t => (stL k (t + 1) n).map (t :: ·) := by
    rw [← stP_all]
    unfold stP
    rw [← List.flatMap_append, List.range'_append_1, show d + (n - f - d) = n - f from by omega]
  have h2 := stL_len (k + 1) f n
  rw [e, List.length_append] at h2
  omega
theorem stL_each : ∀ (k f n : Nat), ∀ l ∈ stL k f n, l.length = k
  | 0, _, _, l, h => by
    obtain rfl := List.mem_singleton.1 h
    rfl
  | k + 1, f, n, l, h => by
    simp only [stL, List.mem_flatMap, List.mem_map] at h
    obtain ⟨t, _, l', h', rfl⟩ := h
    rw [List.length_cons, stL_each k _ _ l' h']
def NL (ls : List (List Nat)) : List (List Int) := ls.map NI
theorem NL_len (ls : List (List Nat)) : (NL ls).length = ls.length := by simp [NL]
theorem NL_app (a b : List (List Nat)) : NL (a ++ b) = NL a ++ NL b := by simp [NL]
theorem NL_get {ls : List (List Nat)} {i : Nat} (h : i < ls.length) : (NL ls).getD i [] = NI (ls.getD i []) := by simp [NL, h]
theorem stL_get {k f n i : Nat} (h : i < (stL k f n).length) : ((NL (stL k f n)).getD i []).length = k := by
  rw [NL_get h, NI_len]
  exact stL_each k f n _ (by simp [h])
/-- What was put together up to a place. -/
def stQ (k f n d i : Nat) : List (List Nat) := stP k f n d ++ ((stL k (f + d + 1) n).take i).map ((f + d) :: ·)
theorem stQ_zero (k f n d : Nat) : stQ k f n d 0 = stP k f n d := by simp [stQ]
theorem stQ_succ {k f n d i : Nat} (h : i < (stL k (f + d + 1) n).length) : stQ k f n d (i + 1) = stQ k f n d i ++ [(f + d) :: (stL k (f + d + 1) n).getD i []] := by
  unfold stQ
  rw [take_snoc' _ [] i h, List.map_append, List.append_assoc]
  rfl
theorem stQ_all {k f n d i : Nat} (h : (stL k (f + d + 1) n).length ≤ i) : stQ k f n d i = stP k f n (d + 1) := by
  unfold stQ
  rw [List.take_of_length_le h, stP_succ]
theorem stQ_len {k f n d i : Nat} (h : d + 1 ≤ n - f) : (stQ k f n d i).length ≤ 2 ^ (n - f) := by
  have := stP_len k f n (d + 1) h
  rw [stP_succ, List.length_append, List.length_map] at this
  unfold stQ
  rw [List.length_append, List.length_map, List.length_take]
  omega
theorem two_pow_small {n f : Nat} (h : n ≤ 16) : 2 ^ (n - f) ≤ 65536 := Nat.le_trans (Nat.pow_le_pow_right (by decide) (show n - f ≤ 16 by omega)) (by decide)
end Go.Sl
