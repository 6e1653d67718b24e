/-
  Right orders, as plain data.
-/
import Derived.Test.YtdkilfnbilohmaaVPl
namespace Go.Sl

def atL (n : Nat) (seq : List Int) : Nat → List Int
 | 0 => List.replicate n (-1)
 | i + 1 => (atL n seq i).set (seq.getD i 0).toNat (i : Int)
theorem atL_len (n : Nat) (seq : List Int) : ∀ i, (atL n seq i).length = n
 | 0 => List.length_replicate
 | i + 1 => by rw [atL, List.length_set]; exact atL_len n seq i
def badS (n : Nat) (seq : List Int) (i : Nat) : Prop := seq.getD i 0 < 0 ∨ (n : Int) ≤ seq.getD i 0 ∨ 0 ≤ (atL n seq i).getD (seq.getD i 0).toNat 0
instance (n : Nat) (seq : List Int) (i : Nat) : Decidable (badS n seq i) := by unfold badS; infer_instance
def lastB (ls : List (List Int)) (seq st : List Int) (u : Nat) (t : Int) : Bool := decide ((atL ls.length seq seq.length).getD u 0 > (atL ls.length seq seq.length).getD t.toNat 0) && !st.contains t
/-- An order is right: as the program has it. -/
def rightP (ls : List (List Int)) (seq st : List Int) : Bool :=
 decide (readB ls = true ∧ seq.length = ls.length ∧ (∀ i, i < seq.length → ¬badS ls.length seq i) ∧ rdRow ls.length ls.length st = true ∧ ∀ u, u < ls.length → ∀ j, j < (ls.getD u []).length → lastB ls seq st u ((ls.getD u []).getD j 0) = false)
theorem fill_step {α : Type} (n k : Nat) (a b : α) (h : k < n) : (List.replicate k a ++ List.replicate (n - k) b).set k a = List.replicate (k + 1) a ++ List.replicate (n - (k + 1)) b := by
 rw [List.set_append_right _ _ (by simp), List.length_replicate, Nat.sub_self, show n - k = (n - (k + 1)) + 1 from by omega, List.replicate_succ, List.set_cons_zero, List.replicate_succ', List.append_assoc]
 rfl
end Go.Sl
