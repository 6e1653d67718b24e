/-
  The search of the reference, as plain data.
-/
import Derived.Test.YtklbkaefjjonmaaUOd
namespace Go.Sl

theorem find_at {α : Type} {q : α → Bool} {d : α} : ∀ {l : List α} {i : Nat}, (∀ j, j < i → q (l.getD j d) = false) → i < l.length → q (l.getD i d) = true → l.find? q = some (l.getD i d)
  | [], _, _, h, _ => absurd h (Nat.not_lt_zero _)
  | x :: l, 0, _, _, h => by
    have : q x = true := h
    simp [this]
  | x :: l, i + 1, h1, h2, h3 => by
    have h0 : q x = false := h1 0 (Nat.succ_pos _)
    have := find_at (l := l) (i := i) (d := d) (fun j hj => h1 (j + 1) (Nat.succ_lt_succ hj)) (Nat.lt_of_succ_lt_succ h2) h3
    simp only [List.find?_cons, h0]
    exact this
theorem find_not {α : Type} {q : α → Bool} {d : α} {l : List α} (h : ∀ j, j < l.length → q (l.getD j d) = false) : l.find? q = none := by
  rw [List.find?_eq_none]
  intro x hx
  obtain ⟨i, hi, rfl⟩ := List.mem_iff_getElem.1 hx
  have := h i hi
  simp only [List.getD_eq_getElem?_getD, List.getElem?_eq_getElem hi, Option.getD_some] at this
  rw [this]
  decide
def fullL (n : Nat) (p : Nat → Nat → Bool) (l : List Nat) : Bool := fullB n p (fun t => l.contains t)
def refR (ls : List (List Int)) : Option (List Nat) := srch (fun k => (stL k 0 ls.length).find? (fullL ls.length (rdP ls))) (ls.length + 1)
def refT (ls : List (List Int)) : Option (List Nat) := if readB ls = true ∧ ls.length ≤ 16 then refR ls else none
def refE (ls : List (List Int)) : Int := if readB ls = true then (if (refT ls).isSome = true then 0 else 2) else 1
def refQ (ls : List (List Int)) : List Nat := sqO ls.length (rdP ls) (refT ls)
def refH (ls : List (List Int)) : List Nat := (refT ls).getD []
section
variable {ls : List (List Int)}
theorem refT_no (h : readB ls = false ∨ 16 < ls.length) : refT ls = none := by
  unfold refT
  rw [if_neg]
  rintro ⟨h1, h2⟩
  rcases h with h | h
  · rw [h] at h1; cases h1
  · omega
theorem refT_ok (h : readB ls = true) (h2 : ls.length ≤ 16) : refT ls = refR ls := if_pos ⟨h, h2⟩
theorem ref_none (h : refT ls = none) : refQ ls = [] ∧ refH ls = [] ∧ refE ls = if readB ls = true then 2 else 1 := by
  unfold refQ refH refE
  rw [h]
  exact ⟨rfl, rfl, rfl⟩
theorem ref_some {l : List Nat} (h1 : readB ls = true) (h : refT ls = some l) : refQ ls = frs ls.length (rdP ls) (fun t => l.contains t) ls.length ∧ refH ls = l ∧ refE ls = 0 := by
  unfold refQ refH refE
  rw [h, if_pos h1]
  exact ⟨rfl, rfl, rfl⟩
theorem NL_st {L : List (List Nat)} {i : Nat} (h : i < L.length) (t : Nat) : ((NL L).getD i []).contains (t : Int) = (L.getD i []).contains t := by rw [NL_get h, NI_has]
end
end Go.Sl
