/-
  Orders and stashes: what the search finds, as plain data.
-/
import Derived.KernelRfl
import Derived.Test.YtklbkaefjjonmaaTOd
import Derived.Test.YtklbkaefjjonmaaTOh
namespace Go.Sl

section
variable {n k : Nat} {p p' : Nat → Nat → Bool} {st st' : Nat → Bool} {O out : List Nat} {t : Nat}
theorem nxt_iff : nxtB n p st out t = true ↔ out.contains t = false ∧ (st t = true ∨ ∀ u, u < n → p u t = true → out.contains u = true) := by
  unfold nxtB
  rw [Bool.and_eq_true, Bool.or_eq_true, Bool.not_eq_true', List.all_eq_true]
  refine and_congr Iff.rfl (or_congr Iff.rfl ⟨fun h u hu hp => ?_, fun h u hu => ?_⟩)
  · have := h u (List.mem_range.2 hu)
    rw [hp] at this
    exact this
  · have := h u (List.mem_range.1 hu)
    cases hp : p u t with
    | false => rfl
    | true => rw [this hp]; rfl
/-- There is always one that may come next. -/
def Prg (n : Nat) (p : Nat → Nat → Bool) (st : Nat → Bool) : Prop := ∀ O : List Nat, (∃ t, t < n ∧ O.contains t = false) → ∃ t, t < n ∧ nxtB n p st O t = true
theorem Prg.mono (h : Prg n p st) (hp : ∀ u t, u < n → p' u t = true → p u t = true ∨ st' t = true) (hs : ∀ t, st t = true → st' t = true) : Prg n p' st' := by
  intro O hO
  obtain ⟨t, ht, hx⟩ := h O hO
  obtain ⟨h1, h2⟩ := nxt_iff.1 hx
  refine ⟨t, ht, nxt_iff.2 ⟨h1, ?_⟩⟩
  cases hst : st' t with
  | true => exact .inl rfl
  | false =>
    rcases h2 with h2 | h2
    · rw [hs t h2] at hst
      cases hst
    · refine .inr fun u hu hpu => ?_
      rcases hp u t hu hpu with h3 | h3
      · exact h2 u hu h3
      · rw [hst] at h3
        cases h3
theorem Prg.all (h : ∀ t, t < n → st t = true) : Prg n p st := fun _ ⟨t, ht, hO⟩ => ⟨t, ht, nxt_iff.2 ⟨hO, .inl (h t ht)⟩⟩
/-- If one only reads greater ones, or only lesser ones. -/
theorem Prg.up (h : ∀ u t, u < n → p u t = true → u < t) : Prg n p st := by
  intro O ⟨t, ht, hO⟩
  have key : ∀ m, m < n → O.contains m = false → ∃ t, t < n ∧ nxtB n p st O t = true := by
    intro m
    induction m using Nat.strongRecOn with
    | _ m ih =>
      intro hm hO
      by_cases hx : ∃ u, u < n ∧ u < m ∧ O.contains u = false
      · obtain ⟨u, h1, h2, h3⟩ := hx
        exact ih u h2 h1 h3
      · refine ⟨m, hm, nxt_iff.2 ⟨hO, .inr fun u hu hp => ?_⟩⟩
        cases hc : O.contains u with
        | true => rfl
        | false => exact absurd ⟨u, hu, h u m hu hp, hc⟩ hx
  exact key t ht hO
end
/-! ### The order of lists -/
/-! ### The search -/
section
variable {n k m : Nat} {p : Nat → Nat → Bool}
end
/-! ### Few sectors -/
section
variable {ls : List (List Int)}
end
end Go.Sl
