/-
  What the order laws say of made readings: free ones, fewer ones, right ones, as plain data.
-/
import Derived.Test.YtdkilfnbilohmaaVOj
import Derived.Test.YtdkilfnbilohmaaVOi
import Derived.Test.YtdkilfnbilohmaaVSlV
namespace Go.Sl

/-! ### Free -/
section
variable {ls : List (List Int)} {up : Bool} {u t k n : Nat}
end
/-! ### Fewer -/
section
variable {l m : List UInt8} {i b : Nat}
/-- The readings m are those of l without one. -/
structure Less (l m : List UInt8) (i b : Nat) : Prop where
 len : m.length = l.length
 sub : ∀ u t, mdB m u t = true → mdB l u t = true
 one : ∀ u t, mdB l u t = true → mdB m u t = true ∨ t = b
theorem Less.n (h : Less l m i b) : mdN m = mdN l := by unfold mdN; rw [h.len]
end
/-! ### Right -/
theorem frs_pair {n : Nat} {p : Nat → Nat → Bool} {st : Nat → Bool} : ∀ q, List.Pairwise (fun x y => st x = true ∨ p y x = false) (frs n p st q) ∧ ∀ x ∈ frs n p st q, st x = true ∨ ∀ u, u < n → p u x = true → u ∈ frs n p st q
 | 0 => ⟨List.Pairwise.nil, fun x hx => by cases hx⟩
 | q + 1 => by
   obtain ⟨h1, h2⟩ := frs_pair (n := n) (p := p) (st := st) q
   rw [frs]
   split
   · exact ⟨h1, h2⟩
   · rename_i t ht
     have htn := List.mem_range.1 (List.mem_of_find?_eq_some ht)
     obtain ⟨h3, h4⟩ := nxt_iff.1 (List.find?_some ht)
     have hno : t ∉ frs n p st q := fun h => by rw [List.contains_iff_mem.2 h] at h3; cases h3
     refine ⟨List.pairwise_append.2 ⟨h1, List.pairwise_singleton _ _, fun x hx y hy => ?_⟩, fun x hx => ?_⟩
     · obtain rfl := List.mem_singleton.1 hy
       rcases h2 x hx with h5 | h5
       · exact .inl h5
       · cases hp : p y x with
         | false => exact .inr rfl
         | true => exact absurd (h5 y htn hp) hno
     · rcases List.mem_append.1 hx with hx | hx
       · exact (h2 x hx).imp id fun h u hu hp => List.mem_append_left _ (h u hu hp)
       · obtain rfl := List.mem_singleton.1 hx
         exact h4.imp id fun h u hu hp => List.mem_append_left _ (List.contains_iff_mem.1 (h u hu hp))
end Go.Sl
