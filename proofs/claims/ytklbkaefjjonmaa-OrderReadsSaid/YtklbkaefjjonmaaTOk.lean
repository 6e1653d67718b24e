/-
  What the order laws say of made readings: free ones, fewer ones, right ones, as plain data.
-/
import Derived.Test.YtklbkaefjjonmaaTOj
import Derived.Test.YtklbkaefjjonmaaTOi
import Derived.Test.YtklbkaefjjonmaaTSlV
namespace Go.Sl

/-! ### Free -/
section
variable {ls : List (List Int)} {up : Bool} {u t k n : Nat}
end
/-! ### Fewer -/
section
variable {l m : List UInt8} {i b : Nat}
/-- The readings m are those of l without one. -/
structure Less (l m : List UInt8) (i b : Nat) : Prop where
  len : m.length = l.length
  sub : ∀ u t, mdB m u t = true → mdB l u t = true
  one : ∀ u t, mdB l u t = true → mdB m u t = true ∨ t = b
theorem Less.n (h : Less l m i b) : mdN m = mdN l := by unfold mdN; rw [h.len]
end
/-! ### Right -/
end Go.Sl
