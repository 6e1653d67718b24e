/-
  Made readings, as plain data.
-/
import Derived.Test.YtklbkaefjjonmaaTOd
namespace Go.Sl

def mdN (l : List UInt8) : Nat := max 1 (min l.length 6)
def mdB (l : List UInt8) (u t : Nat) : Bool := decide (t ≠ u) && (l.getD u 0).toNat.testBit t
section
variable {l : List UInt8} {u t k : Nat}
theorem NI_get {l : List Nat} {i : Nat} (h : i < l.length) : (NI l).getD i 0 = ((l[i] : Nat) : Int) := by simp [NI, h]
end
end Go.Sl
