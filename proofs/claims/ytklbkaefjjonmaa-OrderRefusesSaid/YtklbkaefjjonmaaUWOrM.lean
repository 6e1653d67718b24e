/-
  The order laws: the reference, the least.
-/
import Derived.Test.YtklbkaefjjonmaaUWOrL
import Derived.Test.YtklbkaefjjonmaaUOj
namespace Go.Proofs.Ytklbkaefjjonmaa
open Go.Sl

theorem made6 (l : List UInt8) : (madeL l).length ≤ 6 := by rw [madeL_len]; exact mdN_le l
end Go.Proofs.Ytklbkaefjjonmaa
