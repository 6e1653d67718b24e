/-
  The contract of the Flash laws' sanity.
-/
import Derived.Test.YthfjkdgopkmgoaaRWFlH
import Derived.Test.YthfjkdgopkmgoaaRPm
import Derived.Test.YthfjkdgopkmgoaaRSlI
namespace Go.Proofs.Ythfjkdgopkmgoaa
open Go.Sl

theorem Ctr.tb (c : Bool) {f : Nat} {args : List Value} {R H : List Pr} {b : Bool} (h : Ctr X f args R H (fun v R' H' => v = .bool b ∧ R' = [] ∧ H' = [])) (hb : b = c) : Ctr X f args R H (fun v R' H' => v = .bool c ∧ R' = [] ∧ H' = []) := hb ▸ h
def S : Fl := ⟨2, [[240, 255]], [0], 5, [false]⟩
end Go.Proofs.Ythfjkdgopkmgoaa
