/-
  The contracts of Toward, of the reference and of the program, of toward and same.
-/
import Derived.Test.YthfjkdgopkmgoaaRWFlG
import Derived.Test.YthfjkdgopkmgoaaRPm
namespace Go.Proofs.Ythfjkdgopkmgoaa
open Go.Sl

theorem Nx.beq {r s : Nx} (h1 : r.x = s.x) (h2 : r.done = s.done) : (r.e == s.e) = decide (r = s) := by
  cases r; cases s
  simp only at h1 h2
  subst h1 h2
  rw [Bool.eq_iff_iff]
  simp

end Go.Proofs.Ythfjkdgopkmgoaa
