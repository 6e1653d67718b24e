/-
  The contract of the reference function New.
-/
import Derived.Test.YthfjkdgopkmgoaaRWFlA
import Derived.Test.YthfjkdgopkmgoaaRPl
namespace Go.Proofs.Ythfjkdgopkmgoaa
open Go.Sl

def flO (f : Fl) (a : Fa) : List Pr := [Own 24 1 a.D f.data.length a.cD (rowsV a.hs (B8 f.data)), OwnKids 5 a.hs (B8 f.data), Own 3 1 a.W f.wear.length a.cW (I64 f.wear), Own 4 1 a.E f.dead.length a.cE (Bs f.dead)]
def fl0 (s m : Nat) (l : Int) : Fl := ⟨s, List.replicate m (List.replicate s 255), List.replicate m 0, l, List.replicate m false⟩

theorem in_yes (a lo hi : Int) (h1 : lo ≤ a) (h2 : a ≤ hi) : Ctr X 71 [.int .i64 a, .int .i64 lo, .int .i64 hi] [] [] (fun v R' H' => v = .bool true ∧ R' = [] ∧ H' = []) :=
  (in_c a lo hi).mono fun v R' H' h => ⟨by rw [h.1]; simp [h1, h2], h.2⟩

end Go.Proofs.Ythfjkdgopkmgoaa
