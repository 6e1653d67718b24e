/-
  The contract of SavedMatchesReference.
-/
import Derived.Test.YthfjkdgopkmgoaaTQb
namespace Go.Proofs.Ythfjkdgopkmgoaa
open Go.Sl

theorem towS_len {f : Fl} {us : List Int} {p : Int} {b : List UInt8} : (towS f us p b).x.data.length ≤ b.length := by
  unfold towS
  split
  · exact Nat.zero_le _
  · split
    · exact Nat.zero_le _
    · split
      · exact Nat.zero_le _
      · split
        · exact Nat.zero_le _
        · show (chunk b _ _ _).length ≤ _
          unfold chunk
          rw [List.length_take, List.length_drop]
          omega
end Go.Proofs.Ythfjkdgopkmgoaa
