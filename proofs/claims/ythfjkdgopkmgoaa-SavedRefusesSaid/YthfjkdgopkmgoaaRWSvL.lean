/-
  The contract of SavedLimits.
-/
import Derived.Test.YthfjkdgopkmgoaaRWSvJ
import Derived.Test.YthfjkdgopkmgoaaRPy
import Derived.Test.YthfjkdgopkmgoaaRQb
namespace Go.Proofs.Ythfjkdgopkmgoaa
open Go.Sl

theorem made_blank (sz un : UInt8) {f : Fl} {us : List Int} (hf : f = fl0 (4 + sz.toNat % 12) 5 9) (hus : us = undoL un) : Blank f us := by
  subst hf hus
  have ok := fl0_ok (4 + sz.toNat % 12) (by omega) (by omega)
  have hu : UOk (fl0 (4 + sz.toNat % 12) 5 9) (undoL un) := undoL_ok un (by simp [fl0])
  refine ⟨ok, hu, by rw [undoL_len]; omega, Nat.le_add_right _ _, fun s k hs hk => ?_, fun i => ?_⟩
  · have h5 : ((undoL un).getD s 0).toNat < 5 := by
      have := hu.r s hs
      have e : (fl0 (4 + sz.toNat % 12) 5 9).data.length = 5 := by simp [fl0]
      rw [e] at this
      omega
    show ((List.replicate 5 (List.replicate (4 + sz.toNat % 12) (255 : UInt8))).getD ((undoL un).getD s 0).toNat []).getD k 0 = 255
    rw [getD_rep _ _ _ _ h5, getD_rep _ k _ _ (show k < 4 + sz.toNat % 12 from hk)]
  · show (List.replicate 5 false).getD i false = false
    simp only [List.getD_eq_getElem?_getD, List.getElem?_replicate]
    split <;> rfl

end Go.Proofs.Ythfjkdgopkmgoaa
