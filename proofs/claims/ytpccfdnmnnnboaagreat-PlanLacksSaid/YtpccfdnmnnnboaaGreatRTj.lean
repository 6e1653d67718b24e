/-
  The plan that exchanges two halves, as plain data.
-/
import Derived.Test.YtpccfdnmnnnboaaGreatRTg
namespace Go.Sl

def hOps : List Po := [⟨1, 2, 2, 0⟩, ⟨1, 0, 2, 0⟩]
def hOld : List UInt8 := [1, 2, 3, 4]
def hP : Pp := ⟨2, 2, false, 4, 4, hOps, [0, 1], [0]⟩
theorem h_chg : chgL (symL hOps) 4 2 2 = [0, 1] := by kernel_rfl
theorem h_mkE : mkE false 4 4 2 2 hOps 4 = 0 := by kernel_rfl
theorem h_mkP : mkP false 4 4 2 2 hOps 4 = hP := by kernel_rfl
theorem h_chk : chkE 4 4 hOps = 0 := by kernel_rfl
theorem h_mk1 : mkE true 4 4 2 2 hOps 4 = 62 := by kernel_rfl
theorem h_mk2 : mkE false 4 4 2 1 hOps 4 = 190 := by kernel_rfl
theorem h_mk3 : mkE false 4 4 2 2 hOps 3 = 61 := by kernel_rfl
theorem h_mk4 : mkE false 4 1 2 2 [] 4 = 60 := by kernel_rfl
theorem mkP_z {lf : Bool} {inn out sz n : Int} {ops : List Po} {ol : Nat} {e : Int} (h : mkE lf inn out sz n ops ol = e) (h0 : e ≠ 0) : mkP lf inn out sz n ops ol = Pp.zero := by
 unfold mkP
 rw [if_neg (by rw [h]; exact h0)]
theorem h_val : vldB false 2 2 4 4 hOps [0, 1] [0] = true := by
 refine val_iff.2 ⟨h_chk, rfl, by kernel_rfl, ?_, by kernel_rfl, by kernel_rfl⟩
 rw [show chgL (symL hOps) 4 (2 : Int).toNat (2 : Int).toNat = [0, 1] from h_chg]
 refine (srt_iff (by decide)).2 ⟨rfl, by decide⟩
theorem h_valz : vldB false 0 0 0 0 [] [] [] = false := val_no (fun h => absurd h.2.2.1 (by decide))
theorem h_needE : needE false 2 2 4 4 hOps [0, 1] [0] hOld = 0 := needE_0 h_val (by decide) (of_decide_eq_true (by kernel_rfl))
theorem h_needV : needV false 2 2 4 4 hOps [0, 1] [0] hOld = ⟨1, 11, 15, 56, 148⟩ := by
 rw [needV_ok h_needE]
 kernel_rfl
theorem h_needz : needE false 0 0 0 0 [] [] [] hOld = 190 := needE_1 h_valz
theorem h_cnt1 : cntE false 2 2 4 4 hOps [0, 1] [0] [] 0 0 [] 2 = 1 := cntE_2 h_val (by decide)
theorem h_cnt2 : cntE false 2 2 4 4 hOps [0, 1] [0] [] 0 0 [] 0 = 220 := cntE_3 h_val (by decide) (by kernel_rfl)
end Go.Sl
