/-
  LabelTargets returns true whatever its arguments are, and its arguments read behind the call as they read before.
-/
import Derived.Test.YtkjhcjhfegakoaaRows
import Derived.ProofKit
import Derived.ChangeSame
import Derived.Lib.SmallJoins
import Derived.Carry
import Derived.Test.YtkjhcjhfegakoaaVWLbd
import Derived.Test.YtkjhcjhfegakoaaVLi
namespace Go.Proofs.Ytkjhcjhfegakoaa
open Go.Sl Go.ChangeShapes Go.WideShapes Go.ChangeAt Go.RowKit Go.Joins Go.Deep

theorem Try.own : ownKnob Try.prog.godebug = none := by kernel_rfl
theorem Try.laidOut : laidOutB Try.prog = true := by kernel_rfl

set_option maxHeartbeats 1000000 in
set_option maxRecDepth 100000 in
theorem lTargets_lifted (os : Os) (started : os.Started) (H : Type) (enc : TypeId × Value → H) :
   ReturnsInHanded {} Try.checked os 5 .any (Rows.labelTargetsSpec.pre6 enc Try.prog Try.f5 Rows.labelTargetsRow.domain false) (Rows.labelTargetsSpec.post enc Try.prog Try.f5 false true false false) := by
 refine returnsInHanded_of_change (C := Try.checked) Try.own started (by kernel_rfl) Try.func5
   (ChangeSpec.witness6 (enc := enc) (C := Try.checked) false ⟨#[], #[.slice none 0 0], []⟩ 8 (by kernel_rfl) (by kernel_rfl) (by kernel_rfl) (by kernel_rfl)) ?_
 intro W base args ds gs before hval0 hW hcnd _
 have hval : ∀ (j : Nat) t v, Try.f5.params[j]? = some t → args[j]? = some v → Value.okWide Try.prog W .any base t v := hval0
 have hW' := hW
 obtain ⟨p, q, hA0, hV, rfl, hfz, hnd⟩ := hW
 have hA : DataW.TrodAll enc Try.prog W 0 (fun _ => true) true Try.f5.params.toList args.toList ds p := hA0
 rw [Try.params5] at hA hval
 obtain ⟨v0, d0, rfl, rfl, h0⟩ := trodAll_one hA
 obtain ⟨rfl, rfl⟩ := trodVars_none hV
 have k0 := h0
 obtain ⟨LA, lc, l, rfl, hll, fP⟩ := open_fours ((X.ok 22 ti22 rfl).und) ((X.ok 69 ti69 rfl).und) ((X.ok 5 ti5 rfl).und) (by kernel_rfl) (by kernel_rfl) (hval 0 22 v0 rfl rfl) h0
 have hM : maxLen = 9223372036854775807 := by decide
 rw [hM] at hll
 have key := lTargets_c LA l lc hll
 have hs0 : Sat (ownBase W [Rd LA (frV l)] []) W [Rd LA (frV l)] [] := by
   refine Sat.start ?_ ?_
   · intro r hr
     simp only [List.mem_cons, List.not_mem_nil, or_false] at hr
     rcases hr with rfl <;> assumption
   · intro r hr k hk
     simp only [List.mem_cons, List.not_mem_nil, or_false] at hr
     rcases hr with rfl
     · exact Go.Sl.Rd.lt fP hk
 refine (key.2 W hs0).mono ?_
 rintro e W' ⟨v, R', H', ⟨rfl, -, -⟩, rfl, hs⟩
 have hb := hs.below
 have hlt := hW'.lt
 have hbool : Try.prog.underlying 4 = some .bool := ((X.ok 4 ti4 rfl).und)
 refine ⟨_, rfl, ⟨[d0], [], _, [], _, [], hW', trodAll_mk1 (show DataW.Trod enc Try.prog W' _ _ _ 4 (.bool true) (.lit (.bool true)) [] from ⟨1, by simp [DataW.trod, Value.cells, hbool]⟩), trodAll_mk1 (hb.trod Try.laidOut (by kernel_rfl) (by decide +kernel) k0 (fun x hx => hlt x (by simp [hx]))), rfl, hb.frame _, fun h => by cases h⟩⟩

theorem lTargets_holds : Rows.LabelTargetsSaid :=
 OpenClaim.holds_of_wide 5 Try.f5 rfl rfl rfl rfl rfl rfl rfl ⟨rfl, rfl, rfl, rfl, rfl⟩ rfl rfl rfl rfl rfl (by kernel_rfl) Try.func5 (by kernel_rfl)
   (of_decide_eq_true (by kernel_rfl)) (by unfold Func.isWrapper; first | (rw [if_pos (by decide +kernel)]; kernel_rfl) | (rw [if_neg (by decide +kernel)]; exact ⟨rfl, rfl⟩))
   (fun os started H enc _ => lTargets_lifted os started H enc)

end Go.Proofs.Ytkjhcjhfegakoaa
