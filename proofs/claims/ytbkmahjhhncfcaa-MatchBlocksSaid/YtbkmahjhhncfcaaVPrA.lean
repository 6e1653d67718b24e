/-
  MatchBlocks returns true whatever its arguments are, and its arguments read behind the call as they read before.
-/
import Derived.Test.YtbkmahjhhncfcaaRows
import Derived.ProofKit
import Derived.ChangeSame
import Derived.Lib.SmallJoins
import Derived.Carry
import Derived.Test.YtbkmahjhhncfcaaVWMtK
import Derived.Test.YtbkmahjhhncfcaaVLi
namespace Go.Proofs.Ytbkmahjhhncfcaa
open Go.Sl Go.ChangeShapes Go.WideShapes Go.ChangeAt Go.RowKit Go.Joins Go.Deep

theorem Try.own : ownKnob Try.prog.godebug = none := by kernel_rfl
theorem Try.laidOut : laidOutB Try.prog = true := by kernel_rfl

set_option maxHeartbeats 1000000 in
set_option maxRecDepth 100000 in
theorem blocks07_lifted (os : Os) (started : os.Started) (H : Type) (enc : TypeId × Value → H) :
   ReturnsInHanded {} Try.checked os 3 .any (Rows.matchBlocksSpec.pre6 enc Try.prog Try.f3 Rows.matchBlocksRow.domain false) (Rows.matchBlocksSpec.post enc Try.prog Try.f3 false true false false) := by
 refine returnsInHanded_of_change (C := Try.checked) Try.own started (by kernel_rfl) Try.func3
   (ChangeSpec.witness6 (enc := enc) (C := Try.checked) false ⟨#[], #[.slice none 0 0, .slice none 0 0], []⟩ 8 (by kernel_rfl) (by kernel_rfl) (by kernel_rfl) (by kernel_rfl)) ?_
 intro W base args ds gs before hval0 hW hcnd _
 have hval : ∀ (j : Nat) t v, Try.f3.params[j]? = some t → args[j]? = some v → Value.okWide Try.prog W .any base t v := hval0
 have hW' := hW
 obtain ⟨p, q, hA0, hV, rfl, hfz, hnd⟩ := hW
 have hA : DataW.TrodAll enc Try.prog W 0 (fun _ => true) true Try.f3.params.toList args.toList ds p := hA0
 rw [Try.params3] at hA hval
 obtain ⟨v0, v1, d0, d1, p0, p1, rfl, rfl, rfl, h0, h1⟩ := trodAll_two hA
 obtain ⟨rfl, rfl⟩ := trodVars_none hV
 have k0 := h0
 have k1 := h1
 obtain ⟨QA, qc, ql, rfl, hqc, hql, fQ⟩ := open_bytesV ((X.ok 22 ti22 rfl).und) ((X.ok 5 ti5 rfl).und) (by kernel_rfl) (hval 0 22 v0 rfl rfl) h0
 obtain ⟨LAt, lct, lt, rfl, hllt, fPt⟩ := open_trisV ((X.ok 23 ti23 rfl).und) ((X.ok 39 ti39 rfl).und) ((X.ok 5 ti5 rfl).und) (by kernel_rfl) (by kernel_rfl) (hval 1 23 v1 rfl rfl) h1
 have hM : maxLen = 9223372036854775807 := by decide
 rw [hM] at hql hllt
 have key := blocks07_c QA LAt ql lt qc lct hqc (by have := hllt; omega)
 have hs0 : Sat (ownBase W [Rd QA (U8 ql), Rd LAt (triV lt)] []) W [Rd QA (U8 ql), Rd LAt (triV lt)] [] := by
   refine Sat.start ?_ ?_
   · intro r hr
     simp only [List.mem_cons, List.not_mem_nil, or_false] at hr
     rcases hr with rfl | rfl <;> assumption
   · intro r hr k hk
     simp only [List.mem_cons, List.not_mem_nil, or_false] at hr
     rcases hr with rfl | rfl
     · exact Go.Sl.Rd.lt fQ hk
     · exact Go.Sl.Rd.lt fPt hk
 refine (key.2 W hs0).mono ?_
 rintro e W' ⟨v, R', H', ⟨rfl, -, -⟩, rfl, hs⟩
 have hb := hs.below
 have hlt := hW'.lt
 have hbool : Try.prog.underlying 4 = some .bool := ((X.ok 4 ti4 rfl).und)
 refine ⟨_, rfl, ⟨[d0, d1], [], _, [], _, [], hW', trodAll_mk1 (show DataW.Trod enc Try.prog W' _ _ _ 4 (.bool true) (.lit (.bool true)) [] from ⟨1, by simp [DataW.trod, Value.cells, hbool]⟩), trodAll_mk2 (hb.trod Try.laidOut (by kernel_rfl) (by decide +kernel) k0 (fun x hx => hlt x (by simp [hx]))) (hb.trod Try.laidOut (by kernel_rfl) (by decide +kernel) k1 (fun x hx => hlt x (by simp [hx]))), rfl, hb.frame _, fun h => by cases h⟩⟩

theorem blocks07_holds : Rows.MatchBlocksSaid :=
 OpenClaim.holds_of_wide 3 Try.f3 rfl rfl rfl rfl rfl rfl rfl ⟨rfl, rfl, rfl, rfl, rfl⟩ rfl rfl rfl rfl rfl (by kernel_rfl) Try.func3 (by kernel_rfl)
   (of_decide_eq_true (by kernel_rfl)) (by unfold Func.isWrapper; first | (rw [if_pos (by decide +kernel)]; kernel_rfl) | (rw [if_neg (by decide +kernel)]; exact ⟨rfl, rfl⟩))
   (fun os started H enc _ => blocks07_lifted os started H enc)

end Go.Proofs.Ytbkmahjhhncfcaa
