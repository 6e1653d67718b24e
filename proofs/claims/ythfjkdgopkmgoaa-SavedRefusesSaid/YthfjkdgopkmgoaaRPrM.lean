/-
  SavedRefuses returns true whatever its arguments are, and its arguments read behind the call as they read before.
-/
import Derived.Test.YthfjkdgopkmgoaaRows
import Derived.ProofKit
import Derived.ChangeSame
import Derived.Lib.SmallJoins
import Derived.Carry
import Derived.Test.YthfjkdgopkmgoaaRWSvM
import Derived.Test.YthfjkdgopkmgoaaRLk
namespace Go.Proofs.Ythfjkdgopkmgoaa
open Go.Sl Go.ChangeShapes Go.WideShapes Go.ChangeAt Go.RowKit Go.Joins Go.Deep

theorem Try.own : ownKnob Try.prog.godebug = none := by kernel_rfl
theorem Try.laidOut : laidOutB Try.prog = true := by kernel_rfl

set_option maxHeartbeats 1000000 in
set_option maxRecDepth 100000 in
theorem sRefuses_lifted (os : Os) (started : os.Started) (H : Type) (enc : TypeId × Value → H) :
    ReturnsInHanded {} Try.checked os 8 .any (Rows.savedRefusesSpec.pre6 enc Try.prog Try.f8 Rows.savedRefusesRow.domain false) (Rows.savedRefusesSpec.post enc Try.prog Try.f8 false true false false) := by
  refine returnsInHanded_of_change (C := Try.checked) Try.own started (by kernel_rfl) Try.func8
    (ChangeSpec.witness6 (enc := enc) (C := Try.checked) false ⟨#[], #[.agg #[.int .i64 0, .slice none 0 0, .slice none 0 0], .slice none 0 0, .agg #[.int .u8 0, .int .u8 0, .int .u8 0, .int .u8 0]], []⟩ 8 (by kernel_rfl) (by kernel_rfl) (by kernel_rfl) (by kernel_rfl)) ?_
  intro W base args ds gs before hval0 hW hcnd _
  have hval : ∀ (j : Nat) t v, Try.f8.params[j]? = some t → args[j]? = some v → Value.okWide Try.prog W .any base t v := hval0
  have hW' := hW
  obtain ⟨p, q, hA0, hV, rfl, hfz, hnd⟩ := hW
  have hA : DataW.TrodAll enc Try.prog W 0 (fun _ => true) true Try.f8.params.toList args.toList ds p := hA0
  rw [Try.params8] at hA hval
  obtain ⟨v0, v1, v2, d0, d1, d2, p0, p1, p2, rfl, rfl, rfl, h0, h1, h2⟩ := trodAll_three hA
  obtain ⟨rfl, rfl⟩ := trodVars_none hV
  have k0 := h0
  have k1 := h1
  have k2 := h2
  obtain ⟨c0c, c1c, c2c, y0c, y1c, y2c, m0c, rfl, -, -, t0c, t1c, t2c⟩ := open_agg3 ((X.ok 39 ti39 rfl).und) (by kernel_rfl) (by kernel_rfl) (hval 0 39 v0 rfl rfl) h0
  obtain ⟨n0c, hc0c, -, w0c⟩ := DataW.trod_int ((X.ok 3 ti3 rfl).und) t0c
  obtain ⟨GAc, gcc, glc, hc1c, hgcc, hglc, fGc⟩ := open_U8 ((X.ok 24 ti24 rfl).und) ((X.ok 5 ti5 rfl).und) (by kernel_rfl) t1c
  obtain ⟨HAc, hcc, hlc, hc2c, hhcc, hhlc, fHc⟩ := open_U8 ((X.ok 24 ti24 rfl).und) ((X.ok 5 ti5 rfl).und) (by kernel_rfl) t2c
  obtain rfl := (List.cons.inj hc0c).1
  obtain rfl := (List.cons.inj hc1c).1
  obtain rfl := (List.cons.inj hc2c).1
  obtain ⟨QA, qc, ql, rfl, -, hql, fQ⟩ := open_bytesV ((X.ok 24 ti24 rfl).und) ((X.ok 5 ti5 rfl).und) (by kernel_rfl) (hval 1 24 v1 rfl rfl) h1
  obtain ⟨w0, w1, w2, w3, rfl⟩ := open_u8x4 ((X.ok 70 ti70 rfl).und) ((X.ok 5 ti5 rfl).und) (by kernel_rfl) (by kernel_rfl) (hval 2 70 v2 rfl rfl) h2
  have hM : maxLen = 9223372036854775807 := by decide
  rw [hM] at hglc hhlc hql
  have key := sRefuses_c n0c glc hlc ql GAc HAc QA gcc hcc qc hgcc hglc hhcc hhlc hql w0 w1 w2 w3
  have hs0 : Sat (ownBase W [Rd GAc (U8 glc), Rd HAc (U8 hlc), Rd QA (U8 ql)] []) W [Rd GAc (U8 glc), Rd HAc (U8 hlc), Rd QA (U8 ql)] [] := by
    refine Sat.start ?_ ?_
    · intro r hr
      simp only [List.mem_cons, List.not_mem_nil, or_false] at hr
      rcases hr with rfl | rfl | rfl <;> assumption
    · intro r hr k hk
      simp only [List.mem_cons, List.not_mem_nil, or_false] at hr
      rcases hr with rfl | rfl | rfl
      · exact Go.Sl.Rd.lt fGc hk
      · exact Go.Sl.Rd.lt fHc hk
      · exact Go.Sl.Rd.lt fQ hk
  refine (key.2 W hs0).mono ?_
  rintro e W' ⟨v, R', H', ⟨rfl, -, -⟩, rfl, hs⟩
  have hb := hs.below
  have hlt := hW'.lt
  have hbool : Try.prog.underlying 4 = some .bool := ((X.ok 4 ti4 rfl).und)
  refine ⟨_, rfl, ⟨[d0, d1, d2], [], _, [], _, [], hW', trodAll_mk1 (show DataW.Trod enc Try.prog W' _ _ _ 4 (.bool true) (.lit (.bool true)) [] from ⟨1, by simp [DataW.trod, Value.cells, hbool]⟩), trodAll_mk3 (hb.trod Try.laidOut (by kernel_rfl) (by decide +kernel) k0 (fun x hx => hlt x (by simp [hx]))) (hb.trod Try.laidOut (by kernel_rfl) (by decide +kernel) k1 (fun x hx => hlt x (by simp [hx]))) (hb.trod Try.laidOut (by kernel_rfl) (by decide +kernel) k2 (fun x hx => hlt x (by simp [hx]))), rfl, hb.frame _, fun h => by cases h⟩⟩

theorem sRefuses_holds : Rows.SavedRefusesSaid :=
  OpenClaim.holds_of_wide 8 Try.f8 rfl rfl rfl rfl rfl rfl rfl ⟨rfl, rfl, rfl, rfl, rfl⟩ rfl rfl rfl rfl rfl (by kernel_rfl) Try.func8 (by kernel_rfl)
    (of_decide_eq_true (by kernel_rfl)) (by unfold Func.isWrapper; first | (rw [if_pos (by decide +kernel)]; kernel_rfl) | (rw [if_neg (by decide +kernel)]; exact ⟨rfl, rfl⟩))
    (fun os started H enc _ => sRefuses_lifted os started H enc)

end Go.Proofs.Ythfjkdgopkmgoaa
