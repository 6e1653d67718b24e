/-
  PlanMatchesReference returns true whatever its arguments are, and its arguments read behind the call as they read before.
-/
import Derived.Test.YtpccfdnmnnnboaaGreatRows
import Derived.ProofKit
import Derived.ChangeSame
import Derived.Lib.SmallJoins
import Derived.Carry
import Derived.Test.YtpccfdnmnnnboaaGreatQWPlP
import Derived.Test.YtpccfdnmnnnboaaGreatQLi
namespace Go.Proofs.YtpccfdnmnnnboaaGreat
open Go.Sl Go.ChangeShapes Go.WideShapes Go.ChangeAt Go.RowKit Go.Joins Go.Deep

theorem Tryz.own : ownKnob Tryz.prog.godebug = none := by kernel_rfl
theorem Tryz.laidOut : laidOutB Tryz.prog = true := by kernel_rfl

set_option maxHeartbeats 1000000 in
set_option maxRecDepth 100000 in
theorem pMatches_lifted (os : Os) (started : os.Started) (H : Type) (enc : TypeId × Value → H) :
   ReturnsInHanded {} Tryz.checked os 3 .any (Rows.planMatchesReferenceSpec.pre6 enc Tryz.prog Tryz.f3 Rows.planMatchesReferenceRow.domain false) (Rows.planMatchesReferenceSpec.post enc Tryz.prog Tryz.f3 false true false false) := by
 refine returnsInHanded_of_change (C := Tryz.checked) Tryz.own started (by kernel_rfl) Tryz.func3
   (ChangeSpec.witness6 (enc := enc) (C := Tryz.checked) false ⟨#[], #[.agg #[.slice none 0 0, .int .u8 0, .int .u8 0, .slice none 0 0], .agg #[.int .u8 0, .int .u8 0, .int .u8 0, .int .u8 0, .int .u8 0]], []⟩ 8 (by kernel_rfl) (by kernel_rfl) (by kernel_rfl) (by kernel_rfl)) ?_
 intro W base args ds gs before hval0 hW hcnd _
 have hval : ∀ (j : Nat) t v, Tryz.f3.params[j]? = some t → args[j]? = some v → Value.okWide Tryz.prog W .any base t v := hval0
 have hW' := hW
 obtain ⟨p, q, hA0, hV, rfl, hfz, hnd⟩ := hW
 have hA : DataW.TrodAll enc Tryz.prog W 0 (fun _ => true) true Tryz.f3.params.toList args.toList ds p := hA0
 rw [Tryz.params3] at hA hval
 obtain ⟨v0, v1, d0, d1, p0, p1, rfl, rfl, rfl, h0, h1⟩ := trodAll_two hA
 obtain ⟨rfl, rfl⟩ := trodVars_none hV
 have k0 := h0
 have k1 := h1
 obtain ⟨c0, c1, c2, c3, y0, y1, y2, y3, m0, rfl, -, -, t0, t1, t2, t3⟩ := open_agg4 ((X.ok 25 ti25 rfl).und) (by kernel_rfl) (by kernel_rfl) (hval 0 25 v0 rfl rfl) h0
 obtain ⟨LA, lc, l, hc0, hll, fP⟩ := open_tris ((X.ok 22 ti22 rfl).und) ((X.ok 139 ti139 rfl).und) ((X.ok 5 ti5 rfl).und) (by kernel_rfl) (by kernel_rfl) t0
 obtain ⟨n1, hc1, -, w1⟩ := DataW.trod_int ((X.ok 5 ti5 rfl).und) t1
 obtain ⟨n2, hc2, -, w2⟩ := DataW.trod_int ((X.ok 5 ti5 rfl).und) t2
 obtain ⟨QA, qc, ql, hc3, -, hql, fQ⟩ := open_U8 ((X.ok 23 ti23 rfl).und) ((X.ok 5 ti5 rfl).und) (by kernel_rfl) t3
 obtain rfl := (List.cons.inj hc0).1
 obtain rfl := (List.cons.inj hc1).1
 obtain rfl := (List.cons.inj hc2).1
 obtain rfl := (List.cons.inj hc3).1
 obtain ⟨u1, rfl⟩ : ∃ u : UInt8, n1 = (u.toNat : Int) := ⟨Go.Sl.byteOf n1, by have := Go.Sl.byteOf_eq w1; simpa using this.symm⟩
 obtain ⟨u2, rfl⟩ : ∃ u : UInt8, n2 = (u.toNat : Int) := ⟨Go.Sl.byteOf n2, by have := Go.Sl.byteOf_eq w2; simpa using this.symm⟩
 obtain ⟨w0, w1, w2, w3, w4, rfl⟩ := open_u8x5 ((X.ok 26 ti26 rfl).und) ((X.ok 5 ti5 rfl).und) (by kernel_rfl) (by kernel_rfl) (hval 1 26 v1 rfl rfl) h1
 have hM : maxLen = 9223372036854775807 := by decide
 rw [hM] at hll hql
 have key := pMatches_c LA l lc hll u1 u2 QA ql qc hql w0 w1 w2 w3 w4
 have hs0 : Sat (ownBase W [Rd LA (triV l), Rd QA (U8 ql)] []) W [Rd LA (triV l), Rd QA (U8 ql)] [] := by
   refine Sat.start ?_ ?_
   · intro r hr
     simp only [List.mem_cons, List.not_mem_nil, or_false] at hr
     rcases hr with rfl | rfl <;> assumption
   · intro r hr k hk
     simp only [List.mem_cons, List.not_mem_nil, or_false] at hr
     rcases hr with rfl | rfl
     · exact Go.Sl.Rd.lt fP hk
     · exact Go.Sl.Rd.lt fQ hk
 refine (key.2 W hs0).mono ?_
 rintro e W' ⟨v, R', H', ⟨rfl, -, -⟩, rfl, hs⟩
 have hb := hs.below
 have hlt := hW'.lt
 have hbool : Tryz.prog.underlying 4 = some .bool := ((X.ok 4 ti4 rfl).und)
 refine ⟨_, rfl, ⟨[d0, d1], [], _, [], _, [], hW', trodAll_mk1 (show DataW.Trod enc Tryz.prog W' _ _ _ 4 (.bool true) (.lit (.bool true)) [] from ⟨1, by simp [DataW.trod, Value.cells, hbool]⟩), trodAll_mk2 (hb.trod Tryz.laidOut (by kernel_rfl) (by decide +kernel) k0 (fun x hx => hlt x (by simp [hx]))) (hb.trod Tryz.laidOut (by kernel_rfl) (by decide +kernel) k1 (fun x hx => hlt x (by simp [hx]))), rfl, hb.frame _, fun h => by cases h⟩⟩

theorem pMatches_holds : Rows.PlanMatchesReferenceSaid :=
 OpenClaim.holds_of_wide 3 Tryz.f3 rfl rfl rfl rfl rfl rfl rfl ⟨rfl, rfl, rfl, rfl, rfl⟩ rfl rfl rfl rfl rfl (by kernel_rfl) Tryz.func3 (by kernel_rfl)
   (of_decide_eq_true (by kernel_rfl)) (by unfold Func.isWrapper; first | (rw [if_pos (by decide +kernel)]; kernel_rfl) | (rw [if_neg (by decide +kernel)]; exact ⟨rfl, rfl⟩))
   (fun os started H enc _ => pMatches_lifted os started H enc)

end Go.Proofs.YtpccfdnmnnnboaaGreat
