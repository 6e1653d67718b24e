/-
  FlashReaches returns true whatever its arguments are, and its arguments read behind the call as they read before.
-/
import Derived.Test.YthfjkdgopkmgoaaRows
import Derived.Test.YthfjkdgopkmgoaaWFlS
import Derived.Test.YthfjkdgopkmgoaaLj
import Derived.ProofKit
import Derived.ChangeSame
import Derived.Lib.SmallJoins
import Derived.Carry
namespace Go.Proofs.Ythfjkdgopkmgoaa
open Go.Sl Go.ChangeShapes Go.WideShapes Go.ChangeAt Go.RowKit Go.Joins Go.Deep

theorem Try.own : ownKnob Try.prog.godebug = none := by kernel_rfl
theorem Try.laidOut : laidOutB Try.prog = true := by kernel_rfl

set_option maxHeartbeats 1000000 in
set_option maxRecDepth 100000 in
theorem reaches_lifted (os : Os) (started : os.Started) (H : Type) (enc : TypeId × Value → H) :
    ReturnsInHanded {} Try.checked os 15 .any (Rows.flashReachesSpec.pre6 enc Try.prog Try.f15 Rows.flashReachesRow.domain false) (Rows.flashReachesSpec.post enc Try.prog Try.f15 false true false false) := by
  refine returnsInHanded_of_change (C := Try.checked) Try.own started (by kernel_rfl) Try.func15
    (ChangeSpec.witness6 (enc := enc) (C := Try.checked) false ⟨#[], #[.agg #[.int .u8 0, .slice none 0 0, .slice none 0 0, .int .u8 0], .slice none 0 0, .slice none 0 0], []⟩ 8 (by kernel_rfl) (by kernel_rfl) (by kernel_rfl) (by kernel_rfl)) ?_
  intro W base args ds gs before hval0 hW hcnd _
  have hval : ∀ (j : Nat) t v, Try.f15.params[j]? = some t → args[j]? = some v → Value.okWide Try.prog W .any base t v := hval0
  have hW' := hW
  obtain ⟨p, q, hA0, hV, rfl, hfz, hnd⟩ := hW
  have hA : DataW.TrodAll enc Try.prog W 0 (fun _ => true) true Try.f15.params.toList args.toList ds p := hA0
  rw [Try.params15] at hA hval
  obtain ⟨v0, v1, v2, d0, d1, d2, p0, p1, p2, rfl, rfl, rfl, h0, h1, h2⟩ := trodAll_three hA
  obtain ⟨rfl, rfl⟩ := trodVars_none hV
  have k0 := h0
  have k1 := h1
  have k2 := h2
  obtain ⟨c0, c1, c2, c3, y0, y1, y2, y3, m0, rfl, -, -, t0, t1, t2, t3⟩ := open_agg4 ((X.ok 75 ti75 rfl).und) (by kernel_rfl) (by kernel_rfl) (hval 0 75 v0 rfl rfl) h0
  obtain ⟨n0, hc0, -, w0⟩ := DataW.trod_int ((X.ok 5 ti5 rfl).und) t0
  obtain ⟨n3, hc3, -, w3⟩ := DataW.trod_int ((X.ok 5 ti5 rfl).und) t3
  obtain ⟨RD, rc, rhs, rd, hc1, hrh, -, hrl, hrr, fD, fK⟩ := open_rows ((X.ok 28 ti28 rfl).und) ((X.ok 24 ti24 rfl).und) ((X.ok 5 ti5 rfl).und) (by kernel_rfl) (by kernel_rfl) t1
  obtain ⟨RW, rwc, rw', hc2, -, hrw, fW⟩ := open_U8 ((X.ok 24 ti24 rfl).und) ((X.ok 5 ti5 rfl).und) (by kernel_rfl) t2
  obtain rfl := (List.cons.inj hc0).1
  obtain rfl := (List.cons.inj hc1).1
  obtain rfl := (List.cons.inj hc2).1
  obtain rfl := (List.cons.inj hc3).1
  obtain ⟨u0, rfl⟩ : ∃ u : UInt8, n0 = (u.toNat : Int) := ⟨Go.Sl.byteOf n0, by have := Go.Sl.byteOf_eq w0; simpa using this.symm⟩
  obtain ⟨u3, rfl⟩ : ∃ u : UInt8, n3 = (u.toNat : Int) := ⟨Go.Sl.byteOf n3, by have := Go.Sl.byteOf_eq w3; simpa using this.symm⟩
  obtain ⟨LA, lc, sL, rfl, hLl, hLs, fL, fLY, fLM⟩ := open_steps ((X.ok 95 ti95 rfl).und) ((X.ok 90 ti90 rfl).und) (by kernel_rfl) (by kernel_rfl) rfl rfl rfl rfl rfl rfl ((X.ok 4 ti4 rfl).und) ((X.ok 5 ti5 rfl).und) ((X.ok 24 ti24 rfl).und) (by kernel_rfl) (hval 1 95 v1 rfl rfl) h1
  obtain ⟨QA, qc, ql, rfl, -, hql, fQ⟩ := open_bytesV ((X.ok 24 ti24 rfl).und) ((X.ok 5 ti5 rfl).und) (by kernel_rfl) (hval 2 24 v2 rfl rfl) h2
  have hM : maxLen = 9223372036854775807 := by decide
  rw [hM] at hrl hrw hLl hql
  have key := reaches_c u0 rd rw' u3 RD RW rc rwc rhs hrh hrl (fun i => hM ▸ hrr i) hrw LA QA lc qc sL ql hLl hql (fun k => hM ▸ hLs k)
  have hs0 : Sat (ownBase W [Rd RD (rowsV rhs (B8 rd)), KidsR rhs (B8 rd), Rd RW (U8 rw'), Rd LA (stepsV sL), KidsR (stepsY sL) (B8 (sL.map Stp6.data)), KidsR (stepsM sL) (B8 (sL.map Stp6.mask)), Rd QA (U8 ql)] []) W [Rd RD (rowsV rhs (B8 rd)), KidsR rhs (B8 rd), Rd RW (U8 rw'), Rd LA (stepsV sL), KidsR (stepsY sL) (B8 (sL.map Stp6.data)), KidsR (stepsM sL) (B8 (sL.map Stp6.mask)), Rd QA (U8 ql)] [] := by
    refine Sat.start ?_ ?_
    · intro r hr
      simp only [List.mem_cons, List.not_mem_nil, or_false] at hr
      rcases hr with rfl | rfl | rfl | rfl | rfl | rfl | rfl <;> assumption
    · intro r hr k hk
      simp only [List.mem_cons, List.not_mem_nil, or_false] at hr
      rcases hr with rfl | rfl | rfl | rfl | rfl | rfl | rfl
      · exact Go.Sl.Rd.lt fD hk
      · exact Go.Sl.KidsR.lt fK hk
      · exact Go.Sl.Rd.lt fW hk
      · exact Go.Sl.Rd.lt fL hk
      · exact Go.Sl.KidsR.lt fLY hk
      · exact Go.Sl.KidsR.lt fLM hk
      · exact Go.Sl.Rd.lt fQ hk
  refine (key.2 W hs0).mono ?_
  rintro e W' ⟨v, R', H', ⟨rfl, -, -⟩, rfl, hs⟩
  have hb := hs.below
  have hlt := hW'.lt
  have hbool : Try.prog.underlying 4 = some .bool := ((X.ok 4 ti4 rfl).und)
  refine ⟨_, rfl, ⟨[d0, d1, d2], [], _, [], _, [], hW', trodAll_mk1 (show DataW.Trod enc Try.prog W' _ _ _ 4 (.bool true) (.lit (.bool true)) [] from ⟨1, by simp [DataW.trod, Value.cells, hbool]⟩), trodAll_mk3 (hb.trod Try.laidOut (by kernel_rfl) (by decide +kernel) k0 (fun x hx => hlt x (by simp [hx]))) (hb.trod Try.laidOut (by kernel_rfl) (by decide +kernel) k1 (fun x hx => hlt x (by simp [hx]))) (hb.trod Try.laidOut (by kernel_rfl) (by decide +kernel) k2 (fun x hx => hlt x (by simp [hx]))), rfl, hb.frame _, fun h => by cases h⟩⟩

theorem reaches_holds : Rows.FlashReachesSaid :=
  OpenClaim.holds_of_wide 15 Try.f15 rfl rfl rfl rfl rfl rfl rfl ⟨rfl, rfl, rfl, rfl, rfl⟩ rfl rfl rfl rfl rfl (by kernel_rfl) Try.func15 (by kernel_rfl)
    (of_decide_eq_true (by kernel_rfl)) (by unfold Func.isWrapper; first | (rw [if_pos (by decide +kernel)]; kernel_rfl) | (rw [if_neg (by decide +kernel)]; exact ⟨rfl, rfl⟩))
    (fun os started H enc _ => reaches_lifted os started H enc)

end Go.Proofs.Ythfjkdgopkmgoaa
