/-
  MatchCheapest returns true whatever its arguments are, and its arguments read behind the call as they read before.
-/
import Derived.Test.YtbkmahjhhncfcaaGreatRows
import Derived.ProofKit
import Derived.ChangeSame
import Derived.Lib.SmallJoins
import Derived.Carry
import Derived.Test.YtbkmahjhhncfcaaGreatUWMtP
import Derived.Test.YtbkmahjhhncfcaaGreatULi
namespace Go.Proofs.YtbkmahjhhncfcaaGreat
open Go.Sl Go.ChangeShapes Go.WideShapes Go.ChangeAt Go.RowKit Go.Joins Go.Deep

theorem Tryz.own : ownKnob Tryz.prog.godebug = none := by kernel_rfl
theorem Tryz.laidOut : laidOutB Tryz.prog = true := by kernel_rfl

set_option maxHeartbeats 1000000 in
set_option maxRecDepth 100000 in
theorem cheap07_lifted (os : Os) (started : os.Started) (H : Type) (enc : TypeId × Value → H) :
   ReturnsInHanded {} Tryz.checked os 4 .any (Rows.matchCheapestSpec.pre6 enc Tryz.prog Tryz.f4 Rows.matchCheapestRow.domain false) (Rows.matchCheapestSpec.post enc Tryz.prog Tryz.f4 false true false false) := by
 refine returnsInHanded_of_change (C := Tryz.checked) Tryz.own started (by kernel_rfl) Tryz.func4
   (ChangeSpec.witness6 (enc := enc) (C := Tryz.checked) false ⟨#[], #[.agg #[.int .u8 0, .slice none 0 0], .slice none 0 0], []⟩ 8 (by kernel_rfl) (by kernel_rfl) (by kernel_rfl) (by kernel_rfl)) ?_
 intro W base args ds gs before hval0 hW hcnd _
 have hval : ∀ (j : Nat) t v, Tryz.f4.params[j]? = some t → args[j]? = some v → Value.okWide Tryz.prog W .any base t v := hval0
 have hW' := hW
 obtain ⟨p, q, hA0, hV, rfl, hfz, hnd⟩ := hW
 have hA : DataW.TrodAll enc Tryz.prog W 0 (fun _ => true) true Tryz.f4.params.toList args.toList ds p := hA0
 rw [Tryz.params4] at hA hval
 obtain ⟨v0, v1, d0, d1, p0, p1, rfl, rfl, rfl, h0, h1⟩ := trodAll_two hA
 obtain ⟨rfl, rfl⟩ := trodVars_none hV
 have k0 := h0
 have k1 := h1
 obtain ⟨c0r, c1r, y0r, y1r, m0r, rfl, -, -, t0r, t1r⟩ := open_agg2 ((X.ok 47 ti47 rfl).und) (by kernel_rfl) (by kernel_rfl) (hval 0 47 v0 rfl rfl) h0
 obtain ⟨n0r, hc0r, -, w0r⟩ := DataW.trod_int ((X.ok 5 ti5 rfl).und) t0r
 obtain ⟨LAr, lcr, lr, hc1r, hllr, fPr⟩ := open_foursC ((X.ok 45 ti45 rfl).und) ((X.ok 75 ti75 rfl).und) ((X.ok 5 ti5 rfl).und) (by kernel_rfl) (by kernel_rfl) t1r
 obtain rfl := (List.cons.inj hc0r).1
 obtain rfl := (List.cons.inj hc1r).1
 obtain ⟨u0r, rfl⟩ : ∃ u : UInt8, n0r = (u.toNat : Int) := ⟨Go.Sl.byteOf n0r, by have := Go.Sl.byteOf_eq w0r; simpa using this.symm⟩
 obtain ⟨QA, qc, ql, rfl, hqc, hql, fQ⟩ := open_bytesV ((X.ok 22 ti22 rfl).und) ((X.ok 5 ti5 rfl).und) (by kernel_rfl) (hval 1 22 v1 rfl rfl) h1
 have hM : maxLen = 9223372036854775807 := by decide
 rw [hM] at hllr hql
 have key := cheap07_c QA LAr ql lr qc lcr u0r hqc (by have := hllr; omega)
 have hs0 : Sat (ownBase W [Rd LAr (frV lr), Rd QA (U8 ql)] []) W [Rd LAr (frV lr), Rd QA (U8 ql)] [] := by
   refine Sat.start ?_ ?_
   · intro r hr
     simp only [List.mem_cons, List.not_mem_nil, or_false] at hr
     rcases hr with rfl | rfl <;> assumption
   · intro r hr k hk
     simp only [List.mem_cons, List.not_mem_nil, or_false] at hr
     rcases hr with rfl | rfl
     · exact Go.Sl.Rd.lt fPr hk
     · exact Go.Sl.Rd.lt fQ hk
 refine (key.2 W hs0).mono ?_
 rintro e W' ⟨v, R', H', ⟨rfl, -, -⟩, rfl, hs⟩
 have hb := hs.below
 have hlt := hW'.lt
 have hbool : Tryz.prog.underlying 4 = some .bool := ((X.ok 4 ti4 rfl).und)
 refine ⟨_, rfl, ⟨[d0, d1], [], _, [], _, [], hW', trodAll_mk1 (show DataW.Trod enc Tryz.prog W' _ _ _ 4 (.bool true) (.lit (.bool true)) [] from ⟨1, by simp [DataW.trod, Value.cells, hbool]⟩), trodAll_mk2 (hb.trod Tryz.laidOut (by kernel_rfl) (by decide +kernel) k0 (fun x hx => hlt x (by simp [hx]))) (hb.trod Tryz.laidOut (by kernel_rfl) (by decide +kernel) k1 (fun x hx => hlt x (by simp [hx]))), rfl, hb.frame _, fun h => by cases h⟩⟩

theorem cheap07_holds : Rows.MatchCheapestSaid :=
 OpenClaim.holds_of_wide 4 Tryz.f4 rfl rfl rfl rfl rfl rfl rfl ⟨rfl, rfl, rfl, rfl, rfl⟩ rfl rfl rfl rfl rfl (by kernel_rfl) Tryz.func4 (by kernel_rfl)
   (of_decide_eq_true (by kernel_rfl)) (by unfold Func.isWrapper; first | (rw [if_pos (by decide +kernel)]; kernel_rfl) | (rw [if_neg (by decide +kernel)]; exact ⟨rfl, rfl⟩))
   (fun os started H enc _ => cheap07_lifted os started H enc)

end Go.Proofs.YtbkmahjhhncfcaaGreat
