/-
  MatchMoves returns true whatever its arguments are, and its arguments read behind the call as they read before.
-/
import Derived.Test.YtbkmahjhhncfcaaGreatRows
import Derived.ProofKit
import Derived.ChangeSame
import Derived.Lib.SmallJoins
import Derived.Carry
import Derived.Test.YtbkmahjhhncfcaaGreatQWMtT
import Derived.Test.YtbkmahjhhncfcaaGreatQOg
import Derived.Test.YtbkmahjhhncfcaaGreatQPl
namespace Go.Proofs.YtbkmahjhhncfcaaGreat
open Go.Sl Go.ChangeShapes Go.WideShapes Go.ChangeAt Go.RowKit Go.Joins Go.Deep

theorem Tryz.own : ownKnob Tryz.prog.godebug = none := by kernel_rfl
theorem Tryz.laidOut : laidOutB Tryz.prog = true := by kernel_rfl

set_option maxHeartbeats 1000000 in
set_option maxRecDepth 100000 in
theorem mmoves07_lifted (os : Os) (started : os.Started) (H : Type) (enc : TypeId × Value → H) :
   ReturnsInHanded {} Tryz.checked os 7 .any (Rows.matchMovesSpec.pre6 enc Tryz.prog Tryz.f7 Rows.matchMovesRow.domain false) (Rows.matchMovesSpec.post enc Tryz.prog Tryz.f7 false true false false) := by
 refine returnsInHanded_of_change (C := Tryz.checked) Tryz.own started (by kernel_rfl) Tryz.func7
   (ChangeSpec.witness6 (enc := enc) (C := Tryz.checked) false ⟨#[], #[.slice none 0 0, .int .u8 0, .int .u8 0], []⟩ 8 (by kernel_rfl) (by kernel_rfl) (by kernel_rfl) (by kernel_rfl)) ?_
 intro W base args ds gs before hval0 hW hcnd _
 have hval : ∀ (j : Nat) t v, Tryz.f7.params[j]? = some t → args[j]? = some v → Value.okWide Tryz.prog W .any base t v := hval0
 have hW' := hW
 obtain ⟨p, q, hA0, hV, rfl, hfz, hnd⟩ := hW
 have hA : DataW.TrodAll enc Tryz.prog W 0 (fun _ => true) true Tryz.f7.params.toList args.toList ds p := hA0
 rw [Tryz.params7] at hA hval
 obtain ⟨v0, v1, v2, d0, d1, d2, p0, p1, p2, rfl, rfl, rfl, h0, h1, h2⟩ := trodAll_three hA
 obtain ⟨rfl, rfl⟩ := trodVars_none hV
 have k0 := h0
 have k1 := h1
 have k2 := h2
 obtain ⟨LAf, lcf, lf, rfl, hllf, fPf⟩ := open_fours ((X.ok 24 ti24 rfl).und) ((X.ok 76 ti76 rfl).und) ((X.ok 5 ti5 rfl).und) (by kernel_rfl) (by kernel_rfl) (hval 0 24 v0 rfl rfl) h0
 obtain ⟨na, rfl, -, -, wa⟩ := open_int ((X.ok 5 ti5 rfl).und) (hval 1 5 v1 rfl rfl) h1
 obtain ⟨ka, rfl⟩ : ∃ u : UInt8, na = (u.toNat : Int) := ⟨Go.Sl.byteOf na, by have := Go.Sl.byteOf_eq wa; simpa using this.symm⟩
 obtain ⟨nb, rfl, -, -, wb⟩ := open_int ((X.ok 5 ti5 rfl).und) (hval 2 5 v2 rfl rfl) h2
 obtain ⟨kb, rfl⟩ : ∃ u : UInt8, nb = (u.toNat : Int) := ⟨Go.Sl.byteOf nb, by have := Go.Sl.byteOf_eq wb; simpa using this.symm⟩
 have hM : maxLen = 9223372036854775807 := by decide
 rw [hM] at hllf
 have key := mmoves07_c LAf lf lcf ka kb (by have := hllf; omega)
 have hs0 : Sat (ownBase W [Rd LAf (frV lf)] []) W [Rd LAf (frV lf)] [] := by
   refine Sat.start ?_ ?_
   · intro r hr
     simp only [List.mem_cons, List.not_mem_nil, or_false] at hr
     rcases hr with rfl <;> assumption
   · intro r hr k hk
     simp only [List.mem_cons, List.not_mem_nil, or_false] at hr
     rcases hr with rfl
     · exact Go.Sl.Rd.lt fPf hk
 refine (key.2 W hs0).mono ?_
 rintro e W' ⟨v, R', H', ⟨rfl, -, -⟩, rfl, hs⟩
 have hb := hs.below
 have hlt := hW'.lt
 have hbool : Tryz.prog.underlying 4 = some .bool := ((X.ok 4 ti4 rfl).und)
 refine ⟨_, rfl, ⟨[d0, d1, d2], [], _, [], _, [], hW', trodAll_mk1 (show DataW.Trod enc Tryz.prog W' _ _ _ 4 (.bool true) (.lit (.bool true)) [] from ⟨1, by simp [DataW.trod, Value.cells, hbool]⟩), trodAll_mk3 (hb.trod Tryz.laidOut (by kernel_rfl) (by decide +kernel) k0 (fun x hx => hlt x (by simp [hx]))) (hb.trod Tryz.laidOut (by kernel_rfl) (by decide +kernel) k1 (fun x hx => hlt x (by simp [hx]))) (hb.trod Tryz.laidOut (by kernel_rfl) (by decide +kernel) k2 (fun x hx => hlt x (by simp [hx]))), rfl, hb.frame _, fun h => by cases h⟩⟩

theorem mmoves07_holds : Rows.MatchMovesSaid :=
 OpenClaim.holds_of_wide 7 Tryz.f7 rfl rfl rfl rfl rfl rfl rfl ⟨rfl, rfl, rfl, rfl, rfl⟩ rfl rfl rfl rfl rfl (by kernel_rfl) Tryz.func7 (by kernel_rfl)
   (of_decide_eq_true (by kernel_rfl)) (by unfold Func.isWrapper; first | (rw [if_pos (by decide +kernel)]; kernel_rfl) | (rw [if_neg (by decide +kernel)]; exact ⟨rfl, rfl⟩))
   (fun os started H enc _ => mmoves07_lifted os started H enc)

end Go.Proofs.YtbkmahjhhncfcaaGreat
