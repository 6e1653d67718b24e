/-
  JournalRefuses returns true whatever its arguments are, and its arguments read behind the call as they read before.
-/
import Derived.Test.YtmbjknampholjaaRows
import Derived.ProofKit
import Derived.ChangeSame
import Derived.Lib.SmallJoins
import Derived.Carry
import Derived.Test.YtmbjknampholjaaEWJoV
import Derived.Test.YtmbjknampholjaaEJm
namespace Go.Proofs.Ytmbjknampholjaa
open Go.Sl Go.ChangeShapes Go.WideShapes Go.ChangeAt Go.RowKit Go.Joins Go.Deep

theorem Try.own : ownKnob Try.prog.godebug = none := by kernel_rfl
theorem Try.laidOut : laidOutB Try.prog = true := by kernel_rfl

set_option maxHeartbeats 1000000 in
set_option maxRecDepth 100000 in
theorem jRefuses_lifted (os : Os) (started : os.Started) (H : Type) (enc : TypeId × Value → H) :
   ReturnsInHanded {} Try.checked os 7 .any (Rows.journalRefusesSpec.pre6 enc Try.prog Try.f7 Rows.journalRefusesRow.domain false) (Rows.journalRefusesSpec.post enc Try.prog Try.f7 false true false false) := by
 refine returnsInHanded_of_change (C := Try.checked) Try.own started (by kernel_rfl) Try.func7
   (ChangeSpec.witness6 (enc := enc) (C := Try.checked) false ⟨#[], #[.agg #[.int .u8 0, .int .u8 0, .int .u8 0, .int .u8 0, .int .u8 0, .int .u8 0, .int .u8 0, .int .u8 0, .int .u8 0, .int .u8 0, .int .u8 0, .int .u8 0], .agg #[.int .i16 0, .int .i16 0], .int .u8 0], []⟩ 8 (by kernel_rfl) (by kernel_rfl) (by kernel_rfl) (by kernel_rfl)) ?_
 intro W base args ds gs before hval0 hW hcnd _
 have hval : ∀ (j : Nat) t v, Try.f7.params[j]? = some t → args[j]? = some v → Value.okWide Try.prog W .any base t v := hval0
 have hW' := hW
 obtain ⟨p, q, hA0, hV, rfl, hfz, hnd⟩ := hW
 have hA : DataW.TrodAll enc Try.prog W 0 (fun _ => true) true Try.f7.params.toList args.toList ds p := hA0
 rw [Try.params7] at hA hval
 obtain ⟨v0, v1, v2, d0, d1, d2, p0, p1, p2, rfl, rfl, rfl, h0, h1, h2⟩ := trodAll_three hA
 obtain ⟨rfl, rfl⟩ := trodVars_none hV
 have k0 := h0
 have k1 := h1
 have k2 := h2
 obtain ⟨z, pp, qq, r, hr, rfl⟩ := open_rawJ ((X.ok 26 ti26 rfl).und) rfl rfl rfl rfl rfl rfl ((X.ok 5 ti5 rfl).und) ((X.ok 22 ti22 rfl).und) ((X.ok 24 ti24 rfl).und) (by kernel_rfl) (by kernel_rfl) (by kernel_rfl) (by kernel_rfl) (hval 0 26 v0 rfl rfl) h0
 obtain ⟨uw, vw, rfl, huw, hvw⟩ := open_i16x2 ((X.ok 77 ti77 rfl).und) ((X.ok 76 ti76 rfl).und) (by kernel_rfl) (by kernel_rfl) (hval 1 77 v1 rfl rfl) h1
 obtain ⟨nb, rfl, -, -, wb⟩ := open_int ((X.ok 5 ti5 rfl).und) (hval 2 5 v2 rfl rfl) h2
 obtain ⟨kb, rfl⟩ : ∃ u : UInt8, nb = (u.toNat : Int) := ⟨Go.Sl.byteOf nb, by have := Go.Sl.byteOf_eq wb; simpa using this.symm⟩
 have key := jRefuses_c z pp qq r uw vw huw hvw kb
 have hs0 : Sat (ownBase W [] []) W [] [] := by
   refine Sat.start ?_ ?_
   · intro r hr; cases hr
   · intro r hr k hk; cases hr
 refine (key.2 W hs0).mono ?_
 rintro e W' ⟨v, R', H', ⟨rfl, -, -⟩, rfl, hs⟩
 have hb := hs.below
 have hlt := hW'.lt
 have hbool : Try.prog.underlying 4 = some .bool := ((X.ok 4 ti4 rfl).und)
 refine ⟨_, rfl, ⟨[d0, d1, d2], [], _, [], _, [], hW', trodAll_mk1 (show DataW.Trod enc Try.prog W' _ _ _ 4 (.bool true) (.lit (.bool true)) [] from ⟨1, by simp [DataW.trod, Value.cells, hbool]⟩), trodAll_mk3 (hb.trod Try.laidOut (by kernel_rfl) (by decide +kernel) k0 (fun x hx => hlt x (by simp [hx]))) (hb.trod Try.laidOut (by kernel_rfl) (by decide +kernel) k1 (fun x hx => hlt x (by simp [hx]))) (hb.trod Try.laidOut (by kernel_rfl) (by decide +kernel) k2 (fun x hx => hlt x (by simp [hx]))), rfl, hb.frame _, fun h => by cases h⟩⟩

theorem jRefuses_holds : Rows.JournalRefusesSaid :=
 OpenClaim.holds_of_wide 7 Try.f7 rfl rfl rfl rfl rfl rfl rfl ⟨rfl, rfl, rfl, rfl, rfl⟩ rfl rfl rfl rfl rfl (by kernel_rfl) Try.func7 (by kernel_rfl)
   (of_decide_eq_true (by kernel_rfl)) (by unfold Func.isWrapper; first | (rw [if_pos (by decide +kernel)]; kernel_rfl) | (rw [if_neg (by decide +kernel)]; exact ⟨rfl, rfl⟩))
   (fun os started H enc _ => jRefuses_lifted os started H enc)

end Go.Proofs.Ytmbjknampholjaa
