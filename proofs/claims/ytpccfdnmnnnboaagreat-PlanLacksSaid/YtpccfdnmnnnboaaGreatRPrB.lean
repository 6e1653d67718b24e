/-
  PlanLacks returns true whatever its arguments are, and its arguments read behind the call as they read before.
-/
import Derived.Test.YtpccfdnmnnnboaaGreatRows
import Derived.ProofKit
import Derived.ChangeSame
import Derived.Lib.SmallJoins
import Derived.Carry
import Derived.Test.YtpccfdnmnnnboaaGreatRWPlQ
import Derived.Test.YtpccfdnmnnnboaaGreatRLi
namespace Go.Proofs.YtpccfdnmnnnboaaGreat
open Go.Sl Go.ChangeShapes Go.WideShapes Go.ChangeAt Go.RowKit Go.Joins Go.Deep

theorem Tryz.own : ownKnob Tryz.prog.godebug = none := by kernel_rfl
theorem Tryz.laidOut : laidOutB Tryz.prog = true := by kernel_rfl

set_option maxHeartbeats 1000000 in
set_option maxRecDepth 100000 in
theorem pLacks_lifted (os : Os) (started : os.Started) (H : Type) (enc : TypeId × Value → H) :
   ReturnsInHanded {} Tryz.checked os 9 .any (Rows.planLacksSpec.pre6 enc Tryz.prog Tryz.f9 Rows.planLacksRow.domain false) (Rows.planLacksSpec.post enc Tryz.prog Tryz.f9 false true false false) := by
 refine returnsInHanded_of_change (C := Tryz.checked) Tryz.own started (by kernel_rfl) Tryz.func9
   (ChangeSpec.witness6 (enc := enc) (C := Tryz.checked) false ⟨#[], #[.agg #[.int .u8 0, .int .u8 0, .int .u8 0, .int .u8 0, .int .u8 0, .int .i8 0, .int .i8 0, .int .i8 0, .int .i8 0, .slice none 0 0, .int .u8 0]], []⟩ 8 (by kernel_rfl) (by kernel_rfl) (by kernel_rfl) (by kernel_rfl)) ?_
 intro W base args ds gs before hval0 hW hcnd _
 have hval : ∀ (j : Nat) t v, Tryz.f9.params[j]? = some t → args[j]? = some v → Value.okWide Tryz.prog W .any base t v := hval0
 have hW' := hW
 obtain ⟨p, q, hA0, hV, rfl, hfz, hnd⟩ := hW
 have hA : DataW.TrodAll enc Tryz.prog W 0 (fun _ => true) true Tryz.f9.params.toList args.toList ds p := hA0
 rw [Tryz.params9] at hA hval
 obtain ⟨v0, d0, rfl, rfl, h0⟩ := trodAll_one hA
 obtain ⟨rfl, rfl⟩ := trodVars_none hV
 have k0 := h0
 obtain ⟨w0, w1, w2, w3, w4, x0, x1, x2, x3, WA, wc, wl, z, rfl, hx0, hx1, hx2, hx3, hwl, fW⟩ := open_lackT ((X.ok 78 ti78 rfl).und) rfl rfl rfl rfl rfl rfl rfl rfl ((X.ok 5 ti5 rfl).und) ((X.ok 75 ti75 rfl).und) ((X.ok 26 ti26 rfl).und) ((X.ok 76 ti76 rfl).und) ((X.ok 23 ti23 rfl).und) (by kernel_rfl) (by kernel_rfl) (by kernel_rfl) (by kernel_rfl) (by kernel_rfl) (by kernel_rfl) (hval 0 78 v0 rfl rfl) h0
 have hM : maxLen = 9223372036854775807 := by decide
 rw [hM] at hwl
 have key := pLacks_c w0 w1 w2 w3 w4 x0 x1 x2 x3 WA wc wl z hx0 hx1 hx2 hx3 hwl
 have hs0 : Sat (ownBase W [Rd WA (U8 wl)] []) W [Rd WA (U8 wl)] [] := by
   refine Sat.start ?_ ?_
   · intro r hr
     simp only [List.mem_cons, List.not_mem_nil, or_false] at hr
     rcases hr with rfl <;> assumption
   · intro r hr k hk
     simp only [List.mem_cons, List.not_mem_nil, or_false] at hr
     rcases hr with rfl
     · exact Go.Sl.Rd.lt fW hk
 refine (key.2 W hs0).mono ?_
 rintro e W' ⟨v, R', H', ⟨rfl, -, -⟩, rfl, hs⟩
 have hb := hs.below
 have hlt := hW'.lt
 have hbool : Tryz.prog.underlying 4 = some .bool := ((X.ok 4 ti4 rfl).und)
 refine ⟨_, rfl, ⟨[d0], [], _, [], _, [], hW', trodAll_mk1 (show DataW.Trod enc Tryz.prog W' _ _ _ 4 (.bool true) (.lit (.bool true)) [] from ⟨1, by simp [DataW.trod, Value.cells, hbool]⟩), trodAll_mk1 (hb.trod Tryz.laidOut (by kernel_rfl) (by decide +kernel) k0 (fun x hx => hlt x (by simp [hx]))), rfl, hb.frame _, fun h => by cases h⟩⟩

theorem pLacks_holds : Rows.PlanLacksSaid :=
 OpenClaim.holds_of_wide 9 Tryz.f9 rfl rfl rfl rfl rfl rfl rfl ⟨rfl, rfl, rfl, rfl, rfl⟩ rfl rfl rfl rfl rfl (by kernel_rfl) Tryz.func9 (by kernel_rfl)
   (of_decide_eq_true (by kernel_rfl)) (by unfold Func.isWrapper; first | (rw [if_pos (by decide +kernel)]; kernel_rfl) | (rw [if_neg (by decide +kernel)]; exact ⟨rfl, rfl⟩))
   (fun os started H enc _ => pLacks_lifted os started H enc)

end Go.Proofs.YtpccfdnmnnnboaaGreat
