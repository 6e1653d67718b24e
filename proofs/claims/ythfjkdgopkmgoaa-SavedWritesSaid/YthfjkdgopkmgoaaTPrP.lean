/-
  SavedWrites returns true whatever its arguments are, and its arguments read behind the call as they read before.
-/
import Derived.Test.YthfjkdgopkmgoaaRows
import Derived.ProofKit
import Derived.ChangeSame
import Derived.Lib.SmallJoins
import Derived.Carry
import Derived.Test.YthfjkdgopkmgoaaTWSvQ
import Derived.Test.YthfjkdgopkmgoaaTLk
namespace Go.Proofs.Ythfjkdgopkmgoaa
open Go.Sl Go.ChangeShapes Go.WideShapes Go.ChangeAt Go.RowKit Go.Joins Go.Deep

theorem Try.own : ownKnob Try.prog.godebug = none := by kernel_rfl
theorem Try.laidOut : laidOutB Try.prog = true := by kernel_rfl

set_option maxHeartbeats 1000000 in
set_option maxRecDepth 100000 in
theorem sWrites_lifted (os : Os) (started : os.Started) (H : Type) (enc : TypeId × Value → H) :
    ReturnsInHanded {} Try.checked os 17 .any (Rows.savedWritesSpec.pre6 enc Try.prog Try.f17 Rows.savedWritesRow.domain false) (Rows.savedWritesSpec.post enc Try.prog Try.f17 false true false false) := by
  refine returnsInHanded_of_change (C := Try.checked) Try.own started (by kernel_rfl) Try.func17
    (ChangeSpec.witness6 (enc := enc) (C := Try.checked) false ⟨#[], #[.agg #[.int .u8 0, .int .u8 0], .agg #[.int .i64 0, .slice none 0 0], .slice none 0 0], []⟩ 8 (by kernel_rfl) (by kernel_rfl) (by kernel_rfl) (by kernel_rfl)) ?_
  intro W base args ds gs before hval0 hW hcnd _
  have hval : ∀ (j : Nat) t v, Try.f17.params[j]? = some t → args[j]? = some v → Value.okWide Try.prog W .any base t v := hval0
  have hW' := hW
  obtain ⟨p, q, hA0, hV, rfl, hfz, hnd⟩ := hW
  have hA : DataW.TrodAll enc Try.prog W 0 (fun _ => true) true Try.f17.params.toList args.toList ds p := hA0
  rw [Try.params17] at hA hval
  obtain ⟨v0, v1, v2, d0, d1, d2, p0, p1, p2, rfl, rfl, rfl, h0, h1, h2⟩ := trodAll_three hA
  obtain ⟨rfl, rfl⟩ := trodVars_none hV
  have k0 := h0
  have k1 := h1
  have k2 := h2
  obtain ⟨c0, c1, y0, y1, m0, rfl, -, -, t0, t1⟩ := open_agg2 ((X.ok 23 ti23 rfl).und) (by kernel_rfl) (by kernel_rfl) (hval 0 23 v0 rfl rfl) h0
  obtain ⟨n0, hc0, -, w0⟩ := DataW.trod_int ((X.ok 5 ti5 rfl).und) t0
  obtain ⟨n1, hc1, -, w1⟩ := DataW.trod_int ((X.ok 5 ti5 rfl).und) t1
  obtain rfl := (List.cons.inj hc0).1
  obtain rfl := (List.cons.inj hc1).1
  obtain ⟨u0, rfl⟩ : ∃ u : UInt8, n0 = (u.toNat : Int) := ⟨Go.Sl.byteOf n0, by have := Go.Sl.byteOf_eq w0; simpa using this.symm⟩
  obtain ⟨u1, rfl⟩ : ∃ u : UInt8, n1 = (u.toNat : Int) := ⟨Go.Sl.byteOf n1, by have := Go.Sl.byteOf_eq w1; simpa using this.symm⟩
  obtain ⟨c0g, c1g, y0g, y1g, m0g, rfl, -, -, t0g, t1g⟩ := open_agg2 ((X.ok 48 ti48 rfl).und) (by kernel_rfl) (by kernel_rfl) (hval 1 48 v1 rfl rfl) h1
  obtain ⟨n0g, hc0g, -, w0g⟩ := DataW.trod_int ((X.ok 3 ti3 rfl).und) t0g
  obtain ⟨GAg, gcg, glg, hc1g, hgcg, hglg, fGg⟩ := open_U8 ((X.ok 24 ti24 rfl).und) ((X.ok 5 ti5 rfl).und) (by kernel_rfl) t1g
  obtain rfl := (List.cons.inj hc0g).1
  obtain rfl := (List.cons.inj hc1g).1
  obtain ⟨MA, mc, mhs, ms, rfl, hmh, hml, hmr, fP, fQ⟩ := open_rowsV ((X.ok 28 ti28 rfl).und) ((X.ok 24 ti24 rfl).und) ((X.ok 5 ti5 rfl).und) (by kernel_rfl) (by kernel_rfl) (hval 2 28 v2 rfl rfl) h2
  have hM : maxLen = 9223372036854775807 := by decide
  rw [hM] at hglg hml
  have key := sWrites_c u0 u1 n0g glg GAg gcg hgcg hglg ms MA mc mhs hmh hml (fun i => hM ▸ hmr i)
  have hs0 : Sat (ownBase W [Rd GAg (U8 glg), Rd MA (rowsV mhs (B8 ms)), KidsR mhs (B8 ms)] []) W [Rd GAg (U8 glg), Rd MA (rowsV mhs (B8 ms)), KidsR mhs (B8 ms)] [] := by
    refine Sat.start ?_ ?_
    · intro r hr
      simp only [List.mem_cons, List.not_mem_nil, or_false] at hr
      rcases hr with rfl | rfl | rfl <;> assumption
    · intro r hr k hk
      simp only [List.mem_cons, List.not_mem_nil, or_false] at hr
      rcases hr with rfl | rfl | rfl
      · exact Go.Sl.Rd.lt fGg hk
      · exact Go.Sl.Rd.lt fP hk
      · exact Go.Sl.KidsR.lt fQ hk
  refine (key.2 W hs0).mono ?_
  rintro e W' ⟨v, R', H', ⟨rfl, -, -⟩, rfl, hs⟩
  have hb := hs.below
  have hlt := hW'.lt
  have hbool : Try.prog.underlying 4 = some .bool := ((X.ok 4 ti4 rfl).und)
  refine ⟨_, rfl, ⟨[d0, d1, d2], [], _, [], _, [], hW', trodAll_mk1 (show DataW.Trod enc Try.prog W' _ _ _ 4 (.bool true) (.lit (.bool true)) [] from ⟨1, by simp [DataW.trod, Value.cells, hbool]⟩), trodAll_mk3 (hb.trod Try.laidOut (by kernel_rfl) (by decide +kernel) k0 (fun x hx => hlt x (by simp [hx]))) (hb.trod Try.laidOut (by kernel_rfl) (by decide +kernel) k1 (fun x hx => hlt x (by simp [hx]))) (hb.trod Try.laidOut (by kernel_rfl) (by decide +kernel) k2 (fun x hx => hlt x (by simp [hx]))), rfl, hb.frame _, fun h => by cases h⟩⟩

theorem sWrites_holds : Rows.SavedWritesSaid :=
  OpenClaim.holds_of_wide 17 Try.f17 rfl rfl rfl rfl rfl rfl rfl ⟨rfl, rfl, rfl, rfl, rfl⟩ rfl rfl rfl rfl rfl (by kernel_rfl) Try.func17 (by kernel_rfl)
    (of_decide_eq_true (by kernel_rfl)) (by unfold Func.isWrapper; first | (rw [if_pos (by decide +kernel)]; kernel_rfl) | (rw [if_neg (by decide +kernel)]; exact ⟨rfl, rfl⟩))
    (fun os started H enc _ => sWrites_lifted os started H enc)

end Go.Proofs.Ythfjkdgopkmgoaa
