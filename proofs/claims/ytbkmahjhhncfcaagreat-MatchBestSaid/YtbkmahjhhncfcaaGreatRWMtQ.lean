/-
  The cost by the program; lifted patches; Best.
-/
import Derived.Test.YtbkmahjhhncfcaaGreatRMp
import Derived.Test.YtbkmahjhhncfcaaGreatRWLaL
import Derived.Test.YtbkmahjhhncfcaaGreatRWLaI
import Derived.Test.YtbkmahjhhncfcaaGreatRWMtG
namespace Go.Proofs.YtbkmahjhhncfcaaGreat
open Go.Sl

theorem cost1_c (x : Pq) (_hl : -1000000 ≤ x.ln ∧ x.ln ≤ 1000000) :
   Ctr X 152 [.agg (List.toArray x.cells)] [] [] (fun v R' H' => v = .int .i64 (4) ∧ R' = [] ∧ H' = []) := by
 refine Ctr.of (X := X) (fn := Tryz.f152) Tryz.func152 rfl (by kernel_rfl) rfl ?_
 intro β
 refine C.seq (C.region ?_)
 refine L.boxA rfl rfl (fun A1 => ?_)
 refine Lpu rfl rfl ?_; refine L.nil (QE.seq (C.seq ?_)); refine C.freeze 0 rfl [] (by decide) (by decide) ?_; refine C.region ?_; refine Lpu rfl rfl ?_; refine L.nil (QE.seq (C.ret ?_)); refine QE.ret (js := []) (hs := []) (vs := [_]) rfl ⟨rfl, trivial⟩ (by decide) ?_
 exact ⟨rfl, rfl, rfl⟩

theorem cost2_c (x : Pq) (hl : -1000000 ≤ x.ln ∧ x.ln ≤ 1000000) :
   Ctr X 156 [.agg (List.toArray x.cells)] [] [] (fun v R' H' => v = .int .i64 (4 + x.ln) ∧ R' = [] ∧ H' = []) := by
 refine Ctr.of (X := X) (fn := Tryz.f156) Tryz.func156 rfl (by kernel_rfl) rfl ?_
 intro β
 refine C.seq (C.region ?_)
 refine L.boxA rfl rfl (fun A1 => ?_)
 refine Lpu rfl rfl ?_; refine L.nil (QE.seq (C.seq ?_)); refine C.freeze 0 rfl [] (by decide) (by decide) ?_; refine C.region ?_; refine L.step (Ev.fieldAddr rfl rfl rfl rfl rfl rfl (Src.r 0 rfl) (Nat.zero_lt_succ _) rfl) rfl ?_; refine L.step (Ev.load rfl rfl rfl (Src.r 0 rfl) rfl) rfl ?_; refine L.step (Ev.add rfl rfl (by omega) (by omega)) rfl ?_; refine Lpu rfl rfl ?_; refine L.nil (QE.seq (C.ret ?_)); refine QE.ret (js := []) (hs := []) (vs := [_]) rfl ⟨rfl, trivial⟩ (by decide) ?_
 exact ⟨rfl, rfl, rfl⟩

theorem cost3_c (x : Pq) (_hl : -1000000 ≤ x.ln ∧ x.ln ≤ 1000000) :
   Ctr X 159 [.agg (List.toArray x.cells)] [] [] (fun v R' H' => v = .int .i64 (4) ∧ R' = [] ∧ H' = []) := by
 refine Ctr.of (X := X) (fn := Tryz.f159) Tryz.func159 rfl (by kernel_rfl) rfl ?_
 intro β
 refine C.seq (C.region ?_)
 refine L.boxA rfl rfl (fun A1 => ?_)
 refine Lpu rfl rfl ?_; refine L.nil (QE.seq (C.seq ?_)); refine C.freeze 0 rfl [] (by decide) (by decide) ?_; refine C.region ?_; refine Lpu rfl rfl ?_; refine L.nil (QE.seq (C.ret ?_)); refine QE.ret (js := []) (hs := []) (vs := [_]) rfl ⟨rfl, trivial⟩ (by decide) ?_
 exact ⟨rfl, rfl, rfl⟩

theorem cost4_c (x : Pq) (hl : -1000000 ≤ x.ln ∧ x.ln ≤ 1000000) :
   Ctr X 162 [.agg (List.toArray x.cells)] [] [] (fun v R' H' => v = .int .i64 (2 + x.ln) ∧ R' = [] ∧ H' = []) := by
 refine Ctr.of (X := X) (fn := Tryz.f162) Tryz.func162 rfl (by kernel_rfl) rfl ?_
 intro β
 refine C.seq (C.region ?_)
 refine L.boxA rfl rfl (fun A1 => ?_)
 refine Lpu rfl rfl ?_; refine L.nil (QE.seq (C.seq ?_)); refine C.freeze 0 rfl [] (by decide) (by decide) ?_; refine C.region ?_; refine L.step (Ev.fieldAddr rfl rfl rfl rfl rfl rfl (Src.r 0 rfl) (Nat.zero_lt_succ _) rfl) rfl ?_; refine L.step (Ev.load rfl rfl rfl (Src.r 0 rfl) rfl) rfl ?_; refine L.step (Ev.add rfl rfl (by omega) (by omega)) rfl ?_; refine Lpu rfl rfl ?_; refine L.nil (QE.seq (C.ret ?_)); refine QE.ret (js := []) (hs := []) (vs := [_]) rfl ⟨rfl, trivial⟩ (by decide) ?_
 exact ⟨rfl, rfl, rfl⟩

theorem cost_i (x : Pq) (size : Int) (hr : rigQ x size = true) (hl : -1000000 ≤ x.ln ∧ x.ln ≤ 1000000) : ∃ f, (∀ w, (method (X.P.types.size + Made.depth) (kitQ x 171 172 173 174 176) (kinQ x) "inlay/patch.cost").run X.P w = .ok (f, kinQ x) w) ∧ Ctr X f [kinQ x] [] [] (fun v R' H' => v = .int .i64 (cosQ x) ∧ R' = [] ∧ H' = []) := by
 have hk := rigQ_kind hr
 have e2 : kinQ x = .agg (List.toArray x.cells) := by unfold kinQ; rw [if_pos hk]
 rcases hk with h1 | h1 | h1 | h1
 · have e1 : kitQ x 171 172 173 174 176 = 171 := by unfold kitQ; rw [if_pos h1]
   rw [e1, e2]
   refine ⟨152, fun w => by kernel_rfl, (cost1_c x hl).mono ?_⟩
   rintro v R' H' ⟨rfl, h⟩
   exact ⟨congrArg (Value.int .i64) (by unfold cosQ; rw [if_neg (by omega), if_neg (by omega)]), h⟩
 · have e1 : kitQ x 171 172 173 174 176 = 172 := by unfold kitQ; rw [if_neg (by omega), if_pos h1]
   rw [e1, e2]
   refine ⟨156, fun w => by kernel_rfl, (cost2_c x hl).mono ?_⟩
   rintro v R' H' ⟨rfl, h⟩
   exact ⟨congrArg (Value.int .i64) (by unfold cosQ; rw [if_pos h1]), h⟩
 · have e1 : kitQ x 171 172 173 174 176 = 173 := by unfold kitQ; rw [if_neg (by omega), if_neg (by omega), if_pos h1]
   rw [e1, e2]
   refine ⟨159, fun w => by kernel_rfl, (cost3_c x hl).mono ?_⟩
   rintro v R' H' ⟨rfl, h⟩
   exact ⟨congrArg (Value.int .i64) (by unfold cosQ; rw [if_neg (by omega), if_neg (by omega)]), h⟩
 · have e1 : kitQ x 171 172 173 174 176 = 174 := by unfold kitQ; rw [if_neg (by omega), if_neg (by omega), if_neg (by omega), if_pos h1]
   rw [e1, e2]
   refine ⟨162, fun w => by kernel_rfl, (cost4_c x hl).mono ?_⟩
   rintro v R' H' ⟨rfl, h⟩
   exact ⟨congrArg (Value.int .i64) (by unfold cosQ; rw [if_neg (by omega), if_pos h1]), h⟩

set_option maxHeartbeats 1000000 in
theorem costP_c (lf : Bool) (inn out : Int) (ops : List Pq) (OA : Option Addr) (oc : Nat) (hops : ops.length ≤ 9223372036854775807) (hE : chkP inn out ops = 0) :
   Ctr X 58 [.agg (List.toArray [.bool lf, .int .i64 inn, .int .i64 out, .slice OA ops.length oc])] [Rd OA (pqV ops)] [] (fun v R' H' => v = .int .i64 (cosL ops) ∧ R' = [] ∧ H' = []) := by
 refine Ctr.of (X := X) (fn := Tryz.f58) Tryz.func58 rfl (by kernel_rfl) rfl ?_
 intro β
 obtain ⟨k1, k2, k3, k4, k5, k6⟩ := chkP_ok hE
 refine C.seq (C.region ?_)
 refine L.boxA rfl rfl (fun A1 => ?_)
 refine Lpu rfl rfl ?_; refine L.nil (QE.seq (C.seq ?_)); refine C.freeze 0 rfl [] (by decide) (by decide) ?_; refine C.region ?_; refine Lpu rfl rfl ?_; refine L.nil (QE.seq (C.seq (C.seq (C.region ?_)))); refine L.step (Ev.fieldAddr rfl rfl rfl rfl rfl rfl (Src.r 0 rfl) (Nat.zero_lt_succ _) rfl) rfl ?_; refine L.step (Ev.load rfl rfl rfl (Src.r 0 rfl) rfl) rfl ?_; refine Lpu rfl rfl ?_; refine Lpu rfl rfl ?_; refine L.nil (QE.seq (C.block ?_)); refine C.loop (fun q : Nat => [(1, ptrOf A1 0), (7, .slice OA ops.length oc), (8, .int .i64 (ops.length : Int)), (3, .int .i64 (cosL (ops.take q))), (9, .int .i64 (q : Int))]) (fun q : Nat => [Rd A1 [.bool lf, .int .i64 inn, .int .i64 out, .slice OA ops.length oc], Rd OA (pqV ops)]) (fun q : Nat => []) (fun q : Nat => q ≤ ops.length ∧ 0 ≤ cosL (ops.take q) ∧ cosL (ops.take q) ≤ 65540 * q) (fun q : Nat => ops.length - q) 0 ⟨Nat.zero_le _, Int.le_refl _, Int.le_refl _⟩ (by exact Le.mk' (rs := [0, 1]) (hs := []) ⟨rfl, rfl, rfl, rfl, rfl, trivial⟩ ⟨rfl, rfl, trivial⟩ trivial (by decide)) ?_
 rintro i ⟨hi, hc0, hc1⟩
 refine C.seq (C.region ?_); refine Lpu rfl rfl ?_; refine L.nil (QE.seq (C.seq ?_))
 refine C.condB 10 rfl (fun hc10 => ?_) (fun hc10 => ?_)
 ·
  replace hc10 := of_decide_eq_true hc10
  have hop := chkL_get ops out k6 i (by omega)
  have hcs := cosL_take ops i (by omega)
  have hcb := cosQ_le (x := ops.getD i Pq.zero) ⟨by omega, by omega⟩
  refine C.skip (QE.seq (C.seq (C.block (C.seq (C.region ?_))))); refine L.step (Ev.idx (k := i) (m := i * 5) rfl rfl rfl rfl rfl rfl (by omega) (Src.r 1 rfl) (pqV_pos (k := i) (by omega)) rfl) rfl ?_; refine L.step (Ev.loadA (vs := Pq.cells (ops.getD i Pq.zero)) rfl rfl rfl (Src.r 1 rfl) (pqV_at ops i (by omega)) rfl (by decide)) rfl ?_
  refine L.alloc rfl rfl rfl (fun A5 => ?_)
  refine L.storeA (j := 0) rfl rfl rfl rfl rfl (Nat.zero_lt_succ _) rfl rfl ?_; refine L.nil (QE.seq (C.region ?_)); refine Lpu rfl rfl ?_; refine L.step (Ev.loadA (vs := Pq.cells (ops.getD i Pq.zero)) rfl rfl rfl (Src.o 0 rfl) rfl rfl (by decide)) rfl ?_; refine L.call (js := []) (js' := [0]) (ofQ_c (ops.getD i Pq.zero)) rfl rfl rfl (by decide) trivial rfl ?_
  rintro _ _ _ ⟨rfl, rfl, rfl⟩
  refine L.callM (js := []) (js' := [0]) (cost_i (ops.getD i Pq.zero) inn hop.2.2 ⟨by omega, by omega⟩) rfl rfl rfl rfl (by decide) trivial rfl ?_
  rintro _ _ _ ⟨rfl, rfl, rfl⟩
  refine L.step (Ev.add rfl rfl (by omega) (by omega)) rfl ?_; refine Lpu rfl rfl ?_; refine L.nil ?_; refine QE.blkN ?_; refine QE.seq (C.region ?_); refine L.step (Ev.add rfl rfl (by omega) (by omega)) rfl ?_; refine Lpu rfl rfl ?_; refine L.nil ?_
  refine QE.round (i := i) (i + 1) (by exact ⟨by omega, by rw [hcs]; omega, by rw [hcs]; omega⟩) (by omega) (by exact Le.mk' (rs := [0, 1]) (hs := []) ⟨rfl, rfl, rfl, (by rw [hcs]; rfl), rfl, trivial⟩ ⟨rfl, rfl, trivial⟩ trivial (by decide))
 ·
  replace hc10 := of_decide_eq_false hc10
  refine C.exit ?_; refine QE.tX ?_; refine QE.tX ?_; refine QE.blk ?_; refine QE.seq (C.seq (C.region ?_)); refine Lpu rfl rfl ?_; refine Lpu rfl rfl ?_; refine L.nil (QE.seq (C.ret ?_)); refine QE.ret (js := []) (hs := []) (vs := [_]) rfl ⟨rfl, trivial⟩ (by decide) ?_
  obtain rfl : i = ops.length := by omega
  rw [List.take_length]
  exact ⟨rfl, rfl, rfl⟩

set_option maxHeartbeats 2000000 in
theorem applyL_c (B : Option Addr) (old new : List UInt8) (bc : Nat) (lf : Bool) (inn out : Int) (ops : List Pq) (OA : Option Addr) (oc : Nat) (hops : ops.length ≤ 9223372036854775807) (hlf : lf = true) (hco : codeB old) (hcn : codeB new) (hbc : old.length ≤ bc) (hE : chkP inn out ops = 0) (hin : inn = ((foF old).length : Int)) (hrun : outsQ (foF old) ops = foF new) :
   Ctr X 53 [.slice B old.length bc, .agg (List.toArray [.bool lf, .int .i64 inn, .int .i64 out, .slice OA ops.length oc])] [Rd B (U8 old), Rd OA (pqV ops), KidsR (pqH ops) (B8 (pqD ops))] [] (fun v R' H' => ∃ (A : Option Addr) (c : Nat), v = .tuple #[.slice A new.length c, .int .i64 0] ∧ R' = [] ∧ H' = [Own 5 1 A new.length c (U8 new)]) := by
 refine Ctr.of (X := X) (fn := Tryz.f53) Tryz.func53 rfl (by kernel_rfl) rfl ?_
 intro β
 change inn = ((formF (liftR old)).length : Int) at hin
 change outsQ (formF (liftR old)) ops = formF (liftR new) at hrun
 have hr := run_ok (old := formF (liftR old)) hE hin
 have hsr := sys_run (old := formF (liftR old)) hE
 have hrd := read_form_lift hcn
 have hlw := low_lift_yes hcn
 have hfn := foF_len (b := new)
 change (formF (liftR new)).length ≤ _ at hfn
 have ho6 := code_len hco
 have hn6 := code_len hcn
 have hln := liftR_lens new
 have hlo := liftR_lens old
 refine C.seq (C.region ?_)
 refine L.boxA rfl rfl (fun A3 => ?_)
 refine Lpu rfl rfl ?_; refine Lpu rfl rfl ?_; refine L.nil (QE.seq (C.seq ?_)); refine C.freeze 0 rfl [] (by decide) (by decide) ?_; refine C.region ?_; refine L.step (Ev.loadA (vs := [.bool lf, .int .i64 inn, .int .i64 out, .slice OA ops.length oc]) rfl rfl rfl (Src.r 0 rfl) rfl rfl (by decide)) rfl ?_; refine L.call (js := []) (js' := []) (symbolsQ_c lf inn out ops OA oc hops) rfl rfl rfl (by decide) (Hq [2, 3] rfl) rfl ?_
 rintro _ _ _ ⟨SA, sc, rfl, rfl, rfl⟩
 refine L.norm (H' := [_]) [0] ⟨rfl, trivial⟩ (by decide) ?_; refine Lpu rfl rfl ?_; refine Lpu rfl rfl ?_; refine Lpu rfl rfl ?_; refine Lpu rfl rfl ?_; refine Lpu rfl rfl ?_; refine L.nil (QE.seq (C.seq (C.seq ?_))); refine C.freeze 0 rfl [] (by decide) (by decide) ?_; refine C.region ?_; refine Lpu rfl rfl ?_; refine Lpu rfl rfl ?_; refine L.nil (QE.seq ?_)
 refine C.condB 18 rfl (fun hc18 => ?_) (fun hc18 => ?_)
 ·
  replace hc18 := b_ne hc18
  exact absurd hE hc18
 ·
  replace hc18 := b_eq hc18
  refine C.skip (QE.seq (C.seq (C.seq (C.region ?_)))); refine L.step (Ev.fieldAddr rfl rfl rfl rfl rfl rfl (Src.r 1 rfl) (Nat.zero_lt_succ _) rfl) rfl ?_; refine L.step (Ev.cast (u := .bool true) (Ev.load rfl rfl rfl (Src.r 1 rfl) rfl) (congrArg Value.bool hlf)) rfl ?_; refine L.nil (QE.seq ?_)
  refine C.condB 21 rfl (fun hc21 => ?_) (fun hc21 => ?_)
  ·
   refine C.seq (C.region ?_); refine Lpu rfl rfl ?_; refine L.call (js := []) (js' := []) (lift_c B old bc hbc (by omega)) rfl rfl rfl (by decide) (Hq [2] rfl) rfl ?_
   rw [liftE_code hco]
   rintro _ _ _ ⟨W1, M1, L1, l1, rfl, rfl, rfl⟩
   refine L.norm (H' := [_, _, _]) [0, 1, 2] ⟨rfl, rfl, rfl, trivial⟩ (by decide) ?_; refine Lpu rfl rfl ?_; refine Lpu rfl rfl ?_; refine Lpu rfl rfl ?_
   refine L.alloc rfl rfl rfl (fun A8 => ?_)
   refine L.storeA (j := 3) rfl rfl rfl rfl rfl (Nat.zero_lt_succ _) rfl rfl ?_; refine Lpu rfl rfl ?_; refine L.nil (QE.seq (C.seq (C.seq ?_))); refine C.freeze 0 rfl [1, 2, 3] (by decide) (by decide) ?_; refine C.norm (H' := [_, _, _]) [0, 1, 2] ⟨rfl, rfl, rfl, trivial⟩ (by decide) ?_; refine C.freeze 0 rfl [1, 2] (by decide) (by decide) ?_; refine C.norm (H' := [_, _]) [0, 1] ⟨rfl, rfl, trivial⟩ (by decide) ?_; refine C.freeze 0 rfl [1] (by decide) (by decide) ?_; refine C.norm (H' := [_]) [0] ⟨rfl, trivial⟩ (by decide) ?_; refine C.region ?_; refine Lpu rfl rfl ?_; refine Lpu rfl rfl ?_; refine L.nil (QE.seq ?_)
   refine C.condB 28 rfl (fun hc28 => ?_) (fun hc28 => ?_)
   ·
    replace hc28 := b_ne hc28
    exact absurd rfl hc28
   ·
    replace hc28 := b_eq hc28
    refine C.skip (QE.seq (C.region ?_)); refine L.step (Ev.loadA (vs := [.slice W1 (liftR old).ws.length (liftR old).ws.length, .slice M1 (liftR old).ms.length (liftR old).ms.length, .slice L1 (liftR old).ls.length l1]) rfl rfl rfl (Src.o 0 rfl) rfl rfl (by decide)) rfl ?_; refine L.call (js := []) (js' := [0]) (form_c W1 M1 L1 (liftR old).ws.length (liftR old).ms.length l1 (liftR old) (by omega) (by omega) (by omega) (liftR_w32 old) (Nat.le_refl _) liftR_asc) rfl rfl rfl (by decide) (Hq [2, 1, 0] rfl) rfl ?_
    rintro _ _ _ ⟨F1, f1, rfl, rfl, rfl⟩
    refine L.norm (H' := [_, _]) [0, 1] ⟨rfl, rfl, trivial⟩ (by decide) ?_; refine Lpu rfl rfl ?_; refine L.nil (QE.seq (C.seq (C.seq ?_))); refine C.freeze 0 rfl [1] (by decide) (by decide) ?_; refine C.norm (H' := [_]) [0] ⟨rfl, trivial⟩ (by decide) ?_; refine C.region ?_; refine Lpu rfl rfl ?_; refine Lpu rfl rfl ?_; refine L.step (Ev.fieldAddr rfl rfl rfl rfl rfl rfl (Src.r 5 rfl) (Nat.zero_lt_succ _) rfl) rfl ?_; refine L.step (Ev.load rfl rfl rfl (Src.r 5 rfl) rfl) rfl ?_; refine Lpu rfl rfl ?_; refine L.nil (QE.seq ?_)
    refine C.condB 35 rfl (fun hc35 => ?_) (fun hc35 => ?_)
    ·
     replace hc35 := b_ne hc35
     omega
    ·
     replace hc35 := b_eq hc35
     refine C.skip (QE.seq (C.seq (C.region ?_))); refine Lpu rfl rfl ?_; refine Lpu rfl rfl ?_; refine L.call (js := []) (js' := [0]) (runQ_c F1 SA (formF (liftR old)) (sysQ inn out ops) f1 sc (by have := hr.2; omega) hr.1) rfl rfl rfl (by decide) (Hq [0, 4] rfl) rfl ?_
     rw [hsr, hrun]
     rintro _ _ _ ⟨YA, yc, rfl, rfl, rfl⟩
     refine L.norm (H' := [_, _]) [0, 1] ⟨rfl, rfl, trivial⟩ (by decide) ?_; refine Lpu rfl rfl ?_; refine Lpu rfl rfl ?_; refine Lpu rfl rfl ?_; refine Lpu rfl rfl ?_; refine Lpu rfl rfl ?_; refine L.nil (QE.seq (C.seq (C.seq (C.region ?_)))); refine Lpu rfl rfl ?_; refine Lpu rfl rfl ?_; refine Lpu rfl rfl ?_
     refine L.bool 44 rfl (fun hg44 => ?_) (fun hg44 => ?_)
     ·
      replace hg44 := b_ne hg44
      exact absurd rfl hg44
     ·
      replace hg44 := b_eq hg44
      refine L.yes rfl ?_; refine L.step (Ev.fieldAddr rfl rfl rfl rfl rfl rfl (Src.r 5 rfl) (Nat.zero_lt_succ _) rfl) rfl ?_; refine L.yes rfl ?_; refine L.step (Ev.cast (u := .bool true) (Ev.load rfl rfl rfl (Src.r 5 rfl) rfl) (congrArg Value.bool hlf)) rfl ?_; refine L.yes rfl ?_; refine Lpu rfl rfl ?_; refine Lpu rfl rfl ?_; refine L.nil (QE.seq ?_)
      refine C.condB 48 rfl (fun hc48 => ?_) (fun hc48 => ?_)
      ·
       cases hc48
      ·
       refine C.skip (QE.seq (C.seq ?_))
       refine C.capO 0 rfl (fun hyc => ?_)
       refine C.freeze 0 rfl [1] (by decide) (by decide) ?_; refine C.norm (H' := [_]) [0] ⟨rfl, trivial⟩ (by decide) ?_; refine C.region ?_; refine Lpu rfl rfl ?_; refine L.call (js := []) (js' := [0]) (read_c YA (formF (liftR new)) yc hyc (by omega)) rfl rfl rfl (by decide) (Hq [0] rfl) rfl ?_
       rw [hrd.1, hrd.2]
       rintro _ _ _ ⟨W2, M2, L2, w2, m2, l2, rfl, rfl, rfl⟩
       refine L.norm (H' := [_, _, _, _]) [0, 1, 2, 3] ⟨rfl, rfl, rfl, rfl, trivial⟩ (by decide) ?_; refine Lpu rfl rfl ?_; refine Lpu rfl rfl ?_; refine Lpu rfl rfl ?_
       refine L.alloc rfl rfl rfl (fun A11 => ?_)
       refine L.storeA (j := 4) rfl rfl rfl rfl rfl (Nat.zero_lt_succ _) rfl rfl ?_; refine Lpu rfl rfl ?_; refine L.nil (QE.seq (C.seq (C.seq ?_))); refine C.freeze 0 rfl [1, 2, 3, 4] (by decide) (by decide) ?_; refine C.norm (H' := [_, _, _, _]) [0, 1, 2, 3] ⟨rfl, rfl, rfl, rfl, trivial⟩ (by decide) ?_; refine C.freeze 0 rfl [1, 2, 3] (by decide) (by decide) ?_; refine C.norm (H' := [_, _, _]) [0, 1, 2] ⟨rfl, rfl, rfl, trivial⟩ (by decide) ?_; refine C.freeze 0 rfl [1, 2] (by decide) (by decide) ?_; refine C.norm (H' := [_, _]) [0, 1] ⟨rfl, rfl, trivial⟩ (by decide) ?_; refine C.region ?_; refine Lpu rfl rfl ?_; refine Lpu rfl rfl ?_; refine L.nil (QE.seq ?_)
       refine C.condB 57 rfl (fun hc57 => ?_) (fun hc57 => ?_)
       ·
        replace hc57 := b_ne hc57
        exact absurd rfl hc57
       ·
        replace hc57 := b_eq hc57
        refine C.skip (QE.seq (C.seq (C.region ?_))); refine L.step (Ev.loadA (vs := [.slice W2 (liftR new).ws.length w2, .slice M2 (liftR new).ms.length m2, .slice L2 (liftR new).ls.length l2]) rfl rfl rfl (Src.o 1 rfl) rfl rfl (by decide)) rfl ?_; refine L.call (js := []) (js' := [0, 1]) (lower_c W2 M2 L2 w2 m2 l2 (liftR new) (by omega) (by omega) (by omega) (liftR_w32 new)) rfl rfl rfl (by decide) (Hq [2, 1, 0] rfl) rfl ?_
        rw [hlw.1, hlw.2]
        rintro _ _ _ ⟨ZA, zc, rfl, rfl, rfl⟩
        refine L.norm (H' := [_, _, _]) [0, 1, 2] ⟨rfl, rfl, rfl, trivial⟩ (by decide) ?_; refine Lpu rfl rfl ?_; refine Lpu rfl rfl ?_; refine Lpu rfl rfl ?_; refine Lpu rfl rfl ?_; refine L.nil (QE.seq (C.ret ?_)); refine QE.ret (js := []) (hs := [0]) (vs := [_, _]) rfl ⟨rfl, rfl, trivial⟩ (by decide) ?_
        exact ⟨ZA, zc, rfl, rfl, rfl⟩
  ·
   cases hc21

theorem madeL_c (B C_ : Option Addr) (old new : List UInt8) (bc cc : Nat) (lf : Bool) (inn out : Int) (ops : List Pq) (OA : Option Addr) (oc : Nat) (hops : ops.length ≤ 9223372036854775807) (hlf : lf = true) (hco : codeB old) (hcn : codeB new) (hbc : old.length ≤ bc) (hE : chkP inn out ops = 0) (hin : inn = ((foF old).length : Int)) (hrun : outsQ (foF old) ops = foF new) :
   Ctr X 22 [.agg (List.toArray [.bool lf, .int .i64 inn, .int .i64 out, .slice OA ops.length oc]), .slice B old.length bc, .slice C_ new.length cc] [Rd B (U8 old), Rd C_ (U8 new), Rd OA (pqV ops), KidsR (pqH ops) (B8 (pqD ops))] [] (fun v R' H' => v = .bool true ∧ R' = [] ∧ H' = []) := by
 refine Ctr.of (X := X) (fn := Tryz.f22) Tryz.func22 rfl (by kernel_rfl) rfl ?_
 intro β
 refine C.seq (C.region ?_)
 refine L.boxA rfl rfl (fun A3 => ?_)
 refine Lpu rfl rfl ?_; refine L.nil (QE.seq (C.seq (C.seq ?_))); refine C.freeze 0 rfl [] (by decide) (by decide) ?_; refine C.region ?_; refine L.step (Ev.loadA (vs := [.bool lf, .int .i64 inn, .int .i64 out, .slice OA ops.length oc]) rfl rfl rfl (Src.r 0 rfl) rfl rfl (by decide)) rfl ?_; refine L.call (js := []) (js' := []) (Ctr.tbM true (right06Q_c lf inn out ops OA oc hops) (by rw [hE]; rfl)) rfl rfl rfl (by decide) (Hq [3] rfl) rfl ?_
 rintro _ _ _ ⟨rfl, rfl, rfl⟩
 refine Lpu rfl rfl ?_; refine L.nil (QE.seq ?_)
 refine C.cond rfl (fun h => by cases h) (fun _ => ?_)
 refine C.skip (QE.seq (C.seq (C.region ?_))); refine Lpu rfl rfl ?_; refine L.step (Ev.loadA (vs := [.bool lf, .int .i64 inn, .int .i64 out, .slice OA ops.length oc]) rfl rfl rfl (Src.r 0 rfl) rfl rfl (by decide)) rfl ?_; refine L.call (js := []) (js' := []) (applyL_c B old new bc lf inn out ops OA oc hops hlf hco hcn hbc hE hin hrun) rfl rfl rfl (by decide) (Hq [1, 3, 4] rfl) rfl ?_
 rintro _ _ _ ⟨YA, yc, rfl, rfl, rfl⟩
 refine L.norm (H' := [_]) [0] ⟨rfl, trivial⟩ (by decide) ?_; refine Lpu rfl rfl ?_; refine Lpu rfl rfl ?_; refine Lpu rfl rfl ?_; refine Lpu rfl rfl ?_; refine Lpu rfl rfl ?_; refine L.nil (QE.seq (C.seq (C.region ?_))); refine Lpu rfl rfl ?_; refine Lpu rfl rfl ?_; refine Lpu rfl rfl ?_
 refine L.bool 20 rfl (fun hg20 => ?_) (fun hg20 => ?_)
 ·
  replace hg20 := i_eq hg20
  refine L.yes rfl ?_; refine Lpu rfl rfl ?_; refine L.yes rfl ?_; refine L.step (Ev.toStr rfl rfl rfl rfl rfl rfl rfl (Src.o 0 rfl)) rfl ?_; refine L.yes rfl ?_; refine Lpu rfl rfl ?_; refine L.yes rfl ?_; refine L.step (Ev.toStr rfl rfl rfl rfl rfl rfl rfl (Src.r 2 rfl)) rfl ?_; refine L.yes rfl ?_; refine L.step (Ev.cast (u := .bool true) (Ev.eqStr rfl rfl) (by simp)) rfl ?_; refine Lpu rfl rfl ?_; refine Lpu rfl rfl ?_; refine L.nil (QE.seq (C.ret ?_)); refine QE.ret (js := []) (hs := []) (vs := [_]) rfl ⟨rfl, trivial⟩ (by decide) ?_
  exact ⟨rfl, rfl, rfl⟩
 ·
  replace hg20 := i_ne hg20
  exact absurd rfl hg20

theorem plainA_c (OA NA : Option Addr) (old new : List UInt8) (oc nc : Nat) (ho : old.length ≤ 65536) (hn : new.length ≤ 4096) (hnc : new.length ≤ nc) : Ctr X 24 [.slice OA old.length oc, .slice NA new.length nc] [Rd OA (U8 old), Rd NA (U8 new)] [] (fun v R' H' => ∃ x : Cd, v = .tuple #[.agg (List.toArray x.cells), .int .i64 0] ∧ R' = [Rd x.A (pqV x.l), KidsR (pqH x.l) (B8 (pqD x.l))] ∧ H' = [] ∧ PlOk old new x) := by
 refine (plain_c OA NA old new oc nc ho hn hnc).mono ?_
 rintro v R' H' ⟨A, c, l, rfl, rfl, rfl, hmk⟩
 exact ⟨⟨false, _, _, A, c, l⟩, rfl, rfl, rfl, ⟨rfl, rfl, rfl, hmk⟩⟩
set_option maxHeartbeats 2000000 in
theorem best_c (OB NB : Option Addr) (old new : List UInt8) (oc nc : Nat) (hoc : old.length ≤ oc) (hnc : new.length ≤ nc) (ho : old.length ≤ 4096) (hn : new.length ≤ 2000) :
   Ctr X 25 [.slice OB old.length oc, .slice NB new.length nc] [Rd OB (U8 old), Rd NB (U8 new)] [] (fun v R' H' => ∃ x : Cd, v = .tuple #[.agg (List.toArray x.cells), .int .i64 0] ∧ R' = [Rd x.A (pqV x.l), KidsR (pqH x.l) (B8 (pqD x.l))] ∧ H' = [] ∧ BsOk old new x) := by
 refine Ctr.of (X := X) (fn := Tryz.f25) Tryz.func25 rfl (by kernel_rfl) rfl ?_
 intro β
 refine C.seq (C.region ?_)
 refine L.alloc rfl rfl rfl (fun A4 => ?_)
 refine Lpu rfl rfl ?_; refine L.nil (QE.seq (C.seq (C.region ?_))); refine Lpu rfl rfl ?_; refine Lpu rfl rfl ?_; refine L.callR (js := []) (js' := [0]) (plainA_c OB NB old new oc nc (by omega) (by omega) (by omega)) rfl rfl rfl (by decide) (Hq [0, 1] rfl) rfl ?_
 rintro _ _ _ ⟨p, rfl, rfl, rfl, hp⟩
 refine L.norm (H' := [_]) [0] ⟨rfl, trivial⟩ (by decide) ?_; refine Lpu rfl rfl ?_; refine Lpu rfl rfl ?_; refine Lpu rfl rfl ?_
 refine L.alloc rfl rfl rfl (fun A6 => ?_)
 refine L.storeA (j := 1) rfl rfl rfl rfl rfl (Nat.zero_lt_succ _) rfl rfl ?_; refine Lpu rfl rfl ?_; refine L.nil (QE.seq (C.seq (C.seq (C.region ?_)))); refine Lpu rfl rfl ?_; refine Lpu rfl rfl ?_; refine L.nil (QE.seq ?_)
 refine C.condB 17 rfl (fun hc17 => ?_) (fun hc17 => ?_)
 ·
  replace hc17 := b_ne hc17
  exact absurd rfl hc17
 ·
  replace hc17 := b_eq hc17
  refine C.skip (QE.seq (C.seq (C.seq (C.region ?_)))); refine Lpu rfl rfl ?_; refine Lpu rfl rfl ?_; refine L.callR (js := []) (js' := [0, 1]) (codeA_c OB NB old new oc nc (by omega) (by omega) (by omega) (by omega) ⟨by have := foF_len (b := old); omega, by have := foF_len (b := new); omega⟩) rfl rfl rfl (by decide) (Hq [2, 3] rfl) rfl ?_
  rintro _ _ _ ⟨q, rfl, rfl, rfl, hq⟩
  refine L.norm (H' := [_, _]) [0, 1] ⟨rfl, rfl, trivial⟩ (by decide) ?_; refine Lpu rfl rfl ?_; refine Lpu rfl rfl ?_; refine Lpu rfl rfl ?_
  refine L.alloc rfl rfl rfl (fun A8 => ?_)
  refine L.storeA (j := 2) rfl rfl rfl rfl rfl (Nat.zero_lt_succ _) rfl rfl ?_; refine Lpu rfl rfl ?_; refine L.nil (QE.seq (C.seq ?_)); refine C.regionQ (by kernel_rfl) ?_; refine LQ.step (Ev.pure rfl) rfl ?_; refine LQ.step (Ev.pure rfl) rfl ?_; refine LQ.step (Ev.pure rfl) rfl ?_
  refine LQ.bool 28 rfl (fun hg28 => ?_) (fun hg28 => ?_)
  ·
   replace hg28 := i_eq hg28
   have hqo := hq hg28
   have h33' : True := trivial
   refine LQ.yes rfl ?_; refine LQ.step (Ev.loadA (vs := [.bool q.lf, .int .i64 q.inn, .int .i64 q.out, .slice q.A q.l.length q.c]) rfl rfl rfl (Src.o 2 rfl) rfl rfl (by decide)) rfl ?_; refine LQ.yes rfl ?_; refine LQ.call (.int .i64 (cosL q.l)) (costP_c q.lf q.inn q.out q.l q.A q.c (by have := (chkP_iff.1 hqo.chk).2.2.2.2.1; omega) hqo.chk) (fun _ _ _ h => h.1) rfl (Hq [0] rfl) rfl ?_; refine LQ.yes rfl ?_; refine LQ.step (Ev.loadA (vs := [.bool p.lf, .int .i64 p.inn, .int .i64 p.out, .slice p.A p.l.length p.c]) rfl rfl rfl (Src.o 1 rfl) rfl rfl (by decide)) rfl ?_; refine LQ.yes rfl ?_; refine LQ.call (.int .i64 (cosL p.l)) (costP_c p.lf p.inn p.out p.l p.A p.c (by have := (chkP_iff.1 hp.chk).2.2.2.2.1; omega) hp.chk) (fun _ _ _ h => h.1) rfl (Hq [2] rfl) rfl ?_; refine LQ.yes rfl ?_; refine LQ.step (Ev.cast (u := .bool (decide ((refL (foF old) (foF new) : Int) < (refL old new : Int)))) (Ev.pure rfl) (by rw [hqo.mq.cost, hp.mq.cost])) rfl ?_; refine LQ.step (Ev.pure rfl) rfl ?_; refine LQ.nil ?_; refine QE.seq ?_
   refine C.condB 34 rfl (fun hc34 => ?_) (fun hc34 => ?_)
   ·
    replace hc34 := of_decide_eq_true hc34
    refine C.seq (C.region ?_); refine L.step (Ev.loadA (vs := [.bool q.lf, .int .i64 q.inn, .int .i64 q.out, .slice q.A q.l.length q.c]) rfl rfl rfl (Src.o 2 rfl) rfl rfl (by decide)) rfl ?_; refine L.storeA (j := 0) rfl rfl rfl rfl rfl (Nat.zero_lt_succ _) rfl rfl ?_; refine Lpu rfl rfl ?_; refine L.nil (QE.seq (C.ret (QE.tR ?_))); refine QE.ret (js := [0, 1]) (hs := []) (vs := [_, _]) rfl ⟨⟨_, _, 0, _, rfl, rfl, Src.o 0 rfl, .inl ⟨rfl, by decide, _, rfl, rfl, rfl⟩⟩, rfl, trivial⟩ (by decide) ?_
    exact ⟨q, rfl, rfl, rfl, ⟨fun _ => hqo, fun h => absurd (betB_yes hg28 (by omega)) (by rw [h]; decide)⟩⟩
   ·
    replace hc34 := of_decide_eq_false hc34
    refine C.skip (QE.seq (C.seq (C.region ?_))); refine L.step (Ev.loadA (vs := [.bool p.lf, .int .i64 p.inn, .int .i64 p.out, .slice p.A p.l.length p.c]) rfl rfl rfl (Src.o 1 rfl) rfl rfl (by decide)) rfl ?_; refine L.storeA (j := 0) rfl rfl rfl rfl rfl (Nat.zero_lt_succ _) rfl rfl ?_; refine Lpu rfl rfl ?_; refine L.nil (QE.seq (C.ret ?_)); refine QE.ret (js := [2, 3]) (hs := []) (vs := [_, _]) rfl ⟨⟨_, _, 0, _, rfl, rfl, Src.o 0 rfl, .inl ⟨rfl, by decide, _, rfl, rfl, rfl⟩⟩, rfl, trivial⟩ (by decide) ?_
    exact ⟨p, rfl, rfl, rfl, ⟨fun h => absurd h (by rw [betB_no (by omega)]; decide), fun _ => hp⟩⟩
  ·
   replace hg28 := i_ne hg28
   refine LQ.no rfl rfl rfl ?_; refine LQ.no rfl rfl rfl ?_; refine LQ.no rfl rfl rfl ?_; refine LQ.no rfl rfl rfl ?_; refine LQ.no rfl rfl rfl ?_; refine LQ.step (Ev.pure rfl) rfl ?_; refine LQ.nil ?_; refine QE.seq ?_
   refine C.cond rfl (fun h => by cases h) (fun _ => ?_)
   refine C.skip (QE.seq (C.seq (C.region ?_))); refine L.step (Ev.loadA (vs := [.bool p.lf, .int .i64 p.inn, .int .i64 p.out, .slice p.A p.l.length p.c]) rfl rfl rfl (Src.o 1 rfl) rfl rfl (by decide)) rfl ?_; refine L.storeA (j := 0) rfl rfl rfl rfl rfl (Nat.zero_lt_succ _) rfl rfl ?_; refine Lpu rfl rfl ?_; refine L.nil (QE.seq (C.ret ?_)); refine QE.ret (js := [2, 3]) (hs := []) (vs := [_, _]) rfl ⟨⟨_, _, 0, _, rfl, rfl, Src.o 0 rfl, .inl ⟨rfl, by decide, _, rfl, rfl, rfl⟩⟩, rfl, trivial⟩ (by decide) ?_
   exact ⟨p, rfl, rfl, rfl, ⟨fun h => absurd h (by rw [betB_err (by omega)]; decide), fun _ => hp⟩⟩

end Go.Proofs.YtbkmahjhhncfcaaGreat
