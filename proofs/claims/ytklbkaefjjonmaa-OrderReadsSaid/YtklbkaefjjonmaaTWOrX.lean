/-
  OrderReads.
-/
import Derived.Test.YtklbkaefjjonmaaTWOrW
namespace Go.Proofs.Ytklbkaefjjonmaa
open Go.Sl

set_option maxHeartbeats 2000000 in
theorem oReads_c (LA : Option Addr) (l : List T3) (lc : Nat) (hl : l.length ≤ 9223372036854775807) (w0 w1 : UInt8) (m : Int) (hm : -128 ≤ m ∧ m ≤ 127) :
    Ctr X 4 [.slice LA l.length lc, .agg (List.toArray [.int .u8 (w0.toNat : Int), .int .u8 (w1.toNat : Int)]), .int .i8 m] [Rd LA (triV l)] [] (fun v R' H' => v = .bool true ∧ R' = [] ∧ H' = []) := by
  refine Ctr.of (X := X) (fn := Try.f4) Try.func4 rfl (by kernel_rfl) rfl ?_
  intro β
  refine C.seq ?_
  refine C.region ?_
  refine L.boxA rfl rfl (fun A4 => ?_)
  refine L.step (Ev.pure rfl) rfl ?_
  refine L.nil ?_
  refine QE.seq ?_
  refine C.seq ?_
  refine C.freeze 0 rfl [] (by decide) (by decide) ?_
  refine C.region ?_
  refine L.call (js := []) (js' := []) (sanity18_c) rfl rfl rfl (by decide) trivial rfl ?_
  rintro _ _ _ ⟨rfl, rfl, rfl⟩
  refine L.step (Ev.pure rfl) rfl ?_
  refine L.nil ?_
  refine QE.seq ?_
  refine C.seq ?_
  refine C.region ?_
  refine L.step (Ev.pure rfl) rfl ?_
  refine L.step (Ev.idxArr (k := 0) (m := 0) rfl rfl rfl rfl rfl rfl (by decide) (Src.r 0 rfl) (Nat.zero_lt_succ _) rfl) rfl ?_
  refine L.step (Ev.load rfl rfl rfl (Src.r 0 rfl) rfl) rfl ?_
  refine L.callR (js := []) (js' := []) (blocks_c LA l lc w0 hl) rfl rfl rfl (by decide) ⟨(Has.r 1 rfl), trivial⟩ rfl ?_
  rintro _ _ _ ⟨OA, oc, rfl, rfl, rfl⟩
  refine L.alloc rfl rfl rfl (fun A8 => ?_)
  refine L.storeA (j := 0) rfl rfl rfl rfl rfl (Nat.zero_lt_succ _) rfl rfl ?_
  refine L.nil ?_
  refine QE.seq ?_
  refine C.seq ?_
  refine C.freeze 0 rfl [] (by decide) (by decide) ?_
  refine C.region ?_
  refine L.step (Ev.idxArr (k := 1) (m := 1) rfl rfl rfl rfl rfl rfl (by decide) (Src.r 2 rfl) (Nat.zero_lt_succ _) rfl) rfl ?_
  refine L.step (Ev.load rfl rfl rfl (Src.r 2 rfl) rfl) rfl ?_
  first | refine L.step (Ev.byteInt rfl rfl rfl rfl) rfl ?_ | refine L.step (Ev.toInt rfl rfl rfl rfl (by omega) (by omega)) rfl ?_
  refine L.step (Ev.cast (u := .int .i64 (((w1.toNat % 14) : Nat) : Int)) (Ev.rem rfl rfl (by omega) (by decide)) (congrArg (Value.int .i64) (by rw [Int.natCast_emod]; rfl))) rfl ?_
  refine L.step (Ev.pure rfl) rfl ?_
  first | refine L.step (Ev.byteInt rfl rfl rfl rfl) rfl ?_ | refine L.step (Ev.toInt rfl rfl rfl rfl (by omega) (by omega)) rfl ?_
  refine L.step (Ev.buildArr rfl rfl rfl rfl rfl rfl rfl) rfl ?_
  refine L.alloc rfl rfl rfl (fun A9 => ?_)
  refine L.storeA (j := 0) rfl rfl rfl rfl rfl (Nat.zero_lt_succ _) rfl rfl ?_
  refine L.nil ?_
  refine QE.seq ?_
  refine C.seq ?_
  refine C.seq ?_
  refine C.freeze 0 rfl [] (by decide) (by decide) ?_
  have hops : (bkS (1 + w0.toNat % 24) l (min l.length 8)).1.length ≤ 9223372036854775807 := by rw [bkS_len]; omega
  refine C.region ?_
  refine L.step (Ev.pure rfl) rfl ?_
  refine L.nil ?_
  refine QE.seq ?_
  refine C.block ?_
  refine C.loop (fun k : Nat => [(7, .bool true), (8, ptrOf A8 0), (9, ptrOf A9 0), (10, .int .i64 (k : Int))]) (fun k : Nat => [Rd OA (opsV (bkS (1 + w0.toNat % 24) l (min l.length 8)).1), Rd A8 [.bool false, .int .i64 (((1 + w0.toNat % 24) : Nat) : Int), .int .i64 (((bkS (1 + w0.toNat % 24) l (min l.length 8)).2 : Nat) : Int), .slice OA (bkS (1 + w0.toNat % 24) l (min l.length 8)).1.length oc], Rd A9 (I64 [((w1.toNat % 14 : Nat) : Int), m])]) (fun k : Nat => []) (fun k : Nat => k ≤ 2) (fun k : Nat => 2 - k) 0 (by decide) (by exact Le.mk' (rs := [2, 1, 0]) (hs := []) ⟨rfl, rfl, rfl, rfl, trivial⟩ ⟨rfl, rfl, rfl, trivial⟩ trivial (by decide)) ?_
  intro k hk
  refine C.seq ?_
  refine C.seq ?_
  refine C.region ?_
  refine L.step (Ev.pure rfl) rfl ?_
  refine L.step (Ev.pure rfl) rfl ?_
  refine L.nil ?_
  refine QE.seq ?_
  refine C.condB 29 rfl (fun hc29 => ?_) (fun hc29 => ?_)
  · skip
    replace hc29 := of_decide_eq_true hc29
    refine C.skip ?_
    refine QE.seq ?_
    refine C.seq ?_
    refine C.block ?_
    refine C.seq ?_
    refine C.regionM [Rd OA (opsV (bkS (1 + w0.toNat % 24) l (min l.length 8)).1), Rd A8 [.bool false, .int .i64 (((1 + w0.toNat % 24) : Nat) : Int), .int .i64 (((bkS (1 + w0.toNat % 24) l (min l.length 8)).2 : Nat) : Int), .slice OA (bkS (1 + w0.toNat % 24) l (min l.length 8)).1.length oc], Rd A9 (I64 [((w1.toNat % 14 : Nat) : Int), m])] ⟨Has.r 0 rfl, Has.r 1 rfl, Has.r 2 rfl, trivial⟩ ?_
    refine LM.q 0 rfl (by kernel_rfl) (Ev.loadA rfl rfl rfl (Src.r 1 rfl) rfl rfl (by decide)) rfl ⟨Has.r 0 rfl, Has.r 1 rfl, Has.r 2 rfl, trivial⟩ ?_
    refine LM.q 1 rfl (by kernel_rfl) (Ev.pure rfl) rfl ⟨Has.r 0 rfl, Has.r 1 rfl, Has.r 2 rfl, trivial⟩ ?_
    refine LM.q 2 rfl (by kernel_rfl) (Ev.idxArr (k := k) (m := k) rfl rfl rfl rfl rfl rfl (by omega) (Src.r 2 rfl) (Nat.zero_lt_succ _) (by rw [Nat.zero_add]; exact Nat.mul_one k)) rfl ⟨Has.r 0 rfl, Has.r 1 rfl, Has.r 2 rfl, trivial⟩ ?_
    refine LM.q 3 rfl (by kernel_rfl) (Ev.load rfl rfl rfl (Src.r 2 rfl) (I64_get (l := [((w1.toNat % 14 : Nat) : Int), m]) (k := k) (by show k < 2; omega))) rfl ⟨Has.r 0 rfl, Has.r 1 rfl, Has.r 2 rfl, trivial⟩ ?_
    refine LM.f 4 rfl (by kernel_rfl) ⟨Has.r 0 rfl, Has.r 1 rfl, Has.r 2 rfl, trivial⟩ ?_
    refine L.callR (js := []) (js' := []) (reads2_c false (((1 + w0.toNat % 24) : Nat) : Int) (((bkS (1 + w0.toNat % 24) l (min l.length 8)).2 : Nat) : Int) (bkS (1 + w0.toNat % 24) l (min l.length 8)).1 OA oc hops ([((w1.toNat % 14 : Nat) : Int), m].getD k 0)) rfl rfl rfl (by decide) ⟨(Has.r 0 rfl), trivial⟩ rfl ?_
    rintro _ _ _ ⟨A37, c37, hs37, rfl, rfl, rfl, hh37⟩
    refine L.nil (QE.m (by kernel_rfl) ?_)
    refine LM.q 5 rfl (by kernel_rfl) (Ev.pure rfl) rfl ⟨Has.r 2 rfl, Has.r 3 rfl, Has.r 4 rfl, trivial⟩ ?_
    refine LM.q 6 rfl (by kernel_rfl) (Ev.pure rfl) rfl ⟨Has.r 2 rfl, Has.r 3 rfl, Has.r 4 rfl, trivial⟩ ?_
    refine LM.q 7 rfl (by kernel_rfl) (Ev.pure rfl) rfl ⟨Has.r 2 rfl, Has.r 3 rfl, Has.r 4 rfl, trivial⟩ ?_
    refine LM.f 8 rfl (by kernel_rfl) ⟨Has.r 2 rfl, Has.r 3 rfl, Has.r 4 rfl, trivial⟩ ?_
    refine L.step (Ev.pure rfl) rfl ?_
    refine L.nil (QE.m (by kernel_rfl) ?_)
    refine LM.cut [] (by kernel_rfl) ⟨Has.r 2 rfl, Has.r 3 rfl, Has.r 4 rfl, trivial⟩ ?_
    refine LM.f 9 rfl (by kernel_rfl) trivial ?_
    refine L.step (Ev.pure rfl) rfl ?_
    refine L.nil (QE.m (by kernel_rfl) ?_)
    refine LM.nil (by kernel_rfl) trivial ?_
    refine QE.seq ?_
    refine C.seq ?_
    refine C.regionM [Rd A37 (rowsV hs37 (J8 (rdM false (((1 + w0.toNat % 24) : Nat) : Int) (((bkS (1 + w0.toNat % 24) l (min l.length 8)).2 : Nat) : Int) ([((w1.toNat % 14 : Nat) : Int), m].getD k 0) (bkS (1 + w0.toNat % 24) l (min l.length 8)).1))), KidsR hs37 (J8 (rdM false (((1 + w0.toNat % 24) : Nat) : Int) (((bkS (1 + w0.toNat % 24) l (min l.length 8)).2 : Nat) : Int) ([((w1.toNat % 14 : Nat) : Int), m].getD k 0) (bkS (1 + w0.toNat % 24) l (min l.length 8)).1)), Rd OA (opsV (bkS (1 + w0.toNat % 24) l (min l.length 8)).1), Rd A8 [.bool false, .int .i64 (((1 + w0.toNat % 24) : Nat) : Int), .int .i64 (((bkS (1 + w0.toNat % 24) l (min l.length 8)).2 : Nat) : Int), .slice OA (bkS (1 + w0.toNat % 24) l (min l.length 8)).1.length oc], Rd A9 (I64 [((w1.toNat % 14 : Nat) : Int), m])] ⟨Has.r 0 rfl, Has.r 1 rfl, Has.r 2 rfl, Has.r 3 rfl, Has.r 4 rfl, trivial⟩ ?_
    refine LM.q 0 rfl (by kernel_rfl) (Ev.loadA rfl rfl rfl (Src.r 3 rfl) rfl rfl (by decide)) rfl ⟨Has.r 0 rfl, Has.r 1 rfl, Has.r 2 rfl, Has.r 3 rfl, Has.r 4 rfl, trivial⟩ ?_
    refine LM.q 1 rfl (by kernel_rfl) (Ev.pure rfl) rfl ⟨Has.r 0 rfl, Has.r 1 rfl, Has.r 2 rfl, Has.r 3 rfl, Has.r 4 rfl, trivial⟩ ?_
    refine LM.q 2 rfl (by kernel_rfl) (Ev.idxArr (k := k) (m := k) rfl rfl rfl rfl rfl rfl (by omega) (Src.r 4 rfl) (Nat.zero_lt_succ _) (by rw [Nat.zero_add]; exact Nat.mul_one k)) rfl ⟨Has.r 0 rfl, Has.r 1 rfl, Has.r 2 rfl, Has.r 3 rfl, Has.r 4 rfl, trivial⟩ ?_
    refine LM.q 3 rfl (by kernel_rfl) (Ev.load rfl rfl rfl (Src.r 4 rfl) (I64_get (l := [((w1.toNat % 14 : Nat) : Int), m]) (k := k) (by show k < 2; omega))) rfl ⟨Has.r 0 rfl, Has.r 1 rfl, Has.r 2 rfl, Has.r 3 rfl, Has.r 4 rfl, trivial⟩ ?_
    refine LM.f 4 rfl (by kernel_rfl) ⟨Has.r 0 rfl, Has.r 1 rfl, Has.r 2 rfl, Has.r 3 rfl, Has.r 4 rfl, trivial⟩ ?_
    refine L.callR (js := []) (js' := []) (readsR_c false (((1 + w0.toNat % 24) : Nat) : Int) (((bkS (1 + w0.toNat % 24) l (min l.length 8)).2 : Nat) : Int) (bkS (1 + w0.toNat % 24) l (min l.length 8)).1 OA oc hops ([((w1.toNat % 14 : Nat) : Int), m].getD k 0)) rfl rfl rfl (by decide) ⟨(Has.r 2 rfl), trivial⟩ rfl ?_
    rintro _ _ _ ⟨A45, c45, hs45, rfl, rfl, rfl, hh45⟩
    refine L.nil (QE.m (by kernel_rfl) ?_)
    refine LM.q 5 rfl (by kernel_rfl) (Ev.pure rfl) rfl ⟨Has.r 2 rfl, Has.r 3 rfl, Has.r 4 rfl, Has.r 5 rfl, Has.r 6 rfl, trivial⟩ ?_
    refine LM.q 6 rfl (by kernel_rfl) (Ev.pure rfl) rfl ⟨Has.r 2 rfl, Has.r 3 rfl, Has.r 4 rfl, Has.r 5 rfl, Has.r 6 rfl, trivial⟩ ?_
    refine LM.q 7 rfl (by kernel_rfl) (Ev.pure rfl) rfl ⟨Has.r 2 rfl, Has.r 3 rfl, Has.r 4 rfl, Has.r 5 rfl, Has.r 6 rfl, trivial⟩ ?_
    refine LM.f 8 rfl (by kernel_rfl) ⟨Has.r 2 rfl, Has.r 3 rfl, Has.r 4 rfl, Has.r 5 rfl, Has.r 6 rfl, trivial⟩ ?_
    refine L.step (Ev.pure rfl) rfl ?_
    refine L.nil (QE.m (by kernel_rfl) ?_)
    refine LM.cut [] (by kernel_rfl) ⟨Has.r 2 rfl, Has.r 3 rfl, Has.r 4 rfl, Has.r 5 rfl, Has.r 6 rfl, trivial⟩ ?_
    refine LM.f 9 rfl (by kernel_rfl) trivial ?_
    refine L.step (Ev.pure rfl) rfl ?_
    refine L.nil (QE.m (by kernel_rfl) ?_)
    refine LM.nil (by kernel_rfl) trivial ?_
    refine QE.seq ?_
    refine C.seq ?_
    refine C.seq ?_
    refine C.region ?_
    refine L.step (Ev.pure rfl) rfl ?_
    refine L.step (Ev.pure rfl) rfl ?_
    refine L.step (Ev.pure rfl) rfl ?_
    refine L.step (Ev.pure rfl) rfl ?_
    refine L.bool 51 rfl (fun hg51 => ?_) (fun hg51 => ?_)
    · skip
      replace hg51 := b_ne hg51
      exact absurd rfl hg51
    · skip
      replace hg51 := b_eq hg51
      refine L.yes rfl ?_
      refine L.step (Ev.pure rfl) rfl ?_
      refine L.yes rfl ?_
      refine L.step (Ev.pure rfl) rfl ?_
      refine L.yes rfl ?_
      refine L.step (Ev.pure rfl) rfl ?_
      refine L.yes rfl ?_
      refine L.step (Ev.pure rfl) rfl ?_
      refine L.yes rfl ?_
      refine L.step (Ev.pure rfl) rfl ?_
      refine L.step (Ev.pure rfl) rfl ?_
      refine L.nil ?_
      refine QE.seq ?_
      refine C.condB 57 rfl (fun hc57 => ?_) (fun hc57 => ?_)
      · skip
        replace hc57 := b_ne hc57
        exact absurd rfl hc57
      · skip
        replace hc57 := b_eq hc57
        refine C.skip ?_
        refine QE.seq ?_
        refine C.seq ?_
        refine C.region ?_
        refine L.step (Ev.pure rfl) rfl ?_
        refine L.nil ?_
        refine QE.seq ?_
        refine C.block ?_
        refine C.loop (fun i : Nat => [(7, .bool true), (8, ptrOf A8 0), (9, ptrOf A9 0), (10, .int .i64 (k : Int)), (11, .slice A37 (rdM false (((1 + w0.toNat % 24) : Nat) : Int) (((bkS (1 + w0.toNat % 24) l (min l.length 8)).2 : Nat) : Int) ([((w1.toNat % 14 : Nat) : Int), m].getD k 0) (bkS (1 + w0.toNat % 24) l (min l.length 8)).1).length c37), (13, .slice A45 (rdM false (((1 + w0.toNat % 24) : Nat) : Int) (((bkS (1 + w0.toNat % 24) l (min l.length 8)).2 : Nat) : Int) ([((w1.toNat % 14 : Nat) : Int), m].getD k 0) (bkS (1 + w0.toNat % 24) l (min l.length 8)).1).length c45), (15, .int .i64 (i : Int))]) (fun i : Nat => [Rd OA (opsV (bkS (1 + w0.toNat % 24) l (min l.length 8)).1), Rd A8 [.bool false, .int .i64 (((1 + w0.toNat % 24) : Nat) : Int), .int .i64 (((bkS (1 + w0.toNat % 24) l (min l.length 8)).2 : Nat) : Int), .slice OA (bkS (1 + w0.toNat % 24) l (min l.length 8)).1.length oc], Rd A9 (I64 [((w1.toNat % 14 : Nat) : Int), m]), Rd A37 (rowsV hs37 (J8 (rdM false (((1 + w0.toNat % 24) : Nat) : Int) (((bkS (1 + w0.toNat % 24) l (min l.length 8)).2 : Nat) : Int) ([((w1.toNat % 14 : Nat) : Int), m].getD k 0) (bkS (1 + w0.toNat % 24) l (min l.length 8)).1))), KidsR hs37 (J8 (rdM false (((1 + w0.toNat % 24) : Nat) : Int) (((bkS (1 + w0.toNat % 24) l (min l.length 8)).2 : Nat) : Int) ([((w1.toNat % 14 : Nat) : Int), m].getD k 0) (bkS (1 + w0.toNat % 24) l (min l.length 8)).1)), Rd A45 (rowsV hs45 (J8 (rdM false (((1 + w0.toNat % 24) : Nat) : Int) (((bkS (1 + w0.toNat % 24) l (min l.length 8)).2 : Nat) : Int) ([((w1.toNat % 14 : Nat) : Int), m].getD k 0) (bkS (1 + w0.toNat % 24) l (min l.length 8)).1))), KidsR hs45 (J8 (rdM false (((1 + w0.toNat % 24) : Nat) : Int) (((bkS (1 + w0.toNat % 24) l (min l.length 8)).2 : Nat) : Int) ([((w1.toNat % 14 : Nat) : Int), m].getD k 0) (bkS (1 + w0.toNat % 24) l (min l.length 8)).1))]) (fun i : Nat => []) (fun i : Nat => i ≤ (rdM false (((1 + w0.toNat % 24) : Nat) : Int) (((bkS (1 + w0.toNat % 24) l (min l.length 8)).2 : Nat) : Int) ([((w1.toNat % 14 : Nat) : Int), m].getD k 0) (bkS (1 + w0.toNat % 24) l (min l.length 8)).1).length) (fun i : Nat => (rdM false (((1 + w0.toNat % 24) : Nat) : Int) (((bkS (1 + w0.toNat % 24) l (min l.length 8)).2 : Nat) : Int) ([((w1.toNat % 14 : Nat) : Int), m].getD k 0) (bkS (1 + w0.toNat % 24) l (min l.length 8)).1).length - i) 0 (Nat.zero_le _) (by exact Le.mk' (rs := [4, 5, 6, 2, 3, 0, 1]) (hs := []) ⟨rfl, rfl, rfl, rfl, rfl, rfl, rfl, trivial⟩ ⟨rfl, rfl, rfl, rfl, rfl, rfl, rfl, trivial⟩ trivial (by decide)) ?_
        intro i hi
        refine C.seq ?_
        refine C.seq ?_
        have hml := rdM_len false (((1 + w0.toNat % 24) : Nat) : Int) (((bkS (1 + w0.toNat % 24) l (min l.length 8)).2 : Nat) : Int) ([((w1.toNat % 14 : Nat) : Int), m].getD k 0) (bkS (1 + w0.toNat % 24) l (min l.length 8)).1
        refine C.region ?_
        refine L.step (Ev.pure rfl) rfl ?_
        refine L.step (Ev.pure rfl) rfl ?_
        refine L.step (Ev.pure rfl) rfl ?_
        refine L.step (Ev.pure rfl) rfl ?_
        refine L.nil ?_
        refine QE.seq ?_
        refine C.condB 61 rfl (fun hc61 => ?_) (fun hc61 => ?_)
        · skip
          replace hc61 := of_decide_eq_true hc61
          refine C.skip ?_
          refine QE.seq ?_
          refine C.seq ?_
          refine C.block ?_
          refine C.seq ?_
          have hrow := rdM_row false (((1 + w0.toNat % 24) : Nat) : Int) (((bkS (1 + w0.toNat % 24) l (min l.length 8)).2 : Nat) : Int) ([((w1.toNat % 14 : Nat) : Int), m].getD k 0) (bkS (1 + w0.toNat % 24) l (min l.length 8)).1 i
          refine C.regionQ (by kernel_rfl) ?_
          refine LQ.step (Ev.pure rfl) rfl ?_
          refine LQ.step (Ev.pure rfl) rfl ?_
          refine LQ.step (Ev.idx1 (k := i) rfl rfl rfl rfl rfl rfl rfl (by omega) (Src.r 3 rfl) (by rw [rowsV_len (by rw [J8_len]; exact hh37), J8_len]; omega)) rfl ?_
          refine LQ.step (Ev.load rfl rfl rfl (Src.r 3 rfl) (rowsJ_get hh37 (by omega))) rfl ?_
          refine LQ.step (Ev.pure rfl) rfl ?_
          refine LQ.step (Ev.pure rfl) rfl ?_
          refine LQ.step (Ev.idx1 (k := i) rfl rfl rfl rfl rfl rfl rfl (by omega) (Src.r 5 rfl) (by rw [rowsV_len (by rw [J8_len]; exact hh45), J8_len]; omega)) rfl ?_
          refine LQ.step (Ev.load rfl rfl rfl (Src.r 5 rfl) (rowsJ_get hh45 (by omega))) rfl ?_
          refine LQ.call (.bool true) (Ctr.tb true (ints_c (hs37.getD i (none, 0)).1 ((rdM false (((1 + w0.toNat % 24) : Nat) : Int) (((bkS (1 + w0.toNat % 24) l (min l.length 8)).2 : Nat) : Int) ([((w1.toNat % 14 : Nat) : Int), m].getD k 0) (bkS (1 + w0.toNat % 24) l (min l.length 8)).1).getD i []) (hs37.getD i (none, 0)).2 (hs45.getD i (none, 0)).1 ((rdM false (((1 + w0.toNat % 24) : Nat) : Int) (((bkS (1 + w0.toNat % 24) l (min l.length 8)).2 : Nat) : Int) ([((w1.toNat % 14 : Nat) : Int), m].getD k 0) (bkS (1 + w0.toNat % 24) l (min l.length 8)).1).getD i []) (hs45.getD i (none, 0)).2 (by omega) (by omega)) (decide_eq_true rfl)) (fun _ _ _ h => h.1) rfl ⟨((Has.kid 4 rfl (by rw [J8_len]; exact hh37) (i) (by rw [J8_len]; omega)).cast (J8_get _)), ((Has.kid 6 rfl (by rw [J8_len]; exact hh45) (i) (by rw [J8_len]; omega)).cast (J8_get _)), trivial⟩ rfl ?_
          refine LQ.step (Ev.pure rfl) rfl ?_
          refine LQ.nil ?_
          refine QE.seq ?_
          refine C.cond rfl (fun h => by cases h) (fun _ => ?_)
          refine C.skip ?_
          refine QE.blkN ?_
          refine QE.seq ?_
          refine C.region ?_
          refine L.step (Ev.pure rfl) rfl ?_
          refine L.step (Ev.add rfl rfl (by omega) (by omega)) rfl ?_
          refine L.step (Ev.pure rfl) rfl ?_
          refine L.nil ?_
          refine QE.round (i + 1) (by omega) (by omega) (by exact Le.mk' (rs := [0, 1, 2, 3, 4, 5, 6]) (hs := []) ⟨rfl, rfl, rfl, rfl, rfl, rfl, rfl, trivial⟩ ⟨rfl, rfl, rfl, rfl, rfl, rfl, rfl, trivial⟩ trivial (by decide))
        · skip
          replace hc61 := of_decide_eq_false hc61
          refine C.exit ?_
          refine QE.tX ?_
          refine QE.tX ?_
          refine QE.blk ?_
          refine QE.blkN ?_
          refine QE.seq ?_
          refine C.region ?_
          refine L.step (Ev.pure rfl) rfl ?_
          refine L.step (Ev.add rfl rfl (by omega) (by omega)) rfl ?_
          refine L.step (Ev.pure rfl) rfl ?_
          refine L.nil ?_
          refine QE.round (k + 1) (by omega) (by omega) (by exact Le.mk' (rs := [0, 1, 2]) (hs := []) ⟨rfl, rfl, rfl, rfl, trivial⟩ ⟨rfl, rfl, rfl, trivial⟩ trivial (by decide))
  · skip
    replace hc29 := of_decide_eq_false hc29
    refine C.exit ?_
    refine QE.tX ?_
    refine QE.tX ?_
    refine QE.blk ?_
    refine QE.seq ?_
    refine C.seq ?_
    refine C.region ?_
    refine L.step (Ev.pure rfl) rfl ?_
    refine L.step (Ev.pure rfl) rfl ?_
    refine L.nil ?_
    refine QE.seq ?_
    refine C.ret ?_
    refine QE.ret (js := []) (hs := []) (vs := [_]) rfl ⟨rfl, trivial⟩ (by decide) ?_
    exact ⟨rfl, rfl, rfl⟩

end Go.Proofs.Ytklbkaefjjonmaa
