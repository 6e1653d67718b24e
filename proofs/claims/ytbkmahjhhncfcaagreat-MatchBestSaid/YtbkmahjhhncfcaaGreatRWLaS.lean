/-
  The contracts of the reference's Same, unnumbered and Lower.
-/
import Derived.Test.YtbkmahjhhncfcaaGreatRWLaR
namespace Go.Proofs.YtbkmahjhhncfcaaGreat
open Go.Sl

set_option maxHeartbeats 1000000 in
theorem same3_c (W1 M1 L1 : Option Addr) (w1 m1 l1 : Nat) (a : Lf) (h1 : a.ws.length ≤ 1000000 ∧ a.ms.length ≤ 1000000 ∧ a.ls.length ≤ 1000000) (W2 M2 L2 : Option Addr) (w2 m2 l2 : Nat) (b : Lf) (h2 : b.ws.length ≤ 1000000 ∧ b.ms.length ≤ 1000000 ∧ b.ls.length ≤ 1000000) :
   Ctr X 78 [.agg (List.toArray [.slice W1 a.ws.length w1, .slice M1 a.ms.length m1, .slice L1 a.ls.length l1]), .agg (List.toArray [.slice W2 b.ws.length w2, .slice M2 b.ms.length m2, .slice L2 b.ls.length l2])] [Rd W1 (N32 a.ws), Rd M1 (Bs a.ms), Rd L1 (I64 a.ls), Rd W2 (N32 b.ws), Rd M2 (Bs b.ms), Rd L2 (I64 b.ls)] [] (fun v R' H' => v = .bool (decide (a = b)) ∧ R' = [] ∧ H' = []) := by
 refine Ctr.of (X := X) (fn := Tryz.f78) Tryz.func78 rfl (by kernel_rfl) rfl ?_
 intro β
 refine C.seq (C.region ?_)
 refine L.boxA rfl rfl (fun A2 => ?_)
 refine L.boxA rfl rfl (fun A3 => ?_)
 refine Lpu rfl rfl ?_; refine L.nil (QE.seq (C.seq (C.seq ?_))); refine C.freeze 1 rfl [0] (by decide) (by decide) ?_; refine C.norm (H' := [_]) [0] ⟨rfl, trivial⟩ (by decide) ?_; refine C.freeze 0 rfl [] (by decide) (by decide) ?_; refine C.region ?_; refine L.step (Ev.fieldAddr rfl rfl rfl rfl rfl rfl (Src.r 0 rfl) (Nat.zero_lt_succ _) rfl) rfl ?_; refine L.step (Ev.load rfl rfl rfl (Src.r 0 rfl) rfl) rfl ?_; refine Lpu rfl rfl ?_; refine L.step (Ev.fieldAddr rfl rfl rfl rfl rfl rfl (Src.r 1 rfl) (Nat.zero_lt_succ _) rfl) rfl ?_; refine L.step (Ev.load rfl rfl rfl (Src.r 1 rfl) rfl) rfl ?_; refine Lpu rfl rfl ?_; refine Lpu rfl rfl ?_; refine Lpu rfl rfl ?_
 refine L.bool 15 rfl (fun hg15 => ?_) (fun hg15 => ?_)
 ·
  replace hg15 := b_ne hg15
  refine L.no rfl rfl rfl ?_; refine L.no rfl rfl rfl ?_; refine L.no rfl rfl rfl ?_; refine L.no rfl rfl rfl ?_; refine L.no rfl rfl rfl ?_; refine L.no rfl rfl rfl ?_; refine L.no rfl rfl rfl ?_; refine Lpu rfl rfl ?_; refine Lpu rfl rfl ?_; refine L.no rfl rfl rfl ?_; refine L.no rfl rfl rfl ?_; refine L.no rfl rfl rfl ?_; refine L.no rfl rfl rfl ?_; refine L.no rfl rfl rfl ?_; refine L.no rfl rfl rfl ?_; refine L.no rfl rfl rfl ?_; refine Lpu rfl rfl ?_; refine L.nil (QE.seq ?_)
  refine C.cond rfl (fun _ => ?_) (fun h => by cases h)
  refine C.seq (C.region ?_); refine Lpu rfl rfl ?_; refine L.nil (QE.seq (C.ret (QE.tR ?_))); refine QE.ret (js := []) (hs := []) (vs := [_]) rfl ⟨rfl, trivial⟩ (by decide) ?_
  refine ⟨congrArg Value.bool (decide_eq_false (fun h => ?_)).symm, rfl, rfl⟩
  rw [h] at hg15
  exact hg15 rfl
 ·
  replace hg15 := b_eq hg15
  refine L.yes rfl ?_; refine L.step (Ev.fieldAddr rfl rfl rfl rfl rfl rfl (Src.r 0 rfl) (Nat.zero_lt_succ _) rfl) rfl ?_; refine L.yes rfl ?_; refine L.step (Ev.load rfl rfl rfl (Src.r 0 rfl) rfl) rfl ?_; refine L.yes rfl ?_; refine Lpu rfl rfl ?_; refine L.yes rfl ?_; refine L.step (Ev.fieldAddr rfl rfl rfl rfl rfl rfl (Src.r 1 rfl) (Nat.zero_lt_succ _) rfl) rfl ?_; refine L.yes rfl ?_; refine L.step (Ev.load rfl rfl rfl (Src.r 1 rfl) rfl) rfl ?_; refine L.yes rfl ?_; refine Lpu rfl rfl ?_; refine L.yes rfl ?_; refine Lpu rfl rfl ?_; refine Lpu rfl rfl ?_; refine Lpu rfl rfl ?_
  refine L.bool 24 rfl (fun hg24 => ?_) (fun hg24 => ?_)
  ·
   replace hg24 := b_ne hg24
   refine L.no rfl rfl rfl ?_; refine L.no rfl rfl rfl ?_; refine L.no rfl rfl rfl ?_; refine L.no rfl rfl rfl ?_; refine L.no rfl rfl rfl ?_; refine L.no rfl rfl rfl ?_; refine L.no rfl rfl rfl ?_; refine Lpu rfl rfl ?_; refine L.nil (QE.seq ?_)
   refine C.cond rfl (fun _ => ?_) (fun h => by cases h)
   refine C.seq (C.region ?_); refine Lpu rfl rfl ?_; refine L.nil (QE.seq (C.ret (QE.tR ?_))); refine QE.ret (js := []) (hs := []) (vs := [_]) rfl ⟨rfl, trivial⟩ (by decide) ?_
   refine ⟨congrArg Value.bool (decide_eq_false (fun h => ?_)).symm, rfl, rfl⟩
   rw [h] at hg24
   exact hg24 rfl
  ·
   replace hg24 := b_eq hg24
   refine L.yes rfl ?_; refine L.step (Ev.fieldAddr rfl rfl rfl rfl rfl rfl (Src.r 0 rfl) (Nat.zero_lt_succ _) rfl) rfl ?_; refine L.yes rfl ?_; refine L.step (Ev.load rfl rfl rfl (Src.r 0 rfl) rfl) rfl ?_; refine L.yes rfl ?_; refine Lpu rfl rfl ?_; refine L.yes rfl ?_; refine L.step (Ev.fieldAddr rfl rfl rfl rfl rfl rfl (Src.r 1 rfl) (Nat.zero_lt_succ _) rfl) rfl ?_; refine L.yes rfl ?_; refine L.step (Ev.load rfl rfl rfl (Src.r 1 rfl) rfl) rfl ?_; refine L.yes rfl ?_; refine Lpu rfl rfl ?_; refine L.yes rfl ?_; refine Lpu rfl rfl ?_; refine Lpu rfl rfl ?_; refine L.nil (QE.seq ?_)
   refine C.condB 32 rfl (fun hc32 => ?_) (fun hc32 => ?_)
   ·
    replace hc32 := b_ne hc32
    refine C.seq (C.region ?_); refine Lpu rfl rfl ?_; refine L.nil (QE.seq (C.ret (QE.tR ?_))); refine QE.ret (js := []) (hs := []) (vs := [_]) rfl ⟨rfl, trivial⟩ (by decide) ?_
    refine ⟨congrArg Value.bool (decide_eq_false (fun h => ?_)).symm, rfl, rfl⟩
    rw [h] at hc32
    exact hc32 rfl
   ·
    replace hc32 := b_eq hc32
    refine C.skip (QE.seq (C.seq (C.seq (C.region ?_)))); refine Lpu rfl rfl ?_; refine L.nil (QE.seq (C.block ?_)); refine C.loop (fun k : Nat => [(2, ptrOf A2 0), (3, ptrOf A3 0), (5, .int .i64 (k : Int))]) (fun k : Nat => [Rd A2 [.slice W1 a.ws.length w1, .slice M1 a.ms.length m1, .slice L1 a.ls.length l1], Rd A3 [.slice W2 b.ws.length w2, .slice M2 b.ms.length m2, .slice L2 b.ls.length l2], Rd W1 (N32 a.ws), Rd M1 (Bs a.ms), Rd L1 (I64 a.ls), Rd W2 (N32 b.ws), Rd M2 (Bs b.ms), Rd L2 (I64 b.ls)]) (fun k : Nat => []) (fun k : Nat => k ≤ a.ws.length ∧ a.ws.take k = b.ws.take k) (fun k : Nat => a.ws.length - k) 0 ⟨Nat.zero_le _, rfl⟩ (by exact Le.mk' (rs := [0, 1, 2, 3, 4, 5, 6, 7]) (hs := []) ⟨rfl, rfl, rfl, trivial⟩ ⟨rfl, rfl, rfl, rfl, rfl, rfl, rfl, rfl, trivial⟩ trivial (by decide)) ?_
    rintro k ⟨hk, htk⟩
    refine C.seq (C.seq (C.region ?_)); refine Lpu rfl rfl ?_; refine L.step (Ev.fieldAddr rfl rfl rfl rfl rfl rfl (Src.r 0 rfl) (Nat.zero_lt_succ _) rfl) rfl ?_; refine L.step (Ev.load rfl rfl rfl (Src.r 0 rfl) rfl) rfl ?_; refine Lpu rfl rfl ?_; refine Lpu rfl rfl ?_; refine L.nil (QE.seq ?_)
    refine C.condB 37 rfl (fun hc37 => ?_) (fun hc37 => ?_)
    ·
     replace hc37 := of_decide_eq_true hc37
     refine C.skip (QE.seq (C.seq (C.block (C.seq ?_)))); refine C.regionQ (by kernel_rfl) ?_; refine LQ.step (Ev.fieldAddr rfl rfl rfl rfl rfl rfl (Src.r 0 rfl) (Nat.zero_lt_succ _) rfl) rfl ?_; refine LQ.step (Ev.load rfl rfl rfl (Src.r 0 rfl) rfl) rfl ?_; refine LQ.step (Ev.pure rfl) rfl ?_; refine LQ.step (Ev.idx1 (k := k) rfl rfl rfl rfl rfl rfl rfl (by omega) (Src.r 2 rfl) (by rw [N32_len]; omega)) rfl ?_; refine LQ.step (Ev.load rfl rfl rfl (Src.r 2 rfl) (N32_get (by omega))) rfl ?_; refine LQ.step (Ev.fieldAddr rfl rfl rfl rfl rfl rfl (Src.r 1 rfl) (Nat.zero_lt_succ _) rfl) rfl ?_; refine LQ.step (Ev.load rfl rfl rfl (Src.r 1 rfl) rfl) rfl ?_; refine LQ.step (Ev.pure rfl) rfl ?_; refine LQ.step (Ev.idx1 (k := k) rfl rfl rfl rfl rfl rfl rfl (by omega) (Src.r 5 rfl) (by rw [N32_len]; omega)) rfl ?_; refine LQ.step (Ev.load rfl rfl rfl (Src.r 5 rfl) (N32_get (by omega))) rfl ?_; refine LQ.step (Ev.pure rfl) rfl ?_; refine LQ.nil ?_; refine QE.seq ?_
     refine C.condB 50 rfl (fun hc50 => ?_) (fun hc50 => ?_)
     ·
      replace hc50 := b_ne hc50
      refine C.seq (C.region ?_); refine Lpu rfl rfl ?_; refine L.nil (QE.seq (C.ret (QE.bR (QE.tR (QE.tR (QE.bR (QE.tR ?_))))))); refine QE.ret (js := []) (hs := []) (vs := [_]) rfl ⟨rfl, trivial⟩ (by decide) ?_
      refine ⟨congrArg Value.bool (decide_eq_false (fun h => ?_)).symm, rfl, rfl⟩
      rw [h] at hc50
      exact hc50 rfl
     ·
      replace hc50 := b_eq hc50
      refine C.skip ?_; refine QE.blkN ?_; refine QE.seq (C.region ?_); refine Lpu rfl rfl ?_; refine L.step (Ev.add rfl rfl (by omega) (by omega)) rfl ?_; refine Lpu rfl rfl ?_; refine L.nil ?_
      refine QE.round (k + 1) ?_ (by omega) (by exact Le.mk' (rs := [0, 1, 2, 3, 4, 5, 6, 7]) (hs := []) ⟨rfl, rfl, rfl, trivial⟩ ⟨rfl, rfl, rfl, rfl, rfl, rfl, rfl, rfl, trivial⟩ trivial (by decide))
      · refine ⟨by omega, ?_⟩
        rw [take_snoc' a.ws 0 k (by omega), take_snoc' b.ws 0 k (by omega), htk, Int.ofNat_inj.1 hc50]
    ·
     replace hc37 := of_decide_eq_false hc37
     refine C.exit ?_; refine QE.tX ?_; refine QE.tX ?_; refine QE.blk ?_; refine QE.seq (C.seq (C.seq (C.region ?_))); refine Lpu rfl rfl ?_; refine L.nil (QE.seq (C.block ?_))
     have hws : a.ws = b.ws := by
       obtain rfl : k = a.ws.length := by omega
       rwa [List.take_of_length_le (Nat.le_refl _), List.take_of_length_le (by omega)] at htk
     clear htk hk
     refine C.loop (fun k : Nat => [(2, ptrOf A2 0), (3, ptrOf A3 0), (6, .int .i64 (k : Int))]) (fun k : Nat => [Rd A2 [.slice W1 a.ws.length w1, .slice M1 a.ms.length m1, .slice L1 a.ls.length l1], Rd A3 [.slice W2 b.ws.length w2, .slice M2 b.ms.length m2, .slice L2 b.ls.length l2], Rd W1 (N32 a.ws), Rd M1 (Bs a.ms), Rd L1 (I64 a.ls), Rd W2 (N32 b.ws), Rd M2 (Bs b.ms), Rd L2 (I64 b.ls)]) (fun k : Nat => []) (fun k : Nat => k ≤ a.ms.length ∧ a.ms.take k = b.ms.take k) (fun k : Nat => a.ms.length - k) 0 ⟨Nat.zero_le _, rfl⟩ (by exact Le.mk' (rs := [0, 1, 2, 3, 4, 5, 6, 7]) (hs := []) ⟨rfl, rfl, rfl, trivial⟩ ⟨rfl, rfl, rfl, rfl, rfl, rfl, rfl, rfl, trivial⟩ trivial (by decide)) ?_
     rintro k ⟨hk, htk⟩
     refine C.seq (C.seq (C.region ?_)); refine Lpu rfl rfl ?_; refine L.step (Ev.fieldAddr rfl rfl rfl rfl rfl rfl (Src.r 0 rfl) (Nat.zero_lt_succ _) rfl) rfl ?_; refine L.step (Ev.load rfl rfl rfl (Src.r 0 rfl) rfl) rfl ?_; refine Lpu rfl rfl ?_; refine Lpu rfl rfl ?_; refine L.nil (QE.seq ?_)
     refine C.condB 55 rfl (fun hc55 => ?_) (fun hc55 => ?_)
     ·
      replace hc55 := of_decide_eq_true hc55
      refine C.skip (QE.seq (C.seq (C.block (C.seq ?_)))); refine C.regionQ (by kernel_rfl) ?_; refine LQ.step (Ev.fieldAddr rfl rfl rfl rfl rfl rfl (Src.r 0 rfl) (Nat.zero_lt_succ _) rfl) rfl ?_; refine LQ.step (Ev.load rfl rfl rfl (Src.r 0 rfl) rfl) rfl ?_; refine LQ.step (Ev.pure rfl) rfl ?_; refine LQ.step (Ev.idx1 (k := k) rfl rfl rfl rfl rfl rfl rfl (by omega) (Src.r 3 rfl) (by rw [Bs_len]; omega)) rfl ?_; refine LQ.step (Ev.load rfl rfl rfl (Src.r 3 rfl) (Bs_get (by omega))) rfl ?_; refine LQ.step (Ev.fieldAddr rfl rfl rfl rfl rfl rfl (Src.r 1 rfl) (Nat.zero_lt_succ _) rfl) rfl ?_; refine LQ.step (Ev.load rfl rfl rfl (Src.r 1 rfl) rfl) rfl ?_; refine LQ.step (Ev.pure rfl) rfl ?_; refine LQ.step (Ev.idx1 (k := k) rfl rfl rfl rfl rfl rfl rfl (by omega) (Src.r 6 rfl) (by rw [Bs_len]; omega)) rfl ?_; refine LQ.step (Ev.load rfl rfl rfl (Src.r 6 rfl) (Bs_get (by omega))) rfl ?_; refine LQ.step (Ev.neBool rfl rfl rfl rfl) rfl ?_; refine LQ.nil ?_; refine QE.seq ?_
      refine C.condB 68 rfl (fun hc68 => ?_) (fun hc68 => ?_)
      ·
       refine C.seq (C.region ?_); refine Lpu rfl rfl ?_; refine L.nil (QE.seq (C.ret (QE.bR (QE.tR (QE.tR (QE.bR (QE.tR ?_))))))); refine QE.ret (js := []) (hs := []) (vs := [_]) rfl ⟨rfl, trivial⟩ (by decide) ?_
       refine ⟨congrArg Value.bool (decide_eq_false (fun h => ?_)).symm, rfl, rfl⟩
       rw [h] at hc68
       exact (bne_iff_ne.1 hc68) rfl
      ·
       refine C.skip ?_; refine QE.blkN ?_; refine QE.seq (C.region ?_); refine Lpu rfl rfl ?_; refine L.step (Ev.add rfl rfl (by omega) (by omega)) rfl ?_; refine Lpu rfl rfl ?_; refine L.nil ?_
       refine QE.round (k + 1) ?_ (by omega) (by exact Le.mk' (rs := [0, 1, 2, 3, 4, 5, 6, 7]) (hs := []) ⟨rfl, rfl, rfl, trivial⟩ ⟨rfl, rfl, rfl, rfl, rfl, rfl, rfl, rfl, trivial⟩ trivial (by decide))
       · refine ⟨by omega, ?_⟩
         rw [take_snoc' a.ms false k (by omega), take_snoc' b.ms false k (by omega), htk, bne_eq_false_iff_eq.1 hc68]
     ·
      replace hc55 := of_decide_eq_false hc55
      refine C.exit ?_; refine QE.tX ?_; refine QE.tX ?_; refine QE.blk ?_; refine QE.seq (C.seq (C.seq (C.region ?_))); refine Lpu rfl rfl ?_; refine L.nil (QE.seq (C.block ?_))
      have hms : a.ms = b.ms := by
        obtain rfl : k = a.ms.length := by omega
        rwa [List.take_of_length_le (Nat.le_refl _), List.take_of_length_le (by omega)] at htk
      clear htk hk
      refine C.loop (fun k : Nat => [(2, ptrOf A2 0), (3, ptrOf A3 0), (7, .int .i64 (k : Int))]) (fun k : Nat => [Rd A2 [.slice W1 a.ws.length w1, .slice M1 a.ms.length m1, .slice L1 a.ls.length l1], Rd A3 [.slice W2 b.ws.length w2, .slice M2 b.ms.length m2, .slice L2 b.ls.length l2], Rd W1 (N32 a.ws), Rd M1 (Bs a.ms), Rd L1 (I64 a.ls), Rd W2 (N32 b.ws), Rd M2 (Bs b.ms), Rd L2 (I64 b.ls)]) (fun k : Nat => []) (fun k : Nat => k ≤ a.ls.length ∧ a.ls.take k = b.ls.take k) (fun k : Nat => a.ls.length - k) 0 ⟨Nat.zero_le _, rfl⟩ (by exact Le.mk' (rs := [0, 1, 2, 3, 4, 5, 6, 7]) (hs := []) ⟨rfl, rfl, rfl, trivial⟩ ⟨rfl, rfl, rfl, rfl, rfl, rfl, rfl, rfl, trivial⟩ trivial (by decide)) ?_
      rintro k ⟨hk, htk⟩
      refine C.seq (C.seq (C.region ?_)); refine Lpu rfl rfl ?_; refine L.step (Ev.fieldAddr rfl rfl rfl rfl rfl rfl (Src.r 0 rfl) (Nat.zero_lt_succ _) rfl) rfl ?_; refine L.step (Ev.load rfl rfl rfl (Src.r 0 rfl) rfl) rfl ?_; refine Lpu rfl rfl ?_; refine Lpu rfl rfl ?_; refine L.nil (QE.seq ?_)
      refine C.condB 73 rfl (fun hc73 => ?_) (fun hc73 => ?_)
      ·
       replace hc73 := of_decide_eq_true hc73
       refine C.skip (QE.seq (C.seq (C.block (C.seq ?_)))); refine C.regionQ (by kernel_rfl) ?_; refine LQ.step (Ev.fieldAddr rfl rfl rfl rfl rfl rfl (Src.r 0 rfl) (Nat.zero_lt_succ _) rfl) rfl ?_; refine LQ.step (Ev.load rfl rfl rfl (Src.r 0 rfl) rfl) rfl ?_; refine LQ.step (Ev.pure rfl) rfl ?_; refine LQ.step (Ev.idx1 (k := k) rfl rfl rfl rfl rfl rfl rfl (by omega) (Src.r 4 rfl) (by rw [I64_len]; omega)) rfl ?_; refine LQ.step (Ev.load rfl rfl rfl (Src.r 4 rfl) (I64_get (by omega))) rfl ?_; refine LQ.step (Ev.fieldAddr rfl rfl rfl rfl rfl rfl (Src.r 1 rfl) (Nat.zero_lt_succ _) rfl) rfl ?_; refine LQ.step (Ev.load rfl rfl rfl (Src.r 1 rfl) rfl) rfl ?_; refine LQ.step (Ev.pure rfl) rfl ?_; refine LQ.step (Ev.idx1 (k := k) rfl rfl rfl rfl rfl rfl rfl (by omega) (Src.r 7 rfl) (by rw [I64_len]; omega)) rfl ?_; refine LQ.step (Ev.load rfl rfl rfl (Src.r 7 rfl) (I64_get (by omega))) rfl ?_; refine LQ.step (Ev.pure rfl) rfl ?_; refine LQ.nil ?_; refine QE.seq ?_
       refine C.condB 86 rfl (fun hc86 => ?_) (fun hc86 => ?_)
       ·
        replace hc86 := b_ne hc86
        refine C.seq (C.region ?_); refine Lpu rfl rfl ?_; refine L.nil (QE.seq (C.ret (QE.bR (QE.tR (QE.tR (QE.bR (QE.tR ?_))))))); refine QE.ret (js := []) (hs := []) (vs := [_]) rfl ⟨rfl, trivial⟩ (by decide) ?_
        refine ⟨congrArg Value.bool (decide_eq_false (fun h => ?_)).symm, rfl, rfl⟩
        rw [h] at hc86
        exact hc86 rfl
       ·
        replace hc86 := b_eq hc86
        refine C.skip ?_; refine QE.blkN ?_; refine QE.seq (C.region ?_); refine Lpu rfl rfl ?_; refine L.step (Ev.add rfl rfl (by omega) (by omega)) rfl ?_; refine Lpu rfl rfl ?_; refine L.nil ?_
        refine QE.round (k + 1) ?_ (by omega) (by exact Le.mk' (rs := [0, 1, 2, 3, 4, 5, 6, 7]) (hs := []) ⟨rfl, rfl, rfl, trivial⟩ ⟨rfl, rfl, rfl, rfl, rfl, rfl, rfl, rfl, trivial⟩ trivial (by decide))
        · refine ⟨by omega, ?_⟩
          rw [take_snoc' a.ls 0 k (by omega), take_snoc' b.ls 0 k (by omega), htk, hc86]
      ·
       replace hc73 := of_decide_eq_false hc73
       refine C.exit ?_; refine QE.tX ?_; refine QE.tX ?_; refine QE.blk ?_; refine QE.seq (C.seq (C.region ?_)); refine Lpu rfl rfl ?_; refine L.nil (QE.seq (C.ret ?_)); refine QE.ret (js := []) (hs := []) (vs := [_]) rfl ⟨rfl, trivial⟩ (by decide) ?_
       have hls : a.ls = b.ls := by
         obtain rfl : k = a.ls.length := by omega
         rwa [List.take_of_length_le (Nat.le_refl _), List.take_of_length_le (by omega)] at htk
       clear htk hk
       exact ⟨congrArg Value.bool (decide_eq_true (Lf.ext' hws hms hls)).symm, rfl, rfl⟩

set_option maxHeartbeats 1000000 in
theorem unnum_c (w i : Nat) (LA : Option Addr) (ls : List Int) (lc : Nat) (hw : w < 4294967296) (hi : i ≤ 1000000) (hl : ls.length ≤ 1000000) :
   Ctr X 77 [.int .u32 (w : Int), .int .i64 (4 * (i : Int)), .slice LA ls.length lc] [Rd LA (I64 ls)] [] (fun v R' H' => v = .tuple #[.int .u32 (((lowM w ls i).getD 0 : Nat) : Int), .bool (lowM w ls i).isSome] ∧ R' = [] ∧ H' = []) := by
 have hO : unnO w = w / 16777216 := rfl
 refine Ctr.of (X := X) (fn := Tryz.f77) Tryz.func77 rfl (by kernel_rfl) rfl ?_
 intro β
 refine C.seq (C.region ?_); refine Lpu rfl rfl ?_; refine Lpu rfl rfl ?_; refine L.nil (QE.seq (C.seq (C.region ?_))); refine Lpu rfl rfl ?_; refine L.step (Ev.shr32 (k := 24) (q := (w / 16777216)) rfl rfl rfl (by decide) rfl) rfl ?_; refine L.step (Ev.toInt rfl rfl rfl rfl (by omega) (by omega)) rfl ?_; refine Lpu rfl rfl ?_; refine L.step (Ev.shr32 (k := 16) (q := w / 65536) rfl rfl rfl (by decide) rfl) rfl ?_; refine L.step (Ev.low32 8 (q := w / 65536 % 256) rfl rfl rfl (by omega) (by decide) rfl) rfl ?_; refine L.step (Ev.toInt rfl rfl rfl rfl (by omega) (by omega)) rfl ?_; refine Lpu rfl rfl ?_; refine L.step (Ev.low32 24 (q := w % 16777216) rfl rfl rfl hw (by decide) rfl) rfl ?_; refine L.step (Ev.toInt rfl rfl rfl rfl (by omega) (by omega)) rfl ?_; refine Lpu rfl rfl ?_; refine Lpu rfl rfl ?_; refine Lpu rfl rfl ?_; refine L.nil (QE.seq (C.seq (C.seq (C.region ?_)))); refine Lpu rfl rfl ?_; refine Lpu rfl rfl ?_; refine Lpu rfl rfl ?_
 refine L.bool 26 rfl (fun hg26 => ?_) (fun hg26 => ?_)
 ·
  replace hg26 := of_decide_eq_true hg26
  refine L.no rfl rfl rfl ?_; refine L.no rfl rfl rfl ?_; refine Lpu rfl rfl ?_; refine L.nil (QE.seq ?_)
  refine C.cond rfl (fun _ => ?_) (fun h => by cases h)
  refine C.seq (C.region ?_); refine Lpu rfl rfl ?_; refine Lpu rfl rfl ?_; refine L.nil (QE.seq (C.ret (QE.tR ?_))); refine QE.ret (js := []) (hs := []) (vs := [_, _]) rfl ⟨rfl, rfl, trivial⟩ (by decide) ?_
  rw [lowM_bad (by omega)]
  exact ⟨rfl, rfl, rfl⟩
 ·
  replace hg26 := of_decide_eq_false hg26
  refine L.yes rfl ?_; refine Lpu rfl rfl ?_; refine L.yes rfl ?_; refine Lpu rfl rfl ?_; refine Lpu rfl rfl ?_; refine L.nil (QE.seq ?_)
  refine C.condB 29 rfl (fun hc29 => ?_) (fun hc29 => ?_)
  ·
   replace hc29 := of_decide_eq_true hc29
   refine C.seq (C.region ?_); refine Lpu rfl rfl ?_; refine Lpu rfl rfl ?_; refine L.nil (QE.seq (C.ret (QE.tR ?_))); refine QE.ret (js := []) (hs := []) (vs := [_, _]) rfl ⟨rfl, rfl, trivial⟩ (by decide) ?_
   rw [lowM_bad (by omega)]
   exact ⟨rfl, rfl, rfl⟩
  ·
   replace hc29 := of_decide_eq_false hc29
   refine C.skip (QE.seq (C.seq (C.region ?_))); refine Lpu rfl rfl ?_; refine L.step (Ev.build rfl rfl rfl rfl rfl rfl rfl) rfl ?_
   refine L.alloc rfl rfl rfl (fun A11 => ?_)
   refine L.storeA (j := 0) rfl rfl rfl rfl rfl (Nat.zero_lt_succ _) rfl rfl ?_; refine L.nil (QE.seq ?_); refine C.seqJ (fun u : Unit => [(1, .int .i64 (4 * (i : Int))), (2, .slice LA ls.length lc), (10, .int .i64 (unnN w : Int)), (11, ptrOf A11 0)]) (fun u : Unit => [Rd LA (I64 ls)]) (fun u : Unit => [Own 78 5 A11 1 1 [.int .i64 ((w / 16777216) : Int), .int .i64 (unnA w : Int), .int .i64 0, .int .i64 0, .int .i64 0]]) (fun u : Unit => True) ?_ ?_
   ·
    refine C.seq (C.region ?_); refine Lpu rfl rfl ?_; refine Lpu rfl rfl ?_; refine Lpu rfl rfl ?_
    refine L.bool 34 rfl (fun hg34 => ?_) (fun hg34 => ?_)
    ·
     replace hg34 := i_eq hg34
     refine L.no rfl rfl rfl ?_; refine L.no rfl rfl rfl ?_; refine Lpu rfl rfl ?_; refine L.nil (QE.seq ?_)
     refine C.cond rfl (fun _ => ?_) (fun h => by cases h)
     refine C.seq (C.region ?_); refine Lpu rfl rfl ?_; refine L.step (Ev.fieldAddr rfl rfl rfl rfl rfl rfl (Src.o 0 rfl) (Nat.zero_lt_succ _) rfl) rfl ?_
     first | refine L.store (j := 0) rfl rfl rfl rfl rfl rfl rfl rfl ?_ | refine L.store (j := 1) rfl rfl rfl rfl rfl rfl rfl rfl ?_ | refine L.store (j := 2) rfl rfl rfl rfl rfl rfl rfl rfl ?_ | refine L.store (j := 3) rfl rfl rfl rfl rfl rfl rfl rfl ?_ | refine L.store (j := 4) rfl rfl rfl rfl rfl rfl rfl rfl ?_ | refine L.store (j := 5) rfl rfl rfl rfl rfl rfl rfl rfl ?_
     refine L.nil (QE.seq (C.region ?_)); refine Lpu rfl rfl ?_; refine L.step (Ev.low32 16 (q := w % 65536) rfl rfl rfl hw (by decide) rfl) rfl ?_; refine L.step (Ev.toInt rfl rfl rfl rfl (by omega) (by omega)) rfl ?_; refine Lpu rfl rfl ?_; refine L.nil ?_
     refine QE.join (()) (by exact trivial) (by exact Le.mk' (rs := [0]) (hs := [0]) ⟨rfl, rfl, (by rw [show unnN w = w % 65536 by unfold unnN fldF; rw [if_neg (by omega)]]; rfl), rfl, trivial⟩ ⟨rfl, trivial⟩ ⟨(congrArg some (own_eq2 rfl (by rw [show unnA w = w / 65536 % 256 from if_pos (by omega)]; rfl))), trivial⟩ (by decide))
    ·
     replace hg34 := i_ne hg34
     refine L.yes rfl ?_; refine Lpu rfl rfl ?_; refine L.yes rfl ?_; refine Lpu rfl rfl ?_; refine Lpu rfl rfl ?_; refine L.nil (QE.seq ?_)
     refine C.condB 37 rfl (fun hc37 => ?_) (fun hc37 => ?_)
     ·
      replace hc37 := i_eq hc37
      refine C.seq (C.region ?_); refine Lpu rfl rfl ?_; refine L.step (Ev.fieldAddr rfl rfl rfl rfl rfl rfl (Src.o 0 rfl) (Nat.zero_lt_succ _) rfl) rfl ?_
      first | refine L.store (j := 0) rfl rfl rfl rfl rfl rfl rfl rfl ?_ | refine L.store (j := 1) rfl rfl rfl rfl rfl rfl rfl rfl ?_ | refine L.store (j := 2) rfl rfl rfl rfl rfl rfl rfl rfl ?_ | refine L.store (j := 3) rfl rfl rfl rfl rfl rfl rfl rfl ?_ | refine L.store (j := 4) rfl rfl rfl rfl rfl rfl rfl rfl ?_ | refine L.store (j := 5) rfl rfl rfl rfl rfl rfl rfl rfl ?_
      refine L.nil (QE.seq (C.region ?_)); refine Lpu rfl rfl ?_; refine L.step (Ev.low32 16 (q := w % 65536) rfl rfl rfl hw (by decide) rfl) rfl ?_; refine L.step (Ev.toInt rfl rfl rfl rfl (by omega) (by omega)) rfl ?_; refine Lpu rfl rfl ?_; refine L.nil ?_
      refine QE.join (()) (by exact trivial) (by exact Le.mk' (rs := [0]) (hs := [0]) ⟨rfl, rfl, (by rw [show unnN w = w % 65536 by unfold unnN fldF; rw [if_neg (by omega)]]; rfl), rfl, trivial⟩ ⟨rfl, trivial⟩ ⟨(congrArg some (own_eq2 rfl (by rw [show unnA w = w / 65536 % 256 from if_pos (by omega)]; rfl))), trivial⟩ (by decide))
     ·
      replace hc37 := i_ne hc37
      refine C.skip ?_
      refine QE.join (()) (by exact trivial) (by exact Le.mk' (rs := [0]) (hs := [0]) ⟨rfl, rfl, (by rw [show unnN w = w % 16777216 by unfold unnN fldF; rw [if_pos (by omega)]]; rfl), rfl, trivial⟩ ⟨rfl, trivial⟩ ⟨(congrArg some (own_eq2 rfl (by rw [show unnA w = 0 from if_neg (by omega)]; rfl))), trivial⟩ (by decide))
   ·
    intro _ _
    refine C.seq (C.seq (C.region ?_)); refine Lpu rfl rfl ?_; refine Lpu rfl rfl ?_; refine Lpu rfl rfl ?_; refine Lpu rfl rfl ?_; refine L.nil (QE.seq ?_)
    refine C.condB 46 rfl (fun hc46 => ?_) (fun hc46 => ?_)
    ·
     replace hc46 := of_decide_eq_true hc46
     refine C.seq (C.region ?_); refine Lpu rfl rfl ?_; refine Lpu rfl rfl ?_; refine L.nil (QE.seq (C.ret (QE.tR ?_))); refine QE.ret (js := []) (hs := []) (vs := [_, _]) rfl ⟨rfl, rfl, trivial⟩ (by decide) ?_
     rw [lowM_bad (by omega)]
     exact ⟨rfl, rfl, rfl⟩
    ·
     replace hc46 := of_decide_eq_false hc46
     refine C.skip (QE.seq (C.seq (C.region ?_))); refine Lpu rfl rfl ?_; refine Lpu rfl rfl ?_; refine L.step (Ev.idx1 (k := unnN w) rfl rfl rfl rfl rfl rfl rfl (by omega) (Src.r 0 rfl) (by rw [I64_len]; omega)) rfl ?_; refine L.step (Ev.load rfl rfl rfl (Src.r 0 rfl) (I64_get (by omega))) rfl ?_; refine L.step (Ev.fieldAddr rfl rfl rfl rfl rfl rfl (Src.o 0 rfl) (Nat.zero_lt_succ _) rfl) rfl ?_
     first | refine L.store (j := 0) rfl rfl rfl rfl rfl rfl rfl rfl ?_ | refine L.store (j := 1) rfl rfl rfl rfl rfl rfl rfl rfl ?_ | refine L.store (j := 2) rfl rfl rfl rfl rfl rfl rfl rfl ?_ | refine L.store (j := 3) rfl rfl rfl rfl rfl rfl rfl rfl ?_ | refine L.store (j := 4) rfl rfl rfl rfl rfl rfl rfl rfl ?_ | refine L.store (j := 5) rfl rfl rfl rfl rfl rfl rfl rfl ?_
     refine L.nil (QE.seq (C.seq (C.region ?_))); refine L.step (Ev.loadA (vs := [.int .i64 (unnO w : Int), .int .i64 (unnA w : Int), .int .i64 0, .int .i64 0, .int .i64 (ls.getD (unnN w) 0)]) rfl rfl rfl (Src.o 0 rfl) rfl rfl (by decide)) rfl ?_; refine Lpu rfl rfl ?_; refine L.call (js := []) (js' := [0]) (encode2_c (unnO w) (unnA w) (ls.getD (unnN w) 0) (4 * (i : Int)) (by omega) (by omega) (unnA_lt w) (by omega)) rfl rfl rfl (by decide) trivial rfl ?_
     rintro _ _ _ ⟨rfl, rfl, rfl⟩
     refine L.norm (H' := [_]) [0] ⟨rfl, trivial⟩ (by decide) ?_; refine Lpu rfl rfl ?_; refine Lpu rfl rfl ?_; refine Lpu rfl rfl ?_; refine Lpu rfl rfl ?_; refine Lpu rfl rfl ?_; refine L.nil (QE.seq (C.seq (C.region ?_))); refine Lpu rfl rfl ?_; refine Lpu rfl rfl ?_; refine Lpu rfl rfl ?_; refine Lpu rfl rfl ?_; refine Lpu rfl rfl ?_; refine L.nil (QE.seq (C.ret ?_)); refine QE.ret (js := []) (hs := []) (vs := [_, _]) rfl ⟨rfl, rfl, trivial⟩ (by decide) ?_
     rw [lowM_good (by omega) (by omega) (by omega)]
     refine ⟨?_, rfl, rfl⟩
     generalize hx : insT (unnO w) (unnA w) (ls.getD (unnN w) 0) = x
     have e1 : (encR x (4 * (i : Int))).1 = (encF x (4 * (i : Int))).getD 0 := by unfold encR; cases encF x (4 * (i : Int)) <;> rfl
     have e2 : ((encR x (4 * (i : Int))).2 == 0) = (encF x (4 * (i : Int))).isSome := by unfold encR; cases encF x (4 * (i : Int)) <;> rfl
     rw [← e1, ← e2]
     rfl

set_option maxHeartbeats 2000000 in
theorem lower3_c (WA MA LA : Option Addr) (wc mc lc : Nat) (x : Lf) (hxw : x.ws.length ≤ 1000000) (hxm : x.ms.length ≤ 1000000) (hxl : x.ls.length ≤ 1000000) (hx32 : W32 x.ws) :
   Ctr X 44 [.agg (List.toArray [.slice WA x.ws.length wc, .slice MA x.ms.length mc, .slice LA x.ls.length lc])] [Rd WA (N32 x.ws), Rd MA (Bs x.ms), Rd LA (I64 x.ls)] [] (fun v R' H' => ∃ (A : Option Addr) (c : Nat), v = .tuple #[.slice A (lowB x).length c, .int .i64 (lowC x)] ∧ R' = [] ∧ H' = [Own 5 1 A (lowB x).length c (U8 (lowB x))]) := by
 refine Ctr.of (X := X) (fn := Tryz.f44) Tryz.func44 rfl (by kernel_rfl) rfl ?_
 intro β
 refine C.seq (C.region ?_)
 refine L.boxA rfl rfl (fun A1 => ?_)
 refine Lpu rfl rfl ?_; refine Lpu rfl rfl ?_; refine L.nil (QE.seq (C.seq (C.seq ?_))); refine C.freeze 0 rfl [] (by decide) (by decide) ?_; refine C.region ?_; refine L.step (Ev.fieldAddr rfl rfl rfl rfl rfl rfl (Src.r 0 rfl) (Nat.zero_lt_succ _) rfl) rfl ?_; refine L.step (Ev.load rfl rfl rfl (Src.r 0 rfl) rfl) rfl ?_; refine Lpu rfl rfl ?_; refine Lpu rfl rfl ?_; refine Lpu rfl rfl ?_
 refine L.bool 16 rfl (fun hg16 => ?_) (fun hg16 => ?_)
 ·
  replace hg16 := of_decide_eq_true hg16
  refine L.no rfl rfl rfl ?_; refine L.no rfl rfl rfl ?_; refine L.no rfl rfl rfl ?_; refine L.no rfl rfl rfl ?_; refine L.no rfl rfl rfl ?_; refine L.no rfl rfl rfl ?_; refine L.no rfl rfl rfl ?_; refine Lpu rfl rfl ?_; refine L.nil (QE.seq ?_)
  refine C.cond rfl (fun _ => ?_) (fun h => by cases h)
  refine C.seq (C.region ?_); refine Lpu rfl rfl ?_; refine Lpu rfl rfl ?_; refine L.nil (QE.seq (C.ret (QE.tR ?_))); refine QE.nil_own 5 1 ?_; refine QE.ret (js := []) (hs := [0]) (vs := [_, _]) rfl ⟨rfl, rfl, trivial⟩ (by decide) ?_
  have hN : lowF x = none := lowF_form (.inl (by omega))
  rw [(low_no hN).1, (low_no hN).2]
  exact ⟨none, 0, rfl, rfl, rfl⟩
 ·
  replace hg16 := of_decide_eq_false hg16
  refine L.yes rfl ?_; refine L.step (Ev.fieldAddr rfl rfl rfl rfl rfl rfl (Src.r 0 rfl) (Nat.zero_lt_succ _) rfl) rfl ?_; refine L.yes rfl ?_; refine L.step (Ev.load rfl rfl rfl (Src.r 0 rfl) rfl) rfl ?_; refine L.yes rfl ?_; refine Lpu rfl rfl ?_; refine L.yes rfl ?_; refine L.step (Ev.fieldAddr rfl rfl rfl rfl rfl rfl (Src.r 0 rfl) (Nat.zero_lt_succ _) rfl) rfl ?_; refine L.yes rfl ?_; refine L.step (Ev.load rfl rfl rfl (Src.r 0 rfl) rfl) rfl ?_; refine L.yes rfl ?_; refine Lpu rfl rfl ?_; refine L.yes rfl ?_; refine Lpu rfl rfl ?_; refine Lpu rfl rfl ?_; refine L.nil (QE.seq ?_)
  refine C.condB 24 rfl (fun hc24 => ?_) (fun hc24 => ?_)
  ·
   replace hc24 := b_ne hc24
   refine C.seq (C.region ?_); refine Lpu rfl rfl ?_; refine Lpu rfl rfl ?_; refine L.nil (QE.seq (C.ret (QE.tR ?_))); refine QE.nil_own 5 1 ?_; refine QE.ret (js := []) (hs := [0]) (vs := [_, _]) rfl ⟨rfl, rfl, trivial⟩ (by decide) ?_
   have hN : lowF x = none := lowF_form (.inr (by omega))
   rw [(low_no hN).1, (low_no hN).2]
   exact ⟨none, 0, rfl, rfl, rfl⟩
  ·
   replace hc24 := b_eq hc24
   refine C.skip (QE.seq (C.seq (C.region ?_)))
   refine L.lit0S rfl rfl rfl rfl (fun A25 => ?_)
   refine Lpu rfl rfl ?_; refine L.nil (QE.seq (C.seq (C.seq (C.region ?_)))); refine Lpu rfl rfl ?_; refine L.nil (QE.seq (C.block ?_)); refine C.loop (fun q : Nat × List Nat × Option Addr × Nat => [(1, ptrOf A1 0), (4, .slice q.2.2.1 q.2.1.length q.2.2.2), (5, .int .i64 (q.1 : Int))]) (fun q : Nat × List Nat × Option Addr × Nat => [Rd A1 [.slice WA x.ws.length wc, .slice MA x.ms.length mc, .slice LA x.ls.length lc], Rd WA (N32 x.ws), Rd MA (Bs x.ms), Rd LA (I64 x.ls)]) (fun q : Nat × List Nat × Option Addr × Nat => [Own 73 1 q.2.2.1 q.2.1.length q.2.2.2 (N32 q.2.1)]) (fun q : Nat × List Nat × Option Addr × Nat => q.1 ≤ x.ws.length ∧ lowN x q.1 = some q.2.1) (fun q : Nat × List Nat × Option Addr × Nat => x.ws.length - q.1) (0, [], A25, 0) ⟨Nat.zero_le _, rfl⟩ (by exact Le.mk' (rs := [0, 1, 2, 3]) (hs := [0]) ⟨rfl, rfl, rfl, trivial⟩ ⟨rfl, rfl, rfl, rfl, trivial⟩ ⟨rfl, trivial⟩ (by decide)) ?_
   rintro ⟨k, l, WA2, wc2⟩ ⟨hk, hlow⟩
   dsimp only at hk hlow ⊢
   have hll := lowN_len hlow
   refine C.seq (C.seq (C.region ?_)); refine Lpu rfl rfl ?_; refine L.step (Ev.fieldAddr rfl rfl rfl rfl rfl rfl (Src.r 0 rfl) (Nat.zero_lt_succ _) rfl) rfl ?_; refine L.step (Ev.load rfl rfl rfl (Src.r 0 rfl) rfl) rfl ?_; refine Lpu rfl rfl ?_; refine Lpu rfl rfl ?_; refine L.nil (QE.seq ?_)
   refine C.condB 30 rfl (fun hc30 => ?_) (fun hc30 => ?_)
   ·
    replace hc30 := of_decide_eq_true hc30
    refine C.skip (QE.seq (C.seq (C.block (C.seq (C.region ?_))))); refine L.step (Ev.fieldAddr rfl rfl rfl rfl rfl rfl (Src.r 0 rfl) (Nat.zero_lt_succ _) rfl) rfl ?_; refine L.step (Ev.load rfl rfl rfl (Src.r 0 rfl) rfl) rfl ?_; refine Lpu rfl rfl ?_; refine L.step (Ev.idx1 (k := k) rfl rfl rfl rfl rfl rfl rfl (by omega) (Src.r 1 rfl) (by rw [N32_len]; omega)) rfl ?_; refine L.step (Ev.load rfl rfl rfl (Src.r 1 rfl) (N32_get (by omega))) rfl ?_; refine Lpu rfl rfl ?_; refine L.nil (QE.seq ?_); refine C.seqJ (fun w : Nat => [(1, ptrOf A1 0), (4, .slice WA2 l.length wc2), (5, .int .i64 (k : Int)), (6, .int .u32 (w : Int))]) (fun w : Nat => [Rd A1 [.slice WA x.ws.length wc, .slice MA x.ms.length mc, .slice LA x.ls.length lc], Rd WA (N32 x.ws), Rd MA (Bs x.ms), Rd LA (I64 x.ls)]) (fun w : Nat => [Own 73 1 WA2 l.length wc2 (N32 l)]) (fun w : Nat => lowE x k = some w) ?_ ?_
    ·
     refine C.seq (C.region ?_); refine L.step (Ev.fieldAddr rfl rfl rfl rfl rfl rfl (Src.r 0 rfl) (Nat.zero_lt_succ _) rfl) rfl ?_; refine L.step (Ev.load rfl rfl rfl (Src.r 0 rfl) rfl) rfl ?_; refine Lpu rfl rfl ?_; refine L.step (Ev.idx1 (k := k) rfl rfl rfl rfl rfl rfl rfl (by omega) (Src.r 2 rfl) (by rw [Bs_len]; omega)) rfl ?_; refine L.step (Ev.load rfl rfl rfl (Src.r 2 rfl) (Bs_get (by omega))) rfl ?_; refine L.nil (QE.seq ?_)
     refine C.condB 42 rfl (fun hc42 => ?_) (fun hc42 => ?_)
     ·
      have hmk : x.ms.getD k false = true := hc42
      refine C.seq (C.region ?_); refine Lpu rfl rfl ?_; refine Lpu rfl rfl ?_; refine L.step (Ev.mul rfl rfl (by omega) (by omega)) rfl ?_; refine L.step (Ev.fieldAddr rfl rfl rfl rfl rfl rfl (Src.r 0 rfl) (Nat.zero_lt_succ _) rfl) rfl ?_; refine L.step (Ev.load rfl rfl rfl (Src.r 0 rfl) rfl) rfl ?_; refine L.call (js := []) (js' := [0]) (unnum_c (x.ws.getD k 0) k LA x.ls lc (hx32 k) (by omega) hxl) rfl rfl rfl (by decide) (Hq [3] rfl) rfl ?_
      rintro _ _ _ ⟨rfl, rfl, rfl⟩
      refine L.norm (H' := [_]) [0] ⟨rfl, trivial⟩ (by decide) ?_; refine Lpu rfl rfl ?_; refine Lpu rfl rfl ?_; refine Lpu rfl rfl ?_; refine Lpu rfl rfl ?_; refine Lpu rfl rfl ?_; refine L.nil (QE.seq (C.seq (C.seq (C.region ?_)))); refine Lpu rfl rfl ?_; refine Lpu rfl rfl ?_; refine L.nil (QE.seq ?_)
      refine C.condB 53 rfl (fun hc53 => ?_) (fun hc53 => ?_)
      ·
       have hnone : (lowM (x.ws.getD k 0) x.ls k) = none := by cases hx : (lowM (x.ws.getD k 0) x.ls k) with
         | none => rfl
         | some y => rw [hx] at hc53; cases hc53
       refine C.seq (C.region ?_); refine Lpu rfl rfl ?_; refine Lpu rfl rfl ?_; refine L.nil (QE.seq (C.ret (QE.tR (QE.tR (QE.bR (QE.tR (QE.tR (QE.bR (QE.tR ?_))))))))); refine QE.nil_own 5 1 ?_; refine QE.ret (js := []) (hs := [1]) (vs := [_, _]) rfl ⟨rfl, rfl, trivial⟩ (by decide) ?_
       have hN : lowF x = none := lowF_word (k := k) (by omega) (by rw [lowE_mark hmk]; exact hnone)
       rw [(low_no hN).1, (low_no hN).2]
       exact ⟨none, 0, rfl, rfl, rfl⟩
      ·
       have hsome : (lowM (x.ws.getD k 0) x.ls k) = some ((lowM (x.ws.getD k 0) x.ls k).getD 0) := by cases hx : (lowM (x.ws.getD k 0) x.ls k) with
         | none => rw [hx] at hc53; cases hc53
         | some y => rfl
       refine C.skip (QE.seq (C.region ?_)); refine Lpu rfl rfl ?_; refine Lpu rfl rfl ?_; refine L.nil ?_
       refine QE.join ((lowM (x.ws.getD k 0) x.ls k).getD 0) (by rw [lowE_mark hmk]; exact hsome) (by exact Le.mk' (rs := [0, 1, 2, 3]) (hs := [0]) ⟨rfl, rfl, rfl, rfl, trivial⟩ ⟨rfl, rfl, rfl, rfl, trivial⟩ ⟨rfl, trivial⟩ (by decide))
     ·
      have hmk : x.ms.getD k false = false := hc42
      refine C.skip ?_
      refine QE.join ((x.ws.getD k 0)) (by exact (lowE_plain hmk)) (by exact Le.mk' (rs := [0, 1, 2, 3]) (hs := [0]) ⟨rfl, rfl, rfl, rfl, trivial⟩ ⟨rfl, rfl, rfl, rfl, trivial⟩ ⟨rfl, trivial⟩ (by decide))
    ·
     intro w hlE
     refine C.region ?_; refine Lpu rfl rfl ?_; refine Lpu rfl rfl ?_
     refine L.lit rfl rfl rfl rfl rfl (by rfl) (by rfl) (by rfl) rfl rfl (fun A57 => ?_)
     refine L.append (j := 0) rfl rfl rfl rfl (by decide) rfl rfl rfl rfl (Src.o 1 rfl) rfl (N32_one [w]) (by omega) (by show _ * 4 ≤ _; omega) rfl (fun A58 cc58 => ?_)
     refine Lpu rfl rfl ?_; refine L.nil ?_; refine QE.blkN ?_; refine QE.seq (C.region ?_); refine Lpu rfl rfl ?_; refine L.step (Ev.add rfl rfl (by omega) (by omega)) rfl ?_; refine Lpu rfl rfl ?_; refine L.nil ?_
     have hel : (l ++ [w]).length = l.length + 1 := List.length_append
     refine QE.round (i := (k, l, WA2, wc2)) ((k + 1, l ++ [w], A58, cc58)) (by exact ⟨by dsimp only; omega, lowN_some hlow hlE⟩) (by dsimp only; omega) (by exact Le.mk' (rs := [0, 1, 2, 3]) (hs := [0]) ⟨rfl, (by dsimp only; rw [hel]; rfl), rfl, trivial⟩ ⟨rfl, rfl, rfl, rfl, trivial⟩ ⟨(congrArg some (own_eq2 hel.symm (by dsimp only; simp only [← N32_app]; rfl))), trivial⟩ (by decide))
   ·
    replace hc30 := of_decide_eq_false hc30
    refine C.exit ?_; refine QE.tX ?_; refine QE.tX ?_; refine QE.blk ?_; refine QE.seq (C.seq ?_)
    obtain rfl : k = x.ws.length := by omega
    have hl32 := lowN_w32 hx32 hlow
    refine C.region ?_; refine Lpu rfl rfl ?_; refine L.call (js := []) (js' := [0]) (bytes2_c WA2 l wc2 (by omega) hl32) rfl rfl rfl (by decide) ⟨(Has.o 0 rfl), trivial⟩ rfl ?_
    rintro _ _ _ ⟨YA, yc, rfl, rfl, rfl⟩
    refine L.norm (H' := [_, _]) [0, 1] ⟨rfl, rfl, trivial⟩ (by decide) ?_; refine Lpu rfl rfl ?_; refine L.nil (QE.seq (C.seq (C.region ?_))); refine Lpu rfl rfl ?_; refine L.call (js := []) (js' := [0, 1]) (lift3_c YA (bytesF l) yc (by rw [bytesF_len]; omega)) rfl rfl rfl (by decide) ⟨(Has.o 0 rfl), trivial⟩ rfl ?_
    rintro _ _ _ ⟨W2, M2, L2, w2, m2, l2, rfl, rfl, rfl⟩
    refine L.norm (H' := [_, _, _, _, _]) [0, 1, 2, 3, 4] ⟨rfl, rfl, rfl, rfl, rfl, trivial⟩ (by decide) ?_; refine Lpu rfl rfl ?_; refine Lpu rfl rfl ?_; refine Lpu rfl rfl ?_
    refine L.alloc rfl rfl rfl (fun A10 => ?_)
    refine L.storeA (j := 5) rfl rfl rfl rfl rfl (Nat.zero_lt_succ _) rfl rfl ?_; refine Lpu rfl rfl ?_; refine L.nil (QE.seq (C.seq (C.seq ?_)))
    have hX2 : (liftR (bytesF l)).ws.length ≤ 1000000 ∧ (liftR (bytesF l)).ms.length ≤ 1000000 ∧ (liftR (bytesF l)).ls.length ≤ 1000000 := by
      have := liftR_lens (bytesF l)
      rw [bytesF_len] at this
      omega
    refine C.region ?_; refine L.step (Ev.loadA (vs := [.slice W2 (liftR (bytesF l)).ws.length w2, .slice M2 (liftR (bytesF l)).ms.length m2, .slice L2 (liftR (bytesF l)).ls.length l2]) rfl rfl rfl (Src.o 5 rfl) rfl rfl (by decide)) rfl ?_; refine L.step (Ev.loadA (vs := [.slice WA x.ws.length wc, .slice MA x.ms.length mc, .slice LA x.ls.length lc]) rfl rfl rfl (Src.r 0 rfl) rfl rfl (by decide)) rfl ?_; refine L.call (js := []) (js' := [0, 1, 2, 3, 4, 5]) (same3_c W2 M2 L2 w2 m2 l2 (liftR (bytesF l)) hX2 WA MA LA wc mc lc x ⟨hxw, hxm, hxl⟩) rfl rfl rfl (by decide) ⟨(Has.o 0 rfl), (Has.o 1 rfl), (Has.o 2 rfl), (Has.r 1 rfl), (Has.r 2 rfl), (Has.r 3 rfl), trivial⟩ rfl ?_
    rintro _ _ _ ⟨rfl, rfl, rfl⟩
    refine L.norm (H' := [_, _, _, _, _, _]) [0, 1, 2, 3, 4, 5] ⟨rfl, rfl, rfl, rfl, rfl, rfl, trivial⟩ (by decide) ?_; refine Lpu rfl rfl ?_; refine L.nil (QE.seq ?_)
    refine C.condB 69 rfl (fun hc69 => ?_) (fun hc69 => ?_)
    ·
     refine C.seq (C.region ?_); refine Lpu rfl rfl ?_; refine Lpu rfl rfl ?_; refine L.nil (QE.seq (C.ret (QE.tR ?_))); refine QE.nil_own 5 1 ?_; refine QE.ret (js := []) (hs := [6]) (vs := [_, _]) rfl ⟨rfl, rfl, trivial⟩ (by decide) ?_
     have hN : lowF x = none := by rw [lowF_all (by omega) (by omega) hlow, if_neg (fun h => by rw [decide_eq_true h] at hc69; cases hc69)]
     rw [(low_no hN).1, (low_no hN).2]
     exact ⟨none, 0, rfl, rfl, rfl⟩
    ·
     refine C.skip (QE.seq (C.seq (C.region ?_))); refine Lpu rfl rfl ?_; refine Lpu rfl rfl ?_; refine Lpu rfl rfl ?_; refine L.nil (QE.seq (C.ret ?_)); refine QE.ret (js := []) (hs := [3]) (vs := [_, _]) rfl ⟨rfl, rfl, trivial⟩ (by decide) ?_
     have hY : lowF x = some (bytesF l) := by rw [lowF_all (by omega) (by omega) hlow, if_pos (by simpa using hc69)]
     rw [(low_yes hY).1, (low_yes hY).2]
     exact ⟨YA, yc, rfl, rfl, rfl⟩

end Go.Proofs.YtbkmahjhhncfcaaGreat
