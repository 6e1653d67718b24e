/-
  The contract of the program's Lower.
-/
import Derived.Test.YtbkmahjhhncfcaaGreatQLaf
namespace Go.Proofs.YtbkmahjhhncfcaaGreat
open Go.Sl

set_option maxHeartbeats 2000000 in
theorem lower_c (WA MA LA : Option Addr) (wc mc lc : Nat) (x : Lf) (hxw : x.ws.length ≤ 1000000) (hxm : x.ms.length ≤ 1000000) (hxl : x.ls.length ≤ 1000000) (hx32 : W32 x.ws) :
   Ctr X 61 [.agg (List.toArray [.slice WA x.ws.length wc, .slice MA x.ms.length mc, .slice LA x.ls.length lc])] [Rd WA (N32 x.ws), Rd MA (Bs x.ms), Rd LA (I64 x.ls)] [] (fun v R' H' => ∃ (A : Option Addr) (c : Nat), v = .tuple #[.slice A (lowB x).length c, .int .i64 (lowC x)] ∧ R' = [] ∧ H' = [Own 5 1 A (lowB x).length c (U8 (lowB x))]) := by
 refine Ctr.of (X := X) (fn := Tryz.f61) Tryz.func61 rfl (by kernel_rfl) rfl ?_
 intro β
 refine C.seq (C.region ?_)
 refine L.boxA rfl rfl (fun A1 => ?_)
 refine Lpu rfl rfl ?_; refine Lpu rfl rfl ?_; refine L.nil (QE.seq (C.seq (C.seq ?_))); refine C.freeze 0 rfl [] (by decide) (by decide) ?_; refine C.region ?_; refine L.step (Ev.fieldAddr rfl rfl rfl rfl rfl rfl (Src.r 0 rfl) (Nat.zero_lt_succ _) rfl) rfl ?_; refine L.step (Ev.load rfl rfl rfl (Src.r 0 rfl) rfl) rfl ?_; refine Lpu rfl rfl ?_; refine Lpu rfl rfl ?_; refine Lpu rfl rfl ?_
 refine L.bool 18 rfl (fun hg18 => ?_) (fun hg18 => ?_)
 ·
  replace hg18 := of_decide_eq_true hg18
  refine L.no rfl rfl rfl ?_; refine L.no rfl rfl rfl ?_; refine L.no rfl rfl rfl ?_; refine L.no rfl rfl rfl ?_; refine L.no rfl rfl rfl ?_; refine L.no rfl rfl rfl ?_; refine L.no rfl rfl rfl ?_; refine Lpu rfl rfl ?_; refine L.nil (QE.seq ?_)
  refine C.cond rfl (fun _ => ?_) (fun h => by cases h)
  refine C.seq (C.region ?_); refine Lpu rfl rfl ?_; refine Lpu rfl rfl ?_; refine L.nil (QE.seq (C.ret (QE.tR ?_))); refine QE.nil_own 5 1 ?_; refine QE.ret (js := []) (hs := [0]) (vs := [_, _]) rfl ⟨rfl, rfl, trivial⟩ (by decide) ?_
  have hN : lowF x = none := lowF_form (.inl (by omega))
  rw [(low_no hN).1, (low_no hN).2]
  exact ⟨none, 0, rfl, rfl, rfl⟩
 ·
  replace hg18 := of_decide_eq_false hg18
  refine L.yes rfl ?_; refine L.step (Ev.fieldAddr rfl rfl rfl rfl rfl rfl (Src.r 0 rfl) (Nat.zero_lt_succ _) rfl) rfl ?_; refine L.yes rfl ?_; refine L.step (Ev.load rfl rfl rfl (Src.r 0 rfl) rfl) rfl ?_; refine L.yes rfl ?_; refine Lpu rfl rfl ?_; refine L.yes rfl ?_; refine L.step (Ev.fieldAddr rfl rfl rfl rfl rfl rfl (Src.r 0 rfl) (Nat.zero_lt_succ _) rfl) rfl ?_; refine L.yes rfl ?_; refine L.step (Ev.load rfl rfl rfl (Src.r 0 rfl) rfl) rfl ?_; refine L.yes rfl ?_; refine Lpu rfl rfl ?_; refine L.yes rfl ?_; refine Lpu rfl rfl ?_; refine Lpu rfl rfl ?_; refine L.nil (QE.seq ?_)
  refine C.condB 26 rfl (fun hc26 => ?_) (fun hc26 => ?_)
  ·
   replace hc26 := b_ne hc26
   refine C.seq (C.region ?_); refine Lpu rfl rfl ?_; refine Lpu rfl rfl ?_; refine L.nil (QE.seq (C.ret (QE.tR ?_))); refine QE.nil_own 5 1 ?_; refine QE.ret (js := []) (hs := [0]) (vs := [_, _]) rfl ⟨rfl, rfl, trivial⟩ (by decide) ?_
   have hN : lowF x = none := lowF_form (.inr (by omega))
   rw [(low_no hN).1, (low_no hN).2]
   exact ⟨none, 0, rfl, rfl, rfl⟩
  ·
   replace hc26 := b_eq hc26
   refine C.skip (QE.seq (C.seq (C.region ?_))); refine L.step (Ev.fieldAddr rfl rfl rfl rfl rfl rfl (Src.r 0 rfl) (Nat.zero_lt_succ _) rfl) rfl ?_; refine L.step (Ev.load rfl rfl rfl (Src.r 0 rfl) rfl) rfl ?_; refine L.call (js := []) (js' := []) (clone32_c WA x.ws.length wc (N32 x.ws) (N32_one _) (N32_len _) hxw) rfl rfl rfl (by decide) (Hq [1] rfl) rfl ?_
   rintro _ _ _ ⟨CA, cc, rfl, rfl, rfl⟩
   refine L.norm (H' := [_]) [0] ⟨rfl, trivial⟩ (by decide) ?_; refine Lpu rfl rfl ?_; refine L.nil (QE.seq (C.seq (C.seq (C.region ?_)))); refine L.step (Ev.fieldAddr rfl rfl rfl rfl rfl rfl (Src.r 0 rfl) (Nat.zero_lt_succ _) rfl) rfl ?_; refine L.step (Ev.load rfl rfl rfl (Src.r 0 rfl) rfl) rfl ?_; refine Lpu rfl rfl ?_; refine Lpu rfl rfl ?_; refine L.nil (QE.seq (C.block ?_)); refine C.loop (fun q : Nat × List Nat => [(1, ptrOf A1 0), (4, .slice CA x.ws.length cc), (31, .slice MA x.ms.length mc), (32, .int .i64 (x.ms.length : Int)), (33, .int .i64 (q.1 : Int))]) (fun q : Nat × List Nat => [Rd A1 [.slice WA x.ws.length wc, .slice MA x.ms.length mc, .slice LA x.ls.length lc], Rd WA (N32 x.ws), Rd MA (Bs x.ms), Rd LA (I64 x.ls)]) (fun q : Nat × List Nat => [Own 73 1 CA x.ws.length cc (N32 (q.2 ++ x.ws.drop q.1))]) (fun q : Nat × List Nat => q.1 ≤ x.ws.length ∧ lowN x q.1 = some q.2) (fun q : Nat × List Nat => x.ws.length - q.1) (0, []) ⟨Nat.zero_le _, rfl⟩ (by exact Le.mk' (rs := [0, 1, 2, 3]) (hs := [0]) ⟨rfl, rfl, rfl, rfl, rfl, trivial⟩ ⟨rfl, rfl, rfl, rfl, trivial⟩ ⟨rfl, trivial⟩ (by decide)) ?_
   rintro ⟨k, l⟩ ⟨hk, hlow⟩
   dsimp only at hk hlow ⊢
   have hll := lowN_len hlow
   refine C.seq (C.region ?_); refine Lpu rfl rfl ?_; refine L.nil (QE.seq (C.seq ?_))
   refine C.condB 34 rfl (fun hc34 => ?_) (fun hc34 => ?_)
   ·
    replace hc34 := of_decide_eq_true hc34
    have hw32 := hx32 k
    have hn0 := unnN_le (x.ws.getD k 0)
    refine C.skip (QE.seq (C.seq (C.block (C.seq (C.region ?_))))); refine Lpu rfl rfl ?_; refine L.step (Ev.idx1 (k := k) rfl rfl rfl rfl rfl rfl rfl (by omega) (Src.r 2 rfl) (by rw [Bs_len]; omega)) rfl ?_; refine L.step (Ev.load rfl rfl rfl (Src.r 2 rfl) (Bs_get (by omega))) rfl ?_; refine Lpu rfl rfl ?_; refine Lpu rfl rfl ?_; refine L.nil (QE.seq (C.seq (C.seq (C.region ?_)))); refine Lpu rfl rfl ?_; refine Lpu rfl rfl ?_; refine L.nil (QE.seq ?_)
    refine C.condB 39 rfl (fun hc39 => ?_) (fun hc39 => ?_)
    ·
     have hmk : x.ms.getD k false = false := by simpa using hc39
     refine C.exit ?_; refine QE.tX ?_; refine QE.blk ?_; refine QE.seq (C.region ?_); refine L.step (Ev.add rfl rfl (by omega) (by omega)) rfl ?_; refine Lpu rfl rfl ?_; refine L.nil ?_
     refine QE.round (i := (k, l)) ((k + 1, l ++ [x.ws.getD k 0])) (by exact ⟨by dsimp only; omega, lowN_some hlow (lowE_plain hmk)⟩) (by dsimp only; omega) (by exact Le.mk' (rs := [0, 1, 2, 3]) (hs := [0]) ⟨rfl, rfl, rfl, rfl, rfl, trivial⟩ ⟨rfl, rfl, rfl, rfl, trivial⟩ ⟨(congrArg some (own_eq2 rfl (by dsimp only; rw [row_same l x.ws (by omega)]))), trivial⟩ (by decide))
    ·
     have hmk : x.ms.getD k false = true := by simpa using hc39
     have ho : (unnO (x.ws.getD k 0)) = (x.ws.getD k 0) / 16777216 := rfl
     have ho8 : (unnO (x.ws.getD k 0)) < 256 := by omega
     refine C.skip (QE.seq (C.seq (C.region ?_))); refine Lpu rfl rfl ?_; refine Lpu rfl rfl ?_; refine L.step (Ev.idx1 (k := k) rfl rfl rfl rfl rfl rfl rfl (by omega) (Src.o 0 rfl) (by rw [N32_len, List.length_append, List.length_drop]; omega)) rfl ?_; refine L.step (Ev.load rfl rfl rfl (Src.o 0 rfl) ((N32_get (by rw [List.length_append, List.length_drop]; omega)).trans (by rw [row_at l x.ws hll]))) rfl ?_; refine L.step (Ev.shr32 (k := 24) (q := (unnO (x.ws.getD k 0))) rfl rfl rfl (by decide) rfl) rfl ?_; refine L.step (Ev.toInt rfl rfl rfl rfl (by omega) (by omega)) rfl ?_; refine L.step (Ev.build rfl rfl rfl rfl rfl rfl rfl) rfl ?_
     refine L.alloc rfl rfl rfl (fun A7 => ?_)
     refine L.storeA (j := 1) rfl rfl rfl rfl rfl (Nat.zero_lt_succ _) rfl rfl ?_; refine L.nil (QE.seq (C.seq ?_)); refine C.regionQ (by kernel_rfl) ?_; refine LQ.step (Ev.pure rfl) rfl ?_; refine LQ.step (Ev.pure rfl) rfl ?_; refine LQ.step (Ev.idx1 (k := k) rfl rfl rfl rfl rfl rfl rfl (by omega) (Src.o 0 rfl) (by rw [N32_len, List.length_append, List.length_drop]; omega)) rfl ?_; refine LQ.step (Ev.load rfl rfl rfl (Src.o 0 rfl) ((N32_get (by rw [List.length_append, List.length_drop]; omega)).trans (by rw [row_at l x.ws hll]))) rfl ?_; refine LQ.step (Ev.fieldAddr rfl rfl rfl rfl rfl rfl (Src.o 1 rfl) (Nat.zero_lt_succ _) rfl) rfl ?_; refine LQ.step (Ev.load rfl rfl rfl (Src.o 1 rfl) rfl) rfl ?_; refine LQ.call (.int .u32 ((2 ^ fldF (unnO (x.ws.getD k 0)) - 1 : Nat) : Int)) (field_c (unnO (x.ws.getD k 0))) (fun _ _ _ h => h.1) rfl trivial rfl ?_; refine LQ.step (Ev.low32 (fldF (unnO (x.ws.getD k 0))) (q := (unnN (x.ws.getD k 0))) rfl rfl rfl hw32 (fld_le _) rfl) rfl ?_; refine LQ.step (Ev.toInt rfl rfl rfl rfl (by omega) (by omega)) rfl ?_; refine LQ.step (Ev.pure rfl) rfl ?_; refine LQ.nil ?_; refine QE.seq (C.seq (C.seq (C.region ?_))); refine L.step (Ev.fieldAddr rfl rfl rfl rfl rfl rfl (Src.o 1 rfl) (Nat.zero_lt_succ _) rfl) rfl ?_; refine L.step (Ev.load rfl rfl rfl (Src.o 1 rfl) rfl) rfl ?_; refine Lpu rfl rfl ?_; refine Lpu rfl rfl ?_
     refine L.bool 59 rfl (fun hg59 => ?_) (fun hg59 => ?_)
     ·
      replace hg59 := of_decide_eq_true hg59
      refine L.no rfl rfl rfl ?_; refine L.no rfl rfl rfl ?_; refine L.no rfl rfl rfl ?_; refine Lpu rfl rfl ?_; refine Lpu rfl rfl ?_; refine L.no rfl rfl rfl ?_; refine L.no rfl rfl rfl ?_; refine L.no rfl rfl rfl ?_; refine L.no rfl rfl rfl ?_; refine L.no rfl rfl rfl ?_; refine Lpu rfl rfl ?_; refine L.nil (QE.seq ?_)
      refine C.cond rfl (fun _ => ?_) (fun h => by cases h)
      refine C.seq (C.region ?_); refine Lpu rfl rfl ?_; refine Lpu rfl rfl ?_; refine L.nil (QE.seq (C.ret (QE.tR (QE.bR (QE.tR (QE.tR (QE.bR (QE.tR ?_)))))))); refine QE.nil_own 5 1 ?_; refine QE.ret (js := []) (hs := [2]) (vs := [_, _]) rfl ⟨rfl, rfl, trivial⟩ (by decide) ?_
      have hN : lowF x = none := lowF_word (k := k) (by omega) (by rw [lowE_mark hmk]; exact lowM_bad (by omega))
      rw [(low_no hN).1, (low_no hN).2]
      exact ⟨none, 0, rfl, rfl, rfl⟩
     ·
      replace hg59 := of_decide_eq_false hg59
      refine L.yes rfl ?_; refine L.step (Ev.fieldAddr rfl rfl rfl rfl rfl rfl (Src.o 1 rfl) (Nat.zero_lt_succ _) rfl) rfl ?_; refine L.yes rfl ?_; refine L.step (Ev.load rfl rfl rfl (Src.o 1 rfl) rfl) rfl ?_; refine L.yes rfl ?_; refine Lpu rfl rfl ?_; refine Lpu rfl rfl ?_; refine Lpu rfl rfl ?_
      refine L.bool 64 rfl (fun hg64 => ?_) (fun hg64 => ?_)
      ·
       replace hg64 := of_decide_eq_true hg64
       refine L.no rfl rfl rfl ?_; refine L.no rfl rfl rfl ?_; refine L.no rfl rfl rfl ?_; refine L.no rfl rfl rfl ?_; refine L.no rfl rfl rfl ?_; refine Lpu rfl rfl ?_; refine L.nil (QE.seq ?_)
       refine C.cond rfl (fun _ => ?_) (fun h => by cases h)
       refine C.seq (C.region ?_); refine Lpu rfl rfl ?_; refine Lpu rfl rfl ?_; refine L.nil (QE.seq (C.ret (QE.tR (QE.bR (QE.tR (QE.tR (QE.bR (QE.tR ?_)))))))); refine QE.nil_own 5 1 ?_; refine QE.ret (js := []) (hs := [2]) (vs := [_, _]) rfl ⟨rfl, rfl, trivial⟩ (by decide) ?_
       have hN : lowF x = none := lowF_word (k := k) (by omega) (by rw [lowE_mark hmk]; exact lowM_bad (by omega))
       rw [(low_no hN).1, (low_no hN).2]
       exact ⟨none, 0, rfl, rfl, rfl⟩
      ·
       replace hg64 := of_decide_eq_false hg64
       refine L.yes rfl ?_; refine Lpu rfl rfl ?_; refine L.yes rfl ?_; refine L.step (Ev.fieldAddr rfl rfl rfl rfl rfl rfl (Src.r 0 rfl) (Nat.zero_lt_succ _) rfl) rfl ?_; refine L.yes rfl ?_; refine L.step (Ev.load rfl rfl rfl (Src.r 0 rfl) rfl) rfl ?_; refine L.yes rfl ?_; refine Lpu rfl rfl ?_; refine L.yes rfl ?_; refine Lpu rfl rfl ?_; refine Lpu rfl rfl ?_; refine L.nil (QE.seq ?_)
       refine C.condB 70 rfl (fun hc70 => ?_) (fun hc70 => ?_)
       ·
        replace hc70 := of_decide_eq_true hc70
        refine C.seq (C.region ?_); refine Lpu rfl rfl ?_; refine Lpu rfl rfl ?_; refine L.nil (QE.seq (C.ret (QE.tR (QE.bR (QE.tR (QE.tR (QE.bR (QE.tR ?_)))))))); refine QE.nil_own 5 1 ?_; refine QE.ret (js := []) (hs := [2]) (vs := [_, _]) rfl ⟨rfl, rfl, trivial⟩ (by decide) ?_
        have hN : lowF x = none := lowF_word (k := k) (by omega) (by rw [lowE_mark hmk]; exact lowM_bad (by omega))
        rw [(low_no hN).1, (low_no hN).2]
        exact ⟨none, 0, rfl, rfl, rfl⟩
       ·
        replace hc70 := of_decide_eq_false hc70
        refine C.skip (QE.seq ?_); refine C.seqJ (fun u : Unit => [(1, ptrOf A1 0), (4, .slice CA x.ws.length cc), (31, .slice MA x.ms.length mc), (32, .int .i64 (x.ms.length : Int)), (33, .int .i64 (k : Int)), (5, .int .i64 (k : Int)), (7, ptrOf A7 0), (8, .int .i64 ((unnN (x.ws.getD k 0)) : Int))]) (fun u : Unit => [Rd A1 [.slice WA x.ws.length wc, .slice MA x.ms.length mc, .slice LA x.ls.length lc], Rd WA (N32 x.ws), Rd MA (Bs x.ms), Rd LA (I64 x.ls)]) (fun u : Unit => [Own 73 1 CA x.ws.length cc (N32 (l ++ x.ws.drop k)), Own 78 5 A7 1 1 [.int .i64 ((unnO (x.ws.getD k 0)) : Int), .int .i64 ((unnA (x.ws.getD k 0)) : Int), .int .i64 0, .int .i64 0, .int .i64 0]]) (fun u : Unit => True) ?_ ?_
        ·
         refine C.seq (C.region ?_); refine L.step (Ev.fieldAddr rfl rfl rfl rfl rfl rfl (Src.o 1 rfl) (Nat.zero_lt_succ _) rfl) rfl ?_; refine L.step (Ev.load rfl rfl rfl (Src.o 1 rfl) rfl) rfl ?_; refine Lpu rfl rfl ?_; refine L.nil (QE.seq ?_)
         refine C.condB 73 rfl (fun hc73 => ?_) (fun hc73 => ?_)
         ·
          replace hc73 := of_decide_eq_true hc73
          refine C.region ?_; refine Lpu rfl rfl ?_; refine Lpu rfl rfl ?_; refine L.step (Ev.idx1 (k := k) rfl rfl rfl rfl rfl rfl rfl (by omega) (Src.o 0 rfl) (by rw [N32_len, List.length_append, List.length_drop]; omega)) rfl ?_; refine L.step (Ev.load rfl rfl rfl (Src.o 0 rfl) ((N32_get (by rw [List.length_append, List.length_drop]; omega)).trans (by rw [row_at l x.ws hll]))) rfl ?_; refine L.step (Ev.shr32 (k := 16) (q := (x.ws.getD k 0) / 65536) rfl rfl rfl (by decide) rfl) rfl ?_; refine L.step (Ev.low32 8 (q := (x.ws.getD k 0) / 65536 % 256) rfl rfl rfl (by omega) (by decide) rfl) rfl ?_; refine L.step (Ev.toInt rfl rfl rfl rfl (by omega) (by omega)) rfl ?_; refine L.step (Ev.fieldAddr rfl rfl rfl rfl rfl rfl (Src.o 1 rfl) (Nat.zero_lt_succ _) rfl) rfl ?_
          first | refine L.store (j := 0) rfl rfl rfl rfl rfl rfl rfl rfl ?_ | refine L.store (j := 1) rfl rfl rfl rfl rfl rfl rfl rfl ?_ | refine L.store (j := 2) rfl rfl rfl rfl rfl rfl rfl rfl ?_ | refine L.store (j := 3) rfl rfl rfl rfl rfl rfl rfl rfl ?_ | refine L.store (j := 4) rfl rfl rfl rfl rfl rfl rfl rfl ?_ | refine L.store (j := 5) rfl rfl rfl rfl rfl rfl rfl rfl ?_
          refine L.nil ?_
          refine QE.join (()) (by exact trivial) (by exact Le.mk' (rs := [0, 1, 2, 3]) (hs := [0, 1]) ⟨rfl, rfl, rfl, rfl, rfl, rfl, rfl, rfl, trivial⟩ ⟨rfl, rfl, rfl, rfl, trivial⟩ ⟨rfl, (congrArg some (own_eq2 rfl (by rw [show unnA (x.ws.getD k 0) = x.ws.getD k 0 / 65536 % 256 from if_pos (by omega)]; rfl))), trivial⟩ (by decide))
         ·
          replace hc73 := of_decide_eq_false hc73
          refine C.skip ?_
          refine QE.join (()) (by exact trivial) (by exact Le.mk' (rs := [0, 1, 2, 3]) (hs := [0, 1]) ⟨rfl, rfl, rfl, rfl, rfl, rfl, rfl, rfl, trivial⟩ ⟨rfl, rfl, rfl, rfl, trivial⟩ ⟨rfl, (congrArg some (own_eq2 rfl (by rw [show unnA (x.ws.getD k 0) = 0 from if_neg (by omega)]; rfl))), trivial⟩ (by decide))
        ·
         intro _ _
         refine C.seq (C.region ?_); refine L.step (Ev.fieldAddr rfl rfl rfl rfl rfl rfl (Src.r 0 rfl) (Nat.zero_lt_succ _) rfl) rfl ?_; refine L.step (Ev.load rfl rfl rfl (Src.r 0 rfl) rfl) rfl ?_; refine Lpu rfl rfl ?_; refine L.step (Ev.idx1 (k := (unnN (x.ws.getD k 0))) rfl rfl rfl rfl rfl rfl rfl (by omega) (Src.r 3 rfl) (by rw [I64_len]; omega)) rfl ?_; refine L.step (Ev.load rfl rfl rfl (Src.r 3 rfl) (I64_get (by omega))) rfl ?_; refine L.step (Ev.fieldAddr rfl rfl rfl rfl rfl rfl (Src.o 1 rfl) (Nat.zero_lt_succ _) rfl) rfl ?_
         first | refine L.store (j := 0) rfl rfl rfl rfl rfl rfl rfl rfl ?_ | refine L.store (j := 1) rfl rfl rfl rfl rfl rfl rfl rfl ?_ | refine L.store (j := 2) rfl rfl rfl rfl rfl rfl rfl rfl ?_ | refine L.store (j := 3) rfl rfl rfl rfl rfl rfl rfl rfl ?_ | refine L.store (j := 4) rfl rfl rfl rfl rfl rfl rfl rfl ?_ | refine L.store (j := 5) rfl rfl rfl rfl rfl rfl rfl rfl ?_
         refine L.nil (QE.seq (C.seq (C.region ?_))); refine L.step (Ev.loadA (vs := [.int .i64 ((unnO (x.ws.getD k 0)) : Int), .int .i64 ((unnA (x.ws.getD k 0)) : Int), .int .i64 0, .int .i64 0, .int .i64 (x.ls.getD (unnN (x.ws.getD k 0)) 0)]) rfl rfl rfl (Src.o 1 rfl) rfl rfl (by decide)) rfl ?_; refine Lpu rfl rfl ?_; refine L.step (Ev.mul rfl rfl (by omega) (by omega)) rfl ?_; refine L.call (js := []) (js' := [0, 1]) (encode_c (unnO (x.ws.getD k 0)) (unnA (x.ws.getD k 0)) (x.ls.getD (unnN (x.ws.getD k 0)) 0) (4 * (k : Int)) (by omega) (by omega) (unnA_lt _) (by omega)) rfl rfl rfl (by decide) trivial rfl ?_
         rintro _ _ _ ⟨rfl, rfl, rfl⟩
         refine L.norm (H' := [_, _]) [0, 1] ⟨rfl, rfl, trivial⟩ (by decide) ?_; refine Lpu rfl rfl ?_; refine Lpu rfl rfl ?_; refine Lpu rfl rfl ?_; refine Lpu rfl rfl ?_; refine Lpu rfl rfl ?_; refine L.nil (QE.seq (C.seq (C.seq (C.region ?_)))); refine Lpu rfl rfl ?_; refine Lpu rfl rfl ?_; refine L.nil (QE.seq ?_)
         refine C.condB 96 rfl (fun hc96 => ?_) (fun hc96 => ?_)
         ·
          replace hc96 := b_ne hc96
          refine C.seq (C.region ?_); refine Lpu rfl rfl ?_; refine Lpu rfl rfl ?_; refine L.nil (QE.seq (C.ret (QE.tR (QE.bR (QE.tR (QE.tR (QE.bR (QE.tR ?_)))))))); refine QE.nil_own 5 1 ?_; refine QE.ret (js := []) (hs := [2]) (vs := [_, _]) rfl ⟨rfl, rfl, trivial⟩ (by decide) ?_
          have hN : lowF x = none := lowF_word (k := k) (by omega) (by rw [lowE_mark hmk, lowM_good (by omega) (by omega) (by omega)]; exact encR_none hc96)
          rw [(low_no hN).1, (low_no hN).2]
          exact ⟨none, 0, rfl, rfl, rfl⟩
         ·
          replace hc96 := b_eq hc96
          have hlE : lowE x k = some (encR (insT (unnO (x.ws.getD k 0)) (unnA (x.ws.getD k 0)) (x.ls.getD (unnN (x.ws.getD k 0)) 0)) (4 * (k : Int))).1 := by rw [lowE_mark hmk, lowM_good (by omega) (by omega) (by omega)]; exact encR_some hc96
          refine C.skip (QE.seq (C.region ?_)); refine Lpu rfl rfl ?_; refine Lpu rfl rfl ?_; refine Lpu rfl rfl ?_; refine L.step (Ev.idx1 (k := k) rfl rfl rfl rfl rfl rfl rfl (by omega) (Src.o 0 rfl) (by rw [N32_len, List.length_append, List.length_drop]; omega)) rfl ?_; refine L.store (j := 0) rfl rfl rfl rfl rfl rfl rfl (N32_get (by rw [List.length_append, List.length_drop]; omega)) ?_; refine L.nil ?_; refine QE.blkN ?_; refine QE.seq (C.region ?_); refine L.step (Ev.add rfl rfl (by omega) (by omega)) rfl ?_; refine Lpu rfl rfl ?_; refine L.nil ?_
          refine QE.round (i := (k, l)) ((k + 1, l ++ [(encR (insT (unnO (x.ws.getD k 0)) (unnA (x.ws.getD k 0)) (x.ls.getD (unnN (x.ws.getD k 0)) 0)) (4 * (k : Int))).1])) (by exact ⟨by dsimp only; omega, lowN_some hlow hlE⟩) (by dsimp only; omega) (by exact Le.mk' (rs := [0, 1, 2, 3]) (hs := [0]) ⟨rfl, rfl, rfl, rfl, rfl, trivial⟩ ⟨rfl, rfl, rfl, rfl, trivial⟩ ⟨(congrArg some (own_eq2 rfl ((N32_set _ k _).trans (congrArg N32 (row_next l x.ws hll (by omega) _))))), trivial⟩ (by decide))
   ·
    replace hc34 := of_decide_eq_false hc34
    refine C.exit ?_; refine QE.tX ?_; refine QE.tX ?_; refine QE.blk ?_; refine QE.seq (C.seq ?_)
    obtain rfl : k = x.ws.length := by omega
    have hl32 := lowN_w32 hx32 hlow
    refine C.le (Γ' := [(1, ptrOf A1 0), (4, .slice CA l.length cc)]) (R' := [Rd A1 [.slice WA x.ws.length wc, .slice MA x.ms.length mc, .slice LA x.ls.length lc], Rd WA (N32 x.ws), Rd MA (Bs x.ms), Rd LA (I64 x.ls)]) (H' := [Own 73 1 CA l.length cc (N32 l)]) (by exact Le.mk' (rs := [0, 1, 2, 3]) (hs := [0]) ⟨rfl, (by rw [hll]; rfl), trivial⟩ ⟨rfl, rfl, rfl, rfl, trivial⟩ ⟨(congrArg some (own_eq2 hll.symm (by rw [List.drop_length, List.append_nil]))), trivial⟩ (by decide)) ?_; refine C.region ?_; refine Lpu rfl rfl ?_; refine L.call (js := []) (js' := [0]) (bytes_c CA l cc (by omega) hl32) rfl rfl rfl (by decide) ⟨(Has.o 0 rfl), trivial⟩ rfl ?_
    rintro _ _ _ ⟨YA, yc, rfl, rfl, rfl⟩
    refine L.norm (H' := [_, _]) [0, 1] ⟨rfl, rfl, trivial⟩ (by decide) ?_; refine Lpu rfl rfl ?_; refine L.nil (QE.seq (C.seq (C.seq ?_)))
    refine C.cap 0 rfl (fun hyc => ?_)
    refine C.region ?_; refine Lpu rfl rfl ?_; refine L.call (js := []) (js' := [0, 1]) (lift_c YA (bytesF l) yc hyc (by rw [bytesF_len]; omega)) rfl rfl rfl (by decide) ⟨(Has.o 0 rfl), trivial⟩ rfl ?_
    rintro _ _ _ ⟨W2, M2, L2, l2, rfl, rfl, rfl⟩
    refine L.norm (H' := [_, _, _, _, _]) [0, 1, 2, 3, 4] ⟨rfl, rfl, rfl, rfl, rfl, trivial⟩ (by decide) ?_; refine Lpu rfl rfl ?_; refine Lpu rfl rfl ?_; refine Lpu rfl rfl ?_
    refine L.alloc rfl rfl rfl (fun A12 => ?_)
    refine L.storeA (j := 5) rfl rfl rfl rfl rfl (Nat.zero_lt_succ _) rfl rfl ?_; refine Lpu rfl rfl ?_; refine L.nil (QE.seq (C.seq ?_))
    have hX2 : (liftR (bytesF l)).ws.length ≤ 1000000 ∧ (liftR (bytesF l)).ms.length ≤ 1000000 ∧ (liftR (bytesF l)).ls.length ≤ 1000000 := by
      have := liftR_lens (bytesF l)
      rw [bytesF_len] at this
      omega
    have hE : liftE (bytesF l) = 0 := by unfold liftE; rw [if_pos (code_bytes (by omega))]
    refine C.region ?_; refine Lpu rfl rfl ?_; refine Lpu rfl rfl ?_; refine Lpu rfl rfl ?_
    refine L.bool 111 rfl (fun hg111 => ?_) (fun hg111 => ?_)
    ·
     replace hg111 := b_ne hg111
     exact absurd hE hg111
    ·
     replace hg111 := b_eq hg111
     refine L.yes rfl ?_; refine L.step (Ev.loadA (vs := [.slice W2 (liftR (bytesF l)).ws.length (liftR (bytesF l)).ws.length, .slice M2 (liftR (bytesF l)).ms.length (liftR (bytesF l)).ms.length, .slice L2 (liftR (bytesF l)).ls.length l2]) rfl rfl rfl (Src.o 5 rfl) rfl rfl (by decide)) rfl ?_; refine L.yes rfl ?_; refine L.step (Ev.loadA (vs := [.slice WA x.ws.length wc, .slice MA x.ms.length mc, .slice LA x.ls.length lc]) rfl rfl rfl (Src.r 0 rfl) rfl rfl (by decide)) rfl ?_; refine L.yes rfl ?_; refine L.call (js := []) (js' := [0, 1, 2, 3, 4, 5]) (equal_c W2 M2 L2 (liftR (bytesF l)).ws.length (liftR (bytesF l)).ms.length l2 (liftR (bytesF l)) hX2 WA MA LA wc mc lc x ⟨hxw, hxm, hxl⟩) rfl rfl rfl (by decide) ⟨(Has.o 0 rfl), (Has.o 1 rfl), (Has.o 2 rfl), (Has.r 1 rfl), (Has.r 2 rfl), (Has.r 3 rfl), trivial⟩ rfl ?_
     rintro _ _ _ ⟨rfl, rfl, rfl⟩
     refine L.norm (H' := [_, _, _, _, _, _]) [0, 1, 2, 3, 4, 5] ⟨rfl, rfl, rfl, rfl, rfl, rfl, trivial⟩ (by decide) ?_; refine L.yes rfl ?_; refine Lpu rfl rfl ?_; refine Lpu rfl rfl ?_; refine L.nil (QE.seq ?_)
     refine C.condB 116 rfl (fun hc116 => ?_) (fun hc116 => ?_)
     ·
      refine C.seq (C.region ?_); refine Lpu rfl rfl ?_; refine Lpu rfl rfl ?_; refine L.nil (QE.seq (C.ret (QE.tR ?_))); refine QE.nil_own 5 1 ?_; refine QE.ret (js := []) (hs := [6]) (vs := [_, _]) rfl ⟨rfl, rfl, trivial⟩ (by decide) ?_
      have hN : lowF x = none := by rw [lowF_all (by omega) (by omega) hlow, if_neg (fun h => by rw [decide_eq_true h] at hc116; cases hc116)]
      rw [(low_no hN).1, (low_no hN).2]
      exact ⟨none, 0, rfl, rfl, rfl⟩
     ·
      refine C.skip (QE.seq (C.seq (C.region ?_))); refine Lpu rfl rfl ?_; refine Lpu rfl rfl ?_; refine Lpu rfl rfl ?_; refine L.nil (QE.seq (C.ret ?_)); refine QE.ret (js := []) (hs := [3]) (vs := [_, _]) rfl ⟨rfl, rfl, trivial⟩ (by decide) ?_
      have hY : lowF x = some (bytesF l) := by rw [lowF_all (by omega) (by omega) hlow, if_pos (by simpa using hc116)]
      rw [(low_yes hY).1, (low_yes hY).2]
      exact ⟨YA, yc, rfl, rfl, rfl⟩

end Go.Proofs.YtbkmahjhhncfcaaGreat
