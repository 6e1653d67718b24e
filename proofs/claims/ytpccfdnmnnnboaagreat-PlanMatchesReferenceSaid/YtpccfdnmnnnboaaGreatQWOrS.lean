/-
  Reads of the program, of any patch.
-/
import Derived.Test.YtpccfdnmnnnboaaGreatQWOrR
namespace Go.Proofs.YtpccfdnmnnnboaaGreat
open Go.Sl

set_option maxHeartbeats 2000000 in
theorem reads2_c (lf : Bool) (inn out : Int) (ops : List Po) (OA : Option Addr) (oc : Nat) (hops : ops.length ≤ 9223372036854775807) (size : Int) :
   Ctr X 85 [.agg (List.toArray [.bool lf, .int .i64 inn, .int .i64 out, .slice OA ops.length oc]), .int .i64 size] [Rd OA (opsV ops)] [] (fun v R' H' => ∃ (A : Option Addr) (c : Nat) (hs : List Hd), v = .tuple #[.slice A (rdM lf inn out size ops).length c, .int .i64 (rdE lf inn out size ops)] ∧ R' = [Rd A (rowsV hs (J8 (rdM lf inn out size ops))), KidsR hs (J8 (rdM lf inn out size ops))] ∧ H' = [] ∧ hs.length = (rdM lf inn out size ops).length) := by
 refine Ctr.of (X := X) (fn := Tryz.f85) Tryz.func85 rfl (by kernel_rfl) rfl ?_
 intro β
 refine C.seq (C.region ?_)
 refine L.boxA rfl rfl (fun A2 => ?_)
 refine Lpu rfl rfl ?_; refine Lpu rfl rfl ?_; refine L.nil (QE.seq (C.seq ?_)); refine C.freeze 0 rfl [] (by decide) (by decide) ?_; refine C.region ?_; refine L.step (Ev.loadA rfl rfl rfl (Src.r 0 rfl) rfl rfl (by decide)) rfl ?_; refine L.call (js := []) (js' := []) (symbols_c lf inn out ops OA oc hops) rfl rfl rfl (by decide) (Hq [1] rfl) rfl ?_
 rintro _ _ _ ⟨A22, c22, rfl, rfl, rfl⟩
 refine Lpu rfl rfl ?_; refine Lpu rfl rfl ?_; refine Lpu rfl rfl ?_; refine Lpu rfl rfl ?_; refine Lpu rfl rfl ?_; refine L.nil (QE.seq (C.seq (C.block (C.seq ?_)))); refine C.freeze 0 rfl [] (by decide) (by decide) ?_; refine C.region ?_; refine Lpu rfl rfl ?_; refine Lpu rfl rfl ?_; refine Lpu rfl rfl ?_; refine L.nil (QE.seq ?_)
 refine C.condB 25 rfl (fun hc25 => ?_) (fun hc25 => ?_)
 ·
  replace hc25 := b_ne hc25
  refine C.seq (C.region ?_); refine Lpu rfl rfl ?_; refine Lpu rfl rfl ?_; refine Lpu rfl rfl ?_; refine L.nil (QE.seq (C.ret (QE.bR (QE.tR ?_)))); refine QE.more (r := Rd none (rowsV [] (J8 []))) (Has.nil) ?_; refine QE.more (r := KidsR [] (J8 [])) (Has.kids0) ?_; refine QE.ret (js := [1, 0]) (hs := []) (vs := [_, _]) rfl ⟨rfl, rfl, trivial⟩ (by decide) ?_
  have hE : rdE lf inn out size ops = _ := rdE_1 hc25
  refine ⟨none, 0, [], ?_, ?_, rfl, ?_⟩
  · rw [rdM_no (by rw [hE]; first | decide | exact hc25), hE]; rfl
  · rw [rdM_no (by rw [hE]; first | decide | exact hc25)]; rfl
  · rw [rdM_no (by rw [hE]; first | decide | exact hc25)]; rfl
 ·
  replace hc25 := b_eq hc25
  obtain ⟨k1, k2, k3, k4, k5, k6⟩ := chkE_ok hc25
  rw [show syS inn out ops = symL ops from if_pos hc25]
  have htot := chkG_tot ops out k3 k6
  refine C.seq (C.region ?_); refine L.step (Ev.fieldAddr rfl rfl rfl rfl rfl rfl (Src.r 1 rfl) (Nat.zero_lt_succ _) rfl) rfl ?_; refine L.step (Ev.load rfl rfl rfl (Src.r 1 rfl) rfl) rfl ?_; refine Lpu rfl rfl ?_; refine L.nil (QE.seq ?_)
  refine C.condB 29 rfl (fun hc29 => ?_) (fun hc29 => ?_)
  ·
   refine C.seq (C.region ?_); refine Lpu rfl rfl ?_; refine Lpu rfl rfl ?_; refine L.nil (QE.seq (C.ret (QE.bR (QE.tR ?_)))); refine QE.more (r := Rd none (rowsV [] (J8 []))) (Has.nil) ?_; refine QE.more (r := KidsR [] (J8 [])) (Has.kids0) ?_; refine QE.ret (js := [1, 0]) (hs := []) (vs := [_, _]) rfl ⟨rfl, rfl, trivial⟩ (by decide) ?_
   have hE : rdE lf inn out size ops = _ := rdE_2 hc25 hc29
   refine ⟨none, 0, [], ?_, ?_, rfl, ?_⟩
   · rw [rdM_no (by rw [hE]; first | decide | exact hc25), hE]; rfl
   · rw [rdM_no (by rw [hE]; first | decide | exact hc25)]; rfl
   · rw [rdM_no (by rw [hE]; first | decide | exact hc25)]; rfl
  ·
   refine C.seq (C.region ?_); refine Lpu rfl rfl ?_; refine Lpu rfl rfl ?_; refine Lpu rfl rfl ?_
   refine L.bool 35 rfl (fun hg35 => ?_) (fun hg35 => ?_)
   ·
    replace hg35 := of_decide_eq_true hg35
    refine L.no rfl rfl rfl ?_; refine L.no rfl rfl rfl ?_; refine Lpu rfl rfl ?_; refine Lpu rfl rfl ?_; refine L.nil (QE.seq ?_)
    refine C.cond rfl (fun _ => ?_) (fun h => by cases h)
    refine C.seq (C.region ?_); refine Lpu rfl rfl ?_; refine Lpu rfl rfl ?_; refine L.nil (QE.seq (C.ret (QE.bR (QE.tR ?_)))); refine QE.more (r := Rd none (rowsV [] (J8 []))) (Has.nil) ?_; refine QE.more (r := KidsR [] (J8 [])) (Has.kids0) ?_; refine QE.ret (js := [1, 0]) (hs := []) (vs := [_, _]) rfl ⟨rfl, rfl, trivial⟩ (by decide) ?_
    have hE : rdE lf inn out size ops = _ := rdE_3 hc25 (by simpa using hc29) (by omega)
    refine ⟨none, 0, [], ?_, ?_, rfl, ?_⟩
    · rw [rdM_no (by rw [hE]; first | decide | exact hc25), hE]; rfl
    · rw [rdM_no (by rw [hE]; first | decide | exact hc25)]; rfl
    · rw [rdM_no (by rw [hE]; first | decide | exact hc25)]; rfl
   ·
    replace hg35 := of_decide_eq_false hg35
    refine L.yes rfl ?_; refine Lpu rfl rfl ?_; refine L.yes rfl ?_; refine Lpu rfl rfl ?_; refine Lpu rfl rfl ?_; refine Lpu rfl rfl ?_; refine L.nil (QE.seq ?_)
    refine C.condB 32 rfl (fun hc32 => ?_) (fun hc32 => ?_)
    ·
     replace hc32 := of_decide_eq_true hc32
     refine C.seq (C.region ?_); refine Lpu rfl rfl ?_; refine Lpu rfl rfl ?_; refine L.nil (QE.seq (C.ret (QE.bR (QE.tR ?_)))); refine QE.more (r := Rd none (rowsV [] (J8 []))) (Has.nil) ?_; refine QE.more (r := KidsR [] (J8 [])) (Has.kids0) ?_; refine QE.ret (js := [1, 0]) (hs := []) (vs := [_, _]) rfl ⟨rfl, rfl, trivial⟩ (by decide) ?_
     have hE : rdE lf inn out size ops = _ := rdE_3 hc25 (by simpa using hc29) (by omega)
     refine ⟨none, 0, [], ?_, ?_, rfl, ?_⟩
     · rw [rdM_no (by rw [hE]; first | decide | exact hc25), hE]; rfl
     · rw [rdM_no (by rw [hE]; first | decide | exact hc25)]; rfl
     · rw [rdM_no (by rw [hE]; first | decide | exact hc25)]; rfl
    ·
     replace hc32 := of_decide_eq_false hc32
     refine C.skip ?_; refine QE.blkN ?_; refine QE.seq (C.seq ?_)
     obtain ⟨S, rfl⟩ : ∃ S : Nat, size = (S : Int) := ⟨size.toNat, by omega⟩
     refine C.region ?_; refine L.step (Ev.fieldAddr rfl rfl rfl rfl rfl rfl (Src.r 1 rfl) (Nat.zero_lt_succ _) rfl) rfl ?_; refine L.step (Ev.load rfl rfl rfl (Src.r 1 rfl) rfl) rfl ?_; refine L.step (Ev.fieldAddr rfl rfl rfl rfl rfl rfl (Src.r 1 rfl) (Nat.zero_lt_succ _) rfl) rfl ?_; refine L.step (Ev.load rfl rfl rfl (Src.r 1 rfl) rfl) rfl ?_; refine L.step (Ev.cast (u := .int .i64 (max inn out)) (Ev.pure rfl) (congrArg (Value.int .i64) (by simp only [if_true]; split <;> omega))) rfl ?_; refine Lpu rfl rfl ?_; refine L.step (Ev.add rfl rfl (by omega) (by omega)) rfl ?_; refine L.step (Ev.sub rfl rfl (by omega) (by omega)) rfl ?_; refine Lpu rfl rfl ?_; refine L.step (Ev.cast (u := .int .i64 (((rdN inn out S) : Nat) : Int)) (Ev.quo rfl rfl (by omega) (by omega) (by omega)) (congrArg (Value.int .i64) (rdN_eq k1 k3 (by omega)))) rfl ?_; refine Lpu rfl rfl ?_; refine L.nil (QE.seq (C.seq (C.seq (C.region ?_)))); refine Lpu rfl rfl ?_; refine Lpu rfl rfl ?_; refine L.nil (QE.seq ?_)
     refine C.condB 50 rfl (fun hc50 => ?_) (fun hc50 => ?_)
     ·
      replace hc50 := of_decide_eq_true hc50
      refine C.seq (C.region ?_); refine Lpu rfl rfl ?_; refine Lpu rfl rfl ?_; refine L.nil (QE.seq (C.ret (QE.tR ?_))); refine QE.more (r := Rd none (rowsV [] (J8 []))) (Has.nil) ?_; refine QE.more (r := KidsR [] (J8 [])) (Has.kids0) ?_; refine QE.ret (js := [1, 0]) (hs := []) (vs := [_, _]) rfl ⟨rfl, rfl, trivial⟩ (by decide) ?_
      have hE : rdE lf inn out (S : Int) ops = _ := rdE_4 hc25 (by simpa using hc29) (by omega) (by omega) (by simp only [Int.toNat_natCast]; omega)
      refine ⟨none, 0, [], ?_, ?_, rfl, ?_⟩
      · rw [rdM_no (by rw [hE]; first | decide | exact hc25), hE]; rfl
      · rw [rdM_no (by rw [hE]; first | decide | exact hc25)]; rfl
      · rw [rdM_no (by rw [hE]; first | decide | exact hc25)]; rfl
     ·
      replace hc50 := of_decide_eq_false hc50
      refine C.skip (QE.seq (C.seq (C.region ?_))); refine Lpu rfl rfl ?_
      refine L.make (m := (rdN inn out S)) rfl rfl rfl rfl rfl rfl rfl rfl rfl (by show 1 * _ ≤ _; omega) (by omega) rfl (fun A52 => ?_)
      refine Lpu rfl rfl ?_; refine L.nil (QE.seq (C.seq (C.seq (C.region ?_)))); refine Lpu rfl rfl ?_; refine Lpu rfl rfl ?_; refine Lpu rfl rfl ?_; refine L.nil (QE.seq (C.block ?_)); refine C.loop (fun k : Nat => [(1, .int .i64 (S : Int)), (2, ptrOf A2 0), (6, .slice A22 (symL ops).length c22), (8, .int .i64 ((rdN inn out S) : Int)), (9, .slice A52 (rdN inn out S) (rdN inn out S)), (53, .slice A22 (symL ops).length c22), (54, .int .i64 ((symL ops).length : Int)), (55, .int .i64 (k : Int))]) (fun k : Nat => [Rd A2 [.bool lf, .int .i64 inn, .int .i64 out, .slice OA ops.length oc], Rd OA (opsV ops), Rd A22 (symsV (symL ops))]) (fun k : Nat => [Own 4 1 A52 (rdN inn out S) (rdN inn out S) (Bs (chL (symL ops) S (rdN inn out S) k))]) (fun k : Nat => k ≤ (symL ops).length) (fun k : Nat => (symL ops).length - k) 0 (Nat.zero_le _) (by exact Le.mk' (rs := [1, 2, 0]) (hs := [0]) ⟨rfl, rfl, rfl, rfl, rfl, rfl, rfl, rfl, trivial⟩ ⟨rfl, rfl, rfl, trivial⟩ ⟨(congrArg some (own_eq rfl (by rw [chL_zero, ← Bs_rep]; rfl))), trivial⟩ (by decide)) ?_
      intro k hk
      refine C.seq (C.region ?_); refine Lpu rfl rfl ?_; refine L.nil (QE.seq (C.seq ?_))
      refine C.condB 56 rfl (fun hc56 => ?_) (fun hc56 => ?_)
      ·
       replace hc56 := of_decide_eq_true hc56
       refine C.skip (QE.seq (C.seq (C.block (C.seq ?_))))
       have hlt := rdN_lt (inn := inn) (out := out) (S := S) (i := k) (by omega) (by omega)
       refine C.region ?_; refine Lpu rfl rfl ?_; refine L.step (Ev.idx (k := k) (m := k * 3) rfl rfl rfl rfl rfl rfl (by omega) (Src.r 2 rfl) (syms_pos (k := k) (by omega)) rfl) rfl ?_; refine L.step (Ev.loadA (vs := Sy.cells ((symL ops).getD k Sy.zero)) rfl rfl rfl (Src.r 2 rfl) (symsV_at (symL ops) k (by omega)) rfl (by decide)) rfl ?_
       refine L.alloc rfl rfl rfl (fun A11 => ?_)
       refine Lpu rfl rfl ?_; refine L.storeA (j := 1) rfl rfl rfl rfl rfl (Nat.zero_lt_succ _) rfl rfl ?_; refine L.nil (QE.seq (C.seq (C.region ?_))); refine L.step (Ev.loadA (vs := Sy.cells ((symL ops).getD k Sy.zero)) rfl rfl rfl (Src.o 1 rfl) rfl rfl (by decide)) rfl ?_; refine Lpu rfl rfl ?_; refine L.step (Ev.build rfl rfl rfl rfl rfl rfl rfl) rfl ?_; refine L.step (Ev.neSym (a := ((symL ops).getD k Sy.zero)) (b := ⟨true, (k : Int), 0⟩) rfl rfl) rfl ?_; refine L.nil (QE.seq ?_)
       refine C.condB 63 rfl (fun hc63 => ?_) (fun hc63 => ?_)
       ·
        have hx : chX (symL ops) k = true := by rw [chX_lo (by omega)]; exact hc63
        refine C.region ?_; refine Lpu rfl rfl ?_; refine Lpu rfl rfl ?_; refine Lpu rfl rfl ?_; refine L.step (Ev.cast (u := .int .i64 ((k / S : Nat) : Int)) (Ev.quo rfl rfl (by omega) (by omega) (by omega)) (congrArg (Value.int .i64) (Int.natCast_ediv k S).symm)) rfl ?_; refine L.step (Ev.idx1 (k := (k / S)) rfl rfl rfl rfl rfl rfl rfl (by omega) (Src.o 0 rfl) (by rw [Bs_len, chL_len]; exact Nat.zero_lt_of_lt hlt)) rfl ?_; refine L.store (j := 0) rfl rfl rfl rfl rfl rfl rfl (by exact Bs_get (by rw [chL_len]; omega)) ?_; refine L.nil ?_; refine QE.blkN ?_; refine QE.seq (C.region ?_); refine L.step (Ev.add rfl rfl (by omega) (by omega)) rfl ?_; refine Lpu rfl rfl ?_; refine L.nil ?_
        refine QE.round (k + 1) (by omega) (by omega) (by exact Le.mk' (rs := [0, 1, 2]) (hs := [0]) ⟨rfl, rfl, rfl, rfl, rfl, rfl, rfl, rfl, trivial⟩ ⟨rfl, rfl, rfl, trivial⟩ ⟨(congrArg some (own_eq rfl (by rw [Bs_set, chL_yes hx]))), trivial⟩ (by decide))
       ·
        have hx : chX (symL ops) k = false := by rw [chX_lo (by omega)]; exact hc63
        refine C.skip ?_; refine QE.blkN ?_; refine QE.seq (C.region ?_); refine L.step (Ev.add rfl rfl (by omega) (by omega)) rfl ?_; refine Lpu rfl rfl ?_; refine L.nil ?_
        refine QE.round (k + 1) (by omega) (by omega) (by exact Le.mk' (rs := [0, 1, 2]) (hs := [0]) ⟨rfl, rfl, rfl, rfl, rfl, rfl, rfl, rfl, trivial⟩ ⟨rfl, rfl, rfl, trivial⟩ ⟨(congrArg some (by rw [chL_no hx])), trivial⟩ (by decide))
      ·
       replace hc56 := of_decide_eq_false hc56
       refine C.exit ?_; refine QE.tX ?_; refine QE.tX ?_; refine QE.blk ?_; refine QE.seq (C.seq (C.seq (C.region ?_))); refine L.step (Ev.fieldAddr rfl rfl rfl rfl rfl rfl (Src.r 0 rfl) (Nat.zero_lt_succ _) rfl) rfl ?_; refine L.step (Ev.load rfl rfl rfl (Src.r 0 rfl) rfl) rfl ?_; refine Lpu rfl rfl ?_; refine L.nil (QE.seq (C.block ?_))
       obtain rfl : k = (symL ops).length := by omega
       refine C.loop (fun k : Nat => [(1, .int .i64 (S : Int)), (2, ptrOf A2 0), (6, .slice A22 (symL ops).length c22), (8, .int .i64 ((rdN inn out S) : Int)), (9, .slice A52 (rdN inn out S) (rdN inn out S)), (12, .int .i64 (k : Int))]) (fun k : Nat => [Rd A2 [.bool lf, .int .i64 inn, .int .i64 out, .slice OA ops.length oc], Rd OA (opsV ops), Rd A22 (symsV (symL ops))]) (fun k : Nat => [Own 4 1 A52 (rdN inn out S) (rdN inn out S) (Bs (chL (symL ops) S (rdN inn out S) k))]) (fun k : Nat => (symL ops).length ≤ k ∧ k ≤ (max inn out).toNat) (fun k : Nat => (max inn out).toNat - k) (symL ops).length ⟨Nat.le_refl _, by omega⟩ (by exact Le.mk' (rs := [0, 1, 2]) (hs := [0]) ⟨rfl, rfl, rfl, rfl, rfl, (congrArg some (congrArg (Value.int .i64) htot.symm)), trivial⟩ ⟨rfl, rfl, rfl, trivial⟩ ⟨rfl, trivial⟩ (by decide)) ?_
       rintro k ⟨hk, hk2⟩
       refine C.seq (C.seq (C.region ?_)); refine Lpu rfl rfl ?_; refine L.step (Ev.fieldAddr rfl rfl rfl rfl rfl rfl (Src.r 0 rfl) (Nat.zero_lt_succ _) rfl) rfl ?_; refine L.step (Ev.load rfl rfl rfl (Src.r 0 rfl) rfl) rfl ?_; refine Lpu rfl rfl ?_; refine L.nil (QE.seq ?_)
       refine C.condB 75 rfl (fun hc75 => ?_) (fun hc75 => ?_)
       ·
        replace hc75 := of_decide_eq_true hc75
        refine C.skip (QE.seq (C.seq (C.block ?_)))
        have hlt := rdN_lt (inn := inn) (out := out) (S := S) (i := k) (by omega) (by omega)
        refine C.region ?_; refine Lpu rfl rfl ?_; refine Lpu rfl rfl ?_; refine Lpu rfl rfl ?_; refine L.step (Ev.cast (u := .int .i64 ((k / S : Nat) : Int)) (Ev.quo rfl rfl (by omega) (by omega) (by omega)) (congrArg (Value.int .i64) (Int.natCast_ediv k S).symm)) rfl ?_; refine L.step (Ev.idx1 (k := (k / S)) rfl rfl rfl rfl rfl rfl rfl (by omega) (Src.o 0 rfl) (by rw [Bs_len, chL_len]; exact Nat.zero_lt_of_lt hlt)) rfl ?_; refine L.store (j := 0) rfl rfl rfl rfl rfl rfl rfl (by exact Bs_get (by rw [chL_len]; omega)) ?_; refine L.nil ?_; refine QE.blkN ?_; refine QE.seq (C.region ?_); refine Lpu rfl rfl ?_; refine L.step (Ev.add rfl rfl (by omega) (by omega)) rfl ?_; refine Lpu rfl rfl ?_; refine L.nil ?_
        refine QE.round (k + 1) (by exact ⟨by omega, by omega⟩) (by omega) (by exact Le.mk' (rs := [0, 1, 2]) (hs := [0]) ⟨rfl, rfl, rfl, rfl, rfl, rfl, trivial⟩ ⟨rfl, rfl, rfl, trivial⟩ ⟨(congrArg some (own_eq rfl (by rw [Bs_set, chL_yes (chX_hi hk)]))), trivial⟩ (by decide))
       ·
        replace hc75 := of_decide_eq_false hc75
        refine C.exit ?_; refine QE.tX ?_; refine QE.tX ?_; refine QE.blk ?_; refine QE.seq (C.seq ?_)
        obtain rfl : k = (max inn out).toNat := by omega
        refine C.freeze 0 rfl [] (by decide) (by decide) ?_; refine C.region ?_; refine Lpu rfl rfl ?_
        refine L.make (m := (rdN inn out S)) rfl rfl rfl rfl rfl rfl rfl rfl rfl (by show 24 * _ ≤ _; omega) (by omega) rfl (fun A84 => ?_)
        refine Lpu rfl rfl ?_; refine L.nil (QE.seq (C.seq (C.seq (C.region ?_)))); refine Lpu rfl rfl ?_; refine Lpu rfl rfl ?_; refine Lpu rfl rfl ?_; refine L.nil (QE.seq (C.block ?_)); refine C.kidsN 3 (rdN inn out S) ?_; refine C.loop (fun q : Nat × List Hd => [(1, .int .i64 (S : Int)), (2, ptrOf A2 0), (6, .slice A22 (symL ops).length c22), (8, .int .i64 ((rdN inn out S) : Int)), (9, .slice A52 (rdN inn out S) (rdN inn out S)), (85, .slice A22 (symL ops).length c22), (86, .int .i64 ((symL ops).length : Int)), (13, .slice A84 (rdN inn out S) (rdN inn out S)), (87, .int .i64 (q.1 : Int))]) (fun q : Nat × List Hd => [Rd A52 (Bs (rdC inn out S (symL ops))), Rd A2 [.bool lf, .int .i64 inn, .int .i64 out, .slice OA ops.length oc], Rd OA (opsV ops), Rd A22 (symsV (symL ops))]) (fun q : Nat × List Hd => [Own 34 1 A84 (rdN inn out S) (rdN inn out S) (rowsV q.2 (J8 (rwM (rdC inn out S (symL ops)) S (rdN inn out S) (symL ops) q.1))), OwnKids 3 q.2 (J8 (rwM (rdC inn out S (symL ops)) S (rdN inn out S) (symL ops) q.1))]) (fun q : Nat × List Hd => q.1 ≤ (symL ops).length ∧ q.2.length = (rdN inn out S)) (fun q : Nat × List Hd => (symL ops).length - q.1) (0, List.replicate (rdN inn out S) (none, 0)) ⟨Nat.zero_le _, List.length_replicate⟩ (by exact Le.mk' (rs := [0, 1, 2, 3]) (hs := [0, 1]) ⟨rfl, rfl, rfl, rfl, rfl, rfl, rfl, rfl, rfl, trivial⟩ ⟨rfl, rfl, rfl, rfl, trivial⟩ ⟨(congrArg some (own_eq rfl (by dsimp only; rw [rwM_zero]; exact rows0 _))), (congrArg some (by dsimp only; rw [rwM_zero]; simp [J8, I64])), trivial⟩ (by decide)) ?_
        rintro ⟨k, hs⟩ ⟨hk, hhs⟩
        dsimp only at hk hhs ⊢
        refine C.seq (C.region ?_); refine Lpu rfl rfl ?_; refine L.nil (QE.seq (C.seq ?_))
        refine C.condB 88 rfl (fun hc88 => ?_) (fun hc88 => ?_)
        ·
         replace hc88 := of_decide_eq_true hc88
         refine C.skip (QE.seq (C.seq (C.block (C.seq ?_))))
         have hlt := rdN_lt (inn := inn) (out := out) (S := S) (i := k) (by omega) (by omega)
         have hat := symL_atI k6 (k := k) (by omega)
         have hat2 : ((symL ops).getD k Sy.zero).at_ ≤ 65536 := by
           cases ho : ((symL ops).getD k Sy.zero).old with
           | true => have := hat.2.1 ho; omega
           | false => have := hat.2.2 ho; omega
         refine C.region ?_; refine Lpu rfl rfl ?_; refine L.step (Ev.idx (k := k) (m := k * 3) rfl rfl rfl rfl rfl rfl (by omega) (Src.r 3 rfl) (syms_pos (k := k) (by omega)) rfl) rfl ?_; refine L.step (Ev.loadA (vs := Sy.cells ((symL ops).getD k Sy.zero)) rfl rfl rfl (Src.r 3 rfl) (symsV_at (symL ops) k (by omega)) rfl (by decide)) rfl ?_
         refine L.alloc rfl rfl rfl (fun A15 => ?_)
         refine Lpu rfl rfl ?_; refine L.storeA (j := 2) rfl rfl rfl rfl rfl (Nat.zero_lt_succ _) rfl rfl ?_; refine L.nil (QE.seq (C.seq ?_)); refine C.regionQ (by kernel_rfl) ?_; refine LQ.step (Ev.pure rfl) rfl ?_; refine LQ.step (Ev.pure rfl) rfl ?_; refine LQ.step (Ev.cast (u := .int .i64 ((k / S : Nat) : Int)) (Ev.quo rfl rfl (by omega) (by omega) (by omega)) (congrArg (Value.int .i64) (Int.natCast_ediv k S).symm)) rfl ?_; refine LQ.step (Ev.fieldAddr rfl rfl rfl rfl rfl rfl (Src.o 2 rfl) (Nat.zero_lt_succ _) rfl) rfl ?_; refine LQ.step (Ev.load rfl rfl rfl (Src.o 2 rfl) rfl) rfl ?_; refine LQ.step (Ev.pure rfl) rfl ?_; refine LQ.step (Ev.cast (u := .int .i64 (((rdT ((symL ops).getD k Sy.zero) S) : Nat) : Int)) (Ev.quo rfl rfl (by omega) (by omega) (by omega)) (congrArg (Value.int .i64) (rdT_eq hat.1))) rfl ?_; refine LQ.step (Ev.pure rfl) rfl ?_; refine LQ.step (Ev.pure rfl) rfl ?_; refine LQ.nil ?_; refine QE.seq (C.seq (C.seq (C.region ?_))); refine L.step (Ev.fieldAddr rfl rfl rfl rfl rfl rfl (Src.o 2 rfl) (Nat.zero_lt_succ _) rfl) rfl ?_; refine L.step (Ev.load rfl rfl rfl (Src.o 2 rfl) rfl) rfl ?_; refine Lpu rfl rfl ?_; refine Lpu rfl rfl ?_
         refine L.bool 102 rfl (fun hg102 => ?_) (fun hg102 => ?_)
         ·
          have hsk : skipB (rdC inn out S (symL ops)) S k ((symL ops).getD k Sy.zero) = true := skip_1 (by simpa using hg102)
          refine L.no rfl rfl rfl ?_; refine L.no rfl rfl rfl ?_; refine L.no rfl rfl rfl ?_; refine Lpu rfl rfl ?_; refine Lpu rfl rfl ?_; refine L.no rfl rfl rfl ?_; refine L.no rfl rfl rfl ?_; refine L.no rfl rfl rfl ?_; refine L.no rfl rfl rfl ?_; refine L.no rfl rfl rfl ?_; refine Lpu rfl rfl ?_; refine Lpu rfl rfl ?_; refine L.no rfl rfl rfl ?_; refine L.no rfl rfl rfl ?_; refine L.no rfl rfl rfl ?_; refine L.no rfl rfl rfl ?_; refine L.no rfl rfl rfl ?_; refine Lpu rfl rfl ?_; refine L.nil (QE.seq ?_)
          refine C.cond rfl (fun _ => ?_) (fun h => by cases h)
          refine C.exit ?_; refine QE.tX ?_; refine QE.blk ?_; refine QE.seq (C.region ?_); refine L.step (Ev.add rfl rfl (by omega) (by omega)) rfl ?_; refine Lpu rfl rfl ?_; refine L.nil ?_
          have he : (rwM (rdC inn out S (symL ops)) S (rdN inn out S) (symL ops) (k + 1)) = (rwM (rdC inn out S (symL ops)) S (rdN inn out S) (symL ops) k) := rwM_skip hsk
          refine QE.round (i := (k, hs)) ((k + 1, hs)) (by exact ⟨by dsimp only; omega, hhs⟩) (by dsimp only; omega) (by exact Le.mk' (rs := [0, 1, 2, 3]) (hs := [0, 1]) ⟨rfl, rfl, rfl, rfl, rfl, rfl, rfl, rfl, rfl, trivial⟩ ⟨rfl, rfl, rfl, rfl, trivial⟩ ⟨(congrArg some (by dsimp only; rw [he])), (congrArg some (by dsimp only; rw [he])), trivial⟩ (by decide))
         ·
          have hold : ((symL ops).getD k Sy.zero).old = true := by simpa using hg102
          have htl := rdT_lt (inn := inn) (out := out) (S := S) (by omega) hat.1 (hat.2.1 hold)
          refine L.yes rfl ?_; refine Lpu rfl rfl ?_; refine L.yes rfl ?_; refine Lpu rfl rfl ?_; refine L.yes rfl ?_; refine Lpu rfl rfl ?_; refine Lpu rfl rfl ?_; refine Lpu rfl rfl ?_
          refine L.bool 107 rfl (fun hg107 => ?_) (fun hg107 => ?_)
          ·
           replace hg107 := i_eq hg107
           have hsk : skipB (rdC inn out S (symL ops)) S k ((symL ops).getD k Sy.zero) = true := skip_2 (by omega)
           refine L.no rfl rfl rfl ?_; refine L.no rfl rfl rfl ?_; refine L.no rfl rfl rfl ?_; refine L.no rfl rfl rfl ?_; refine L.no rfl rfl rfl ?_; refine Lpu rfl rfl ?_; refine Lpu rfl rfl ?_; refine L.no rfl rfl rfl ?_; refine L.no rfl rfl rfl ?_; refine L.no rfl rfl rfl ?_; refine L.no rfl rfl rfl ?_; refine L.no rfl rfl rfl ?_; refine Lpu rfl rfl ?_; refine L.nil (QE.seq ?_)
           refine C.cond rfl (fun _ => ?_) (fun h => by cases h)
           refine C.exit ?_; refine QE.tX ?_; refine QE.blk ?_; refine QE.seq (C.region ?_); refine L.step (Ev.add rfl rfl (by omega) (by omega)) rfl ?_; refine Lpu rfl rfl ?_; refine L.nil ?_
           have he : (rwM (rdC inn out S (symL ops)) S (rdN inn out S) (symL ops) (k + 1)) = (rwM (rdC inn out S (symL ops)) S (rdN inn out S) (symL ops) k) := rwM_skip hsk
           refine QE.round (i := (k, hs)) ((k + 1, hs)) (by exact ⟨by dsimp only; omega, hhs⟩) (by dsimp only; omega) (by exact Le.mk' (rs := [0, 1, 2, 3]) (hs := [0, 1]) ⟨rfl, rfl, rfl, rfl, rfl, rfl, rfl, rfl, rfl, trivial⟩ ⟨rfl, rfl, rfl, rfl, trivial⟩ ⟨(congrArg some (by dsimp only; rw [he])), (congrArg some (by dsimp only; rw [he])), trivial⟩ (by decide))
          ·
           replace hg107 := i_ne hg107
           refine L.yes rfl ?_; refine Lpu rfl rfl ?_; refine L.yes rfl ?_; refine Lpu rfl rfl ?_; refine L.yes rfl ?_; refine L.step (Ev.idx1 (k := (k / S)) rfl rfl rfl rfl rfl rfl rfl (by omega) (Src.r 0 rfl) (by rw [Bs_len, rdC, chL_len]; omega)) rfl ?_; refine L.yes rfl ?_; refine L.step (Ev.load rfl rfl rfl (Src.r 0 rfl) (Bs_get (by rw [rdC, chL_len]; omega))) rfl ?_; refine L.yes rfl ?_; refine Lpu rfl rfl ?_; refine Lpu rfl rfl ?_; refine Lpu rfl rfl ?_
           refine L.bool 114 rfl (fun hg114 => ?_) (fun hg114 => ?_)
           ·
            have hsk : skipB (rdC inn out S (symL ops)) S k ((symL ops).getD k Sy.zero) = true := skip_3 (by simpa using hg114)
            refine L.no rfl rfl rfl ?_; refine L.no rfl rfl rfl ?_; refine L.no rfl rfl rfl ?_; refine L.no rfl rfl rfl ?_; refine L.no rfl rfl rfl ?_; refine Lpu rfl rfl ?_; refine L.nil (QE.seq ?_)
            refine C.cond rfl (fun _ => ?_) (fun h => by cases h)
            refine C.exit ?_; refine QE.tX ?_; refine QE.blk ?_; refine QE.seq (C.region ?_); refine L.step (Ev.add rfl rfl (by omega) (by omega)) rfl ?_; refine Lpu rfl rfl ?_; refine L.nil ?_
            have he : (rwM (rdC inn out S (symL ops)) S (rdN inn out S) (symL ops) (k + 1)) = (rwM (rdC inn out S (symL ops)) S (rdN inn out S) (symL ops) k) := rwM_skip hsk
            refine QE.round (i := (k, hs)) ((k + 1, hs)) (by exact ⟨by dsimp only; omega, hhs⟩) (by dsimp only; omega) (by exact Le.mk' (rs := [0, 1, 2, 3]) (hs := [0, 1]) ⟨rfl, rfl, rfl, rfl, rfl, rfl, rfl, rfl, rfl, trivial⟩ ⟨rfl, rfl, rfl, rfl, trivial⟩ ⟨(congrArg some (by dsimp only; rw [he])), (congrArg some (by dsimp only; rw [he])), trivial⟩ (by decide))
           ·
            refine L.yes rfl ?_; refine Lpu rfl rfl ?_; refine L.yes rfl ?_; refine Lpu rfl rfl ?_; refine L.yes rfl ?_; refine L.step (Ev.idx1 (k := (rdT ((symL ops).getD k Sy.zero) S)) rfl rfl rfl rfl rfl rfl rfl (by omega) (Src.r 0 rfl) (by rw [Bs_len, rdC, chL_len]; omega)) rfl ?_; refine L.yes rfl ?_; refine L.step (Ev.load rfl rfl rfl (Src.r 0 rfl) (Bs_get (by rw [rdC, chL_len]; omega))) rfl ?_; refine L.yes rfl ?_; refine Lpu rfl rfl ?_; refine Lpu rfl rfl ?_; refine L.nil (QE.seq ?_)
            refine C.condB 120 rfl (fun hc120 => ?_) (fun hc120 => ?_)
            ·
             have hsk : skipB (rdC inn out S (symL ops)) S k ((symL ops).getD k Sy.zero) = true := skip_4 (by simpa using hc120)
             refine C.exit ?_; refine QE.tX ?_; refine QE.blk ?_; refine QE.seq (C.region ?_); refine L.step (Ev.add rfl rfl (by omega) (by omega)) rfl ?_; refine Lpu rfl rfl ?_; refine L.nil ?_
             have he : (rwM (rdC inn out S (symL ops)) S (rdN inn out S) (symL ops) (k + 1)) = (rwM (rdC inn out S (symL ops)) S (rdN inn out S) (symL ops) k) := rwM_skip hsk
             refine QE.round (i := (k, hs)) ((k + 1, hs)) (by exact ⟨by dsimp only; omega, hhs⟩) (by dsimp only; omega) (by exact Le.mk' (rs := [0, 1, 2, 3]) (hs := [0, 1]) ⟨rfl, rfl, rfl, rfl, rfl, rfl, rfl, rfl, rfl, trivial⟩ ⟨rfl, rfl, rfl, rfl, trivial⟩ ⟨(congrArg some (by dsimp only; rw [he])), (congrArg some (by dsimp only; rw [he])), trivial⟩ (by decide))
            ·
             have hnk : skipB (rdC inn out S (symL ops)) S k ((symL ops).getD k Sy.zero) = false := skip_no hold (by omega) (by simpa using hg114) (by simpa using hc120)
             refine C.skip (QE.seq (C.seq ?_))
             have hrk := rwM_row (rdC inn out S (symL ops)) S (rdN inn out S) (symL ops) k (k / S)
             refine C.region ?_; refine Lpu rfl rfl ?_; refine Lpu rfl rfl ?_; refine L.step (Ev.idx1 (k := (k / S)) rfl rfl rfl rfl rfl rfl rfl (by omega) (Src.o 0 rfl) (by rw [rowsV_len (by rw [J8_len, rwM_len]; exact hhs), J8_len, rwM_len]; omega)) rfl ?_; refine L.step (Ev.load rfl rfl rfl (Src.o 0 rfl) (rowsJ_get (by rw [rwM_len]; exact hhs) (by rw [rwM_len]; omega))) rfl ?_; refine Lpu rfl rfl ?_; refine L.call (js := []) (js' := [0, 1, 2]) (bsearch_c (hs.getD (k / S) (none, 0)).1 ((rwM (rdC inn out S (symL ops)) S (rdN inn out S) (symL ops) k).getD (k / S) []) (hs.getD (k / S) (none, 0)).2 ((rdT ((symL ops).getD k Sy.zero) S) : Int) (by omega) (rwM_srt _ _ _ _ _ _)) rfl rfl rfl (by decide) ⟨((Has.okid 1 rfl (by rw [J8_len, rwM_len]; exact hhs) (k / S) (by rw [J8_len, rwM_len]; omega)).cast (J8_get _)), trivial⟩ rfl ?_
             rintro _ _ _ ⟨kk, rfl, rfl, rfl, hk1, hk2, hk3⟩
             refine Lpu rfl rfl ?_; refine Lpu rfl rfl ?_; refine Lpu rfl rfl ?_; refine Lpu rfl rfl ?_; refine Lpu rfl rfl ?_; refine L.nil (QE.seq (C.seq (C.region ?_))); refine Lpu rfl rfl ?_; refine Lpu rfl rfl ?_; refine L.nil (QE.seq ?_)
             refine C.condB 131 rfl (fun hc131 => ?_) (fun hc131 => ?_)
             ·
              have hnf : ((rwM (rdC inn out S (symL ops)) S (rdN inn out S) (symL ops) k).getD (k / S) []).contains ((rdT ((symL ops).getD k Sy.zero) S) : Int) = false := by simpa using hc131
              refine C.takeKidJ 1 (k / S) rfl (by rw [rwM_len]; omega) [0, 2] (by decide) ?_; refine C.region ?_; refine Lpu rfl rfl ?_; refine Lpu rfl rfl ?_; refine Lpu rfl rfl ?_; refine Lpu rfl rfl ?_; refine L.step (Ev.idx1 (k := (k / S)) rfl rfl rfl rfl rfl rfl rfl (by omega) (Src.o 2 rfl) (by rw [rowsV_len (by rw [J8_len, rwM_len]; exact hhs), J8_len, rwM_len]; omega)) rfl ?_; refine L.step (Ev.load rfl rfl rfl (Src.o 2 rfl) (rowsJ_get (by rw [rwM_len]; exact hhs) (by rw [rwM_len]; omega))) rfl ?_; refine Lpu rfl rfl ?_; refine Lpu rfl rfl ?_
              refine L.lit rfl rfl rfl rfl rfl (by rfl) (by rfl) (by rfl) rfl rfl (fun A140 => ?_)
              refine L.call (js := [0, 4]) (js' := [1, 2, 3]) (insert_c (hs.getD (k / S) (none, 0)).1 ((rwM (rdC inn out S (symL ops)) S (rdN inn out S) (symL ops) k).getD (k / S) []) (hs.getD (k / S) (none, 0)).2 kk ((rdT ((symL ops).getD k Sy.zero) S) : Int) A140 1 (by omega) hk1) rfl rfl rfl (by decide) trivial rfl ?_
              rintro _ _ _ ⟨A141, c141, rfl, rfl, rfl⟩
              refine L.step (Ev.idx1 (k := (k / S)) rfl rfl rfl rfl rfl rfl rfl (by omega) (Src.o 2 rfl) (by rw [rowsV_len (by rw [J8_len, rwM_len]; exact hhs), J8_len, rwM_len]; omega)) rfl ?_; refine L.store (j := 2) rfl rfl rfl rfl rfl rfl rfl (by exact rowsJ_get (by rw [rwM_len]; exact hhs) (by rw [rwM_len]; omega)) ?_; refine L.putKid 1 0 (k / S) rfl rfl (by rw [J8_len, List.length_set, rwM_len]; omega) [2, 3] (by decide) ?_; refine L.nil ?_; refine QE.blkN ?_; refine QE.seq (C.region ?_); refine L.step (Ev.add rfl rfl (by omega) (by omega)) rfl ?_; refine Lpu rfl rfl ?_; refine L.nil ?_
              have he : (rwM (rdC inn out S (symL ops)) S (rdN inn out S) (symL ops) (k + 1)) = (rwM (rdC inn out S (symL ops)) S (rdN inn out S) (symL ops) k).set (k / S) (((rwM (rdC inn out S (symL ops)) S (rdN inn out S) (symL ops) k).getD (k / S) []).take kk ++ [((rdT ((symL ops).getD k Sy.zero) S) : Int)] ++ ((rwM (rdC inn out S (symL ops)) S (rdN inn out S) (symL ops) k).getD (k / S) []).drop kk) := rwM_new hlt htl hnk hnf hk1 hk2 hk3
              refine QE.round (i := (k, hs)) ((k + 1, hs.set (k / S) (A141, c141))) (by exact ⟨by dsimp only; omega, by dsimp only; rw [List.length_set]; exact hhs⟩) (by dsimp only; omega) (by exact Le.mk' (rs := [0, 1, 2, 3]) (hs := [1, 0]) ⟨rfl, rfl, rfl, rfl, rfl, rfl, rfl, rfl, rfl, trivial⟩ ⟨rfl, rfl, rfl, rfl, trivial⟩ ⟨(congrArg some (own_eq rfl (by dsimp only; rw [he, ← rowsJ_put, ins_len]))), (congrArg some (by dsimp only; rw [he]; exact kidsJ_put)), trivial⟩ (by decide))
             ·
              have hyf : ((rwM (rdC inn out S (symL ops)) S (rdN inn out S) (symL ops) k).getD (k / S) []).contains ((rdT ((symL ops).getD k Sy.zero) S) : Int) = true := by simpa using hc131
              refine C.skip ?_; refine QE.blkN ?_; refine QE.seq (C.region ?_); refine L.step (Ev.add rfl rfl (by omega) (by omega)) rfl ?_; refine Lpu rfl rfl ?_; refine L.nil ?_
              have he : (rwM (rdC inn out S (symL ops)) S (rdN inn out S) (symL ops) (k + 1)) = (rwM (rdC inn out S (symL ops)) S (rdN inn out S) (symL ops) k) := rwM_old hlt htl hyf
              refine QE.round (i := (k, hs)) ((k + 1, hs)) (by exact ⟨by dsimp only; omega, hhs⟩) (by dsimp only; omega) (by exact Le.mk' (rs := [0, 1, 2, 3]) (hs := [0, 1]) ⟨rfl, rfl, rfl, rfl, rfl, rfl, rfl, rfl, rfl, trivial⟩ ⟨rfl, rfl, rfl, rfl, trivial⟩ ⟨(congrArg some (by dsimp only; rw [he])), (congrArg some (by dsimp only; rw [he])), trivial⟩ (by decide))
        ·
         replace hc88 := of_decide_eq_false hc88
         refine C.exit ?_; refine QE.tX ?_; refine QE.tX ?_; refine QE.blk ?_; refine QE.seq (C.seq (C.region ?_)); refine Lpu rfl rfl ?_; refine Lpu rfl rfl ?_; refine Lpu rfl rfl ?_; refine L.nil (QE.seq (C.ret ?_)); refine QE.freezeKids 1 rfl [0] (by decide) (by decide) ?_; refine QE.freeze 0 rfl [] (by decide) (by decide) ?_; refine QE.ret (js := [0, 1]) (hs := []) (vs := [_, _]) rfl ⟨rfl, rfl, trivial⟩ (by decide) ?_
         obtain rfl : k = (symL ops).length := by omega
         have hE : rdE lf inn out (S : Int) ops = 0 := rdE_0 hc25 (by simpa using hc29) (by omega) (by omega) (by rw [Int.toNat_natCast]; omega)
         have hR : rdM lf inn out (S : Int) ops = rwM (rdC inn out S (symL ops)) S (rdN inn out S) (symL ops) (symL ops).length := by rw [rdM_ok hE, Int.toNat_natCast]
         have hl := rwM_len (rdC inn out S (symL ops)) S (rdN inn out S) (symL ops) (symL ops).length
         rw [hR, hE, hl]
         exact ⟨A84, _, hs, rfl, rfl, rfl, hhs⟩

end Go.Proofs.YtpccfdnmnnnboaaGreat
