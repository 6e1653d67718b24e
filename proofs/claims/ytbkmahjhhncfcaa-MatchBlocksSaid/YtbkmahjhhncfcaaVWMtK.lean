/-
  The laws MatchBlocks and MatchMakes.
-/
import Derived.Test.YtbkmahjhhncfcaaVWMtJ
namespace Go.Proofs.Ytbkmahjhhncfcaa
open Go.Sl

set_option maxHeartbeats 1000000 in
theorem blocks07_c (QA LA : Option Addr) (ql : List UInt8) (l : List T3) (qc lc : Nat) (hqc : ql.length ≤ qc) (hll : l.length ≤ 9223372036854775807) :
   Ctr X 3 [.slice QA ql.length qc, .slice LA l.length lc] [Rd QA (U8 ql), Rd LA (triV l)] [] (fun v R' H' => v = .bool true ∧ R' = [] ∧ H' = []) := by
 refine Ctr.of (X := X) (fn := Try.f3) Try.func3 rfl (by kernel_rfl) rfl ?_
 intro β
 have hol : (ql.take 200).length ≤ 200 := by rw [List.length_take]; omega
 have hoq : (ql.take 200).length ≤ qc := by rw [List.length_take]; omega
 have hM := mx_le (ql.take 200) l (min l.length 8)
 have hm8 := Nat.mul_le_mul (show min l.length 8 ≤ 8 by omega) (show (ql.take 200).length + 6 ≤ 206 by omega)
 have hmr := mx_ref (ql.take 200) l
 have hrs := ref_same (ql.take 200)
 have hrl := (ref_lit (ql.take 200) (ql.take 200)).1
 have hML : (mxA (ql.take 200) l).out.length ≤ 1648 := Nat.le_trans hM.1 hm8
 have hM0 : (mxA (ql.take 200) l).n0 ≤ 8 := Nat.le_trans hM.2.1 (by omega)
 have hM1 : (mxA (ql.take 200) l).n1 ≤ 8 := Nat.le_trans hM.2.2.1 (by omega)
 have hM2 : (mxA (ql.take 200) l).n2 ≤ 48 := Nat.le_trans hM.2.2.2 (by omega)
 unfold mxC at hmr
 refine C.seq (C.region ?_); refine Lpu rfl rfl ?_; refine L.nil (QE.seq (C.seq (C.region ?_))); refine L.call (js := []) (js' := []) (sanity07_c) rfl rfl rfl (by decide) trivial rfl ?_
 rintro _ _ _ ⟨rfl, rfl, rfl⟩
 refine Lpu rfl rfl ?_; refine L.nil (QE.seq (C.seq (C.region ?_))); refine Lpu rfl rfl ?_; refine L.call (js := []) (js' := []) (limited_c QA ql qc 200 hqc) rfl rfl rfl (by decide) trivial rfl ?_
 rintro _ _ _ ⟨rfl, rfl, rfl⟩
 refine Lpu rfl rfl ?_; refine L.nil (QE.seq (C.seq ?_)); refine C.more (r := Rd QA (U8 (ql.take 200))) (Has.takeU (Has.r 0 rfl) 200) ?_; refine C.region ?_; refine Lpu rfl rfl ?_; refine Lpu rfl rfl ?_; refine L.call (js := []) (js' := []) (mixed_c QA LA (ql.take 200) l qc lc (by omega) hoq hll) rfl rfl rfl (by decide) (Hq [0, 2] rfl) rfl ?_
 rintro _ _ _ ⟨A1, c1, rfl, rfl, rfl⟩
 refine L.norm (H' := [_]) [0] ⟨rfl, trivial⟩ (by decide) ?_; refine Lpu rfl rfl ?_; refine Lpu rfl rfl ?_; refine Lpu rfl rfl ?_
 refine L.alloc rfl rfl rfl (fun A8 => ?_)
 refine Lpu rfl rfl ?_; refine L.storeA (j := 1) rfl rfl rfl rfl rfl (Nat.zero_lt_succ _) rfl rfl ?_; refine L.nil (QE.seq (C.seq ?_))
 refine C.capO 0 rfl (fun hmc => ?_)
 refine C.freeze 0 rfl [1] (by decide) (by decide) ?_; refine C.norm (H' := [_]) [0] ⟨rfl, trivial⟩ (by decide) ?_; refine C.region ?_; refine Lpu rfl rfl ?_; refine Lpu rfl rfl ?_; refine L.call (js := []) (js' := [0]) (costL_c QA A1 (ql.take 200) (mxA (ql.take 200) l).out qc c1 (by omega) (by omega) hmc) rfl rfl rfl (by decide) (Hq [1, 0] rfl) rfl ?_
 rintro _ _ _ ⟨rfl, rfl, rfl⟩
 refine L.norm (H' := [_]) [0] ⟨rfl, trivial⟩ (by decide) ?_; refine Lpu rfl rfl ?_; refine L.nil (QE.seq (C.seq (C.region ?_))); refine Lpu rfl rfl ?_; refine Lpu rfl rfl ?_; refine L.call (js := []) (js' := [0]) (costL_c QA QA (ql.take 200) (ql.take 200) qc qc (by omega) (by omega) hoq) rfl rfl rfl (by decide) (Hq [1, 1] rfl) rfl ?_
 rintro _ _ _ ⟨rfl, rfl, rfl⟩
 refine L.norm (H' := [_]) [0] ⟨rfl, trivial⟩ (by decide) ?_; refine Lpu rfl rfl ?_; refine L.nil (QE.seq (C.seq (C.region ?_))); refine Lpu rfl rfl ?_; refine Lpu rfl rfl ?_; refine L.yes rfl ?_; refine Lpu rfl rfl ?_; refine L.yes rfl ?_; refine L.step (Ev.cast (u := .bool true) (Ev.pure rfl) (congrArg Value.bool (decide_eq_true (by omega)))) rfl ?_; refine Lpu rfl rfl ?_; refine Lpu rfl rfl ?_; refine L.yes rfl ?_; refine Lpu rfl rfl ?_; refine L.yes rfl ?_; refine L.step (Ev.idxArr (k := 0) (m := 0) rfl rfl rfl rfl rfl rfl (by decide) (Src.o 0 rfl) (Nat.zero_lt_succ _) rfl) rfl ?_; refine L.yes rfl ?_; refine L.step (Ev.load rfl rfl rfl (Src.o 0 rfl) rfl) rfl ?_; refine L.yes rfl ?_; refine L.step (Ev.mul rfl rfl (by omega) (by omega)) rfl ?_; refine L.yes rfl ?_; refine L.step (Ev.idxArr (k := 1) (m := 1) rfl rfl rfl rfl rfl rfl (by decide) (Src.o 0 rfl) (Nat.zero_lt_succ _) rfl) rfl ?_; refine L.yes rfl ?_; refine L.step (Ev.load rfl rfl rfl (Src.o 0 rfl) rfl) rfl ?_; refine L.yes rfl ?_; refine L.step (Ev.mul rfl rfl (by omega) (by omega)) rfl ?_; refine L.yes rfl ?_; refine L.step (Ev.add rfl rfl (by omega) (by omega)) rfl ?_; refine L.yes rfl ?_; refine L.step (Ev.idxArr (k := 2) (m := 2) rfl rfl rfl rfl rfl rfl (by decide) (Src.o 0 rfl) (Nat.zero_lt_succ _) rfl) rfl ?_; refine L.yes rfl ?_; refine L.step (Ev.load rfl rfl rfl (Src.o 0 rfl) rfl) rfl ?_; refine L.yes rfl ?_; refine L.step (Ev.add rfl rfl (by omega) (by omega)) rfl ?_; refine L.yes rfl ?_; refine L.step (Ev.cast (u := .bool true) (Ev.pure rfl) (congrArg Value.bool (decide_eq_true (by omega)))) rfl ?_; refine Lpu rfl rfl ?_; refine Lpu rfl rfl ?_; refine L.yes rfl ?_; refine Lpu rfl rfl ?_; refine L.yes rfl ?_; refine Lpu rfl rfl ?_; refine L.yes rfl ?_; refine Lpu rfl rfl ?_; refine L.yes rfl ?_; refine L.step (Ev.add rfl rfl (by omega) (by omega)) rfl ?_; refine L.yes rfl ?_; refine L.step (Ev.cast (u := .int .i64 (min (((ql.take 200).length : Int) + 2) 4)) (Ev.pure rfl) (congrArg (Value.int .i64) (by simp only [Bool.false_eq_true, if_false]; split <;> omega))) rfl ?_; refine L.yes rfl ?_; refine Lpu rfl rfl ?_; refine L.yes rfl ?_; refine Lpu rfl rfl ?_; refine L.yes rfl ?_; refine L.step (Ev.cast (u := .int .i64 (min ((ql.take 200).length : Int) 1)) (Ev.pure rfl) (congrArg (Value.int .i64) (by simp only [Bool.false_eq_true, if_false]; split <;> omega))) rfl ?_; refine L.yes rfl ?_; refine L.step (Ev.mul rfl rfl (by rw [← hrs]; omega) (by rw [← hrs]; omega)) rfl ?_; refine L.yes rfl ?_; refine L.step (Ev.cast (u := .bool true) (Ev.pure rfl) (congrArg Value.bool (by rw [← hrs]; simp))) rfl ?_; refine Lpu rfl rfl ?_; refine Lpu rfl rfl ?_; refine L.nil (QE.seq (C.ret ?_)); refine QE.ret (js := []) (hs := []) (vs := [_]) rfl ⟨rfl, trivial⟩ (by decide) ?_
 exact ⟨rfl, rfl, rfl⟩

set_option maxHeartbeats 2000000 in
theorem makes07_c (QA LA : Option Addr) (ql : List UInt8) (l : List T3) (qc lc : Nat) (tm : UInt8) (hqc : ql.length ≤ qc) (hll : l.length ≤ 9223372036854775807) :
   Ctr X 4 [.slice QA ql.length qc, .slice LA l.length lc, .int .u8 (tm.toNat : Int)] [Rd QA (U8 ql), Rd LA (triV l)] [] (fun v R' H' => v = .bool true ∧ R' = [] ∧ H' = []) := by
 refine Ctr.of (X := X) (fn := Try.f4) Try.func4 rfl (by kernel_rfl) rfl ?_
 intro β
 have ht3 : tm.toNat % 3 < 3 := Nat.mod_lt _ (by decide)
 have hl1 : (ql.take 100).length ≤ 100 := by rw [List.length_take]; omega
 refine C.seq (C.region ?_); refine Lpu rfl rfl ?_; refine L.nil (QE.seq (C.seq (C.region ?_))); refine L.call (js := []) (js' := []) (sanity07_c) rfl rfl rfl (by decide) trivial rfl ?_
 rintro _ _ _ ⟨rfl, rfl, rfl⟩
 refine Lpu rfl rfl ?_; refine L.nil (QE.seq (C.seq ?_)); refine C.more (r := Rd QA (U8 (ql.take 100))) (Has.takeU (Has.r 0 rfl) 100) ?_; refine C.region ?_
 refine L.lit0S rfl rfl rfl rfl (fun A17 => ?_)
 refine Lpu rfl rfl ?_; refine L.call (js := []) (js' := [0]) (limited_c QA ql qc 100 hqc) rfl rfl rfl (by decide) trivial rfl ?_
 rintro _ _ _ ⟨rfl, rfl, rfl⟩
 refine L.norm (H' := [_]) [0] ⟨rfl, trivial⟩ (by decide) ?_
 refine L.append (j := 0) rfl rfl rfl rfl (by decide) rfl rfl rfl rfl (Src.r 0 rfl) (by show _ = _ * 1; rw [U8_len]; omega) (U8_one _) (by omega) (by show _ * 1 ≤ _; omega) rfl (fun A20 cc20 => ?_)
 refine Lpu rfl rfl ?_; refine L.nil (QE.seq (C.seq (C.seq (C.region ?_)))); refine Lpu rfl rfl ?_; refine L.nil (QE.seq (C.block ?_)); refine C.loop (fun s : Nat × Option Addr × Nat => [(0, .slice QA ql.length qc), (1, .slice LA l.length lc), (2, .int .u8 (tm.toNat : Int)), (7, .bool true), (9, .int .i64 (s.1 : Int)), (8, .slice s.2.1 (mkO ql s.1).length s.2.2)]) (fun s : Nat × Option Addr × Nat => [Rd QA (U8 ql), Rd LA (triV l)]) (fun s : Nat × Option Addr × Nat => [Own 5 1 s.2.1 (mkO ql s.1).length s.2.2 (U8 (mkO ql s.1))]) (fun s : Nat × Option Addr × Nat => s.1 ≤ (tm.toNat % 3)) (fun s : Nat × Option Addr × Nat => (tm.toNat % 3) - s.1) (0, A20, cc20) (Nat.zero_le _) (by exact Le.mk' (rs := [1, 2]) (hs := [0]) ⟨rfl, rfl, rfl, rfl, rfl, (by dsimp only; rw [show mkO ql 0 = ql.take 100 from rfl, Nat.zero_add]; rfl), trivial⟩ ⟨rfl, rfl, trivial⟩ ⟨(by dsimp only; rw [show mkO ql 0 = ql.take 100 from rfl, Nat.zero_add, List.nil_append]; rfl), trivial⟩ (by decide)) ?_
 rintro ⟨i, A, c⟩ hi
 dsimp only at hi ⊢
 have hol := mkO_len ql i
 refine C.seq (C.seq (C.region ?_)); refine Lpu rfl rfl ?_; refine Lpu rfl rfl ?_; refine L.step (Ev.cast (u := .int .u8 (((tm.toNat % 3) : Nat) : Int)) (Ev.rem rfl rfl (by omega) (by decide)) (congrArg (Value.int .u8) (by rw [Int.natCast_emod]; rfl))) rfl ?_
 first | refine L.step (Ev.byteInt rfl rfl rfl rfl) rfl ?_ | refine L.step (Ev.toInt rfl rfl rfl rfl (by omega) (by omega)) rfl ?_
 refine Lpu rfl rfl ?_; refine L.nil (QE.seq ?_)
 refine C.condB 25 rfl (fun hc25 => ?_) (fun hc25 => ?_)
 ·
  replace hc25 := of_decide_eq_true hc25
  refine C.skip (QE.seq (C.seq (C.block ?_)))
  refine C.capO 0 rfl (fun hcp => ?_)
  refine C.region ?_; refine Lpu rfl rfl ?_; refine Lpu rfl rfl ?_; refine Lpu rfl rfl ?_; refine Lpu rfl rfl ?_; refine L.step (Ev.cast (u := .int .i64 (((min (mkO ql i).length 100) : Nat) : Int)) (Ev.pure rfl) (congrArg (Value.int .i64) (by simp only [Bool.false_eq_true, if_false]; split <;> omega))) rfl ?_; refine L.step (Ev.sliceH (h := min (mkO ql i).length 100) rfl rfl rfl rfl rfl rfl (by omega)) rfl ?_
  refine L.append (j := 0) rfl rfl rfl rfl (by decide) rfl rfl rfl rfl (Src.take (Src.o 0 rfl) 100) (by show _ = _ * 1; rw [List.length_take, U8_len]; omega) (fun v hv => U8_one _ v (List.mem_of_mem_take hv)) (by omega) (by show _ * 1 ≤ _; omega) rfl (fun A34 cc34 => ?_)
  refine Lpu rfl rfl ?_; refine L.nil ?_; refine QE.blkN ?_; refine QE.seq (C.region ?_); refine Lpu rfl rfl ?_; refine L.step (Ev.add rfl rfl (by omega) (by omega)) rfl ?_; refine Lpu rfl rfl ?_; refine L.nil ?_
  have he : (mkO ql (i + 1)).length = (mkO ql i).length + min (mkO ql i).length 100 := by rw [mkO, List.length_append, List.length_take, Nat.min_comm]
  have hu : U8 (mkO ql (i + 1)) = U8 (mkO ql i) ++ (U8 (mkO ql i)).take 100 := by rw [mkO, ← U8_app]; congr 1; unfold U8; rw [List.map_take]
  refine QE.round (i := (i, A, c)) ((i + 1, A34, cc34)) (by dsimp only; omega) (by dsimp only; omega) (by exact Le.mk' (rs := [0, 1]) (hs := [0]) ⟨rfl, rfl, rfl, rfl, rfl, (by dsimp only; rw [he]; rfl), trivial⟩ ⟨rfl, rfl, trivial⟩ ⟨(by dsimp only; rw [he, hu]; rfl), trivial⟩ (by decide))
 ·
  replace hc25 := of_decide_eq_false hc25
  refine C.exit ?_; refine QE.tX ?_; refine QE.tX ?_; refine QE.blk ?_; refine QE.seq (C.seq ?_)
  obtain rfl : i = (tm.toNat % 3) := by omega
  have hol := mkO_len ql (tm.toNat % 3)
  have hM := mx_le (mkO ql (tm.toNat % 3)) l (min l.length 8)
  have hm8 := Nat.mul_le_mul (show min l.length 8 ≤ 8 by omega) (show (mkO ql (tm.toNat % 3)).length + 6 ≤ 306 by omega)
  have hML : (mxA (mkO ql (tm.toNat % 3)) l).out.length ≤ 2448 := Nat.le_trans hM.1 hm8
  have hM6 : ((mxA (mkO ql (tm.toNat % 3)) l).out.take 600).length ≤ 600 := by rw [List.length_take]; omega
  have hMt : ((mxA (mkO ql (tm.toNat % 3)) l).out.take 600).length ≤ (mxA (mkO ql (tm.toNat % 3)) l).out.length := by rw [List.length_take]; omega
  refine C.capO 0 rfl (fun hoc => ?_)
  refine C.freeze 0 rfl [] (by decide) (by decide) ?_; refine C.region ?_; refine Lpu rfl rfl ?_; refine Lpu rfl rfl ?_; refine L.call (js := []) (js' := []) (mixed_c A LA (mkO ql (tm.toNat % 3)) l c lc (by omega) hoc hll) rfl rfl rfl (by decide) (Hq [0, 2] rfl) rfl ?_
  rintro _ _ _ ⟨A1, c1, rfl, rfl, rfl⟩
  refine L.norm (H' := [_]) [0] ⟨rfl, trivial⟩ (by decide) ?_; refine Lpu rfl rfl ?_; refine Lpu rfl rfl ?_; refine Lpu rfl rfl ?_
  refine L.alloc rfl rfl rfl (fun A11 => ?_)
  refine Lpu rfl rfl ?_; refine L.storeA (j := 1) rfl rfl rfl rfl rfl (Nat.zero_lt_succ _) rfl rfl ?_; refine L.nil (QE.seq (C.seq ?_))
  refine C.capO 0 rfl (fun hmc => ?_)
  refine C.freeze 0 rfl [1] (by decide) (by decide) ?_; refine C.norm (H' := [_]) [0] ⟨rfl, trivial⟩ (by decide) ?_; refine C.region ?_; refine Lpu rfl rfl ?_; refine L.call (js := []) (js' := [0]) (limited_c A1 (mxA (mkO ql (tm.toNat % 3)) l).out c1 600 hmc) rfl rfl rfl (by decide) trivial rfl ?_
  rintro _ _ _ ⟨rfl, rfl, rfl⟩
  refine L.norm (H' := [_]) [0] ⟨rfl, trivial⟩ (by decide) ?_; refine Lpu rfl rfl ?_; refine L.nil (QE.seq (C.seq ?_)); refine C.more (r := Rd A1 (U8 ((mxA (mkO ql (tm.toNat % 3)) l).out.take 600))) (Has.takeU (Has.r 0 rfl) 600) ?_; refine C.region ?_; refine Lpu rfl rfl ?_; refine Lpu rfl rfl ?_; refine L.callR (js := []) (js' := [0]) (plain_c A A1 (mkO ql (tm.toNat % 3)) ((mxA (mkO ql (tm.toNat % 3)) l).out.take 600) c c1 (by omega) (by omega) (by omega)) rfl rfl rfl (by decide) (Hq [2, 0] rfl) rfl ?_
  rintro _ _ _ ⟨PA, pc, pl, rfl, rfl, rfl, hk1⟩
  have hp1 := (chkP_iff.1 hk1.chk).2.2.2.2.1
  refine L.norm (H' := [_]) [0] ⟨rfl, trivial⟩ (by decide) ?_; refine Lpu rfl rfl ?_; refine Lpu rfl rfl ?_; refine Lpu rfl rfl ?_
  refine L.alloc rfl rfl rfl (fun A12 => ?_)
  refine L.storeA (j := 1) rfl rfl rfl rfl rfl (Nat.zero_lt_succ _) rfl rfl ?_; refine Lpu rfl rfl ?_; refine L.nil (QE.seq (C.seq (C.region ?_))); refine Lpu rfl rfl ?_; refine Lpu rfl rfl ?_; refine L.callR (js := []) (js' := [0, 1]) (plain_c A1 A ((mxA (mkO ql (tm.toNat % 3)) l).out.take 600) (mkO ql (tm.toNat % 3)) c1 c (by omega) (by omega) hoc) rfl rfl rfl (by decide) (Hq [2, 4] rfl) rfl ?_
  rintro _ _ _ ⟨QB, qd, ql2, rfl, rfl, rfl, hk2⟩
  have hp2 := (chkP_iff.1 hk2.chk).2.2.2.2.1
  refine L.norm (H' := [_, _]) [0, 1] ⟨rfl, rfl, trivial⟩ (by decide) ?_; refine Lpu rfl rfl ?_; refine Lpu rfl rfl ?_; refine Lpu rfl rfl ?_
  refine L.alloc rfl rfl rfl (fun A14 => ?_)
  refine L.storeA (j := 2) rfl rfl rfl rfl rfl (Nat.zero_lt_succ _) rfl rfl ?_; refine Lpu rfl rfl ?_; refine L.nil (QE.seq (C.seq (C.region ?_))); refine Lpu rfl rfl ?_; refine Lpu rfl rfl ?_
  refine L.bool 56 rfl (fun hg56 => ?_) (fun hg56 => ?_)
  ·
   refine L.yes rfl ?_; refine Lpu rfl rfl ?_; refine L.yes rfl ?_; refine L.step (Ev.cast (u := .bool true) (Ev.pure rfl) (congrArg Value.bool (rfl))) rfl ?_; refine Lpu rfl rfl ?_; refine Lpu rfl rfl ?_; refine L.yes rfl ?_; refine Lpu rfl rfl ?_; refine L.yes rfl ?_; refine L.step (Ev.cast (u := .bool true) (Ev.pure rfl) (congrArg Value.bool (rfl))) rfl ?_; refine Lpu rfl rfl ?_; refine Lpu rfl rfl ?_; refine L.yes rfl ?_; refine L.step (Ev.loadA (vs := [.bool false, .int .i64 ((mkO ql (tm.toNat % 3)).length : Int), .int .i64 (((mxA (mkO ql (tm.toNat % 3)) l).out.take 600).length : Int), .slice PA pl.length pc]) rfl rfl rfl (Src.o 1 rfl) rfl rfl (by decide)) rfl ?_; refine L.yes rfl ?_; refine Lpu rfl rfl ?_; refine L.yes rfl ?_; refine Lpu rfl rfl ?_; refine L.yes rfl ?_; refine L.call (js := []) (js' := [0, 1, 2]) (fits_c A A1 c c1 (mkO ql (tm.toNat % 3)).length ((mxA (mkO ql (tm.toNat % 3)) l).out.take 600).length false ((mkO ql (tm.toNat % 3)).length : Int) (((mxA (mkO ql (tm.toNat % 3)) l).out.take 600).length : Int) pl PA pc (by omega) hk1.chk rfl rfl) rfl rfl rfl (by decide) (Hq [2] rfl) rfl ?_
   rintro _ _ _ ⟨rfl, rfl, rfl⟩
   refine L.norm (H' := [_, _, _]) [0, 1, 2] ⟨rfl, rfl, rfl, trivial⟩ (by decide) ?_; refine Lpu rfl rfl ?_; refine Lpu rfl rfl ?_; refine L.yes rfl ?_; refine L.step (Ev.loadA (vs := [.bool false, .int .i64 (((mxA (mkO ql (tm.toNat % 3)) l).out.take 600).length : Int), .int .i64 ((mkO ql (tm.toNat % 3)).length : Int), .slice QB ql2.length qd]) rfl rfl rfl (Src.o 2 rfl) rfl rfl (by decide)) rfl ?_; refine L.yes rfl ?_; refine Lpu rfl rfl ?_; refine L.yes rfl ?_; refine Lpu rfl rfl ?_; refine L.yes rfl ?_; refine L.call (js := []) (js' := [0, 1, 2]) (fits_c A1 A c1 c ((mxA (mkO ql (tm.toNat % 3)) l).out.take 600).length (mkO ql (tm.toNat % 3)).length false (((mxA (mkO ql (tm.toNat % 3)) l).out.take 600).length : Int) ((mkO ql (tm.toNat % 3)).length : Int) ql2 QB qd (by omega) hk2.chk rfl rfl) rfl rfl rfl (by decide) (Hq [0] rfl) rfl ?_
   rintro _ _ _ ⟨rfl, rfl, rfl⟩
   refine L.norm (H' := [_, _, _]) [0, 1, 2] ⟨rfl, rfl, rfl, trivial⟩ (by decide) ?_; refine Lpu rfl rfl ?_; refine Lpu rfl rfl ?_; refine L.yes rfl ?_; refine L.step (Ev.fieldAddr rfl rfl rfl rfl rfl rfl (Src.o 1 rfl) (Nat.zero_lt_succ _) rfl) rfl ?_; refine L.yes rfl ?_; refine L.step (Ev.load rfl rfl rfl (Src.o 1 rfl) rfl) rfl ?_; refine L.yes rfl ?_; refine Lpu rfl rfl ?_; refine Lpu rfl rfl ?_; refine Lpu rfl rfl ?_; refine L.yes rfl ?_; refine L.step (Ev.loadA (vs := [.bool false, .int .i64 ((mkO ql (tm.toNat % 3)).length : Int), .int .i64 (((mxA (mkO ql (tm.toNat % 3)) l).out.take 600).length : Int), .slice PA pl.length pc]) rfl rfl rfl (Src.o 1 rfl) rfl rfl (by decide)) rfl ?_; refine L.yes rfl ?_; refine Lpu rfl rfl ?_; refine L.yes rfl ?_; refine Lpu rfl rfl ?_; refine L.yes rfl ?_; refine L.call (js := []) (js' := [0, 1, 2]) (made_c A A1 (mkO ql (tm.toNat % 3)) ((mxA (mkO ql (tm.toNat % 3)) l).out.take 600) c c1 false ((mkO ql (tm.toNat % 3)).length : Int) (((mxA (mkO ql (tm.toNat % 3)) l).out.take 600).length : Int) pl PA pc (by omega) rfl hk1.chk rfl hk1.run) rfl rfl rfl (by decide) (Hq [6, 4, 2, 3] rfl) rfl ?_
   rintro _ _ _ ⟨rfl, rfl, rfl⟩
   refine L.norm (H' := [_, _, _]) [0, 1, 2] ⟨rfl, rfl, rfl, trivial⟩ (by decide) ?_; refine Lpu rfl rfl ?_; refine Lpu rfl rfl ?_; refine L.yes rfl ?_; refine L.step (Ev.loadA (vs := [.bool false, .int .i64 (((mxA (mkO ql (tm.toNat % 3)) l).out.take 600).length : Int), .int .i64 ((mkO ql (tm.toNat % 3)).length : Int), .slice QB ql2.length qd]) rfl rfl rfl (Src.o 2 rfl) rfl rfl (by decide)) rfl ?_; refine L.yes rfl ?_; refine Lpu rfl rfl ?_; refine L.yes rfl ?_; refine Lpu rfl rfl ?_; refine L.yes rfl ?_; refine L.call (js := []) (js' := [0, 1, 2]) (made_c A1 A ((mxA (mkO ql (tm.toNat % 3)) l).out.take 600) (mkO ql (tm.toNat % 3)) c1 c false (((mxA (mkO ql (tm.toNat % 3)) l).out.take 600).length : Int) ((mkO ql (tm.toNat % 3)).length : Int) ql2 QB qd (by omega) rfl hk2.chk rfl hk2.run) rfl rfl rfl (by decide) (Hq [4, 6, 0, 1] rfl) rfl ?_
   rintro _ _ _ ⟨rfl, rfl, rfl⟩
   refine L.norm (H' := [_, _, _]) [0, 1, 2] ⟨rfl, rfl, rfl, trivial⟩ (by decide) ?_; refine Lpu rfl rfl ?_; refine Lpu rfl rfl ?_; refine L.nil (QE.seq (C.ret ?_)); refine QE.ret (js := []) (hs := []) (vs := [_]) rfl ⟨rfl, trivial⟩ (by decide) ?_
   exact ⟨rfl, rfl, rfl⟩
  ·
   cases hg56

end Go.Proofs.Ytbkmahjhhncfcaa
