/-
  The contract of the law PlanNeeds.
-/
import Derived.Test.YtpccfdnmnnnboaaGreatTTk
namespace Go.Proofs.YtpccfdnmnnnboaaGreat
open Go.Sl

theorem needs_m (BA : Option Addr) (old : List UInt8) (bc : Nat) (sz n : Int) (lf : Bool) (inn out : Int) (ops : List Po) (seq st : List Int) (OA QA HA : Option Addr) (oc qc hc ol ql hl : Nat) (h1 : ops.length = ol) (h2 : seq.length = ql) (h3 : st.length = hl) (hops : ops.length ≤ 9223372036854775807) (hql : seq.length ≤ 1000000) (hhl : st.length ≤ 1000000) (hol : old.length ≤ 9223372036854775807) (hbc : old.length ≤ bc) (e s u r er o : Int) (he : needE lf sz n inn out ops seq st old = e) (hv : needV lf sz n inn out ops seq st old = ⟨s, u, r, er, o⟩) :
   Ctr X 15 [.slice BA old.length bc, .agg (List.toArray [.int .i64 sz, .int .i64 n, .bool lf, .int .i64 inn, .int .i64 out, .slice OA ol oc, .slice QA ql qc, .slice HA hl hc])] [Rd BA (U8 old), Rd OA (opsV ops), Rd QA (I64 seq), Rd HA (I64 st)] [] (fun v R' H' => v = .tuple #[.agg (List.toArray [.int .i64 s, .int .i64 u, .int .i64 r, .int .i64 er, .int .i64 o]), .int .i64 e] ∧ R' = [] ∧ H' = []) := by
 subst h1 h2 h3
 exact needs_k BA old bc sz n lf inn out ops seq st OA QA HA oc qc hc hops hql hhl hol hbc e s u r er o he hv
theorem applyR_md (a : UInt8) (l : List T3) (b : List UInt8) (B : Option Addr) (bc : Nat) (OA : Option Addr) (oc : Nat) :
   Ctr X 29 [.slice B (inpF b (mdI a)).length bc, .agg (List.toArray [.bool false, .int .i64 ((mdI a : Nat) : Int), .int .i64 (((mdK a l).2 : Nat) : Int), .slice OA (mdK a l).1.length oc])] [Rd B (U8 (inpF b (mdI a))), Rd OA (opsV (mdK a l).1)] [] (fun v R' H' => ∃ (A : Option Addr) (c : Nat), v = .tuple #[.slice A (neW a l b).length c, .int .i64 0] ∧ R' = [] ∧ H' = [Own 5 1 A (neW a l b).length c (U8 (neW a l b))]) := by
 have hs : syS ((mdI a : Nat) : Int) (((mdK a l).2 : Nat) : Int) (mdK a l).1 = symL (mdK a l).1 := by unfold syS; rw [if_pos (mdE a l)]
 have := applyR_c B (inpF b (mdI a)) bc false ((mdI a : Nat) : Int) (((mdK a l).2 : Nat) : Int) (mdK a l).1 OA oc (by have := mdK_ops a l; omega) (by have := mdI_le a; rw [inpF_len]; omega) rfl (mdE a l) (by rw [inpF_len])
 rw [hs] at this
 exact this
theorem neW_len (a : UInt8) (l : List T3) (b : List UInt8) : (neW a l b).length ≤ 32 := by
 have h1 := mdK_out a l
 have hsl : ((symL (mdK a l).1).length : Int) = ((mdK a l).2 : Int) := chkG_tot _ _ (by omega) (chkE_ok (mdE a l)).2.2.2.2.2
 unfold neW
 rw [runB_len]
 omega

set_option maxHeartbeats 4000000 in
set_option maxRecDepth 4000 in
theorem pNeeds_c (LA : Option Addr) (l : List T3) (lc : Nat) (hl : l.length ≤ 9223372036854775807) (a z : UInt8) (BA : Option Addr) (b : List UInt8) (bc : Nat) (hbl : b.length ≤ 9223372036854775807) :
   Ctr X 8 [.agg (List.toArray [.slice LA l.length lc, .int .u8 (a.toNat : Int), .int .u8 (z.toNat : Int), .slice BA b.length bc])] [Rd LA (triV l), Rd BA (U8 b)] [] (fun v R' H' => v = .bool true ∧ R' = [] ∧ H' = []) := by
 refine Ctr.of (X := X) (fn := Tryz.f8) Tryz.func8 rfl (by kernel_rfl) rfl ?_
 intro β
 have hops := mdK_ops a l
 have hI := mdI_le a
 have hil := inpF_len b (mdI a)
 have hS := mdS_le z
 have hW := mdW_le a z l
 have hO := mdK_out a l
 have hQl := mdQ_len a z l
 have hHl := mdH_len a z l
 have hQC := mdQ_num a z l
 have hC := mdC_len a z l
 have hcov := mdW_cov a z l
 have hnl := neW_len a l b
 have hul := neU_le a z l b
 have hut := neU_lt a z l b
 have hhi := neU_hi a z l b
 have htl := neT_le a z l b
 have hbH := ne_bd a z l b (mdH a z l).length hHl
 have hbQ := ne_bd a z l b (mdQ a z l).length hQl
 have hHQ : (mdH a z l).length ≤ (mdQ a z l).length := by
   have h := mkH_len (mdC_len a z l)
   rw [mdH_is, NI_len, hQC]
   exact h
 have hmE := neE_mono a z l b hHQ
 have hmO := neO_mono a z l b hHQ
 have hgt := neO_gt a z l b (mdH a z l).length
 have hge := neE_ge a z l b (mdH a z l).length
 obtain ⟨we, wo, hwe, hwv⟩ := wh_need (n := (inpF b (mdI a)).length) (S := mdS z) (W := mdW a z l) (old := (inpF b (mdI a))) (by omega) (by omega) (by omega) (by omega) hW.1 (by omega) (by rw [hil]; exact hcov.1) rfl
 have hwm := wh_mk (n := (inpF b (mdI a)).length) (S := mdS z) (W := mdW a z l) (by omega) (by omega) (by omega) (by omega) hW.1 (by omega) (by rw [hil]; exact hcov.1)
 refine C.seq (C.region ?_)
 refine L.boxA rfl rfl (fun A1 => ?_)
 refine Lpu rfl rfl ?_; refine L.nil (QE.seq (C.seq ?_)); refine C.freeze 0 rfl [] (by decide) (by decide) ?_; refine C.region ?_; refine L.call (js := []) (js' := []) (sanity19_c) rfl rfl rfl (by decide) trivial rfl ?_
 rintro _ _ _ ⟨rfl, rfl, rfl⟩
 refine Lpu rfl rfl ?_; refine L.nil (QE.seq (C.seq (C.region ?_))); refine L.step (Ev.loadA (vs := [.slice LA l.length lc, .int .u8 (a.toNat : Int), .int .u8 (z.toNat : Int), .slice BA b.length bc]) rfl rfl rfl (Src.r 0 rfl) rfl rfl (by decide)) rfl ?_; refine L.callR (js := []) (js' := []) (plan19_c LA l lc hl a z BA b bc hbl) rfl rfl rfl (by decide) (Hq [1, 2] rfl) rfl ?_
 rintro _ _ _ ⟨YA, OA, QA, HA, yc, oc, qc, hc, rfl, rfl, rfl⟩
 refine L.norm (H' := [_]) [0] ⟨rfl, trivial⟩ (by decide) ?_; refine Lpu rfl rfl ?_; refine Lpu rfl rfl ?_; refine Lpu rfl rfl ?_
 refine L.alloc rfl rfl rfl (fun A4 => ?_)
 refine L.storeA (vs := [.int .i64 ((mdS z : Nat) : Int), .int .i64 ((mdW a z l : Nat) : Int), .bool false, .int .i64 ((mdI a : Nat) : Int), .int .i64 (((mdK a l).2 : Nat) : Int), .slice OA (mdK a l).1.length oc, .slice QA (mdQ a z l).length qc, .slice HA (mdH a z l).length hc]) (j := 1) rfl rfl rfl rfl rfl (Nat.zero_lt_succ _) rfl rfl ?_; refine Lpu rfl rfl ?_; refine L.nil (QE.seq (C.seq (C.seq ?_)))
 refine C.cap 0 rfl (fun hyc => ?_)
 refine C.freeze 1 rfl [0] (by decide) (by decide) ?_; refine C.norm (H' := [_]) [0] ⟨rfl, trivial⟩ (by decide) ?_; refine C.freeze 0 rfl [] (by decide) (by decide) ?_; refine C.region ?_; refine L.step (Ev.fieldAddr rfl rfl rfl rfl rfl rfl (Src.r 1 rfl) (Nat.zero_lt_succ _) rfl) rfl ?_; refine L.step (Ev.load rfl rfl rfl (Src.r 1 rfl) rfl) rfl ?_; refine Lpu rfl rfl ?_; refine L.nil (QE.seq ?_)
 refine C.condB 28 rfl (fun hc28 => ?_) (fun hc28 => ?_)
 ·
  replace hc28 := i_eq hc28
  omega
 ·
  replace hc28 := i_ne hc28
  refine C.skip (QE.seq (C.seq (C.region ?_))); refine Lpu rfl rfl ?_; refine L.step (Ev.loadA (vs := [.int .i64 ((mdS z : Nat) : Int), .int .i64 ((mdW a z l : Nat) : Int), .bool false, .int .i64 ((mdI a : Nat) : Int), .int .i64 (((mdK a l).2 : Nat) : Int), .slice OA (mdK a l).1.length oc, .slice QA (mdQ a z l).length qc, .slice HA (mdH a z l).length hc]) rfl rfl rfl (Src.r 1 rfl) rfl rfl (by decide)) rfl ?_; refine L.call (js := []) (js' := []) (needs_k YA (inpF b (mdI a)) yc ((mdS z : Nat) : Int) ((mdW a z l : Nat) : Int) false ((mdI a : Nat) : Int) (((mdK a l).2 : Nat) : Int) (mdK a l).1 (mdQ a z l) (mdH a z l) OA QA HA oc qc hc (by omega) (by omega) (by omega) (by omega) hyc 0 (((mdH a z l).length : Nat) : Int) ((neU a z l b : Nat) : Int) ((neG a z l b : Nat) : Int) ((neE a z l b (mdH a z l).length : Nat) : Int) ((neO a z l b (mdH a z l).length : Nat) : Int) (ne_md a z l b).1 (ne_md a z l b).2) rfl rfl rfl (by decide) (Hq [0, 2, 3, 4] rfl) rfl ?_
  rintro _ _ _ ⟨rfl, rfl, rfl⟩
  refine Lpu rfl rfl ?_; refine Lpu rfl rfl ?_; refine Lpu rfl rfl ?_
  refine L.alloc rfl rfl rfl (fun A6 => ?_)
  refine L.storeA (vs := [.int .i64 (((mdH a z l).length : Nat) : Int), .int .i64 ((neU a z l b : Nat) : Int), .int .i64 ((neG a z l b : Nat) : Int), .int .i64 ((neE a z l b (mdH a z l).length : Nat) : Int), .int .i64 ((neO a z l b (mdH a z l).length : Nat) : Int)]) (j := 0) rfl rfl rfl rfl rfl (Nat.zero_lt_succ _) rfl rfl ?_; refine Lpu rfl rfl ?_; refine L.nil (QE.seq (C.seq ?_)); refine C.freeze 0 rfl [] (by decide) (by decide) ?_; refine C.region ?_; refine L.step (Ev.loadA (vs := [.int .i64 ((mdS z : Nat) : Int), .int .i64 ((mdW a z l : Nat) : Int), .bool false, .int .i64 ((mdI a : Nat) : Int), .int .i64 (((mdK a l).2 : Nat) : Int), .slice OA (mdK a l).1.length oc, .slice QA (mdQ a z l).length qc, .slice HA (mdH a z l).length hc]) rfl rfl rfl (Src.r 2 rfl) rfl rfl (by decide)) rfl ?_
  refine L.alloc rfl rfl rfl (fun A8 => ?_)
  refine L.storeA (vs := [.int .i64 ((mdS z : Nat) : Int), .int .i64 ((mdW a z l : Nat) : Int), .bool false, .int .i64 ((mdI a : Nat) : Int), .int .i64 (((mdK a l).2 : Nat) : Int), .slice OA (mdK a l).1.length oc, .slice QA (mdQ a z l).length qc, .slice HA (mdH a z l).length hc]) (j := 0) rfl rfl rfl rfl rfl (Nat.zero_lt_succ _) rfl rfl ?_; refine L.nil (QE.seq (C.seq (C.region ?_)))
  refine L.lit0S rfl rfl rfl rfl (fun A37 => ?_)
  refine L.step (Ev.fieldAddr rfl rfl rfl rfl rfl rfl (Src.o 0 rfl) (Nat.zero_lt_succ _) rfl) rfl ?_; refine L.store (j := 0) rfl rfl rfl rfl rfl rfl rfl rfl ?_; refine L.nil (QE.seq (C.seq (C.seq (C.region ?_)))); refine Lpu rfl rfl ?_; refine L.nil (QE.seq (C.block ?_)); refine C.loop (fun q : Nat × Option Addr × Nat => [(3, .bool true), (4, ptrOf A4 0), (5, .slice YA (inpF b (mdI a)).length yc), (6, ptrOf A6 0), (7, .int .i64 0), (8, ptrOf A8 0), (9, .int .i64 (q.1 : Int))]) (fun q : Nat × Option Addr × Nat => [Rd A4 [.int .i64 ((mdS z : Nat) : Int), .int .i64 ((mdW a z l : Nat) : Int), .bool false, .int .i64 ((mdI a : Nat) : Int), .int .i64 (((mdK a l).2 : Nat) : Int), .slice OA (mdK a l).1.length oc, .slice QA (mdQ a z l).length qc, .slice HA (mdH a z l).length hc], Rd OA (opsV (mdK a l).1), Rd QA (I64 (mdQ a z l)), Rd HA (I64 (mdH a z l)), Rd YA (U8 (inpF b (mdI a))), Rd A6 [.int .i64 (((mdH a z l).length : Nat) : Int), .int .i64 ((neU a z l b : Nat) : Int), .int .i64 ((neG a z l b : Nat) : Int), .int .i64 ((neE a z l b (mdH a z l).length : Nat) : Int), .int .i64 ((neO a z l b (mdH a z l).length : Nat) : Int)]]) (fun q : Nat × Option Addr × Nat => [Own 36 8 A8 1 1 [.int .i64 ((mdS z : Nat) : Int), .int .i64 ((mdW a z l : Nat) : Int), .bool false, .int .i64 ((mdI a : Nat) : Int), .int .i64 (((mdK a l).2 : Nat) : Int), .slice OA (mdK a l).1.length oc, .slice q.2.1 q.1 q.2.2, .slice HA (mdH a z l).length hc], Own 3 1 q.2.1 q.1 q.2.2 (I64 ((mdQ a z l).reverse.take q.1))]) (fun q : Nat × Option Addr × Nat => q.1 ≤ (mdQ a z l).length) (fun q : Nat × Option Addr × Nat => (mdQ a z l).length - q.1) (0, A37, 0) (Nat.zero_le _) (by exact Le.mk' (rs := [2, 3, 4, 5, 1, 0]) (hs := [0, 1]) ⟨rfl, rfl, rfl, rfl, rfl, rfl, rfl, trivial⟩ ⟨rfl, rfl, rfl, rfl, rfl, rfl, trivial⟩ ⟨rfl, rfl, trivial⟩ (by decide)) ?_
  rintro ⟨i, RA, rc⟩ hi
  dsimp only at hi ⊢
  refine C.seq (C.seq (C.region ?_)); refine Lpu rfl rfl ?_; refine L.step (Ev.fieldAddr rfl rfl rfl rfl rfl rfl (Src.r 0 rfl) (Nat.zero_lt_succ _) rfl) rfl ?_; refine L.step (Ev.load rfl rfl rfl (Src.r 0 rfl) rfl) rfl ?_; refine Lpu rfl rfl ?_; refine Lpu rfl rfl ?_; refine L.nil (QE.seq ?_)
  refine C.condB 43 rfl (fun hc43 => ?_) (fun hc43 => ?_)
  ·
   replace hc43 := of_decide_eq_true hc43
   refine C.skip (QE.seq (C.seq (C.block ?_))); refine C.regionM [Rd A8 [.int .i64 ((mdS z : Nat) : Int), .int .i64 ((mdW a z l : Nat) : Int), .bool false, .int .i64 ((mdI a : Nat) : Int), .int .i64 (((mdK a l).2 : Nat) : Int), .slice OA (mdK a l).1.length oc, .slice RA i rc, .slice HA (mdH a z l).length hc], Rd A4 [.int .i64 ((mdS z : Nat) : Int), .int .i64 ((mdW a z l : Nat) : Int), .bool false, .int .i64 ((mdI a : Nat) : Int), .int .i64 (((mdK a l).2 : Nat) : Int), .slice OA (mdK a l).1.length oc, .slice QA (mdQ a z l).length qc, .slice HA (mdH a z l).length hc], Rd QA (I64 (mdQ a z l))] ⟨Has.o 0 rfl, Has.r 0 rfl, Has.r 2 rfl, trivial⟩ ?_; refine LM.q 0 rfl (by kernel_rfl) (Ev.fieldAddr rfl rfl rfl rfl rfl rfl (Src.r 0 rfl) (Nat.zero_lt_succ _) rfl) rfl ⟨Has.o 0 rfl, Has.r 0 rfl, Has.r 2 rfl, trivial⟩ ?_; refine LM.q 1 rfl (by kernel_rfl) (Ev.load rfl rfl rfl (Src.r 0 rfl) rfl) rfl ⟨Has.o 0 rfl, Has.r 0 rfl, Has.r 2 rfl, trivial⟩ ?_; refine LM.q 2 rfl (by kernel_rfl) (Ev.fieldAddr rfl rfl rfl rfl rfl rfl (Src.r 1 rfl) (Nat.zero_lt_succ _) rfl) rfl ⟨Has.o 0 rfl, Has.r 0 rfl, Has.r 2 rfl, trivial⟩ ?_; refine LM.q 3 rfl (by kernel_rfl) (Ev.load rfl rfl rfl (Src.r 1 rfl) rfl) rfl ⟨Has.o 0 rfl, Has.r 0 rfl, Has.r 2 rfl, trivial⟩ ?_; refine LM.q 4 rfl (by kernel_rfl) (Ev.fieldAddr rfl rfl rfl rfl rfl rfl (Src.r 1 rfl) (Nat.zero_lt_succ _) rfl) rfl ⟨Has.o 0 rfl, Has.r 0 rfl, Has.r 2 rfl, trivial⟩ ?_; refine LM.q 5 rfl (by kernel_rfl) (Ev.load rfl rfl rfl (Src.r 1 rfl) rfl) rfl ⟨Has.o 0 rfl, Has.r 0 rfl, Has.r 2 rfl, trivial⟩ ?_; refine LM.q 6 rfl (by kernel_rfl) (Ev.pure rfl) rfl ⟨Has.o 0 rfl, Has.r 0 rfl, Has.r 2 rfl, trivial⟩ ?_; refine LM.q 7 rfl (by kernel_rfl) (Ev.sub rfl rfl (by omega) (by omega)) rfl ⟨Has.o 0 rfl, Has.r 0 rfl, Has.r 2 rfl, trivial⟩ ?_; refine LM.f 8 rfl (by kernel_rfl) ⟨Has.o 0 rfl, Has.r 0 rfl, Has.r 2 rfl, trivial⟩ ?_; refine Lpu rfl rfl ?_
   refine L.nil (QE.m (by kernel_rfl) ?_)
   refine LM.f 9 rfl (by kernel_rfl) ⟨Has.o 0 rfl, Has.r 0 rfl, Has.r 2 rfl, trivial⟩ ?_; refine L.step (Ev.cast (u := .int .i64 ((((mdQ a z l).length - 1 - i) : Nat) : Int)) (Ev.sub rfl rfl (by omega) (by omega)) (congrArg (Value.int .i64) (by omega))) rfl ?_
   refine L.nil (QE.m (by kernel_rfl) ?_)
   refine LM.f 10 rfl (by kernel_rfl) ⟨Has.o 0 rfl, Has.r 0 rfl, Has.r 2 rfl, trivial⟩ ?_; refine L.step (Ev.idx1 (k := ((mdQ a z l).length - 1 - i)) rfl rfl rfl rfl rfl rfl rfl (by omega) (Src.r 2 rfl) (by rw [I64_len]; omega)) rfl ?_
   refine L.nil (QE.m (by kernel_rfl) ?_)
   refine LM.f 11 rfl (by kernel_rfl) ⟨Has.o 0 rfl, Has.r 0 rfl, Has.r 2 rfl, trivial⟩ ?_; refine L.step (Ev.load rfl rfl rfl (Src.r 2 rfl) (I64_get (by omega))) rfl ?_
   refine L.nil (QE.m (by kernel_rfl) ?_)
   refine LM.f 12 rfl (by kernel_rfl) ⟨Has.o 0 rfl, Has.r 0 rfl, Has.r 2 rfl, trivial⟩ ?_
   refine L.lit rfl rfl rfl rfl rfl (by rfl) (by rfl) (by rfl) rfl rfl (fun A58 => ?_)
   refine L.nil (QE.m (by kernel_rfl) ?_)
   refine LM.cut [] (by kernel_rfl) ⟨Has.o 0 rfl, Has.r 0 rfl, Has.r 2 rfl, trivial⟩ ?_; refine LM.f 13 rfl (by kernel_rfl) trivial ?_
   refine L.append (j := 1) rfl rfl rfl rfl (by decide) rfl rfl rfl rfl (Src.o 2 rfl) rfl (I64_one [(mdQ a z l).getD ((mdQ a z l).length - 1 - i) 0]) (by omega) (by show _ * 8 ≤ _; omega) rfl (fun A59 cc59 => ?_)
   refine L.nil (QE.m (by kernel_rfl) ?_)
   refine LM.f 14 rfl (by kernel_rfl) trivial ?_; refine L.step (Ev.fieldAddr rfl rfl rfl rfl rfl rfl (Src.o 0 rfl) (Nat.zero_lt_succ _) rfl) rfl ?_
   refine L.nil (QE.m (by kernel_rfl) ?_)
   refine LM.f 15 rfl (by kernel_rfl) trivial ?_; refine L.store (j := 0) rfl rfl rfl rfl rfl rfl rfl rfl ?_
   refine L.nil (QE.m (by kernel_rfl) ?_)
   refine LM.nil (by kernel_rfl) trivial ?_; refine QE.blkN ?_; refine QE.seq (C.region ?_); refine Lpu rfl rfl ?_; refine L.step (Ev.add rfl rfl (by omega) (by omega)) rfl ?_; refine Lpu rfl rfl ?_; refine L.nil ?_
   have he := rev_snoc (l := (mdQ a z l)) (i := i) (by omega)
   refine QE.round (i := (i, RA, rc)) ((i + 1, A59, cc59)) (by dsimp only; omega) (by dsimp only; omega) (by exact Le.mk' (rs := [0, 1, 2, 3, 4, 5]) (hs := [0, 1]) ⟨rfl, rfl, rfl, rfl, rfl, rfl, rfl, trivial⟩ ⟨rfl, rfl, rfl, rfl, rfl, rfl, trivial⟩ ⟨rfl, (congrArg some (own_eq rfl (by dsimp only; rw [he, ← I64_app]; rfl))), trivial⟩ (by decide))
  ·
   replace hc43 := of_decide_eq_false hc43
   refine C.exit ?_; refine QE.tX ?_; refine QE.tX ?_; refine QE.blk ?_; refine QE.seq (C.seq ?_)
   obtain rfl : i = (mdQ a z l).length := by omega
   refine C.region ?_; refine L.step (Ev.loadA (vs := [.int .i64 ((mdS z : Nat) : Int), .int .i64 ((mdW a z l : Nat) : Int), .bool false, .int .i64 ((mdI a : Nat) : Int), .int .i64 (((mdK a l).2 : Nat) : Int), .slice OA (mdK a l).1.length oc, .slice QA (mdQ a z l).length qc, .slice HA (mdH a z l).length hc]) rfl rfl rfl (Src.r 0 rfl) rfl rfl (by decide)) rfl ?_; refine L.call (js := []) (js' := [0, 1]) (changes_md a z l OA oc (.slice QA (mdQ a z l).length qc) (.slice HA (mdH a z l).length hc)) rfl rfl rfl (by decide) (Hq [1] rfl) rfl ?_
   rintro _ _ _ ⟨A62, c62, rfl, rfl, rfl⟩
   refine L.norm (H' := [_, _, _]) [0, 1, 2] ⟨rfl, rfl, rfl, trivial⟩ (by decide) ?_; refine L.step (Ev.fieldAddr rfl rfl rfl rfl rfl rfl (Src.o 1 rfl) (Nat.zero_lt_succ _) rfl) rfl ?_; refine L.store (j := 1) rfl rfl rfl rfl rfl rfl rfl rfl ?_; refine L.nil (QE.seq (C.seq ?_)); refine C.freeze 1 rfl [0, 2] (by decide) (by decide) ?_; refine C.norm (H' := [_, _]) [0, 1] ⟨rfl, rfl, trivial⟩ (by decide) ?_; refine C.freeze 1 rfl [0] (by decide) (by decide) ?_; refine C.norm (H' := [_]) [0] ⟨rfl, trivial⟩ (by decide) ?_; refine C.freeze 0 rfl [] (by decide) (by decide) ?_; refine C.more (r := Rd RA (I64 (mdQ a z l).reverse)) ((Has.r 1 rfl).cast (by rw [List.take_of_length_le (by rw [List.length_reverse]; exact Nat.le_refl _)])) ?_; refine C.region ?_; refine Lpu rfl rfl ?_; refine L.step (Ev.loadA (vs := [.int .i64 ((mdS z : Nat) : Int), .int .i64 ((mdW a z l : Nat) : Int), .bool false, .int .i64 ((mdI a : Nat) : Int), .int .i64 (((mdK a l).2 : Nat) : Int), .slice OA (mdK a l).1.length oc, .slice RA (mdQ a z l).length rc, .slice A62 (mdC a z l).length c62]) rfl rfl rfl (Src.r 3 rfl) rfl rfl (by decide)) rfl ?_; refine L.call (js := []) (js' := []) (needs_m YA (inpF b (mdI a)) yc ((mdS z : Nat) : Int) ((mdW a z l : Nat) : Int) false ((mdI a : Nat) : Int) (((mdK a l).2 : Nat) : Int) (mdK a l).1 (mdQ a z l).reverse (NI (mdC a z l)) OA RA A62 oc rc c62 (mdK a l).1.length (mdQ a z l).length (mdC a z l).length rfl List.length_reverse (NI_len _) (by omega) (by rw [List.length_reverse]; omega) (by rw [NI_len]; omega) (by omega) hyc 0 (((mdQ a z l).length : Nat) : Int) ((neU a z l b : Nat) : Int) ((neG a z l b : Nat) : Int) ((neE a z l b (mdQ a z l).length : Nat) : Int) ((neO a z l b (mdQ a z l).length : Nat) : Int) (ne_turn a z l b).1 (ne_turn a z l b).2) rfl rfl rfl (by decide) (Hq [8, 5, 0, 1] rfl) rfl ?_
   rintro _ _ _ ⟨rfl, rfl, rfl⟩
   refine Lpu rfl rfl ?_; refine Lpu rfl rfl ?_; refine Lpu rfl rfl ?_
   refine L.alloc rfl rfl rfl (fun A10 => ?_)
   refine L.storeA (vs := [.int .i64 (((mdQ a z l).length : Nat) : Int), .int .i64 ((neU a z l b : Nat) : Int), .int .i64 ((neG a z l b : Nat) : Int), .int .i64 ((neE a z l b (mdQ a z l).length : Nat) : Int), .int .i64 ((neO a z l b (mdQ a z l).length : Nat) : Int)]) (j := 0) rfl rfl rfl rfl rfl (Nat.zero_lt_succ _) rfl rfl ?_; refine Lpu rfl rfl ?_; refine L.nil (QE.seq (C.seq ?_)); refine C.freeze 0 rfl [] (by decide) (by decide) ?_; refine C.region ?_; refine Lpu rfl rfl ?_; refine L.step (Ev.fieldAddr rfl rfl rfl rfl rfl rfl (Src.r 5 rfl) (Nat.zero_lt_succ _) rfl) rfl ?_; refine L.step (Ev.loadA (vs := [.bool false, .int .i64 ((mdI a : Nat) : Int), .int .i64 (((mdK a l).2 : Nat) : Int), .slice OA (mdK a l).1.length oc]) rfl rfl rfl (Src.r 5 rfl) rfl rfl (by decide)) rfl ?_; refine L.call (js := []) (js' := []) (applyR_md a l b YA yc OA oc) rfl rfl rfl (by decide) (Hq [9, 6] rfl) rfl ?_
   rintro _ _ _ ⟨A74, c74, rfl, rfl, rfl⟩
   refine L.norm (H' := [_]) [0] ⟨rfl, trivial⟩ (by decide) ?_; refine Lpu rfl rfl ?_; refine Lpu rfl rfl ?_; refine Lpu rfl rfl ?_; refine Lpu rfl rfl ?_; refine Lpu rfl rfl ?_; refine L.nil (QE.seq (C.seq ?_)); refine C.freeze 0 rfl [] (by decide) (by decide) ?_; refine C.region ?_; refine Lpu rfl rfl ?_; refine L.nil (QE.seq (C.seq (C.seq (C.region ?_)))); refine Lpu rfl rfl ?_; refine L.nil (QE.seq (C.block ?_)); refine C.loop (fun i : Nat => [(3, .bool true), (4, ptrOf A4 0), (5, .slice YA (inpF b (mdI a)).length yc), (6, ptrOf A6 0), (7, .int .i64 0), (10, ptrOf A10 0), (11, .int .i64 0), (12, .slice A74 (neW a l b).length c74), (15, .int .i64 (i : Int)), (14, .int .i64 (((ndT (inpF b (mdI a)) (neW a l b) (mdS z) ((mdQ a z l).take i)) : Nat) : Int))]) (fun i : Nat => [Rd A4 [.int .i64 ((mdS z : Nat) : Int), .int .i64 ((mdW a z l : Nat) : Int), .bool false, .int .i64 ((mdI a : Nat) : Int), .int .i64 (((mdK a l).2 : Nat) : Int), .slice OA (mdK a l).1.length oc, .slice QA (mdQ a z l).length qc, .slice HA (mdH a z l).length hc], Rd OA (opsV (mdK a l).1), Rd QA (I64 (mdQ a z l)), Rd HA (I64 (mdH a z l)), Rd YA (U8 (inpF b (mdI a))), Rd A6 [.int .i64 (((mdH a z l).length : Nat) : Int), .int .i64 ((neU a z l b : Nat) : Int), .int .i64 ((neG a z l b : Nat) : Int), .int .i64 ((neE a z l b (mdH a z l).length : Nat) : Int), .int .i64 ((neO a z l b (mdH a z l).length : Nat) : Int)], Rd A10 [.int .i64 (((mdQ a z l).length : Nat) : Int), .int .i64 ((neU a z l b : Nat) : Int), .int .i64 ((neG a z l b : Nat) : Int), .int .i64 ((neE a z l b (mdQ a z l).length : Nat) : Int), .int .i64 ((neO a z l b (mdQ a z l).length : Nat) : Int)], Rd A74 (U8 (neW a l b))]) (fun i : Nat => []) (fun i : Nat => i ≤ (mdQ a z l).length) (fun i : Nat => (mdQ a z l).length - i) 0 (Nat.zero_le _) (by exact Le.mk' (rs := [6, 7, 8, 9, 10, 11, 1, 0]) (hs := []) ⟨rfl, rfl, rfl, rfl, rfl, rfl, rfl, rfl, rfl, rfl, trivial⟩ ⟨rfl, rfl, rfl, rfl, rfl, rfl, rfl, rfl, trivial⟩ trivial (by decide)) ?_
   intro i hi
   refine C.seq (C.seq (C.region ?_)); refine Lpu rfl rfl ?_; refine L.step (Ev.fieldAddr rfl rfl rfl rfl rfl rfl (Src.r 0 rfl) (Nat.zero_lt_succ _) rfl) rfl ?_; refine L.step (Ev.load rfl rfl rfl (Src.r 0 rfl) rfl) rfl ?_; refine Lpu rfl rfl ?_; refine Lpu rfl rfl ?_; refine L.nil (QE.seq ?_)
   refine C.condB 81 rfl (fun hc81 => ?_) (fun hc81 => ?_)
   ·
    replace hc81 := of_decide_eq_true hc81
    refine C.skip (QE.seq (C.seq (C.block ?_)))
    obtain ⟨t, ht, -, htn⟩ := md_at a z l (k := i) (by omega)
    have hts : t * mdS z ≤ 18 * 5 := Nat.mul_le_mul (by omega) hS.2
    have hT := ndT_le (old := (inpF b (mdI a))) (new := (neW a l b)) (S := mdS z) (seq := (mdQ a z l)) (by omega) i
    have hR := recN_le (ctF (inpF b (mdI a)) t (mdS z)) (ctF (neW a l b) t (mdS z))
    rw [ctF_len] at hR
    refine C.regionM [Rd A4 [.int .i64 ((mdS z : Nat) : Int), .int .i64 ((mdW a z l : Nat) : Int), .bool false, .int .i64 ((mdI a : Nat) : Int), .int .i64 (((mdK a l).2 : Nat) : Int), .slice OA (mdK a l).1.length oc, .slice QA (mdQ a z l).length qc, .slice HA (mdH a z l).length hc], Rd QA (I64 (mdQ a z l)), Rd YA (U8 (inpF b (mdI a))), Rd A74 (U8 (neW a l b))] (Hq [0, 2, 4, 7] rfl) ?_; refine LM.q 0 rfl (by kernel_rfl) (Ev.pure rfl) rfl (Hq [0, 2, 4, 7] rfl) ?_; refine LM.q 1 rfl (by kernel_rfl) (Ev.pure rfl) rfl (Hq [0, 2, 4, 7] rfl) ?_; refine LM.q 2 rfl (by kernel_rfl) (Ev.fieldAddr rfl rfl rfl rfl rfl rfl (Src.r 0 rfl) (Nat.zero_lt_succ _) rfl) rfl (Hq [0, 2, 4, 7] rfl) ?_; refine LM.q 3 rfl (by kernel_rfl) (Ev.load rfl rfl rfl (Src.r 0 rfl) rfl) rfl (Hq [0, 2, 4, 7] rfl) ?_; refine LM.q 4 rfl (by kernel_rfl) (Ev.pure rfl) rfl (Hq [0, 2, 4, 7] rfl) ?_; refine LM.q 5 rfl (by kernel_rfl) (Ev.idx1 (k := i) rfl rfl rfl rfl rfl rfl rfl (by omega) (Src.r 1 rfl) (by rw [I64_len]; omega)) rfl (Hq [0, 2, 4, 7] rfl) ?_; refine LM.q 6 rfl (by kernel_rfl) (Ev.cast (u := .int .i64 (t : Int)) (Ev.load rfl rfl rfl (Src.r 1 rfl) (I64_get (by omega))) (congrArg (Value.int .i64) ht)) rfl (Hq [0, 2, 4, 7] rfl) ?_; refine LM.q 7 rfl (by kernel_rfl) (Ev.fieldAddr rfl rfl rfl rfl rfl rfl (Src.r 0 rfl) (Nat.zero_lt_succ _) rfl) rfl (Hq [0, 2, 4, 7] rfl) ?_; refine LM.q 8 rfl (by kernel_rfl) (Ev.load rfl rfl rfl (Src.r 0 rfl) rfl) rfl (Hq [0, 2, 4, 7] rfl) ?_; refine LM.q 10 rfl (by kernel_rfl) (Ev.pure rfl) rfl (Hq [0, 2, 4, 7] rfl) ?_; refine LM.q 11 rfl (by kernel_rfl) (Ev.fieldAddr rfl rfl rfl rfl rfl rfl (Src.r 0 rfl) (Nat.zero_lt_succ _) rfl) rfl (Hq [0, 2, 4, 7] rfl) ?_; refine LM.q 12 rfl (by kernel_rfl) (Ev.load rfl rfl rfl (Src.r 0 rfl) rfl) rfl (Hq [0, 2, 4, 7] rfl) ?_; refine LM.q 13 rfl (by kernel_rfl) (Ev.pure rfl) rfl (Hq [0, 2, 4, 7] rfl) ?_; refine LM.q 14 rfl (by kernel_rfl) (Ev.idx1 (k := i) rfl rfl rfl rfl rfl rfl rfl (by omega) (Src.r 1 rfl) (by rw [I64_len]; omega)) rfl (Hq [0, 2, 4, 7] rfl) ?_; refine LM.q 15 rfl (by kernel_rfl) (Ev.cast (u := .int .i64 (t : Int)) (Ev.load rfl rfl rfl (Src.r 1 rfl) (I64_get (by omega))) (congrArg (Value.int .i64) ht)) rfl (Hq [0, 2, 4, 7] rfl) ?_; refine LM.q 16 rfl (by kernel_rfl) (Ev.fieldAddr rfl rfl rfl rfl rfl rfl (Src.r 0 rfl) (Nat.zero_lt_succ _) rfl) rfl (Hq [0, 2, 4, 7] rfl) ?_; refine LM.q 17 rfl (by kernel_rfl) (Ev.load rfl rfl rfl (Src.r 0 rfl) rfl) rfl (Hq [0, 2, 4, 7] rfl) ?_; refine LM.f 9 rfl (by kernel_rfl) (Hq [0, 2, 4, 7] rfl) ?_; refine L.call (js := []) (js' := []) (contentsR_c YA (inpF b (mdI a)) yc t (mdS z) (by omega) (by omega) (by omega) (by omega) (by omega)) rfl rfl rfl (by decide) (Hq [4] rfl) rfl ?_
    rintro _ _ _ ⟨B93, y93, rfl, rfl, rfl⟩
    refine L.norm (H' := [_]) [0] ⟨rfl, trivial⟩ (by decide) ?_
    refine L.nil (QE.m (by kernel_rfl) ?_)
    refine LM.f 18 rfl (by kernel_rfl) (Hq [0, 2, 4, 7] rfl) ?_; refine L.call (js := []) (js' := [0]) (contentsR_c A74 (neW a l b) c74 t (mdS z) (by omega) (by omega) (by omega) (by omega) (by omega)) rfl rfl rfl (by decide) (Hq [7] rfl) rfl ?_
    rintro _ _ _ ⟨B102, y102, rfl, rfl, rfl⟩
    refine L.norm (H' := [_, _]) [0, 1] ⟨rfl, rfl, trivial⟩ (by decide) ?_
    refine L.nil (QE.m (by kernel_rfl) ?_)
    refine LM.f 19 rfl (by kernel_rfl) (Hq [0, 2, 4, 7] rfl) ?_; refine L.call (js := []) (js' := [0, 1]) (recSize_c B93 B102 (ctF (inpF b (mdI a)) t (mdS z)) (ctF (neW a l b) t (mdS z)) y93 y102 (mdS z) (mdS z) (ctF_len _ _ _) (ctF_len _ _ _) (by rw [ctF_len, ctF_len]) (by rw [ctF_len]; omega)) rfl rfl rfl (by decide) ⟨(Has.o 1 rfl), (Has.o 0 rfl), trivial⟩ rfl ?_
    rintro _ _ _ ⟨rfl, rfl, rfl⟩
    refine L.norm (H' := [_, _]) [0, 1] ⟨rfl, rfl, trivial⟩ (by decide) ?_
    refine L.nil (QE.m (by kernel_rfl) ?_)
    refine LM.cut [] (by kernel_rfl) (Hq [0, 2, 4, 7] rfl) ?_; refine LM.f 20 rfl (by kernel_rfl) trivial ?_; refine L.step (Ev.cast (u := .int .i64 (((ndT (inpF b (mdI a)) (neW a l b) (mdS z) ((mdQ a z l).take (i + 1))) : Nat) : Int)) (Ev.add rfl rfl (by omega) (by omega)) (congrArg (Value.int .i64) (by rw [ndT_succ (by omega), ht]; rfl))) rfl ?_
    refine L.nil (QE.m (by kernel_rfl) ?_)
    refine LM.f 21 rfl (by kernel_rfl) trivial ?_; refine Lpu rfl rfl ?_
    refine L.nil (QE.m (by kernel_rfl) ?_)
    refine LM.nil (by kernel_rfl) trivial ?_; refine QE.blkN ?_; refine QE.seq (C.region ?_); refine Lpu rfl rfl ?_; refine L.step (Ev.add rfl rfl (by omega) (by omega)) rfl ?_; refine Lpu rfl rfl ?_; refine L.nil ?_
    refine QE.round (i + 1) (by omega) (by omega) (by exact Le.mk' (rs := [0, 1, 2, 3, 4, 5, 6, 7]) (hs := []) ⟨rfl, rfl, rfl, rfl, rfl, rfl, rfl, rfl, rfl, rfl, trivial⟩ ⟨rfl, rfl, rfl, rfl, rfl, rfl, rfl, rfl, trivial⟩ trivial (by decide))
   ·
    replace hc81 := of_decide_eq_false hc81
    refine C.exit ?_; refine QE.tX ?_; refine QE.tX ?_; refine QE.blk ?_; refine QE.seq (C.seq (C.seq ?_))
    obtain rfl : i = (mdQ a z l).length := by omega
    rw [List.take_length]
    refine C.le (Γ' := [(3, .bool true), (4, ptrOf A4 0), (5, .slice YA (inpF b (mdI a)).length yc), (6, ptrOf A6 0), (7, .int .i64 0), (10, ptrOf A10 0), (11, .int .i64 0), (12, .slice A74 (neW a l b).length c74), (14, .int .i64 ((neT a z l b : Nat) : Int))]) (R' := [Rd A4 [.int .i64 ((mdS z : Nat) : Int), .int .i64 ((mdW a z l : Nat) : Int), .bool false, .int .i64 ((mdI a : Nat) : Int), .int .i64 (((mdK a l).2 : Nat) : Int), .slice OA (mdK a l).1.length oc, .slice QA (mdQ a z l).length qc, .slice HA (mdH a z l).length hc], Rd OA (opsV (mdK a l).1), Rd QA (I64 (mdQ a z l)), Rd HA (I64 (mdH a z l)), Rd YA (U8 (inpF b (mdI a))), Rd A6 [.int .i64 (((mdH a z l).length : Nat) : Int), .int .i64 ((neU a z l b : Nat) : Int), .int .i64 ((neG a z l b : Nat) : Int), .int .i64 ((neE a z l b (mdH a z l).length : Nat) : Int), .int .i64 ((neO a z l b (mdH a z l).length : Nat) : Int)], Rd A10 [.int .i64 (((mdQ a z l).length : Nat) : Int), .int .i64 ((neU a z l b : Nat) : Int), .int .i64 ((neG a z l b : Nat) : Int), .int .i64 ((neE a z l b (mdQ a z l).length : Nat) : Int), .int .i64 ((neO a z l b (mdQ a z l).length : Nat) : Int)], Rd A74 (U8 (neW a l b))]) (H' := []) (by exact Le.mk' (rs := [0, 1, 2, 3, 4, 5, 6, 7]) (hs := []) ⟨rfl, rfl, rfl, rfl, rfl, rfl, rfl, rfl, rfl, trivial⟩ ⟨rfl, rfl, rfl, rfl, rfl, rfl, rfl, rfl, trivial⟩ trivial (by decide)) ?_; refine C.region ?_; refine Lpu rfl rfl ?_; refine L.step (Ev.cast (u := .bool false) (Ev.pure rfl) (congrArg Value.bool (by simp))) rfl ?_; refine Lpu rfl rfl ?_
    refine L.bool 107 rfl (fun hg107 => ?_) (fun hg107 => ?_)
    ·
     cases hg107
    ·
     refine L.yes rfl ?_; refine Lpu rfl rfl ?_; refine L.yes rfl ?_; refine L.step (Ev.cast (u := .bool false) (Ev.pure rfl) (congrArg Value.bool (by simp))) rfl ?_; refine Lpu rfl rfl ?_; refine Lpu rfl rfl ?_
     refine L.bool 111 rfl (fun hg111 => ?_) (fun hg111 => ?_)
     ·
      cases hg111
     ·
      refine L.yes rfl ?_; refine L.step (Ev.fieldAddr rfl rfl rfl rfl rfl rfl (Src.r 6 rfl) (Nat.zero_lt_succ _) rfl) rfl ?_; refine L.yes rfl ?_; refine L.step (Ev.load rfl rfl rfl (Src.r 6 rfl) rfl) rfl ?_; refine L.yes rfl ?_; refine L.step (Ev.fieldAddr rfl rfl rfl rfl rfl rfl (Src.r 5 rfl) (Nat.zero_lt_succ _) rfl) rfl ?_; refine L.yes rfl ?_; refine L.step (Ev.load rfl rfl rfl (Src.r 5 rfl) rfl) rfl ?_; refine L.yes rfl ?_; refine L.step (Ev.cast (u := .bool false) (Ev.pure rfl) (congrArg Value.bool (by simp))) rfl ?_; refine Lpu rfl rfl ?_; refine Lpu rfl rfl ?_
      refine L.bool 118 rfl (fun hg118 => ?_) (fun hg118 => ?_)
      ·
       cases hg118
      ·
       refine L.yes rfl ?_; refine L.step (Ev.fieldAddr rfl rfl rfl rfl rfl rfl (Src.r 6 rfl) (Nat.zero_lt_succ _) rfl) rfl ?_; refine L.yes rfl ?_; refine L.step (Ev.load rfl rfl rfl (Src.r 6 rfl) rfl) rfl ?_; refine L.yes rfl ?_; refine L.step (Ev.fieldAddr rfl rfl rfl rfl rfl rfl (Src.r 5 rfl) (Nat.zero_lt_succ _) rfl) rfl ?_; refine L.yes rfl ?_; refine L.step (Ev.load rfl rfl rfl (Src.r 5 rfl) rfl) rfl ?_; refine L.yes rfl ?_; refine L.step (Ev.cast (u := .bool false) (Ev.pure rfl) (congrArg Value.bool (by simp))) rfl ?_; refine Lpu rfl rfl ?_; refine Lpu rfl rfl ?_
       refine L.bool 125 rfl (fun hg125 => ?_) (fun hg125 => ?_)
       ·
        cases hg125
       ·
        refine L.yes rfl ?_; refine L.step (Ev.fieldAddr rfl rfl rfl rfl rfl rfl (Src.r 6 rfl) (Nat.zero_lt_succ _) rfl) rfl ?_; refine L.yes rfl ?_; refine L.step (Ev.load rfl rfl rfl (Src.r 6 rfl) rfl) rfl ?_; refine L.yes rfl ?_; refine L.step (Ev.fieldAddr rfl rfl rfl rfl rfl rfl (Src.r 0 rfl) (Nat.zero_lt_succ _) rfl) rfl ?_; refine L.yes rfl ?_; refine L.step (Ev.load rfl rfl rfl (Src.r 0 rfl) rfl) rfl ?_; refine L.yes rfl ?_; refine Lpu rfl rfl ?_; refine L.yes rfl ?_; refine L.step (Ev.cast (u := .bool false) (Ev.pure rfl) (congrArg Value.bool (by simp))) rfl ?_; refine Lpu rfl rfl ?_; refine Lpu rfl rfl ?_
        refine L.bool 133 rfl (fun hg133 => ?_) (fun hg133 => ?_)
        ·
         cases hg133
        ·
         refine L.yes rfl ?_; refine L.step (Ev.fieldAddr rfl rfl rfl rfl rfl rfl (Src.r 6 rfl) (Nat.zero_lt_succ _) rfl) rfl ?_; refine L.yes rfl ?_; refine L.step (Ev.load rfl rfl rfl (Src.r 6 rfl) rfl) rfl ?_; refine L.yes rfl ?_; refine L.step (Ev.fieldAddr rfl rfl rfl rfl rfl rfl (Src.r 5 rfl) (Nat.zero_lt_succ _) rfl) rfl ?_; refine L.yes rfl ?_; refine L.step (Ev.load rfl rfl rfl (Src.r 5 rfl) rfl) rfl ?_; refine L.yes rfl ?_; refine L.step (Ev.cast (u := .bool false) (Ev.pure rfl) (congrArg Value.bool (decide_eq_false (by omega)))) rfl ?_; refine Lpu rfl rfl ?_; refine Lpu rfl rfl ?_
         refine L.bool 140 rfl (fun hg140 => ?_) (fun hg140 => ?_)
         ·
          cases hg140
         ·
          refine L.yes rfl ?_; refine L.step (Ev.fieldAddr rfl rfl rfl rfl rfl rfl (Src.r 6 rfl) (Nat.zero_lt_succ _) rfl) rfl ?_; refine L.yes rfl ?_; refine L.step (Ev.load rfl rfl rfl (Src.r 6 rfl) rfl) rfl ?_; refine L.yes rfl ?_; refine L.step (Ev.fieldAddr rfl rfl rfl rfl rfl rfl (Src.r 5 rfl) (Nat.zero_lt_succ _) rfl) rfl ?_; refine L.yes rfl ?_; refine L.step (Ev.load rfl rfl rfl (Src.r 5 rfl) rfl) rfl ?_; refine L.yes rfl ?_; refine L.step (Ev.cast (u := .bool false) (Ev.pure rfl) (congrArg Value.bool (decide_eq_false (by omega)))) rfl ?_; refine Lpu rfl rfl ?_; refine L.nil (QE.seq ?_)
          refine C.condB 146 rfl (fun hc146 => ?_) (fun hc146 => ?_)
          ·
           cases hc146
          ·
           refine C.skip (QE.seq (C.seq (C.seq (C.region ?_)))); refine L.step (Ev.fieldAddr rfl rfl rfl rfl rfl rfl (Src.r 5 rfl) (Nat.zero_lt_succ _) rfl) rfl ?_; refine L.step (Ev.load rfl rfl rfl (Src.r 5 rfl) rfl) rfl ?_; refine L.step (Ev.fieldAddr rfl rfl rfl rfl rfl rfl (Src.r 0 rfl) (Nat.zero_lt_succ _) rfl) rfl ?_; refine L.step (Ev.load rfl rfl rfl (Src.r 0 rfl) rfl) rfl ?_; refine Lpu rfl rfl ?_; refine L.step (Ev.cast (u := .bool false) (Ev.pure rfl) (congrArg Value.bool (by simp))) rfl ?_; refine Lpu rfl rfl ?_
           refine L.bool 153 rfl (fun hg153 => ?_) (fun hg153 => ?_)
           ·
            cases hg153
           ·
            refine L.yes rfl ?_; refine L.step (Ev.fieldAddr rfl rfl rfl rfl rfl rfl (Src.r 5 rfl) (Nat.zero_lt_succ _) rfl) rfl ?_; refine L.yes rfl ?_; refine L.step (Ev.load rfl rfl rfl (Src.r 5 rfl) rfl) rfl ?_; refine L.yes rfl ?_; refine L.step (Ev.fieldAddr rfl rfl rfl rfl rfl rfl (Src.r 0 rfl) (Nat.zero_lt_succ _) rfl) rfl ?_; refine L.yes rfl ?_; refine L.step (Ev.load rfl rfl rfl (Src.r 0 rfl) rfl) rfl ?_; refine L.yes rfl ?_; refine L.step (Ev.cast (u := .int .i64 (((neU a z l b * mdS z) : Nat) : Int)) (Ev.mul rfl rfl (by rw [← Int.natCast_mul]; omega) (by rw [← Int.natCast_mul]; omega)) (congrArg (Value.int .i64) (Int.natCast_mul _ _).symm)) rfl ?_; refine L.yes rfl ?_; refine Lpu rfl rfl ?_; refine L.yes rfl ?_; refine L.step (Ev.cast (u := .bool false) (Ev.pure rfl) (congrArg Value.bool (decide_eq_false (by omega)))) rfl ?_; refine Lpu rfl rfl ?_; refine Lpu rfl rfl ?_
            refine L.bool 162 rfl (fun hg162 => ?_) (fun hg162 => ?_)
            ·
             cases hg162
            ·
             refine L.yes rfl ?_; refine L.step (Ev.fieldAddr rfl rfl rfl rfl rfl rfl (Src.r 5 rfl) (Nat.zero_lt_succ _) rfl) rfl ?_; refine L.yes rfl ?_; refine L.step (Ev.load rfl rfl rfl (Src.r 5 rfl) rfl) rfl ?_; refine L.yes rfl ?_; refine Lpu rfl rfl ?_; refine L.yes rfl ?_; refine Lpu rfl rfl ?_
             refine L.bool 166 rfl (fun hg166 => ?_) (fun hg166 => ?_)
             ·
              replace hg166 := of_decide_eq_true hg166
              have hlo := neU_lo a z l b (by omega)
              have hum : neU a z l b - 1 ≤ 485 := by omega
              have hlm : (neU a z l b - 1) * mdS z ≤ 480 := by omega
              refine L.yes rfl ?_; refine L.step (Ev.fieldAddr rfl rfl rfl rfl rfl rfl (Src.r 5 rfl) (Nat.zero_lt_succ _) rfl) rfl ?_; refine L.yes rfl ?_; refine L.step (Ev.load rfl rfl rfl (Src.r 5 rfl) rfl) rfl ?_; refine L.yes rfl ?_; refine L.step (Ev.cast (u := .int .i64 (((neU a z l b - 1) : Nat) : Int)) (Ev.sub rfl rfl (by omega) (by omega)) (congrArg (Value.int .i64) (by omega))) rfl ?_; refine L.yes rfl ?_; refine L.step (Ev.fieldAddr rfl rfl rfl rfl rfl rfl (Src.r 0 rfl) (Nat.zero_lt_succ _) rfl) rfl ?_; refine L.yes rfl ?_; refine L.step (Ev.load rfl rfl rfl (Src.r 0 rfl) rfl) rfl ?_; refine L.yes rfl ?_; refine L.step (Ev.cast (u := .int .i64 ((((neU a z l b - 1) * mdS z) : Nat) : Int)) (Ev.mul rfl rfl (by rw [← Int.natCast_mul]; omega) (by rw [← Int.natCast_mul]; omega)) (congrArg (Value.int .i64) (Int.natCast_mul _ _).symm)) rfl ?_; refine L.yes rfl ?_; refine Lpu rfl rfl ?_; refine L.yes rfl ?_; refine L.step (Ev.cast (u := .bool false) (Ev.pure rfl) (congrArg Value.bool (decide_eq_false (by omega)))) rfl ?_; refine L.yes rfl ?_; refine Lpu rfl rfl ?_; refine Lpu rfl rfl ?_; refine Lpu rfl rfl ?_
              refine L.bool 177 rfl (fun hg177 => ?_) (fun hg177 => ?_)
              ·
               cases hg177
              ·
               refine L.yes rfl ?_; refine L.step (Ev.fieldAddr rfl rfl rfl rfl rfl rfl (Src.r 5 rfl) (Nat.zero_lt_succ _) rfl) rfl ?_; refine L.yes rfl ?_; refine L.step (Ev.load rfl rfl rfl (Src.r 5 rfl) rfl) rfl ?_; refine L.yes rfl ?_; refine L.step (Ev.fieldAddr rfl rfl rfl rfl rfl rfl (Src.r 5 rfl) (Nat.zero_lt_succ _) rfl) rfl ?_; refine L.yes rfl ?_; refine L.step (Ev.load rfl rfl rfl (Src.r 5 rfl) rfl) rfl ?_; refine L.yes rfl ?_; refine L.step (Ev.cast (u := .bool false) (Ev.pure rfl) (congrArg Value.bool (decide_eq_false (by omega)))) rfl ?_; refine Lpu rfl rfl ?_; refine Lpu rfl rfl ?_
               refine L.bool 184 rfl (fun hg184 => ?_) (fun hg184 => ?_)
               ·
                cases hg184
               ·
                refine L.yes rfl ?_; refine L.step (Ev.fieldAddr rfl rfl rfl rfl rfl rfl (Src.r 5 rfl) (Nat.zero_lt_succ _) rfl) rfl ?_; refine L.yes rfl ?_; refine L.step (Ev.load rfl rfl rfl (Src.r 5 rfl) rfl) rfl ?_; refine L.yes rfl ?_; refine L.step (Ev.fieldAddr rfl rfl rfl rfl rfl rfl (Src.r 5 rfl) (Nat.zero_lt_succ _) rfl) rfl ?_; refine L.yes rfl ?_; refine L.step (Ev.load rfl rfl rfl (Src.r 5 rfl) rfl) rfl ?_; refine L.yes rfl ?_; refine L.step (Ev.fieldAddr rfl rfl rfl rfl rfl rfl (Src.r 5 rfl) (Nat.zero_lt_succ _) rfl) rfl ?_; refine L.yes rfl ?_; refine L.step (Ev.load rfl rfl rfl (Src.r 5 rfl) rfl) rfl ?_; refine L.yes rfl ?_; refine L.step (Ev.add rfl rfl (by omega) (by omega)) rfl ?_; refine L.yes rfl ?_; refine L.step (Ev.fieldAddr rfl rfl rfl rfl rfl rfl (Src.r 0 rfl) (Nat.zero_lt_succ _) rfl) rfl ?_; refine L.yes rfl ?_; refine L.step (Ev.load rfl rfl rfl (Src.r 0 rfl) rfl) rfl ?_; refine L.yes rfl ?_; refine Lpu rfl rfl ?_; refine L.yes rfl ?_; refine L.step (Ev.mul rfl rfl (by omega) (by omega)) rfl ?_; refine L.yes rfl ?_; refine L.step (Ev.add rfl rfl (by omega) (by omega)) rfl ?_; refine L.yes rfl ?_; refine L.step (Ev.cast (u := .bool false) (Ev.pure rfl) (congrArg Value.bool (decide_eq_false (by omega)))) rfl ?_; refine Lpu rfl rfl ?_; refine L.nil (QE.seq ?_)
                refine C.condB 198 rfl (fun hc198 => ?_) (fun hc198 => ?_)
                ·
                 cases hc198
                ·
                 refine C.skip (QE.seq (C.seq ?_)); refine C.regionM [Rd A4 [.int .i64 ((mdS z : Nat) : Int), .int .i64 ((mdW a z l : Nat) : Int), .bool false, .int .i64 ((mdI a : Nat) : Int), .int .i64 (((mdK a l).2 : Nat) : Int), .slice OA (mdK a l).1.length oc, .slice QA (mdQ a z l).length qc, .slice HA (mdH a z l).length hc], Rd YA (U8 (inpF b (mdI a)))] (Hq [0, 4] rfl) ?_; refine LM.q 0 rfl (by kernel_rfl) (Ev.pure rfl) rfl (Hq [0, 4] rfl) ?_; refine LM.q 1 rfl (by kernel_rfl) (Ev.pure rfl) rfl (Hq [0, 4] rfl) ?_; refine LM.q 2 rfl (by kernel_rfl) (Ev.pure rfl) rfl (Hq [0, 4] rfl) ?_; refine LM.q 4 rfl (by kernel_rfl) (Ev.fieldAddr rfl rfl rfl rfl rfl rfl (Src.r 0 rfl) (Nat.zero_lt_succ _) rfl) rfl (Hq [0, 4] rfl) ?_; refine LM.q 5 rfl (by kernel_rfl) (Ev.load rfl rfl rfl (Src.r 0 rfl) rfl) rfl (Hq [0, 4] rfl) ?_; refine LM.q 6 rfl (by kernel_rfl) (Ev.fieldAddr rfl rfl rfl rfl rfl rfl (Src.r 0 rfl) (Nat.zero_lt_succ _) rfl) rfl (Hq [0, 4] rfl) ?_; refine LM.q 7 rfl (by kernel_rfl) (Ev.load rfl rfl rfl (Src.r 0 rfl) rfl) rfl (Hq [0, 4] rfl) ?_
                 refine LM.alt [3, 12] (by kernel_rfl) (by decide) (Hq [0, 4] rfl) ⟨⟨_, rfl, ?_⟩, ⟨_, rfl, ?_⟩, trivial⟩
                 ·
                  refine L.callR (js := []) (js' := []) (whole_c (inpF b (mdI a)).length (by omega)) rfl rfl rfl (by decide) trivial rfl ?_
                  rintro _ _ _ ⟨A203, c203, rfl, rfl, rfl⟩
                  refine L.nil (QE.m (by kernel_rfl) ?_)
                  refine LM.alt [8, 12] (by kernel_rfl) (by decide) (Hq [1, 5] rfl) ⟨⟨_, rfl, ?_⟩, ⟨_, rfl, ?_⟩, trivial⟩
                  ·
                   refine L.callR (js := []) (js' := []) (make_k YA (inpF b (mdI a)).length yc ((mdS z : Nat) : Int) ((mdW a z l : Nat) : Int) false ((inpF b (mdI a)).length : Int) ((inpF b (mdI a)).length : Int) (whO (inpF b (mdI a)).length) A203 c203 (by show 1 ≤ 9223372036854775807; decide) (by omega) [] [] (whO (inpF b (mdI a)).length) hwm.1 hwm.2) rfl rfl rfl (by decide) (Hq [0] rfl) rfl ?_
                   rintro _ _ _ ⟨O2, Q2, H2, c2, d2, e2, rfl, rfl, rfl⟩
                   refine L.nil (QE.m (by kernel_rfl) ?_)
                   refine LM.q 9 rfl (by kernel_rfl) (Ev.pure rfl) rfl (Hq [4, 8] rfl) ?_; refine LM.q 10 rfl (by kernel_rfl) (Ev.pure rfl) rfl (Hq [4, 8] rfl) ?_; refine LM.q 11 rfl (by kernel_rfl) (Ev.pure rfl) rfl (Hq [4, 8] rfl) ?_; refine LM.f 12 rfl (by kernel_rfl) (Hq [4, 8] rfl) ?_
                   refine L.alloc rfl rfl rfl (fun A16 => ?_)
                   refine L.nil (QE.m (by kernel_rfl) ?_)
                   refine LM.f 13 rfl (by kernel_rfl) (Hq [4, 8] rfl) ?_; refine L.storeA (vs := [.int .i64 ((mdS z : Nat) : Int), .int .i64 ((mdW a z l : Nat) : Int), .bool false, .int .i64 ((inpF b (mdI a)).length : Int), .int .i64 ((inpF b (mdI a)).length : Int), .slice O2 1 c2, .slice Q2 0 d2, .slice H2 0 e2]) (j := 0) rfl rfl rfl rfl rfl (Nat.zero_lt_succ _) rfl rfl ?_
                   refine L.nil (QE.m (by kernel_rfl) ?_)
                   refine LM.cut [] (by kernel_rfl) (Hq [4, 8] rfl) ?_; refine LM.f 14 rfl (by kernel_rfl) trivial ?_; refine Lpu rfl rfl ?_
                   refine L.nil (QE.m (by kernel_rfl) ?_)
                   refine LM.nil (by kernel_rfl) trivial ?_; refine QE.seq (C.seq ?_); refine C.freeze 0 rfl [] (by decide) (by decide) ?_; refine C.region ?_; refine Lpu rfl rfl ?_; refine L.step (Ev.loadA (vs := [.int .i64 ((mdS z : Nat) : Int), .int .i64 ((mdW a z l : Nat) : Int), .bool false, .int .i64 ((inpF b (mdI a)).length : Int), .int .i64 ((inpF b (mdI a)).length : Int), .slice O2 1 c2, .slice Q2 0 d2, .slice H2 0 e2]) rfl rfl rfl (Src.r 0 rfl) rfl rfl (by decide)) rfl ?_; refine L.call (js := []) (js' := []) (needs_m YA (inpF b (mdI a)) yc ((mdS z : Nat) : Int) ((mdW a z l : Nat) : Int) false ((inpF b (mdI a)).length : Int) ((inpF b (mdI a)).length : Int) (whO (inpF b (mdI a)).length) [] [] O2 Q2 H2 c2 d2 e2 1 0 0 rfl rfl rfl (by show 1 ≤ 9223372036854775807; decide) (by decide) (by decide) (by omega) hyc 0 0 0 ((2 * mdS z : Nat) : Int) we wo hwe hwv) rfl rfl rfl (by decide) (Hq [9, 1, 2, 3] rfl) rfl ?_
                   rintro _ _ _ ⟨rfl, rfl, rfl⟩
                   refine Lpu rfl rfl ?_; refine Lpu rfl rfl ?_; refine Lpu rfl rfl ?_
                   refine L.alloc rfl rfl rfl (fun A18 => ?_)
                   refine L.storeA (vs := [.int .i64 0, .int .i64 0, .int .i64 ((2 * mdS z : Nat) : Int), .int .i64 we, .int .i64 wo]) (j := 0) rfl rfl rfl rfl rfl (Nat.zero_lt_succ _) rfl rfl ?_; refine Lpu rfl rfl ?_; refine L.nil (QE.seq (C.seq ?_)); refine C.freeze 0 rfl [] (by decide) (by decide) ?_; refine C.region ?_; refine Lpu rfl rfl ?_; refine Lpu rfl rfl ?_
                   refine L.bool 218 rfl (fun hg218 => ?_) (fun hg218 => ?_)
                   ·
                    refine L.yes rfl ?_; refine Lpu rfl rfl ?_; refine L.yes rfl ?_; refine L.step (Ev.cast (u := .bool true) (Ev.pure rfl) (congrArg Value.bool (by simp))) rfl ?_; refine Lpu rfl rfl ?_; refine Lpu rfl rfl ?_
                    refine L.bool 222 rfl (fun hg222 => ?_) (fun hg222 => ?_)
                    ·
                     refine L.yes rfl ?_; refine L.step (Ev.fieldAddr rfl rfl rfl rfl rfl rfl (Src.r 1 rfl) (Nat.zero_lt_succ _) rfl) rfl ?_; refine L.yes rfl ?_; refine L.step (Ev.load rfl rfl rfl (Src.r 1 rfl) rfl) rfl ?_; refine L.yes rfl ?_; refine Lpu rfl rfl ?_; refine L.yes rfl ?_; refine L.step (Ev.cast (u := .bool true) (Ev.pure rfl) (congrArg Value.bool (by simp))) rfl ?_; refine Lpu rfl rfl ?_; refine Lpu rfl rfl ?_
                     refine L.bool 228 rfl (fun hg228 => ?_) (fun hg228 => ?_)
                     ·
                      refine L.yes rfl ?_; refine L.step (Ev.fieldAddr rfl rfl rfl rfl rfl rfl (Src.r 1 rfl) (Nat.zero_lt_succ _) rfl) rfl ?_; refine L.yes rfl ?_; refine L.step (Ev.load rfl rfl rfl (Src.r 1 rfl) rfl) rfl ?_; refine L.yes rfl ?_; refine Lpu rfl rfl ?_; refine L.yes rfl ?_; refine L.step (Ev.cast (u := .bool true) (Ev.pure rfl) (congrArg Value.bool (by simp))) rfl ?_; refine Lpu rfl rfl ?_; refine Lpu rfl rfl ?_
                      refine L.bool 234 rfl (fun hg234 => ?_) (fun hg234 => ?_)
                      ·
                       refine L.yes rfl ?_; refine Lpu rfl rfl ?_; refine L.yes rfl ?_; refine L.step (Ev.cast (u := .bool true) (Ev.pure rfl) (congrArg Value.bool (by simp))) rfl ?_; refine Lpu rfl rfl ?_; refine Lpu rfl rfl ?_
                       refine L.bool 238 rfl (fun hg238 => ?_) (fun hg238 => ?_)
                       ·
                        refine L.yes rfl ?_; refine L.step (Ev.fieldAddr rfl rfl rfl rfl rfl rfl (Src.r 0 rfl) (Nat.zero_lt_succ _) rfl) rfl ?_; refine L.yes rfl ?_; refine L.step (Ev.load rfl rfl rfl (Src.r 0 rfl) rfl) rfl ?_; refine L.yes rfl ?_; refine L.step (Ev.cast (u := .bool true) (Ev.pure rfl) (congrArg Value.bool (by simp))) rfl ?_; refine Lpu rfl rfl ?_; refine Lpu rfl rfl ?_
                        refine L.bool 243 rfl (fun hg243 => ?_) (fun hg243 => ?_)
                        ·
                         refine L.yes rfl ?_; refine L.step (Ev.fieldAddr rfl rfl rfl rfl rfl rfl (Src.r 0 rfl) (Nat.zero_lt_succ _) rfl) rfl ?_; refine L.yes rfl ?_; refine L.step (Ev.load rfl rfl rfl (Src.r 0 rfl) rfl) rfl ?_; refine L.yes rfl ?_; refine L.step (Ev.cast (u := .bool true) (Ev.pure rfl) (congrArg Value.bool (by simp))) rfl ?_; refine Lpu rfl rfl ?_; refine Lpu rfl rfl ?_
                         refine L.bool 248 rfl (fun hg248 => ?_) (fun hg248 => ?_)
                         ·
                          refine L.yes rfl ?_; refine L.step (Ev.fieldAddr rfl rfl rfl rfl rfl rfl (Src.r 0 rfl) (Nat.zero_lt_succ _) rfl) rfl ?_; refine L.yes rfl ?_; refine L.step (Ev.load rfl rfl rfl (Src.r 0 rfl) rfl) rfl ?_; refine L.yes rfl ?_; refine L.step (Ev.fieldAddr rfl rfl rfl rfl rfl rfl (Src.r 6 rfl) (Nat.zero_lt_succ _) rfl) rfl ?_; refine L.yes rfl ?_; refine L.step (Ev.load rfl rfl rfl (Src.r 6 rfl) rfl) rfl ?_; refine L.yes rfl ?_; refine L.step (Ev.mul rfl rfl (by omega) (by omega)) rfl ?_; refine L.yes rfl ?_; refine L.step (Ev.cast (u := .bool true) (Ev.pure rfl) (congrArg Value.bool (beq_iff_eq.2 (by omega)))) rfl ?_; refine Lpu rfl rfl ?_; refine Lpu rfl rfl ?_; refine L.nil (QE.seq (C.ret ?_)); refine QE.ret (js := []) (hs := []) (vs := [_]) rfl ⟨rfl, trivial⟩ (by decide) ?_
                          exact ⟨rfl, rfl, rfl⟩
                         ·
                          cases hg248
                        ·
                         cases hg243
                       ·
                        cases hg238
                      ·
                       cases hg234
                     ·
                      cases hg228
                    ·
                     cases hg222
                   ·
                    cases hg218
                  ·
                   refine L.alloc rfl rfl rfl (fun A16 => ?_)
                   refine L.nil (QE.m (by kernel_rfl) ?_)
                   refine LM.f 8 rfl (by kernel_rfl) (Hq [1, 5] rfl) ?_; refine L.callR (js := []) (js' := [0]) (make_k YA (inpF b (mdI a)).length yc ((mdS z : Nat) : Int) ((mdW a z l : Nat) : Int) false ((inpF b (mdI a)).length : Int) ((inpF b (mdI a)).length : Int) (whO (inpF b (mdI a)).length) A203 c203 (by show 1 ≤ 9223372036854775807; decide) (by omega) [] [] (whO (inpF b (mdI a)).length) hwm.1 hwm.2) rfl rfl rfl (by decide) (Hq [0] rfl) rfl ?_
                   rintro _ _ _ ⟨O2, Q2, H2, c2, d2, e2, rfl, rfl, rfl⟩
                   refine L.norm (H' := [_]) [0] ⟨rfl, trivial⟩ (by decide) ?_
                   refine L.nil (QE.m (by kernel_rfl) ?_)
                   refine LM.q 9 rfl (by kernel_rfl) (Ev.pure rfl) rfl (Hq [4, 8] rfl) ?_; refine LM.q 10 rfl (by kernel_rfl) (Ev.pure rfl) rfl (Hq [4, 8] rfl) ?_; refine LM.q 11 rfl (by kernel_rfl) (Ev.pure rfl) rfl (Hq [4, 8] rfl) ?_; refine LM.f 13 rfl (by kernel_rfl) (Hq [4, 8] rfl) ?_; refine L.storeA (vs := [.int .i64 ((mdS z : Nat) : Int), .int .i64 ((mdW a z l : Nat) : Int), .bool false, .int .i64 ((inpF b (mdI a)).length : Int), .int .i64 ((inpF b (mdI a)).length : Int), .slice O2 1 c2, .slice Q2 0 d2, .slice H2 0 e2]) (j := 0) rfl rfl rfl rfl rfl (Nat.zero_lt_succ _) rfl rfl ?_
                   refine L.nil (QE.m (by kernel_rfl) ?_)
                   refine LM.cut [] (by kernel_rfl) (Hq [4, 8] rfl) ?_; refine LM.f 14 rfl (by kernel_rfl) trivial ?_; refine Lpu rfl rfl ?_
                   refine L.nil (QE.m (by kernel_rfl) ?_)
                   refine LM.nil (by kernel_rfl) trivial ?_; refine QE.seq (C.seq ?_); refine C.freeze 0 rfl [] (by decide) (by decide) ?_; refine C.region ?_; refine Lpu rfl rfl ?_; refine L.step (Ev.loadA (vs := [.int .i64 ((mdS z : Nat) : Int), .int .i64 ((mdW a z l : Nat) : Int), .bool false, .int .i64 ((inpF b (mdI a)).length : Int), .int .i64 ((inpF b (mdI a)).length : Int), .slice O2 1 c2, .slice Q2 0 d2, .slice H2 0 e2]) rfl rfl rfl (Src.r 0 rfl) rfl rfl (by decide)) rfl ?_; refine L.call (js := []) (js' := []) (needs_m YA (inpF b (mdI a)) yc ((mdS z : Nat) : Int) ((mdW a z l : Nat) : Int) false ((inpF b (mdI a)).length : Int) ((inpF b (mdI a)).length : Int) (whO (inpF b (mdI a)).length) [] [] O2 Q2 H2 c2 d2 e2 1 0 0 rfl rfl rfl (by show 1 ≤ 9223372036854775807; decide) (by decide) (by decide) (by omega) hyc 0 0 0 ((2 * mdS z : Nat) : Int) we wo hwe hwv) rfl rfl rfl (by decide) (Hq [9, 1, 2, 3] rfl) rfl ?_
                   rintro _ _ _ ⟨rfl, rfl, rfl⟩
                   refine Lpu rfl rfl ?_; refine Lpu rfl rfl ?_; refine Lpu rfl rfl ?_
                   refine L.alloc rfl rfl rfl (fun A18 => ?_)
                   refine L.storeA (vs := [.int .i64 0, .int .i64 0, .int .i64 ((2 * mdS z : Nat) : Int), .int .i64 we, .int .i64 wo]) (j := 0) rfl rfl rfl rfl rfl (Nat.zero_lt_succ _) rfl rfl ?_; refine Lpu rfl rfl ?_; refine L.nil (QE.seq (C.seq ?_)); refine C.freeze 0 rfl [] (by decide) (by decide) ?_; refine C.region ?_; refine Lpu rfl rfl ?_; refine Lpu rfl rfl ?_
                   refine L.bool 218 rfl (fun hg218 => ?_) (fun hg218 => ?_)
                   ·
                    refine L.yes rfl ?_; refine Lpu rfl rfl ?_; refine L.yes rfl ?_; refine L.step (Ev.cast (u := .bool true) (Ev.pure rfl) (congrArg Value.bool (by simp))) rfl ?_; refine Lpu rfl rfl ?_; refine Lpu rfl rfl ?_
                    refine L.bool 222 rfl (fun hg222 => ?_) (fun hg222 => ?_)
                    ·
                     refine L.yes rfl ?_; refine L.step (Ev.fieldAddr rfl rfl rfl rfl rfl rfl (Src.r 1 rfl) (Nat.zero_lt_succ _) rfl) rfl ?_; refine L.yes rfl ?_; refine L.step (Ev.load rfl rfl rfl (Src.r 1 rfl) rfl) rfl ?_; refine L.yes rfl ?_; refine Lpu rfl rfl ?_; refine L.yes rfl ?_; refine L.step (Ev.cast (u := .bool true) (Ev.pure rfl) (congrArg Value.bool (by simp))) rfl ?_; refine Lpu rfl rfl ?_; refine Lpu rfl rfl ?_
                     refine L.bool 228 rfl (fun hg228 => ?_) (fun hg228 => ?_)
                     ·
                      refine L.yes rfl ?_; refine L.step (Ev.fieldAddr rfl rfl rfl rfl rfl rfl (Src.r 1 rfl) (Nat.zero_lt_succ _) rfl) rfl ?_; refine L.yes rfl ?_; refine L.step (Ev.load rfl rfl rfl (Src.r 1 rfl) rfl) rfl ?_; refine L.yes rfl ?_; refine Lpu rfl rfl ?_; refine L.yes rfl ?_; refine L.step (Ev.cast (u := .bool true) (Ev.pure rfl) (congrArg Value.bool (by simp))) rfl ?_; refine Lpu rfl rfl ?_; refine Lpu rfl rfl ?_
                      refine L.bool 234 rfl (fun hg234 => ?_) (fun hg234 => ?_)
                      ·
                       refine L.yes rfl ?_; refine Lpu rfl rfl ?_; refine L.yes rfl ?_; refine L.step (Ev.cast (u := .bool true) (Ev.pure rfl) (congrArg Value.bool (by simp))) rfl ?_; refine Lpu rfl rfl ?_; refine Lpu rfl rfl ?_
                       refine L.bool 238 rfl (fun hg238 => ?_) (fun hg238 => ?_)
                       ·
                        refine L.yes rfl ?_; refine L.step (Ev.fieldAddr rfl rfl rfl rfl rfl rfl (Src.r 0 rfl) (Nat.zero_lt_succ _) rfl) rfl ?_; refine L.yes rfl ?_; refine L.step (Ev.load rfl rfl rfl (Src.r 0 rfl) rfl) rfl ?_; refine L.yes rfl ?_; refine L.step (Ev.cast (u := .bool true) (Ev.pure rfl) (congrArg Value.bool (by simp))) rfl ?_; refine Lpu rfl rfl ?_; refine Lpu rfl rfl ?_
                        refine L.bool 243 rfl (fun hg243 => ?_) (fun hg243 => ?_)
                        ·
                         refine L.yes rfl ?_; refine L.step (Ev.fieldAddr rfl rfl rfl rfl rfl rfl (Src.r 0 rfl) (Nat.zero_lt_succ _) rfl) rfl ?_; refine L.yes rfl ?_; refine L.step (Ev.load rfl rfl rfl (Src.r 0 rfl) rfl) rfl ?_; refine L.yes rfl ?_; refine L.step (Ev.cast (u := .bool true) (Ev.pure rfl) (congrArg Value.bool (by simp))) rfl ?_; refine Lpu rfl rfl ?_; refine Lpu rfl rfl ?_
                         refine L.bool 248 rfl (fun hg248 => ?_) (fun hg248 => ?_)
                         ·
                          refine L.yes rfl ?_; refine L.step (Ev.fieldAddr rfl rfl rfl rfl rfl rfl (Src.r 0 rfl) (Nat.zero_lt_succ _) rfl) rfl ?_; refine L.yes rfl ?_; refine L.step (Ev.load rfl rfl rfl (Src.r 0 rfl) rfl) rfl ?_; refine L.yes rfl ?_; refine L.step (Ev.fieldAddr rfl rfl rfl rfl rfl rfl (Src.r 6 rfl) (Nat.zero_lt_succ _) rfl) rfl ?_; refine L.yes rfl ?_; refine L.step (Ev.load rfl rfl rfl (Src.r 6 rfl) rfl) rfl ?_; refine L.yes rfl ?_; refine L.step (Ev.mul rfl rfl (by omega) (by omega)) rfl ?_; refine L.yes rfl ?_; refine L.step (Ev.cast (u := .bool true) (Ev.pure rfl) (congrArg Value.bool (beq_iff_eq.2 (by omega)))) rfl ?_; refine Lpu rfl rfl ?_; refine Lpu rfl rfl ?_; refine L.nil (QE.seq (C.ret ?_)); refine QE.ret (js := []) (hs := []) (vs := [_]) rfl ⟨rfl, trivial⟩ (by decide) ?_
                          exact ⟨rfl, rfl, rfl⟩
                         ·
                          cases hg248
                        ·
                         cases hg243
                       ·
                        cases hg238
                      ·
                       cases hg234
                     ·
                      cases hg228
                    ·
                     cases hg222
                   ·
                    cases hg218
                 ·
                  refine L.alloc rfl rfl rfl (fun A16 => ?_)
                  refine L.nil (QE.m (by kernel_rfl) ?_)
                  refine LM.f 3 rfl (by kernel_rfl) (Hq [0, 4] rfl) ?_; refine L.callR (js := []) (js' := [0]) (whole_c (inpF b (mdI a)).length (by omega)) rfl rfl rfl (by decide) trivial rfl ?_
                  rintro _ _ _ ⟨A203, c203, rfl, rfl, rfl⟩
                  refine L.norm (H' := [_]) [0] ⟨rfl, trivial⟩ (by decide) ?_
                  refine L.nil (QE.m (by kernel_rfl) ?_)
                  refine LM.f 8 rfl (by kernel_rfl) (Hq [1, 5] rfl) ?_; refine L.callR (js := []) (js' := [0]) (make_k YA (inpF b (mdI a)).length yc ((mdS z : Nat) : Int) ((mdW a z l : Nat) : Int) false ((inpF b (mdI a)).length : Int) ((inpF b (mdI a)).length : Int) (whO (inpF b (mdI a)).length) A203 c203 (by show 1 ≤ 9223372036854775807; decide) (by omega) [] [] (whO (inpF b (mdI a)).length) hwm.1 hwm.2) rfl rfl rfl (by decide) (Hq [0] rfl) rfl ?_
                  rintro _ _ _ ⟨O2, Q2, H2, c2, d2, e2, rfl, rfl, rfl⟩
                  refine L.norm (H' := [_]) [0] ⟨rfl, trivial⟩ (by decide) ?_
                  refine L.nil (QE.m (by kernel_rfl) ?_)
                  refine LM.q 9 rfl (by kernel_rfl) (Ev.pure rfl) rfl (Hq [4, 8] rfl) ?_; refine LM.q 10 rfl (by kernel_rfl) (Ev.pure rfl) rfl (Hq [4, 8] rfl) ?_; refine LM.q 11 rfl (by kernel_rfl) (Ev.pure rfl) rfl (Hq [4, 8] rfl) ?_; refine LM.f 13 rfl (by kernel_rfl) (Hq [4, 8] rfl) ?_; refine L.storeA (vs := [.int .i64 ((mdS z : Nat) : Int), .int .i64 ((mdW a z l : Nat) : Int), .bool false, .int .i64 ((inpF b (mdI a)).length : Int), .int .i64 ((inpF b (mdI a)).length : Int), .slice O2 1 c2, .slice Q2 0 d2, .slice H2 0 e2]) (j := 0) rfl rfl rfl rfl rfl (Nat.zero_lt_succ _) rfl rfl ?_
                  refine L.nil (QE.m (by kernel_rfl) ?_)
                  refine LM.cut [] (by kernel_rfl) (Hq [4, 8] rfl) ?_; refine LM.f 14 rfl (by kernel_rfl) trivial ?_; refine Lpu rfl rfl ?_
                  refine L.nil (QE.m (by kernel_rfl) ?_)
                  refine LM.nil (by kernel_rfl) trivial ?_; refine QE.seq (C.seq ?_); refine C.freeze 0 rfl [] (by decide) (by decide) ?_; refine C.region ?_; refine Lpu rfl rfl ?_; refine L.step (Ev.loadA (vs := [.int .i64 ((mdS z : Nat) : Int), .int .i64 ((mdW a z l : Nat) : Int), .bool false, .int .i64 ((inpF b (mdI a)).length : Int), .int .i64 ((inpF b (mdI a)).length : Int), .slice O2 1 c2, .slice Q2 0 d2, .slice H2 0 e2]) rfl rfl rfl (Src.r 0 rfl) rfl rfl (by decide)) rfl ?_; refine L.call (js := []) (js' := []) (needs_m YA (inpF b (mdI a)) yc ((mdS z : Nat) : Int) ((mdW a z l : Nat) : Int) false ((inpF b (mdI a)).length : Int) ((inpF b (mdI a)).length : Int) (whO (inpF b (mdI a)).length) [] [] O2 Q2 H2 c2 d2 e2 1 0 0 rfl rfl rfl (by show 1 ≤ 9223372036854775807; decide) (by decide) (by decide) (by omega) hyc 0 0 0 ((2 * mdS z : Nat) : Int) we wo hwe hwv) rfl rfl rfl (by decide) (Hq [9, 1, 2, 3] rfl) rfl ?_
                  rintro _ _ _ ⟨rfl, rfl, rfl⟩
                  refine Lpu rfl rfl ?_; refine Lpu rfl rfl ?_; refine Lpu rfl rfl ?_
                  refine L.alloc rfl rfl rfl (fun A18 => ?_)
                  refine L.storeA (vs := [.int .i64 0, .int .i64 0, .int .i64 ((2 * mdS z : Nat) : Int), .int .i64 we, .int .i64 wo]) (j := 0) rfl rfl rfl rfl rfl (Nat.zero_lt_succ _) rfl rfl ?_; refine Lpu rfl rfl ?_; refine L.nil (QE.seq (C.seq ?_)); refine C.freeze 0 rfl [] (by decide) (by decide) ?_; refine C.region ?_; refine Lpu rfl rfl ?_; refine Lpu rfl rfl ?_
                  refine L.bool 218 rfl (fun hg218 => ?_) (fun hg218 => ?_)
                  ·
                   refine L.yes rfl ?_; refine Lpu rfl rfl ?_; refine L.yes rfl ?_; refine L.step (Ev.cast (u := .bool true) (Ev.pure rfl) (congrArg Value.bool (by simp))) rfl ?_; refine Lpu rfl rfl ?_; refine Lpu rfl rfl ?_
                   refine L.bool 222 rfl (fun hg222 => ?_) (fun hg222 => ?_)
                   ·
                    refine L.yes rfl ?_; refine L.step (Ev.fieldAddr rfl rfl rfl rfl rfl rfl (Src.r 1 rfl) (Nat.zero_lt_succ _) rfl) rfl ?_; refine L.yes rfl ?_; refine L.step (Ev.load rfl rfl rfl (Src.r 1 rfl) rfl) rfl ?_; refine L.yes rfl ?_; refine Lpu rfl rfl ?_; refine L.yes rfl ?_; refine L.step (Ev.cast (u := .bool true) (Ev.pure rfl) (congrArg Value.bool (by simp))) rfl ?_; refine Lpu rfl rfl ?_; refine Lpu rfl rfl ?_
                    refine L.bool 228 rfl (fun hg228 => ?_) (fun hg228 => ?_)
                    ·
                     refine L.yes rfl ?_; refine L.step (Ev.fieldAddr rfl rfl rfl rfl rfl rfl (Src.r 1 rfl) (Nat.zero_lt_succ _) rfl) rfl ?_; refine L.yes rfl ?_; refine L.step (Ev.load rfl rfl rfl (Src.r 1 rfl) rfl) rfl ?_; refine L.yes rfl ?_; refine Lpu rfl rfl ?_; refine L.yes rfl ?_; refine L.step (Ev.cast (u := .bool true) (Ev.pure rfl) (congrArg Value.bool (by simp))) rfl ?_; refine Lpu rfl rfl ?_; refine Lpu rfl rfl ?_
                     refine L.bool 234 rfl (fun hg234 => ?_) (fun hg234 => ?_)
                     ·
                      refine L.yes rfl ?_; refine Lpu rfl rfl ?_; refine L.yes rfl ?_; refine L.step (Ev.cast (u := .bool true) (Ev.pure rfl) (congrArg Value.bool (by simp))) rfl ?_; refine Lpu rfl rfl ?_; refine Lpu rfl rfl ?_
                      refine L.bool 238 rfl (fun hg238 => ?_) (fun hg238 => ?_)
                      ·
                       refine L.yes rfl ?_; refine L.step (Ev.fieldAddr rfl rfl rfl rfl rfl rfl (Src.r 0 rfl) (Nat.zero_lt_succ _) rfl) rfl ?_; refine L.yes rfl ?_; refine L.step (Ev.load rfl rfl rfl (Src.r 0 rfl) rfl) rfl ?_; refine L.yes rfl ?_; refine L.step (Ev.cast (u := .bool true) (Ev.pure rfl) (congrArg Value.bool (by simp))) rfl ?_; refine Lpu rfl rfl ?_; refine Lpu rfl rfl ?_
                       refine L.bool 243 rfl (fun hg243 => ?_) (fun hg243 => ?_)
                       ·
                        refine L.yes rfl ?_; refine L.step (Ev.fieldAddr rfl rfl rfl rfl rfl rfl (Src.r 0 rfl) (Nat.zero_lt_succ _) rfl) rfl ?_; refine L.yes rfl ?_; refine L.step (Ev.load rfl rfl rfl (Src.r 0 rfl) rfl) rfl ?_; refine L.yes rfl ?_; refine L.step (Ev.cast (u := .bool true) (Ev.pure rfl) (congrArg Value.bool (by simp))) rfl ?_; refine Lpu rfl rfl ?_; refine Lpu rfl rfl ?_
                        refine L.bool 248 rfl (fun hg248 => ?_) (fun hg248 => ?_)
                        ·
                         refine L.yes rfl ?_; refine L.step (Ev.fieldAddr rfl rfl rfl rfl rfl rfl (Src.r 0 rfl) (Nat.zero_lt_succ _) rfl) rfl ?_; refine L.yes rfl ?_; refine L.step (Ev.load rfl rfl rfl (Src.r 0 rfl) rfl) rfl ?_; refine L.yes rfl ?_; refine L.step (Ev.fieldAddr rfl rfl rfl rfl rfl rfl (Src.r 6 rfl) (Nat.zero_lt_succ _) rfl) rfl ?_; refine L.yes rfl ?_; refine L.step (Ev.load rfl rfl rfl (Src.r 6 rfl) rfl) rfl ?_; refine L.yes rfl ?_; refine L.step (Ev.mul rfl rfl (by omega) (by omega)) rfl ?_; refine L.yes rfl ?_; refine L.step (Ev.cast (u := .bool true) (Ev.pure rfl) (congrArg Value.bool (beq_iff_eq.2 (by omega)))) rfl ?_; refine Lpu rfl rfl ?_; refine Lpu rfl rfl ?_; refine L.nil (QE.seq (C.ret ?_)); refine QE.ret (js := []) (hs := []) (vs := [_]) rfl ⟨rfl, trivial⟩ (by decide) ?_
                         exact ⟨rfl, rfl, rfl⟩
                        ·
                         cases hg248
                       ·
                        cases hg243
                      ·
                       cases hg238
                     ·
                      cases hg234
                    ·
                     cases hg228
                   ·
                    cases hg222
                  ·
                   cases hg218
             ·
              replace hg166 := of_decide_eq_false hg166
              refine L.no rfl rfl rfl ?_; refine L.no rfl rfl rfl ?_; refine L.no rfl rfl rfl ?_; refine L.no rfl rfl rfl ?_; refine L.no rfl rfl rfl ?_; refine L.no rfl rfl rfl ?_; refine L.no rfl rfl rfl ?_; refine L.no rfl rfl rfl ?_; refine L.yes rfl ?_; refine Lpu rfl rfl ?_; refine Lpu rfl rfl ?_; refine Lpu rfl rfl ?_; refine L.yes rfl ?_; refine L.step (Ev.fieldAddr rfl rfl rfl rfl rfl rfl (Src.r 5 rfl) (Nat.zero_lt_succ _) rfl) rfl ?_; refine L.yes rfl ?_; refine L.step (Ev.load rfl rfl rfl (Src.r 5 rfl) rfl) rfl ?_; refine L.yes rfl ?_; refine L.step (Ev.fieldAddr rfl rfl rfl rfl rfl rfl (Src.r 5 rfl) (Nat.zero_lt_succ _) rfl) rfl ?_; refine L.yes rfl ?_; refine L.step (Ev.load rfl rfl rfl (Src.r 5 rfl) rfl) rfl ?_; refine L.yes rfl ?_; refine L.step (Ev.cast (u := .bool false) (Ev.pure rfl) (congrArg Value.bool (decide_eq_false (by omega)))) rfl ?_; refine Lpu rfl rfl ?_; refine Lpu rfl rfl ?_
              refine L.bool 184 rfl (fun hg184 => ?_) (fun hg184 => ?_)
              ·
               cases hg184
              ·
               refine L.yes rfl ?_; refine L.step (Ev.fieldAddr rfl rfl rfl rfl rfl rfl (Src.r 5 rfl) (Nat.zero_lt_succ _) rfl) rfl ?_; refine L.yes rfl ?_; refine L.step (Ev.load rfl rfl rfl (Src.r 5 rfl) rfl) rfl ?_; refine L.yes rfl ?_; refine L.step (Ev.fieldAddr rfl rfl rfl rfl rfl rfl (Src.r 5 rfl) (Nat.zero_lt_succ _) rfl) rfl ?_; refine L.yes rfl ?_; refine L.step (Ev.load rfl rfl rfl (Src.r 5 rfl) rfl) rfl ?_; refine L.yes rfl ?_; refine L.step (Ev.fieldAddr rfl rfl rfl rfl rfl rfl (Src.r 5 rfl) (Nat.zero_lt_succ _) rfl) rfl ?_; refine L.yes rfl ?_; refine L.step (Ev.load rfl rfl rfl (Src.r 5 rfl) rfl) rfl ?_; refine L.yes rfl ?_; refine L.step (Ev.add rfl rfl (by omega) (by omega)) rfl ?_; refine L.yes rfl ?_; refine L.step (Ev.fieldAddr rfl rfl rfl rfl rfl rfl (Src.r 0 rfl) (Nat.zero_lt_succ _) rfl) rfl ?_; refine L.yes rfl ?_; refine L.step (Ev.load rfl rfl rfl (Src.r 0 rfl) rfl) rfl ?_; refine L.yes rfl ?_; refine Lpu rfl rfl ?_; refine L.yes rfl ?_; refine L.step (Ev.mul rfl rfl (by omega) (by omega)) rfl ?_; refine L.yes rfl ?_; refine L.step (Ev.add rfl rfl (by omega) (by omega)) rfl ?_; refine L.yes rfl ?_; refine L.step (Ev.cast (u := .bool false) (Ev.pure rfl) (congrArg Value.bool (decide_eq_false (by omega)))) rfl ?_; refine Lpu rfl rfl ?_; refine L.nil (QE.seq ?_)
               refine C.condB 198 rfl (fun hc198 => ?_) (fun hc198 => ?_)
               ·
                cases hc198
               ·
                refine C.skip (QE.seq (C.seq ?_)); refine C.regionM [Rd A4 [.int .i64 ((mdS z : Nat) : Int), .int .i64 ((mdW a z l : Nat) : Int), .bool false, .int .i64 ((mdI a : Nat) : Int), .int .i64 (((mdK a l).2 : Nat) : Int), .slice OA (mdK a l).1.length oc, .slice QA (mdQ a z l).length qc, .slice HA (mdH a z l).length hc], Rd YA (U8 (inpF b (mdI a)))] (Hq [0, 4] rfl) ?_; refine LM.q 0 rfl (by kernel_rfl) (Ev.pure rfl) rfl (Hq [0, 4] rfl) ?_; refine LM.q 1 rfl (by kernel_rfl) (Ev.pure rfl) rfl (Hq [0, 4] rfl) ?_; refine LM.q 2 rfl (by kernel_rfl) (Ev.pure rfl) rfl (Hq [0, 4] rfl) ?_; refine LM.q 4 rfl (by kernel_rfl) (Ev.fieldAddr rfl rfl rfl rfl rfl rfl (Src.r 0 rfl) (Nat.zero_lt_succ _) rfl) rfl (Hq [0, 4] rfl) ?_; refine LM.q 5 rfl (by kernel_rfl) (Ev.load rfl rfl rfl (Src.r 0 rfl) rfl) rfl (Hq [0, 4] rfl) ?_; refine LM.q 6 rfl (by kernel_rfl) (Ev.fieldAddr rfl rfl rfl rfl rfl rfl (Src.r 0 rfl) (Nat.zero_lt_succ _) rfl) rfl (Hq [0, 4] rfl) ?_; refine LM.q 7 rfl (by kernel_rfl) (Ev.load rfl rfl rfl (Src.r 0 rfl) rfl) rfl (Hq [0, 4] rfl) ?_
                refine LM.alt [3, 12] (by kernel_rfl) (by decide) (Hq [0, 4] rfl) ⟨⟨_, rfl, ?_⟩, ⟨_, rfl, ?_⟩, trivial⟩
                ·
                 refine L.callR (js := []) (js' := []) (whole_c (inpF b (mdI a)).length (by omega)) rfl rfl rfl (by decide) trivial rfl ?_
                 rintro _ _ _ ⟨A203, c203, rfl, rfl, rfl⟩
                 refine L.nil (QE.m (by kernel_rfl) ?_)
                 refine LM.alt [8, 12] (by kernel_rfl) (by decide) (Hq [1, 5] rfl) ⟨⟨_, rfl, ?_⟩, ⟨_, rfl, ?_⟩, trivial⟩
                 ·
                  refine L.callR (js := []) (js' := []) (make_k YA (inpF b (mdI a)).length yc ((mdS z : Nat) : Int) ((mdW a z l : Nat) : Int) false ((inpF b (mdI a)).length : Int) ((inpF b (mdI a)).length : Int) (whO (inpF b (mdI a)).length) A203 c203 (by show 1 ≤ 9223372036854775807; decide) (by omega) [] [] (whO (inpF b (mdI a)).length) hwm.1 hwm.2) rfl rfl rfl (by decide) (Hq [0] rfl) rfl ?_
                  rintro _ _ _ ⟨O2, Q2, H2, c2, d2, e2, rfl, rfl, rfl⟩
                  refine L.nil (QE.m (by kernel_rfl) ?_)
                  refine LM.q 9 rfl (by kernel_rfl) (Ev.pure rfl) rfl (Hq [4, 8] rfl) ?_; refine LM.q 10 rfl (by kernel_rfl) (Ev.pure rfl) rfl (Hq [4, 8] rfl) ?_; refine LM.q 11 rfl (by kernel_rfl) (Ev.pure rfl) rfl (Hq [4, 8] rfl) ?_; refine LM.f 12 rfl (by kernel_rfl) (Hq [4, 8] rfl) ?_
                  refine L.alloc rfl rfl rfl (fun A16 => ?_)
                  refine L.nil (QE.m (by kernel_rfl) ?_)
                  refine LM.f 13 rfl (by kernel_rfl) (Hq [4, 8] rfl) ?_; refine L.storeA (vs := [.int .i64 ((mdS z : Nat) : Int), .int .i64 ((mdW a z l : Nat) : Int), .bool false, .int .i64 ((inpF b (mdI a)).length : Int), .int .i64 ((inpF b (mdI a)).length : Int), .slice O2 1 c2, .slice Q2 0 d2, .slice H2 0 e2]) (j := 0) rfl rfl rfl rfl rfl (Nat.zero_lt_succ _) rfl rfl ?_
                  refine L.nil (QE.m (by kernel_rfl) ?_)
                  refine LM.cut [] (by kernel_rfl) (Hq [4, 8] rfl) ?_; refine LM.f 14 rfl (by kernel_rfl) trivial ?_; refine Lpu rfl rfl ?_
                  refine L.nil (QE.m (by kernel_rfl) ?_)
                  refine LM.nil (by kernel_rfl) trivial ?_; refine QE.seq (C.seq ?_); refine C.freeze 0 rfl [] (by decide) (by decide) ?_; refine C.region ?_; refine Lpu rfl rfl ?_; refine L.step (Ev.loadA (vs := [.int .i64 ((mdS z : Nat) : Int), .int .i64 ((mdW a z l : Nat) : Int), .bool false, .int .i64 ((inpF b (mdI a)).length : Int), .int .i64 ((inpF b (mdI a)).length : Int), .slice O2 1 c2, .slice Q2 0 d2, .slice H2 0 e2]) rfl rfl rfl (Src.r 0 rfl) rfl rfl (by decide)) rfl ?_; refine L.call (js := []) (js' := []) (needs_m YA (inpF b (mdI a)) yc ((mdS z : Nat) : Int) ((mdW a z l : Nat) : Int) false ((inpF b (mdI a)).length : Int) ((inpF b (mdI a)).length : Int) (whO (inpF b (mdI a)).length) [] [] O2 Q2 H2 c2 d2 e2 1 0 0 rfl rfl rfl (by show 1 ≤ 9223372036854775807; decide) (by decide) (by decide) (by omega) hyc 0 0 0 ((2 * mdS z : Nat) : Int) we wo hwe hwv) rfl rfl rfl (by decide) (Hq [9, 1, 2, 3] rfl) rfl ?_
                  rintro _ _ _ ⟨rfl, rfl, rfl⟩
                  refine Lpu rfl rfl ?_; refine Lpu rfl rfl ?_; refine Lpu rfl rfl ?_
                  refine L.alloc rfl rfl rfl (fun A18 => ?_)
                  refine L.storeA (vs := [.int .i64 0, .int .i64 0, .int .i64 ((2 * mdS z : Nat) : Int), .int .i64 we, .int .i64 wo]) (j := 0) rfl rfl rfl rfl rfl (Nat.zero_lt_succ _) rfl rfl ?_; refine Lpu rfl rfl ?_; refine L.nil (QE.seq (C.seq ?_)); refine C.freeze 0 rfl [] (by decide) (by decide) ?_; refine C.region ?_; refine Lpu rfl rfl ?_; refine Lpu rfl rfl ?_
                  refine L.bool 218 rfl (fun hg218 => ?_) (fun hg218 => ?_)
                  ·
                   refine L.yes rfl ?_; refine Lpu rfl rfl ?_; refine L.yes rfl ?_; refine L.step (Ev.cast (u := .bool true) (Ev.pure rfl) (congrArg Value.bool (by simp))) rfl ?_; refine Lpu rfl rfl ?_; refine Lpu rfl rfl ?_
                   refine L.bool 222 rfl (fun hg222 => ?_) (fun hg222 => ?_)
                   ·
                    refine L.yes rfl ?_; refine L.step (Ev.fieldAddr rfl rfl rfl rfl rfl rfl (Src.r 1 rfl) (Nat.zero_lt_succ _) rfl) rfl ?_; refine L.yes rfl ?_; refine L.step (Ev.load rfl rfl rfl (Src.r 1 rfl) rfl) rfl ?_; refine L.yes rfl ?_; refine Lpu rfl rfl ?_; refine L.yes rfl ?_; refine L.step (Ev.cast (u := .bool true) (Ev.pure rfl) (congrArg Value.bool (by simp))) rfl ?_; refine Lpu rfl rfl ?_; refine Lpu rfl rfl ?_
                    refine L.bool 228 rfl (fun hg228 => ?_) (fun hg228 => ?_)
                    ·
                     refine L.yes rfl ?_; refine L.step (Ev.fieldAddr rfl rfl rfl rfl rfl rfl (Src.r 1 rfl) (Nat.zero_lt_succ _) rfl) rfl ?_; refine L.yes rfl ?_; refine L.step (Ev.load rfl rfl rfl (Src.r 1 rfl) rfl) rfl ?_; refine L.yes rfl ?_; refine Lpu rfl rfl ?_; refine L.yes rfl ?_; refine L.step (Ev.cast (u := .bool true) (Ev.pure rfl) (congrArg Value.bool (by simp))) rfl ?_; refine Lpu rfl rfl ?_; refine Lpu rfl rfl ?_
                     refine L.bool 234 rfl (fun hg234 => ?_) (fun hg234 => ?_)
                     ·
                      refine L.yes rfl ?_; refine Lpu rfl rfl ?_; refine L.yes rfl ?_; refine L.step (Ev.cast (u := .bool true) (Ev.pure rfl) (congrArg Value.bool (by simp))) rfl ?_; refine Lpu rfl rfl ?_; refine Lpu rfl rfl ?_
                      refine L.bool 238 rfl (fun hg238 => ?_) (fun hg238 => ?_)
                      ·
                       refine L.yes rfl ?_; refine L.step (Ev.fieldAddr rfl rfl rfl rfl rfl rfl (Src.r 0 rfl) (Nat.zero_lt_succ _) rfl) rfl ?_; refine L.yes rfl ?_; refine L.step (Ev.load rfl rfl rfl (Src.r 0 rfl) rfl) rfl ?_; refine L.yes rfl ?_; refine L.step (Ev.cast (u := .bool true) (Ev.pure rfl) (congrArg Value.bool (by simp))) rfl ?_; refine Lpu rfl rfl ?_; refine Lpu rfl rfl ?_
                       refine L.bool 243 rfl (fun hg243 => ?_) (fun hg243 => ?_)
                       ·
                        refine L.yes rfl ?_; refine L.step (Ev.fieldAddr rfl rfl rfl rfl rfl rfl (Src.r 0 rfl) (Nat.zero_lt_succ _) rfl) rfl ?_; refine L.yes rfl ?_; refine L.step (Ev.load rfl rfl rfl (Src.r 0 rfl) rfl) rfl ?_; refine L.yes rfl ?_; refine L.step (Ev.cast (u := .bool true) (Ev.pure rfl) (congrArg Value.bool (by simp))) rfl ?_; refine Lpu rfl rfl ?_; refine Lpu rfl rfl ?_
                        refine L.bool 248 rfl (fun hg248 => ?_) (fun hg248 => ?_)
                        ·
                         refine L.yes rfl ?_; refine L.step (Ev.fieldAddr rfl rfl rfl rfl rfl rfl (Src.r 0 rfl) (Nat.zero_lt_succ _) rfl) rfl ?_; refine L.yes rfl ?_; refine L.step (Ev.load rfl rfl rfl (Src.r 0 rfl) rfl) rfl ?_; refine L.yes rfl ?_; refine L.step (Ev.fieldAddr rfl rfl rfl rfl rfl rfl (Src.r 6 rfl) (Nat.zero_lt_succ _) rfl) rfl ?_; refine L.yes rfl ?_; refine L.step (Ev.load rfl rfl rfl (Src.r 6 rfl) rfl) rfl ?_; refine L.yes rfl ?_; refine L.step (Ev.mul rfl rfl (by omega) (by omega)) rfl ?_; refine L.yes rfl ?_; refine L.step (Ev.cast (u := .bool true) (Ev.pure rfl) (congrArg Value.bool (beq_iff_eq.2 (by omega)))) rfl ?_; refine Lpu rfl rfl ?_; refine Lpu rfl rfl ?_; refine L.nil (QE.seq (C.ret ?_)); refine QE.ret (js := []) (hs := []) (vs := [_]) rfl ⟨rfl, trivial⟩ (by decide) ?_
                         exact ⟨rfl, rfl, rfl⟩
                        ·
                         cases hg248
                       ·
                        cases hg243
                      ·
                       cases hg238
                     ·
                      cases hg234
                    ·
                     cases hg228
                   ·
                    cases hg222
                  ·
                   cases hg218
                 ·
                  refine L.alloc rfl rfl rfl (fun A16 => ?_)
                  refine L.nil (QE.m (by kernel_rfl) ?_)
                  refine LM.f 8 rfl (by kernel_rfl) (Hq [1, 5] rfl) ?_; refine L.callR (js := []) (js' := [0]) (make_k YA (inpF b (mdI a)).length yc ((mdS z : Nat) : Int) ((mdW a z l : Nat) : Int) false ((inpF b (mdI a)).length : Int) ((inpF b (mdI a)).length : Int) (whO (inpF b (mdI a)).length) A203 c203 (by show 1 ≤ 9223372036854775807; decide) (by omega) [] [] (whO (inpF b (mdI a)).length) hwm.1 hwm.2) rfl rfl rfl (by decide) (Hq [0] rfl) rfl ?_
                  rintro _ _ _ ⟨O2, Q2, H2, c2, d2, e2, rfl, rfl, rfl⟩
                  refine L.norm (H' := [_]) [0] ⟨rfl, trivial⟩ (by decide) ?_
                  refine L.nil (QE.m (by kernel_rfl) ?_)
                  refine LM.q 9 rfl (by kernel_rfl) (Ev.pure rfl) rfl (Hq [4, 8] rfl) ?_; refine LM.q 10 rfl (by kernel_rfl) (Ev.pure rfl) rfl (Hq [4, 8] rfl) ?_; refine LM.q 11 rfl (by kernel_rfl) (Ev.pure rfl) rfl (Hq [4, 8] rfl) ?_; refine LM.f 13 rfl (by kernel_rfl) (Hq [4, 8] rfl) ?_; refine L.storeA (vs := [.int .i64 ((mdS z : Nat) : Int), .int .i64 ((mdW a z l : Nat) : Int), .bool false, .int .i64 ((inpF b (mdI a)).length : Int), .int .i64 ((inpF b (mdI a)).length : Int), .slice O2 1 c2, .slice Q2 0 d2, .slice H2 0 e2]) (j := 0) rfl rfl rfl rfl rfl (Nat.zero_lt_succ _) rfl rfl ?_
                  refine L.nil (QE.m (by kernel_rfl) ?_)
                  refine LM.cut [] (by kernel_rfl) (Hq [4, 8] rfl) ?_; refine LM.f 14 rfl (by kernel_rfl) trivial ?_; refine Lpu rfl rfl ?_
                  refine L.nil (QE.m (by kernel_rfl) ?_)
                  refine LM.nil (by kernel_rfl) trivial ?_; refine QE.seq (C.seq ?_); refine C.freeze 0 rfl [] (by decide) (by decide) ?_; refine C.region ?_; refine Lpu rfl rfl ?_; refine L.step (Ev.loadA (vs := [.int .i64 ((mdS z : Nat) : Int), .int .i64 ((mdW a z l : Nat) : Int), .bool false, .int .i64 ((inpF b (mdI a)).length : Int), .int .i64 ((inpF b (mdI a)).length : Int), .slice O2 1 c2, .slice Q2 0 d2, .slice H2 0 e2]) rfl rfl rfl (Src.r 0 rfl) rfl rfl (by decide)) rfl ?_; refine L.call (js := []) (js' := []) (needs_m YA (inpF b (mdI a)) yc ((mdS z : Nat) : Int) ((mdW a z l : Nat) : Int) false ((inpF b (mdI a)).length : Int) ((inpF b (mdI a)).length : Int) (whO (inpF b (mdI a)).length) [] [] O2 Q2 H2 c2 d2 e2 1 0 0 rfl rfl rfl (by show 1 ≤ 9223372036854775807; decide) (by decide) (by decide) (by omega) hyc 0 0 0 ((2 * mdS z : Nat) : Int) we wo hwe hwv) rfl rfl rfl (by decide) (Hq [9, 1, 2, 3] rfl) rfl ?_
                  rintro _ _ _ ⟨rfl, rfl, rfl⟩
                  refine Lpu rfl rfl ?_; refine Lpu rfl rfl ?_; refine Lpu rfl rfl ?_
                  refine L.alloc rfl rfl rfl (fun A18 => ?_)
                  refine L.storeA (vs := [.int .i64 0, .int .i64 0, .int .i64 ((2 * mdS z : Nat) : Int), .int .i64 we, .int .i64 wo]) (j := 0) rfl rfl rfl rfl rfl (Nat.zero_lt_succ _) rfl rfl ?_; refine Lpu rfl rfl ?_; refine L.nil (QE.seq (C.seq ?_)); refine C.freeze 0 rfl [] (by decide) (by decide) ?_; refine C.region ?_; refine Lpu rfl rfl ?_; refine Lpu rfl rfl ?_
                  refine L.bool 218 rfl (fun hg218 => ?_) (fun hg218 => ?_)
                  ·
                   refine L.yes rfl ?_; refine Lpu rfl rfl ?_; refine L.yes rfl ?_; refine L.step (Ev.cast (u := .bool true) (Ev.pure rfl) (congrArg Value.bool (by simp))) rfl ?_; refine Lpu rfl rfl ?_; refine Lpu rfl rfl ?_
                   refine L.bool 222 rfl (fun hg222 => ?_) (fun hg222 => ?_)
                   ·
                    refine L.yes rfl ?_; refine L.step (Ev.fieldAddr rfl rfl rfl rfl rfl rfl (Src.r 1 rfl) (Nat.zero_lt_succ _) rfl) rfl ?_; refine L.yes rfl ?_; refine L.step (Ev.load rfl rfl rfl (Src.r 1 rfl) rfl) rfl ?_; refine L.yes rfl ?_; refine Lpu rfl rfl ?_; refine L.yes rfl ?_; refine L.step (Ev.cast (u := .bool true) (Ev.pure rfl) (congrArg Value.bool (by simp))) rfl ?_; refine Lpu rfl rfl ?_; refine Lpu rfl rfl ?_
                    refine L.bool 228 rfl (fun hg228 => ?_) (fun hg228 => ?_)
                    ·
                     refine L.yes rfl ?_; refine L.step (Ev.fieldAddr rfl rfl rfl rfl rfl rfl (Src.r 1 rfl) (Nat.zero_lt_succ _) rfl) rfl ?_; refine L.yes rfl ?_; refine L.step (Ev.load rfl rfl rfl (Src.r 1 rfl) rfl) rfl ?_; refine L.yes rfl ?_; refine Lpu rfl rfl ?_; refine L.yes rfl ?_; refine L.step (Ev.cast (u := .bool true) (Ev.pure rfl) (congrArg Value.bool (by simp))) rfl ?_; refine Lpu rfl rfl ?_; refine Lpu rfl rfl ?_
                     refine L.bool 234 rfl (fun hg234 => ?_) (fun hg234 => ?_)
                     ·
                      refine L.yes rfl ?_; refine Lpu rfl rfl ?_; refine L.yes rfl ?_; refine L.step (Ev.cast (u := .bool true) (Ev.pure rfl) (congrArg Value.bool (by simp))) rfl ?_; refine Lpu rfl rfl ?_; refine Lpu rfl rfl ?_
                      refine L.bool 238 rfl (fun hg238 => ?_) (fun hg238 => ?_)
                      ·
                       refine L.yes rfl ?_; refine L.step (Ev.fieldAddr rfl rfl rfl rfl rfl rfl (Src.r 0 rfl) (Nat.zero_lt_succ _) rfl) rfl ?_; refine L.yes rfl ?_; refine L.step (Ev.load rfl rfl rfl (Src.r 0 rfl) rfl) rfl ?_; refine L.yes rfl ?_; refine L.step (Ev.cast (u := .bool true) (Ev.pure rfl) (congrArg Value.bool (by simp))) rfl ?_; refine Lpu rfl rfl ?_; refine Lpu rfl rfl ?_
                       refine L.bool 243 rfl (fun hg243 => ?_) (fun hg243 => ?_)
                       ·
                        refine L.yes rfl ?_; refine L.step (Ev.fieldAddr rfl rfl rfl rfl rfl rfl (Src.r 0 rfl) (Nat.zero_lt_succ _) rfl) rfl ?_; refine L.yes rfl ?_; refine L.step (Ev.load rfl rfl rfl (Src.r 0 rfl) rfl) rfl ?_; refine L.yes rfl ?_; refine L.step (Ev.cast (u := .bool true) (Ev.pure rfl) (congrArg Value.bool (by simp))) rfl ?_; refine Lpu rfl rfl ?_; refine Lpu rfl rfl ?_
                        refine L.bool 248 rfl (fun hg248 => ?_) (fun hg248 => ?_)
                        ·
                         refine L.yes rfl ?_; refine L.step (Ev.fieldAddr rfl rfl rfl rfl rfl rfl (Src.r 0 rfl) (Nat.zero_lt_succ _) rfl) rfl ?_; refine L.yes rfl ?_; refine L.step (Ev.load rfl rfl rfl (Src.r 0 rfl) rfl) rfl ?_; refine L.yes rfl ?_; refine L.step (Ev.fieldAddr rfl rfl rfl rfl rfl rfl (Src.r 6 rfl) (Nat.zero_lt_succ _) rfl) rfl ?_; refine L.yes rfl ?_; refine L.step (Ev.load rfl rfl rfl (Src.r 6 rfl) rfl) rfl ?_; refine L.yes rfl ?_; refine L.step (Ev.mul rfl rfl (by omega) (by omega)) rfl ?_; refine L.yes rfl ?_; refine L.step (Ev.cast (u := .bool true) (Ev.pure rfl) (congrArg Value.bool (beq_iff_eq.2 (by omega)))) rfl ?_; refine Lpu rfl rfl ?_; refine Lpu rfl rfl ?_; refine L.nil (QE.seq (C.ret ?_)); refine QE.ret (js := []) (hs := []) (vs := [_]) rfl ⟨rfl, trivial⟩ (by decide) ?_
                         exact ⟨rfl, rfl, rfl⟩
                        ·
                         cases hg248
                       ·
                        cases hg243
                      ·
                       cases hg238
                     ·
                      cases hg234
                    ·
                     cases hg228
                   ·
                    cases hg222
                  ·
                   cases hg218
                ·
                 refine L.alloc rfl rfl rfl (fun A16 => ?_)
                 refine L.nil (QE.m (by kernel_rfl) ?_)
                 refine LM.f 3 rfl (by kernel_rfl) (Hq [0, 4] rfl) ?_; refine L.callR (js := []) (js' := [0]) (whole_c (inpF b (mdI a)).length (by omega)) rfl rfl rfl (by decide) trivial rfl ?_
                 rintro _ _ _ ⟨A203, c203, rfl, rfl, rfl⟩
                 refine L.norm (H' := [_]) [0] ⟨rfl, trivial⟩ (by decide) ?_
                 refine L.nil (QE.m (by kernel_rfl) ?_)
                 refine LM.f 8 rfl (by kernel_rfl) (Hq [1, 5] rfl) ?_; refine L.callR (js := []) (js' := [0]) (make_k YA (inpF b (mdI a)).length yc ((mdS z : Nat) : Int) ((mdW a z l : Nat) : Int) false ((inpF b (mdI a)).length : Int) ((inpF b (mdI a)).length : Int) (whO (inpF b (mdI a)).length) A203 c203 (by show 1 ≤ 9223372036854775807; decide) (by omega) [] [] (whO (inpF b (mdI a)).length) hwm.1 hwm.2) rfl rfl rfl (by decide) (Hq [0] rfl) rfl ?_
                 rintro _ _ _ ⟨O2, Q2, H2, c2, d2, e2, rfl, rfl, rfl⟩
                 refine L.norm (H' := [_]) [0] ⟨rfl, trivial⟩ (by decide) ?_
                 refine L.nil (QE.m (by kernel_rfl) ?_)
                 refine LM.q 9 rfl (by kernel_rfl) (Ev.pure rfl) rfl (Hq [4, 8] rfl) ?_; refine LM.q 10 rfl (by kernel_rfl) (Ev.pure rfl) rfl (Hq [4, 8] rfl) ?_; refine LM.q 11 rfl (by kernel_rfl) (Ev.pure rfl) rfl (Hq [4, 8] rfl) ?_; refine LM.f 13 rfl (by kernel_rfl) (Hq [4, 8] rfl) ?_; refine L.storeA (vs := [.int .i64 ((mdS z : Nat) : Int), .int .i64 ((mdW a z l : Nat) : Int), .bool false, .int .i64 ((inpF b (mdI a)).length : Int), .int .i64 ((inpF b (mdI a)).length : Int), .slice O2 1 c2, .slice Q2 0 d2, .slice H2 0 e2]) (j := 0) rfl rfl rfl rfl rfl (Nat.zero_lt_succ _) rfl rfl ?_
                 refine L.nil (QE.m (by kernel_rfl) ?_)
                 refine LM.cut [] (by kernel_rfl) (Hq [4, 8] rfl) ?_; refine LM.f 14 rfl (by kernel_rfl) trivial ?_; refine Lpu rfl rfl ?_
                 refine L.nil (QE.m (by kernel_rfl) ?_)
                 refine LM.nil (by kernel_rfl) trivial ?_; refine QE.seq (C.seq ?_); refine C.freeze 0 rfl [] (by decide) (by decide) ?_; refine C.region ?_; refine Lpu rfl rfl ?_; refine L.step (Ev.loadA (vs := [.int .i64 ((mdS z : Nat) : Int), .int .i64 ((mdW a z l : Nat) : Int), .bool false, .int .i64 ((inpF b (mdI a)).length : Int), .int .i64 ((inpF b (mdI a)).length : Int), .slice O2 1 c2, .slice Q2 0 d2, .slice H2 0 e2]) rfl rfl rfl (Src.r 0 rfl) rfl rfl (by decide)) rfl ?_; refine L.call (js := []) (js' := []) (needs_m YA (inpF b (mdI a)) yc ((mdS z : Nat) : Int) ((mdW a z l : Nat) : Int) false ((inpF b (mdI a)).length : Int) ((inpF b (mdI a)).length : Int) (whO (inpF b (mdI a)).length) [] [] O2 Q2 H2 c2 d2 e2 1 0 0 rfl rfl rfl (by show 1 ≤ 9223372036854775807; decide) (by decide) (by decide) (by omega) hyc 0 0 0 ((2 * mdS z : Nat) : Int) we wo hwe hwv) rfl rfl rfl (by decide) (Hq [9, 1, 2, 3] rfl) rfl ?_
                 rintro _ _ _ ⟨rfl, rfl, rfl⟩
                 refine Lpu rfl rfl ?_; refine Lpu rfl rfl ?_; refine Lpu rfl rfl ?_
                 refine L.alloc rfl rfl rfl (fun A18 => ?_)
                 refine L.storeA (vs := [.int .i64 0, .int .i64 0, .int .i64 ((2 * mdS z : Nat) : Int), .int .i64 we, .int .i64 wo]) (j := 0) rfl rfl rfl rfl rfl (Nat.zero_lt_succ _) rfl rfl ?_; refine Lpu rfl rfl ?_; refine L.nil (QE.seq (C.seq ?_)); refine C.freeze 0 rfl [] (by decide) (by decide) ?_; refine C.region ?_; refine Lpu rfl rfl ?_; refine Lpu rfl rfl ?_
                 refine L.bool 218 rfl (fun hg218 => ?_) (fun hg218 => ?_)
                 ·
                  refine L.yes rfl ?_; refine Lpu rfl rfl ?_; refine L.yes rfl ?_; refine L.step (Ev.cast (u := .bool true) (Ev.pure rfl) (congrArg Value.bool (by simp))) rfl ?_; refine Lpu rfl rfl ?_; refine Lpu rfl rfl ?_
                  refine L.bool 222 rfl (fun hg222 => ?_) (fun hg222 => ?_)
                  ·
                   refine L.yes rfl ?_; refine L.step (Ev.fieldAddr rfl rfl rfl rfl rfl rfl (Src.r 1 rfl) (Nat.zero_lt_succ _) rfl) rfl ?_; refine L.yes rfl ?_; refine L.step (Ev.load rfl rfl rfl (Src.r 1 rfl) rfl) rfl ?_; refine L.yes rfl ?_; refine Lpu rfl rfl ?_; refine L.yes rfl ?_; refine L.step (Ev.cast (u := .bool true) (Ev.pure rfl) (congrArg Value.bool (by simp))) rfl ?_; refine Lpu rfl rfl ?_; refine Lpu rfl rfl ?_
                   refine L.bool 228 rfl (fun hg228 => ?_) (fun hg228 => ?_)
                   ·
                    refine L.yes rfl ?_; refine L.step (Ev.fieldAddr rfl rfl rfl rfl rfl rfl (Src.r 1 rfl) (Nat.zero_lt_succ _) rfl) rfl ?_; refine L.yes rfl ?_; refine L.step (Ev.load rfl rfl rfl (Src.r 1 rfl) rfl) rfl ?_; refine L.yes rfl ?_; refine Lpu rfl rfl ?_; refine L.yes rfl ?_; refine L.step (Ev.cast (u := .bool true) (Ev.pure rfl) (congrArg Value.bool (by simp))) rfl ?_; refine Lpu rfl rfl ?_; refine Lpu rfl rfl ?_
                    refine L.bool 234 rfl (fun hg234 => ?_) (fun hg234 => ?_)
                    ·
                     refine L.yes rfl ?_; refine Lpu rfl rfl ?_; refine L.yes rfl ?_; refine L.step (Ev.cast (u := .bool true) (Ev.pure rfl) (congrArg Value.bool (by simp))) rfl ?_; refine Lpu rfl rfl ?_; refine Lpu rfl rfl ?_
                     refine L.bool 238 rfl (fun hg238 => ?_) (fun hg238 => ?_)
                     ·
                      refine L.yes rfl ?_; refine L.step (Ev.fieldAddr rfl rfl rfl rfl rfl rfl (Src.r 0 rfl) (Nat.zero_lt_succ _) rfl) rfl ?_; refine L.yes rfl ?_; refine L.step (Ev.load rfl rfl rfl (Src.r 0 rfl) rfl) rfl ?_; refine L.yes rfl ?_; refine L.step (Ev.cast (u := .bool true) (Ev.pure rfl) (congrArg Value.bool (by simp))) rfl ?_; refine Lpu rfl rfl ?_; refine Lpu rfl rfl ?_
                      refine L.bool 243 rfl (fun hg243 => ?_) (fun hg243 => ?_)
                      ·
                       refine L.yes rfl ?_; refine L.step (Ev.fieldAddr rfl rfl rfl rfl rfl rfl (Src.r 0 rfl) (Nat.zero_lt_succ _) rfl) rfl ?_; refine L.yes rfl ?_; refine L.step (Ev.load rfl rfl rfl (Src.r 0 rfl) rfl) rfl ?_; refine L.yes rfl ?_; refine L.step (Ev.cast (u := .bool true) (Ev.pure rfl) (congrArg Value.bool (by simp))) rfl ?_; refine Lpu rfl rfl ?_; refine Lpu rfl rfl ?_
                       refine L.bool 248 rfl (fun hg248 => ?_) (fun hg248 => ?_)
                       ·
                        refine L.yes rfl ?_; refine L.step (Ev.fieldAddr rfl rfl rfl rfl rfl rfl (Src.r 0 rfl) (Nat.zero_lt_succ _) rfl) rfl ?_; refine L.yes rfl ?_; refine L.step (Ev.load rfl rfl rfl (Src.r 0 rfl) rfl) rfl ?_; refine L.yes rfl ?_; refine L.step (Ev.fieldAddr rfl rfl rfl rfl rfl rfl (Src.r 6 rfl) (Nat.zero_lt_succ _) rfl) rfl ?_; refine L.yes rfl ?_; refine L.step (Ev.load rfl rfl rfl (Src.r 6 rfl) rfl) rfl ?_; refine L.yes rfl ?_; refine L.step (Ev.mul rfl rfl (by omega) (by omega)) rfl ?_; refine L.yes rfl ?_; refine L.step (Ev.cast (u := .bool true) (Ev.pure rfl) (congrArg Value.bool (beq_iff_eq.2 (by omega)))) rfl ?_; refine Lpu rfl rfl ?_; refine Lpu rfl rfl ?_; refine L.nil (QE.seq (C.ret ?_)); refine QE.ret (js := []) (hs := []) (vs := [_]) rfl ⟨rfl, trivial⟩ (by decide) ?_
                        exact ⟨rfl, rfl, rfl⟩
                       ·
                        cases hg248
                      ·
                       cases hg243
                     ·
                      cases hg238
                    ·
                     cases hg234
                   ·
                    cases hg228
                  ·
                   cases hg222
                 ·
                  cases hg218

end Go.Proofs.YtpccfdnmnnnboaaGreat
