/-
  What a plan needs, of the program and of the reference.
-/
import Derived.Test.YtpccfdnmnnnboaaGreatQWPlF
namespace Go.Proofs.YtpccfdnmnnnboaaGreat
open Go.Sl

theorem rangesV_at : ∀ (l : List (Nat × Nat)) (k : Nat), k < l.length → ((rangesV l).drop (k * 2)).take 2 = [.int .i64 ((l.getD k (0, 0)).1 : Int), .int .i64 ((l.getD k (0, 0)).2 : Int)]
 | [], _, h => absurd h (Nat.not_lt_zero _)
 | _ :: _, 0, _ => rfl
 | _ :: l, k + 1, h => by
   rw [show (k + 1) * 2 = k * 2 + 2 from by omega]
   exact rangesV_at l k (by simpa using h)
set_option maxHeartbeats 3000000 in
theorem needs_c (BA : Option Addr) (old : List UInt8) (bc : Nat) (sz n : Int) (lf : Bool) (inn out : Int) (ops : List Po) (seq st : List Int) (OA QA HA : Option Addr) (oc qc hc : Nat) (hops : ops.length ≤ 9223372036854775807) (hql : seq.length ≤ 1000000) (hhl : st.length ≤ 1000000) (hol : old.length ≤ 9223372036854775807) (hbc : old.length ≤ bc) :
   Ctr X 15 [.slice BA old.length bc, .agg (List.toArray [.int .i64 sz, .int .i64 n, .bool lf, .int .i64 inn, .int .i64 out, .slice OA ops.length oc, .slice QA seq.length qc, .slice HA st.length hc])] [Rd BA (U8 old), Rd OA (opsV ops), Rd QA (I64 seq), Rd HA (I64 st)] [] (fun v R' H' => v = .tuple #[.agg (List.toArray [.int .i64 (needV lf sz n inn out ops seq st old).s, .int .i64 (needV lf sz n inn out ops seq st old).u, .int .i64 (needV lf sz n inn out ops seq st old).r, .int .i64 (needV lf sz n inn out ops seq st old).e, .int .i64 (needV lf sz n inn out ops seq st old).o]), .int .i64 (needE lf sz n inn out ops seq st old)] ∧ R' = [] ∧ H' = []) := by
 refine Ctr.of (X := X) (fn := Tryz.f15) Tryz.func15 rfl (by kernel_rfl) rfl ?_
 intro β
 refine C.seq (C.region ?_)
 refine L.boxA rfl rfl (fun A3 => ?_)
 refine L.alloc rfl rfl rfl (fun A4 => ?_)
 refine Lpu rfl rfl ?_; refine L.nil (QE.seq (C.seq (C.block (C.seq ?_)))); refine C.freeze 0 rfl [1] (by decide) (by decide) ?_; refine C.norm (H' := [_]) [0] ⟨rfl, trivial⟩ (by decide) ?_; refine C.region ?_; refine L.step (Ev.loadA (vs := [.int .i64 sz, .int .i64 n, .bool lf, .int .i64 inn, .int .i64 out, .slice OA ops.length oc, .slice QA seq.length qc, .slice HA st.length hc]) rfl rfl rfl (Src.r 0 rfl) rfl rfl (by decide)) rfl ?_; refine L.call (js := []) (js' := [0]) (valid19_c sz n lf inn out ops seq st OA QA HA oc qc hc hops hql hhl) rfl rfl rfl (by decide) (Hq [2, 3, 4] rfl) rfl ?_
 rintro _ _ _ ⟨rfl, rfl, rfl⟩
 refine L.norm (H' := [_]) [0] ⟨rfl, trivial⟩ (by decide) ?_; refine Lpu rfl rfl ?_; refine Lpu rfl rfl ?_; refine L.nil (QE.seq ?_)
 refine C.condB 19 rfl (fun hc19 => ?_) (fun hc19 => ?_)
 ·
  have hvl : vldB lf sz n inn out ops seq st = false := by simpa using hc19
  refine C.seq (C.region ?_); refine L.step (Ev.build rfl rfl rfl rfl rfl rfl rfl) rfl ?_; refine L.storeA (j := 0) rfl rfl rfl rfl rfl (Nat.zero_lt_succ _) rfl rfl ?_; refine Lpu rfl rfl ?_; refine L.nil (QE.seq (C.ret (QE.bR (QE.tR ?_)))); refine QE.ret (js := []) (hs := []) (vs := [_, _]) rfl ⟨⟨_, _, 0, _, rfl, rfl, Src.o 0 rfl, .inl ⟨rfl, by decide, _, rfl, rfl, rfl⟩⟩, rfl, trivial⟩ (by decide) ?_
  have hE : needE lf sz n inn out ops seq st old = _ := needE_1 hvl
  have hV := needV_no (by rw [hE]; decide : needE lf sz n inn out ops seq st old ≠ 0)
  rw [hE, hV]
  exact ⟨rfl, rfl, rfl⟩
 ·
  refine C.seq (C.region ?_); refine Lpu rfl rfl ?_; refine Lpu rfl rfl ?_; refine L.step (Ev.fieldAddr rfl rfl rfl rfl rfl rfl (Src.r 0 rfl) (Nat.zero_lt_succ _) rfl) rfl ?_; refine L.step (Ev.fieldAddr rfl rfl rfl rfl rfl rfl (Src.r 0 rfl) (Nat.zero_lt_succ _) rfl) rfl ?_; refine L.step (Ev.load rfl rfl rfl (Src.r 0 rfl) rfl) rfl ?_; refine Lpu rfl rfl ?_; refine Lpu rfl rfl ?_; refine L.nil (QE.seq ?_)
  refine C.condB 24 rfl (fun hc24 => ?_) (fun hc24 => ?_)
  ·
   replace hc24 := b_ne hc24
   have hne : (old.length : Int) ≠ inn := hc24
   have hvl : vldB lf sz n inn out ops seq st = true := by simpa using hc19
   refine C.seq (C.region ?_); refine L.step (Ev.build rfl rfl rfl rfl rfl rfl rfl) rfl ?_; refine L.storeA (j := 0) rfl rfl rfl rfl rfl (Nat.zero_lt_succ _) rfl rfl ?_; refine Lpu rfl rfl ?_; refine L.nil (QE.seq (C.ret (QE.bR (QE.tR ?_)))); refine QE.ret (js := []) (hs := []) (vs := [_, _]) rfl ⟨⟨_, _, 0, _, rfl, rfl, Src.o 0 rfl, .inl ⟨rfl, by decide, _, rfl, rfl, rfl⟩⟩, rfl, trivial⟩ (by decide) ?_
   have hE : needE lf sz n inn out ops seq st old = _ := needE_2 hvl hne
   have hV := needV_no (by rw [hE]; decide : needE lf sz n inn out ops seq st old ≠ 0)
   rw [hE, hV]
   exact ⟨rfl, rfl, rfl⟩
  ·
   replace hc24 := b_eq hc24
   have hin : (old.length : Int) = inn := hc24
   have hvl : vldB lf sz n inn out ops seq st = true := by simpa using hc19
   obtain ⟨hE0, hlf0, hszb0, -, -, -⟩ := val_iff.1 hvl
   have hseq := val_seq hvl
   have hszb := sizB_iff.1 hszb0
   subst hlf0
   obtain ⟨S, rfl⟩ : ∃ q : Nat, sz = (q : Int) := ⟨sz.toNat, by omega⟩
   obtain ⟨n, rfl⟩ : ∃ q : Nat, n = (q : Int) := ⟨n.toNat, by omega⟩
   rw [Int.toNat_natCast, Int.toNat_natCast] at hseq
   obtain ⟨hS1, hS2, hn1, hn2, hi1, hi2⟩ : 1 ≤ S ∧ S ≤ 4096 ∧ 1 ≤ n ∧ n ≤ 64 ∧ inn ≤ (S : Int) * (n : Int) ∧ out ≤ (S : Int) * (n : Int) := ⟨by omega, by omega, by omega, by omega, hszb.2.2.2.2.1, hszb.2.2.2.2.2⟩
   have hcl := chgL_len (symL ops) inn S n
   have hk64 : seq.length ≤ 64 := by omega
   obtain ⟨k1, k2, k3, k4, k5, k6⟩ := chkE_ok hE0
   have hsl : ((symL ops).length : Int) = out := chkG_tot ops out k3 k6
   have hnl : (runB old (symL ops)).length = (symL ops).length := runB_len _ _
   have hol2 : old.length ≤ 65536 := by omega
   have hsy : syS inn out ops = symL ops := by unfold syS; rw [if_pos hE0]
   refine C.skip ?_; refine QE.blkN ?_; refine QE.seq (C.seq (C.region ?_)); refine Lpu rfl rfl ?_; refine L.step (Ev.fieldAddr rfl rfl rfl rfl rfl rfl (Src.r 0 rfl) (Nat.zero_lt_succ _) rfl) rfl ?_; refine L.step (Ev.loadA (vs := [.bool false, .int .i64 inn, .int .i64 out, .slice OA ops.length oc]) rfl rfl rfl (Src.r 0 rfl) rfl rfl (by decide)) rfl ?_; refine L.call (js := []) (js' := [0]) (apply_c BA old bc false inn out ops OA oc hops rfl hE0 hin.symm) rfl rfl rfl (by decide) (Hq [1, 2] rfl) rfl ?_
   rw [hsy]
   rintro _ _ _ ⟨NA, nc, rfl, rfl, rfl⟩
   refine L.norm (H' := [_, _]) [0, 1] ⟨rfl, rfl, trivial⟩ (by decide) ?_; refine Lpu rfl rfl ?_; refine Lpu rfl rfl ?_; refine Lpu rfl rfl ?_; refine Lpu rfl rfl ?_; refine Lpu rfl rfl ?_; refine L.nil (QE.seq (C.seq ?_))
   refine C.cap 0 rfl (fun hnc => ?_)
   refine C.freeze 0 rfl [1] (by decide) (by decide) ?_; refine C.norm (H' := [_]) [0] ⟨rfl, trivial⟩ (by decide) ?_; refine C.region ?_; refine Lpu rfl rfl ?_; refine Lpu rfl rfl ?_; refine L.nil (QE.seq (C.seq (C.seq (C.region ?_)))); refine L.step (Ev.fieldAddr rfl rfl rfl rfl rfl rfl (Src.r 1 rfl) (Nat.zero_lt_succ _) rfl) rfl ?_; refine L.step (Ev.load rfl rfl rfl (Src.r 1 rfl) rfl) rfl ?_; refine Lpu rfl rfl ?_; refine Lpu rfl rfl ?_; refine L.nil (QE.seq (C.block ?_)); refine C.loop (fun i : Nat => [(0, .slice BA old.length bc), (3, ptrOf A3 0), (4, ptrOf A4 0), (6, .slice NA (runB old (symL ops)).length nc), (40, .slice QA seq.length qc), (41, .int .i64 (seq.length : Int)), (42, .int .i64 (i : Int)), (8, .int .i64 (((ndT old (runB old (symL ops)) S (seq.take i)) : Nat) : Int)), (9, .int .i64 (((ndG old (runB old (symL ops)) S (seq.take i)) : Nat) : Int))]) (fun i : Nat => [Rd NA (U8 (runB old (symL ops))), Rd A3 [.int .i64 (S : Int), .int .i64 (n : Int), .bool false, .int .i64 inn, .int .i64 out, .slice OA ops.length oc, .slice QA seq.length qc, .slice HA st.length hc], Rd BA (U8 old), Rd OA (opsV ops), Rd QA (I64 seq), Rd HA (I64 st)]) (fun i : Nat => [Own 43 5 A4 1 1 [.int .i64 0, .int .i64 0, .int .i64 0, .int .i64 0, .int .i64 0]]) (fun i : Nat => i ≤ seq.length) (fun i : Nat => seq.length - i) 0 (Nat.zero_le _) (by exact Le.mk' (rs := [0, 1, 2, 3, 4, 5]) (hs := [0]) ⟨rfl, rfl, rfl, rfl, rfl, rfl, rfl, rfl, rfl, trivial⟩ ⟨rfl, rfl, rfl, rfl, rfl, rfl, trivial⟩ ⟨rfl, trivial⟩ (by decide)) ?_
   intro i hi
   refine C.seq (C.region ?_); refine Lpu rfl rfl ?_; refine L.nil (QE.seq (C.seq ?_))
   refine C.condB 43 rfl (fun hc43 => ?_) (fun hc43 => ?_)
   ·
    replace hc43 := of_decide_eq_true hc43
    refine C.skip (QE.seq (C.seq (C.block (C.seq ?_))))
    obtain ⟨t, hst, htn, htc⟩ := hseq.2 i (by omega)
    have htS : t * S ≤ 64 * 4096 := Nat.mul_le_mul (by omega) hS2
    refine C.region ?_; refine L.step (Ev.idx1 (k := i) rfl rfl rfl rfl rfl rfl rfl (by omega) (Src.r 4 rfl) (by rw [I64_len]; omega)) rfl ?_; refine L.step (Ev.cast (u := .int .i64 (t : Int)) (Ev.load rfl rfl rfl (Src.r 4 rfl) (I64_get (by omega))) (congrArg (Value.int .i64) hst)) rfl ?_; refine Lpu rfl rfl ?_; refine L.nil (QE.seq (C.seq (C.region ?_))); refine Lpu rfl rfl ?_; refine L.nil (QE.seq (C.seq (C.seq ?_))); refine C.regionM [Rd NA (U8 (runB old (symL ops))), Rd A3 [.int .i64 (S : Int), .int .i64 (n : Int), .bool false, .int .i64 inn, .int .i64 out, .slice OA ops.length oc, .slice QA seq.length qc, .slice HA st.length hc], Rd BA (U8 old), Rd OA (opsV ops), Rd QA (I64 seq), Rd HA (I64 st)] (Hq [0, 1, 2, 3, 4, 5] rfl) ?_; refine LM.q 0 rfl (by kernel_rfl) (Ev.pure rfl) rfl (Hq [0, 1, 2, 3, 4, 5] rfl) ?_; refine LM.q 1 rfl (by kernel_rfl) (Ev.pure rfl) rfl (Hq [0, 1, 2, 3, 4, 5] rfl) ?_; refine LM.q 2 rfl (by kernel_rfl) (Ev.fieldAddr rfl rfl rfl rfl rfl rfl (Src.r 1 rfl) (Nat.zero_lt_succ _) rfl) rfl (Hq [0, 1, 2, 3, 4, 5] rfl) ?_; refine LM.q 3 rfl (by kernel_rfl) (Ev.load rfl rfl rfl (Src.r 1 rfl) rfl) rfl (Hq [0, 1, 2, 3, 4, 5] rfl) ?_; refine LM.q 5 rfl (by kernel_rfl) (Ev.pure rfl) rfl (Hq [0, 1, 2, 3, 4, 5] rfl) ?_; refine LM.q 6 rfl (by kernel_rfl) (Ev.pure rfl) rfl (Hq [0, 1, 2, 3, 4, 5] rfl) ?_; refine LM.q 7 rfl (by kernel_rfl) (Ev.fieldAddr rfl rfl rfl rfl rfl rfl (Src.r 1 rfl) (Nat.zero_lt_succ _) rfl) rfl (Hq [0, 1, 2, 3, 4, 5] rfl) ?_; refine LM.q 8 rfl (by kernel_rfl) (Ev.load rfl rfl rfl (Src.r 1 rfl) rfl) rfl (Hq [0, 1, 2, 3, 4, 5] rfl) ?_; refine LM.q 12 rfl (by kernel_rfl) (Ev.pure rfl) rfl (Hq [0, 1, 2, 3, 4, 5] rfl) ?_; refine LM.f 4 rfl (by kernel_rfl) (Hq [0, 1, 2, 3, 4, 5] rfl) ?_; refine L.call (js := []) (js' := [0]) (contents_c BA old bc t S (by omega) (by omega) (by omega) hS1 hS2 hbc) rfl rfl rfl (by decide) (Hq [2] rfl) rfl ?_
    rintro _ _ _ ⟨A50, rfl, rfl, rfl⟩
    refine L.norm (H' := [_, _]) [0, 1] ⟨rfl, rfl, trivial⟩ (by decide) ?_
    refine L.nil (QE.m (by kernel_rfl) ?_)
    refine LM.f 9 rfl (by kernel_rfl) (Hq [0, 1, 2, 3, 4, 5] rfl) ?_; refine L.call (js := []) (js' := [0, 1]) (contents_c NA (runB old (symL ops)) nc t S (by omega) (by omega) (by omega) hS1 hS2 hnc) rfl rfl rfl (by decide) (Hq [0] rfl) rfl ?_
    rintro _ _ _ ⟨A55, rfl, rfl, rfl⟩
    refine L.norm (H' := [_, _, _]) [0, 1, 2] ⟨rfl, rfl, rfl, trivial⟩ (by decide) ?_
    refine L.nil (QE.m (by kernel_rfl) ?_)
    refine LM.f 10 rfl (by kernel_rfl) (Hq [0, 1, 2, 3, 4, 5] rfl) ?_; refine L.call (js := []) (js' := [0, 1, 2]) (changed_m A50 A55 (ctF old t S) (ctF (runB old (symL ops)) t S) S S S S (ctF_len _ _ _) (ctF_len _ _ _) (by rw [ctF_len, ctF_len]) (by rw [ctF_len]; omega)) rfl rfl rfl (by decide) ⟨(Has.o 1 rfl), (Has.o 0 rfl), trivial⟩ rfl ?_
    rintro _ _ _ ⟨O, oc2, rfl, rfl, rfl⟩
    refine L.norm (H' := [_, _, _, _]) [0, 1, 2, 3] ⟨rfl, rfl, rfl, rfl, trivial⟩ (by decide) ?_
    refine L.nil (QE.m (by kernel_rfl) ?_)
    refine LM.f 11 rfl (by kernel_rfl) (Hq [0, 1, 2, 3, 4, 5] rfl) ?_; refine Lpu rfl rfl ?_
    refine L.nil (QE.m (by kernel_rfl) ?_)
    refine LM.nil (by kernel_rfl) (Hq [0, 1, 2, 3, 4, 5] rfl) ?_; refine QE.seq (C.block ?_); refine C.freeze 0 rfl [1, 2, 3] (by decide) (by decide) ?_; refine C.norm (H' := [_, _, _]) [0, 1, 2] ⟨rfl, rfl, rfl, trivial⟩ (by decide) ?_; refine C.loop (fun k : Nat => [(0, .slice BA old.length bc), (3, ptrOf A3 0), (4, ptrOf A4 0), (6, .slice NA (runB old (symL ops)).length nc), (40, .slice QA seq.length qc), (41, .int .i64 (seq.length : Int)), (42, .int .i64 (i : Int)), (8, .int .i64 (((ndT old (runB old (symL ops)) S (seq.take i)) : Nat) : Int)), (9, .int .i64 (((ndG old (runB old (symL ops)) S (seq.take i)) : Nat) : Int)), (56, .slice O (chgN (ctF old t S) (ctF (runB old (symL ops)) t S) (ctF old t S).length).length oc2), (57, .int .i64 ((chgN (ctF old t S) (ctF (runB old (symL ops)) t S) (ctF old t S).length).length : Int)), (58, .int .i64 (k : Int)), (12, .int .i64 ((5 + ndS ((chgN (ctF old t S) (ctF (runB old (symL ops)) t S) (ctF old t S).length).take k) : Nat) : Int))]) (fun k : Nat => [Rd O (rangesV (chgN (ctF old t S) (ctF (runB old (symL ops)) t S) (ctF old t S).length)), Rd NA (U8 (runB old (symL ops))), Rd A3 [.int .i64 (S : Int), .int .i64 (n : Int), .bool false, .int .i64 inn, .int .i64 out, .slice OA ops.length oc, .slice QA seq.length qc, .slice HA st.length hc], Rd BA (U8 old), Rd OA (opsV ops), Rd QA (I64 seq), Rd HA (I64 st)]) (fun k : Nat => [Own 43 5 A4 1 1 [.int .i64 0, .int .i64 0, .int .i64 0, .int .i64 0, .int .i64 0]]) (fun k : Nat => k ≤ (chgN (ctF old t S) (ctF (runB old (symL ops)) t S) (ctF old t S).length).length) (fun k : Nat => (chgN (ctF old t S) (ctF (runB old (symL ops)) t S) (ctF old t S).length).length - k) 0 (Nat.zero_le _) (by exact Le.mk' (rs := [0, 1, 2, 3, 4, 5, 6]) (hs := [2]) ⟨rfl, rfl, rfl, rfl, rfl, rfl, rfl, rfl, rfl, rfl, rfl, rfl, rfl, trivial⟩ ⟨rfl, rfl, rfl, rfl, rfl, rfl, rfl, trivial⟩ ⟨rfl, trivial⟩ (by decide)) ?_
    intro k hk
    refine C.seq (C.region ?_); refine Lpu rfl rfl ?_; refine L.nil (QE.seq (C.seq ?_))
    refine C.condB 59 rfl (fun hc59 => ?_) (fun hc59 => ?_)
    ·
     replace hc59 := of_decide_eq_true hc59
     refine C.skip (QE.seq (C.seq (C.block (C.seq ?_))))
     have hcl9 := chgN_len' (ctF old t S) (ctF (runB old (symL ops)) t S) (ctF old t S).length
     have hcfl := ctF_len old t S
     refine C.region ?_; refine L.step (Ev.idx (k := k) (m := k * 2) rfl rfl rfl rfl rfl (by omega) (by omega) (Src.r 0 rfl) (ranges_pos (k := k) (by omega)) rfl) rfl ?_; refine L.step (Ev.loadA (vs := [.int .i64 (((chgN (ctF old t S) (ctF (runB old (symL ops)) t S) (ctF old t S).length).getD k (0, 0)).1 : Int), .int .i64 (((chgN (ctF old t S) (ctF (runB old (symL ops)) t S) (ctF old t S).length).getD k (0, 0)).2 : Int)]) rfl rfl rfl (Src.r 0 rfl) (rangesV_at (chgN (ctF old t S) (ctF (runB old (symL ops)) t S) (ctF old t S).length) k (by omega)) rfl (by decide)) rfl ?_
     refine L.alloc rfl rfl rfl (fun A14 => ?_)
     refine L.storeA (j := 1) rfl rfl rfl rfl rfl (Nat.zero_lt_succ _) rfl rfl ?_; refine L.nil (QE.seq ?_)
     have hr := chgN_getD (a := (ctF old t S)) (b := (ctF (runB old (symL ops)) t S)) (k := (ctF old t S).length) (i := k) (by omega)
     have hsu := ndS_succ (chgN (ctF old t S) (ctF (runB old (symL ops)) t S) (ctF old t S).length) (k := k) (by omega)
     have htk := ndS_take (chgN (ctF old t S) (ctF (runB old (symL ops)) t S) (ctF old t S).length) k
     have htt := ndS_chg (ctF old t S) (ctF (runB old (symL ops)) t S) (ctF old t S).length
     have hcfl := ctF_len old t S
     refine C.region ?_; refine Lpu rfl rfl ?_; refine L.step (Ev.fieldAddr rfl rfl rfl rfl rfl rfl (Src.o 1 rfl) (Nat.zero_lt_succ _) rfl) rfl ?_; refine L.step (Ev.load rfl rfl rfl (Src.o 1 rfl) (rfl)) rfl ?_; refine L.step (Ev.add rfl rfl (by omega) (by omega)) rfl ?_; refine L.step (Ev.fieldAddr rfl rfl rfl rfl rfl rfl (Src.o 1 rfl) (Nat.zero_lt_succ _) rfl) rfl ?_; refine L.step (Ev.load rfl rfl rfl (Src.o 1 rfl) (rfl)) rfl ?_; refine L.step (Ev.sub rfl rfl (by omega) (by omega)) rfl ?_; refine L.step (Ev.add rfl rfl (by omega) (by omega)) rfl ?_; refine Lpu rfl rfl ?_; refine L.nil ?_; refine QE.blkN ?_; refine QE.seq (C.region ?_); refine L.step (Ev.add rfl rfl (by omega) (by omega)) rfl ?_; refine Lpu rfl rfl ?_; refine L.nil ?_
     refine QE.round (k + 1) (by omega) (by omega) (by exact Le.mk' (rs := [0, 1, 2, 3, 4, 5, 6]) (hs := [0]) ⟨rfl, rfl, rfl, rfl, rfl, rfl, rfl, rfl, rfl, rfl, rfl, rfl, (congrArg some (congrArg (Value.int .i64) (by show (_ : Int) + ((4 + (((chgN (ctF old t S) (ctF (runB old (symL ops)) t S) (ctF old t S).length).getD k (0, 0)).2 : Int)) - (((chgN (ctF old t S) (ctF (runB old (symL ops)) t S) (ctF old t S).length).getD k (0, 0)).1 : Int)) = _; omega))), trivial⟩ ⟨rfl, rfl, rfl, rfl, rfl, rfl, rfl, trivial⟩ ⟨rfl, trivial⟩ (by decide))
    ·
     replace hc59 := of_decide_eq_false hc59
     refine C.exit ?_; refine QE.tX ?_; refine QE.tX ?_; refine QE.blk ?_; refine QE.seq ?_
     have htk := ndS_take (chgN (ctF old t S) (ctF (runB old (symL ops)) t S) (ctF old t S).length) k
     have htt := ndS_chg (ctF old t S) (ctF (runB old (symL ops)) t S) (ctF old t S).length
     have hcfl := ctF_len old t S
     have hTi := ndT_le (old := old) (new := (runB old (symL ops))) (seq := seq) hS2 i
     have hGi := ndG_le (old := old) (new := (runB old (symL ops))) (seq := seq) hS2 i
     refine C.region ?_; refine Lpu rfl rfl ?_; refine Lpu rfl rfl ?_; refine L.step (Ev.add rfl rfl (by omega) (by omega)) rfl ?_; refine Lpu rfl rfl ?_; refine Lpu rfl rfl ?_; refine L.step (Ev.cast (u := .int .i64 (max (((ndG old (runB old (symL ops)) S (seq.take i)) : Nat) : Int) ((5 + ndS ((chgN (ctF old t S) (ctF (runB old (symL ops)) t S) (ctF old t S).length).take k) : Nat) : Int))) (Ev.pure rfl) (congrArg (Value.int .i64) (by simp only [if_true]; split <;> omega))) rfl ?_; refine Lpu rfl rfl ?_; refine Lpu rfl rfl ?_; refine L.nil ?_; refine QE.blkN ?_; refine QE.seq (C.region ?_); refine L.step (Ev.add rfl rfl (by omega) (by omega)) rfl ?_; refine Lpu rfl rfl ?_; refine L.nil ?_
     obtain rfl : k = (chgN (ctF old t S) (ctF (runB old (symL ops)) t S) (ctF old t S).length).length := by omega
     have hsT := ndT_succ (old := old) (new := (runB old (symL ops))) (S := S) (seq := seq) (i := i) (by omega)
     have hsG := ndG_succ (old := old) (new := (runB old (symL ops))) (S := S) (seq := seq) (i := i) (by omega)
     have hsR : ndR old (runB old (symL ops)) S (seq.getD i 0) = 5 + ndS ((chgN (ctF old t S) (ctF (runB old (symL ops)) t S) (ctF old t S).length).take (chgN (ctF old t S) (ctF (runB old (symL ops)) t S) (ctF old t S).length).length) := by rw [hst, List.take_length]; rfl
     refine QE.round (i + 1) (by omega) (by omega) (by exact Le.mk' (rs := [1, 2, 3, 4, 5, 6]) (hs := [0]) ⟨rfl, rfl, rfl, rfl, rfl, rfl, rfl, (congrArg some (congrArg (Value.int .i64) (by omega))), (congrArg some (congrArg (Value.int .i64) (by omega))), trivial⟩ ⟨rfl, rfl, rfl, rfl, rfl, rfl, trivial⟩ ⟨rfl, trivial⟩ (by decide))
   ·
    replace hc43 := of_decide_eq_false hc43
    refine C.exit ?_; refine QE.tX ?_; refine QE.tX ?_; refine QE.blk ?_; refine QE.seq (C.seq (C.seq ?_))
    obtain rfl : i = seq.length := by omega
    rw [List.take_length]
    refine C.region ?_; refine Lpu rfl rfl ?_; refine Lpu rfl rfl ?_; refine L.nil (QE.seq ?_)
    refine C.condB 79 rfl (fun hc79 => ?_) (fun hc79 => ?_)
    ·
     replace hc79 := of_decide_eq_true hc79
     refine C.seq (C.region ?_); refine L.step (Ev.build rfl rfl rfl rfl rfl rfl rfl) rfl ?_; refine L.storeA (j := 0) rfl rfl rfl rfl rfl (Nat.zero_lt_succ _) rfl rfl ?_; refine Lpu rfl rfl ?_; refine L.nil (QE.seq (C.ret (QE.tR ?_))); refine QE.ret (js := []) (hs := []) (vs := [_, _]) rfl ⟨⟨_, _, 0, _, rfl, rfl, Src.o 0 rfl, .inl ⟨rfl, by decide, _, rfl, rfl, rfl⟩⟩, rfl, trivial⟩ (by decide) ?_
     have hE : needE false (S : Int) (n : Int) inn out ops seq st old = 2 := needE_3 hvl hin (by rw [Int.toNat_natCast]; omega)
     have hV := needV_no (by rw [hE]; decide : needE false (S : Int) (n : Int) inn out ops seq st old ≠ 0)
     rw [hE, hV]
     exact ⟨rfl, rfl, rfl⟩
    ·
     replace hc79 := of_decide_eq_false hc79
     refine C.skip (QE.seq (C.seq ?_))
     have hT := ndT_le (old := old) (new := (runB old (symL ops))) (seq := seq) hS2 seq.length
     rw [List.take_length] at hT
     have hG := ndG_le (old := old) (new := (runB old (symL ops))) (seq := seq) hS2 seq.length
     rw [List.take_length] at hG
     have hU : (ndU (ndT old (runB old (symL ops)) S seq) S) ≤ (ndT old (runB old (symL ops)) S seq) + S := ndU_le
     refine C.regionM [Rd NA (U8 (runB old (symL ops))), Rd A3 [.int .i64 (S : Int), .int .i64 (n : Int), .bool false, .int .i64 inn, .int .i64 out, .slice OA ops.length oc, .slice QA seq.length qc, .slice HA st.length hc], Rd BA (U8 old), Rd OA (opsV ops), Rd QA (I64 seq), Rd HA (I64 st)] (Hq [0, 1, 2, 3, 4, 5] rfl) ?_; refine LM.q 0 rfl (by kernel_rfl) (Ev.fieldAddr rfl rfl rfl rfl rfl rfl (Src.r 1 rfl) (Nat.zero_lt_succ _) rfl) rfl (Hq [0, 1, 2, 3, 4, 5] rfl) ?_; refine LM.q 1 rfl (by kernel_rfl) (Ev.load rfl rfl rfl (Src.r 1 rfl) rfl) rfl (Hq [0, 1, 2, 3, 4, 5] rfl) ?_; refine LM.q 2 rfl (by kernel_rfl) (Ev.pure rfl) rfl (Hq [0, 1, 2, 3, 4, 5] rfl) ?_; refine LM.q 3 rfl (by kernel_rfl) (Ev.pure rfl) rfl (Hq [0, 1, 2, 3, 4, 5] rfl) ?_; refine LM.q 4 rfl (by kernel_rfl) (Ev.fieldAddr rfl rfl rfl rfl rfl rfl (Src.r 1 rfl) (Nat.zero_lt_succ _) rfl) rfl (Hq [0, 1, 2, 3, 4, 5] rfl) ?_; refine LM.q 5 rfl (by kernel_rfl) (Ev.load rfl rfl rfl (Src.r 1 rfl) rfl) rfl (Hq [0, 1, 2, 3, 4, 5] rfl) ?_; refine LM.q 6 rfl (by kernel_rfl) (Ev.add rfl rfl (by omega) (by omega)) rfl (Hq [0, 1, 2, 3, 4, 5] rfl) ?_; refine LM.q 7 rfl (by kernel_rfl) (Ev.sub rfl rfl (by omega) (by omega)) rfl (Hq [0, 1, 2, 3, 4, 5] rfl) ?_; refine LM.q 8 rfl (by kernel_rfl) (Ev.fieldAddr rfl rfl rfl rfl rfl rfl (Src.r 1 rfl) (Nat.zero_lt_succ _) rfl) rfl (Hq [0, 1, 2, 3, 4, 5] rfl) ?_; refine LM.q 9 rfl (by kernel_rfl) (Ev.load rfl rfl rfl (Src.r 1 rfl) rfl) rfl (Hq [0, 1, 2, 3, 4, 5] rfl) ?_; refine LM.q 10 rfl (by kernel_rfl) (Ev.cast (u := .int .i64 (((ndU (ndT old (runB old (symL ops)) S seq) S) : Nat) : Int)) (Ev.quo rfl rfl (by omega) (by omega) (by omega)) (congrArg (Value.int .i64) (by unfold ndU; rw [show (((ndT old (runB old (symL ops)) S seq) : Nat) : Int) + (S : Int) - 1 = (((ndT old (runB old (symL ops)) S seq) + S - 1 : Nat) : Int) by omega]; exact (Int.natCast_ediv _ _).symm))) rfl (Hq [0, 1, 2, 3, 4, 5] rfl) ?_; refine LM.q 11 rfl (by kernel_rfl) (Ev.fieldAddr rfl rfl rfl rfl rfl rfl (Src.r 1 rfl) (Nat.zero_lt_succ _) rfl) rfl (Hq [0, 1, 2, 3, 4, 5] rfl) ?_; refine LM.q 12 rfl (by kernel_rfl) (Ev.load rfl rfl rfl (Src.r 1 rfl) rfl) rfl (Hq [0, 1, 2, 3, 4, 5] rfl) ?_; refine LM.q 13 rfl (by kernel_rfl) (Ev.mul rfl rfl (by omega) (by omega)) rfl (Hq [0, 1, 2, 3, 4, 5] rfl) ?_; refine LM.q 14 rfl (by kernel_rfl) (Ev.pure rfl) rfl (Hq [0, 1, 2, 3, 4, 5] rfl) ?_; refine LM.q 15 rfl (by kernel_rfl) (Ev.cast (u := .int .i64 (((2 * S + (ndG old (runB old (symL ops)) S seq)) : Nat) : Int)) (Ev.add rfl rfl (by omega) (by omega)) (congrArg (Value.int .i64) (by omega))) rfl (Hq [0, 1, 2, 3, 4, 5] rfl) ?_; refine LM.q 16 rfl (by kernel_rfl) (Ev.build rfl rfl rfl rfl rfl rfl rfl) rfl (Hq [0, 1, 2, 3, 4, 5] rfl) ?_; refine LM.f 17 rfl (by kernel_rfl) (Hq [0, 1, 2, 3, 4, 5] rfl) ?_
     refine L.alloc rfl rfl rfl (fun A15 => ?_)
     refine L.nil (QE.m (by kernel_rfl) ?_)
     refine LM.cut [] (by kernel_rfl) (Hq [0, 1, 2, 3, 4, 5] rfl) ?_; refine LM.f 18 rfl (by kernel_rfl) trivial ?_; refine L.storeA (j := 1) rfl rfl rfl rfl rfl (Nat.zero_lt_succ _) rfl rfl ?_
     refine L.nil (QE.m (by kernel_rfl) ?_)
     refine LM.nil (by kernel_rfl) trivial ?_; refine QE.seq (C.seq (C.region ?_)); refine L.step (Ev.fieldAddr rfl rfl rfl rfl rfl rfl (Src.r 1 rfl) (Nat.zero_lt_succ _) rfl) rfl ?_; refine L.step (Ev.load rfl rfl rfl (Src.r 1 rfl) rfl) rfl ?_; refine Lpu rfl rfl ?_; refine Lpu rfl rfl ?_; refine L.nil (QE.seq (C.seq (C.region ?_))); refine L.step (Ev.fieldAddr rfl rfl rfl rfl rfl rfl (Src.o 1 rfl) (Nat.zero_lt_succ _) rfl) rfl ?_; refine L.step (Ev.load rfl rfl rfl (Src.o 1 rfl) rfl) rfl ?_; refine L.step (Ev.fieldAddr rfl rfl rfl rfl rfl rfl (Src.o 1 rfl) (Nat.zero_lt_succ _) rfl) rfl ?_; refine L.step (Ev.load rfl rfl rfl (Src.o 1 rfl) rfl) rfl ?_; refine L.step (Ev.add rfl rfl (by omega) (by omega)) rfl ?_; refine Lpu rfl rfl ?_; refine L.step (Ev.mul rfl rfl (by omega) (by omega)) rfl ?_; refine L.step (Ev.add rfl rfl (by omega) (by omega)) rfl ?_; refine L.step (Ev.cast (u := .int .i64 (((ndN (ndU (ndT old (runB old (symL ops)) S seq) S) st.length seq.length) : Nat) : Int)) (Ev.add rfl rfl (by omega) (by omega)) (congrArg (Value.int .i64) (by unfold ndN; omega))) rfl ?_; refine Lpu rfl rfl ?_; refine L.nil (QE.seq (C.seq ?_))
     have hNN : (ndN (ndU (ndT old (runB old (symL ops)) S seq) S) st.length seq.length) ≤ 3000000 := by unfold ndN; omega
     have hW1 : 1 ≤ ndW S := by unfold ndW; omega
     have hCq := ndQ_le (ndN (ndU (ndT old (runB old (symL ops)) S seq) S) st.length seq.length) (ndW S)
     refine C.region ?_; refine Lpu rfl rfl ?_; refine L.step (Ev.fieldAddr rfl rfl rfl rfl rfl rfl (Src.r 1 rfl) (Nat.zero_lt_succ _) rfl) rfl ?_; refine L.step (Ev.load rfl rfl rfl (Src.r 1 rfl) rfl) rfl ?_; refine L.step (Ev.sub rfl rfl (by omega) (by omega)) rfl ?_; refine L.step (Ev.quo30 (q := (S - 8) / 30) rfl rfl rfl tdiv30 (by omega) (by omega)) rfl ?_; refine L.step (Ev.cast (u := .int .i64 (((ndW S) : Nat) : Int)) (Ev.cast (u := .int .i64 (max 1 (((S - 8) / 30 : Nat) : Int))) (Ev.pure rfl) (congrArg (Value.int .i64) (by simp only [if_true]; split <;> omega))) (congrArg (Value.int .i64) (by unfold ndW; omega))) rfl ?_; refine L.step (Ev.cast (u := .int .i64 (((ndQ (ndN (ndU (ndT old (runB old (symL ops)) S seq) S) st.length seq.length) (ndW S)) : Nat) : Int)) (Ev.quo rfl rfl (by omega) (by omega) (by omega)) (congrArg (Value.int .i64) (by unfold ndQ; exact (Int.natCast_ediv _ _).symm))) rfl ?_; refine L.step (Ev.cast (u := .int .i64 (((ndC (ndN (ndU (ndT old (runB old (symL ops)) S seq) S) st.length seq.length) (ndW S)) : Nat) : Int)) (Ev.add rfl rfl (by omega) (by omega)) (congrArg (Value.int .i64) (by unfold ndC; omega))) rfl ?_; refine Lpu rfl rfl ?_; refine L.nil (QE.seq (C.seq ?_))
     have hCC : (ndC (ndN (ndU (ndT old (runB old (symL ops)) S seq) S) st.length seq.length) (ndW S)) ≤ 3000001 := by unfold ndC; omega
     refine C.region ?_; refine L.step (Ev.fieldAddr rfl rfl rfl rfl rfl rfl (Src.o 1 rfl) (Nat.zero_lt_succ _) rfl) rfl ?_; refine L.step (Ev.load rfl rfl rfl (Src.o 1 rfl) rfl) rfl ?_; refine L.step (Ev.fieldAddr rfl rfl rfl rfl rfl rfl (Src.o 1 rfl) (Nat.zero_lt_succ _) rfl) rfl ?_; refine L.step (Ev.load rfl rfl rfl (Src.o 1 rfl) rfl) rfl ?_; refine L.step (Ev.add rfl rfl (by omega) (by omega)) rfl ?_; refine Lpu rfl rfl ?_; refine L.step (Ev.mul rfl rfl (by omega) (by omega)) rfl ?_; refine L.step (Ev.add rfl rfl (by omega) (by omega)) rfl ?_; refine L.step (Ev.add rfl rfl (by omega) (by omega)) rfl ?_; refine Lpu rfl rfl ?_; refine L.step (Ev.cast (u := .int .i64 (((ndEr (ndU (ndT old (runB old (symL ops)) S seq) S) st.length seq.length (ndC (ndN (ndU (ndT old (runB old (symL ops)) S seq) S) st.length seq.length) (ndW S))) : Nat) : Int)) (Ev.add rfl rfl (by omega) (by omega)) (congrArg (Value.int .i64) (by unfold ndEr; omega))) rfl ?_; refine L.step (Ev.fieldAddr rfl rfl rfl rfl rfl rfl (Src.o 1 rfl) (Nat.zero_lt_succ _) rfl) rfl ?_; refine L.store (j := 1) rfl rfl rfl rfl rfl rfl rfl rfl ?_; refine L.nil (QE.seq (C.seq (C.region ?_))); refine L.step (Ev.fieldAddr rfl rfl rfl rfl rfl rfl (Src.o 1 rfl) (Nat.zero_lt_succ _) rfl) rfl ?_; refine L.step (Ev.load rfl rfl rfl (Src.o 1 rfl) rfl) rfl ?_; refine L.step (Ev.mul rfl rfl (by omega) (by omega)) rfl ?_; refine L.step (Ev.fieldAddr rfl rfl rfl rfl rfl rfl (Src.o 1 rfl) (Nat.zero_lt_succ _) rfl) rfl ?_; refine L.step (Ev.load rfl rfl rfl (Src.o 1 rfl) rfl) rfl ?_; refine L.step (Ev.mul rfl rfl (by omega) (by omega)) rfl ?_; refine L.step (Ev.add rfl rfl (by omega) (by omega)) rfl ?_; refine Lpu rfl rfl ?_; refine L.step (Ev.mul rfl rfl (by omega) (by omega)) rfl ?_; refine L.step (Ev.add rfl rfl (by omega) (by omega)) rfl ?_; refine L.step (Ev.add rfl rfl (by omega) (by omega)) rfl ?_; refine Lpu rfl rfl ?_; refine L.step (Ev.add rfl rfl (by omega) (by omega)) rfl ?_; refine Lpu rfl rfl ?_; refine L.step (Ev.mul rfl rfl (by omega) (by omega)) rfl ?_; refine L.step (Ev.cast (u := .int .i64 (((ndOp (ndU (ndT old (runB old (symL ops)) S seq) S) st.length seq.length (ndN (ndU (ndT old (runB old (symL ops)) S seq) S) st.length seq.length) (ndC (ndN (ndU (ndT old (runB old (symL ops)) S seq) S) st.length seq.length) (ndW S))) : Nat) : Int)) (Ev.add rfl rfl (by omega) (by omega)) (congrArg (Value.int .i64) (by unfold ndOp; omega))) rfl ?_; refine L.step (Ev.fieldAddr rfl rfl rfl rfl rfl rfl (Src.o 1 rfl) (Nat.zero_lt_succ _) rfl) rfl ?_; refine L.store (j := 1) rfl rfl rfl rfl rfl rfl rfl rfl ?_; refine L.nil (QE.seq (C.seq (C.region ?_))); refine L.step (Ev.loadA (vs := [.int .i64 (st.length : Int), .int .i64 (((ndU (ndT old (runB old (symL ops)) S seq) S) : Nat) : Int), .int .i64 ((2 * S + (ndG old (runB old (symL ops)) S seq) : Nat) : Int), .int .i64 ((ndEr (ndU (ndT old (runB old (symL ops)) S seq) S) st.length seq.length (ndC (ndN (ndU (ndT old (runB old (symL ops)) S seq) S) st.length seq.length) (ndW S)) : Nat) : Int), .int .i64 ((ndOp (ndU (ndT old (runB old (symL ops)) S seq) S) st.length seq.length (ndN (ndU (ndT old (runB old (symL ops)) S seq) S) st.length seq.length) (ndC (ndN (ndU (ndT old (runB old (symL ops)) S seq) S) st.length seq.length) (ndW S)) : Nat) : Int)]) rfl rfl rfl (Src.o 1 rfl) rfl rfl (by decide)) rfl ?_; refine L.storeA (j := 0) rfl rfl rfl rfl rfl (Nat.zero_lt_succ _) rfl rfl ?_; refine Lpu rfl rfl ?_; refine L.nil (QE.seq (C.ret ?_)); refine QE.ret (js := []) (hs := []) (vs := [_, _]) rfl ⟨⟨_, _, 0, _, rfl, rfl, Src.o 0 rfl, .inl ⟨rfl, by decide, _, rfl, rfl, rfl⟩⟩, rfl, trivial⟩ (by decide) ?_
     have hE : needE false (S : Int) (n : Int) inn out ops seq st old = 0 := needE_0 hvl hin (by rw [Int.toNat_natCast]; omega)
     have hV := needV_ok hE
     rw [Int.toNat_natCast] at hV
     rw [hE, hV]
     exact ⟨rfl, rfl, rfl⟩

set_option maxHeartbeats 3000000 in
theorem needsR_c (BA : Option Addr) (old : List UInt8) (bc : Nat) (sz n : Int) (lf : Bool) (inn out : Int) (ops : List Po) (seq st : List Int) (OA QA HA : Option Addr) (oc qc hc : Nat) (hops : ops.length ≤ 9223372036854775807) (hql : seq.length ≤ 1000000) (hhl : st.length ≤ 1000000) (hol : old.length ≤ 9223372036854775807) (_hbc : old.length ≤ bc) :
   Ctr X 16 [.slice BA old.length bc, .agg (List.toArray [.int .i64 sz, .int .i64 n, .bool lf, .int .i64 inn, .int .i64 out, .slice OA ops.length oc, .slice QA seq.length qc, .slice HA st.length hc])] [Rd BA (U8 old), Rd OA (opsV ops), Rd QA (I64 seq), Rd HA (I64 st)] [] (fun v R' H' => v = .tuple #[.agg (List.toArray [.int .i64 (needV lf sz n inn out ops seq st old).s, .int .i64 (needV lf sz n inn out ops seq st old).u, .int .i64 (needV lf sz n inn out ops seq st old).r, .int .i64 (needV lf sz n inn out ops seq st old).e, .int .i64 (needV lf sz n inn out ops seq st old).o]), .int .i64 (needE lf sz n inn out ops seq st old)] ∧ R' = [] ∧ H' = []) := by
 refine Ctr.of (X := X) (fn := Tryz.f16) Tryz.func16 rfl (by kernel_rfl) rfl ?_
 intro β
 refine C.seq (C.region ?_)
 refine L.boxA rfl rfl (fun A3 => ?_)
 refine L.alloc rfl rfl rfl (fun A4 => ?_)
 refine Lpu rfl rfl ?_; refine L.nil (QE.seq (C.seq ?_)); refine C.freeze 0 rfl [1] (by decide) (by decide) ?_; refine C.norm (H' := [_]) [0] ⟨rfl, trivial⟩ (by decide) ?_; refine C.region ?_; refine L.step (Ev.loadA (vs := [.int .i64 sz, .int .i64 n, .bool lf, .int .i64 inn, .int .i64 out, .slice OA ops.length oc, .slice QA seq.length qc, .slice HA st.length hc]) rfl rfl rfl (Src.r 0 rfl) rfl rfl (by decide)) rfl ?_; refine L.call (js := []) (js' := [0]) (validR_c sz n lf inn out ops seq st OA QA HA oc qc hc hops hql hhl) rfl rfl rfl (by decide) (Hq [2, 3, 4] rfl) rfl ?_
 rintro _ _ _ ⟨rfl, rfl, rfl⟩
 refine L.norm (H' := [_]) [0] ⟨rfl, trivial⟩ (by decide) ?_; refine Lpu rfl rfl ?_; refine L.nil (QE.seq (C.seq (C.seq (C.region ?_)))); refine Lpu rfl rfl ?_; refine Lpu rfl rfl ?_; refine L.nil (QE.seq ?_)
 refine C.condB 22 rfl (fun hc22 => ?_) (fun hc22 => ?_)
 ·
  have hvl : vldB lf sz n inn out ops seq st = false := by simpa using hc22
  refine C.seq (C.region ?_); refine L.step (Ev.build rfl rfl rfl rfl rfl rfl rfl) rfl ?_; refine L.storeA (j := 0) rfl rfl rfl rfl rfl (Nat.zero_lt_succ _) rfl rfl ?_; refine Lpu rfl rfl ?_; refine L.nil (QE.seq (C.ret (QE.tR ?_))); refine QE.ret (js := []) (hs := []) (vs := [_, _]) rfl ⟨⟨_, _, 0, _, rfl, rfl, Src.o 0 rfl, .inl ⟨rfl, by decide, _, rfl, rfl, rfl⟩⟩, rfl, trivial⟩ (by decide) ?_
  have hE : needE lf sz n inn out ops seq st old = _ := needE_1 hvl
  have hV := needV_no (by rw [hE]; decide : needE lf sz n inn out ops seq st old ≠ 0)
  rw [hE, hV]
  exact ⟨rfl, rfl, rfl⟩
 ·
  refine C.skip (QE.seq (C.seq (C.seq (C.region ?_)))); refine Lpu rfl rfl ?_; refine Lpu rfl rfl ?_; refine L.step (Ev.fieldAddr rfl rfl rfl rfl rfl rfl (Src.r 0 rfl) (Nat.zero_lt_succ _) rfl) rfl ?_; refine L.step (Ev.fieldAddr rfl rfl rfl rfl rfl rfl (Src.r 0 rfl) (Nat.zero_lt_succ _) rfl) rfl ?_; refine L.step (Ev.load rfl rfl rfl (Src.r 0 rfl) rfl) rfl ?_; refine Lpu rfl rfl ?_; refine L.nil (QE.seq ?_)
  refine C.condB 29 rfl (fun hc29 => ?_) (fun hc29 => ?_)
  ·
   replace hc29 := b_ne hc29
   have hne : (old.length : Int) ≠ inn := hc29
   have hvl : vldB lf sz n inn out ops seq st = true := by simpa using hc22
   refine C.seq (C.region ?_); refine L.step (Ev.build rfl rfl rfl rfl rfl rfl rfl) rfl ?_; refine L.storeA (j := 0) rfl rfl rfl rfl rfl (Nat.zero_lt_succ _) rfl rfl ?_; refine Lpu rfl rfl ?_; refine L.nil (QE.seq (C.ret (QE.tR ?_))); refine QE.ret (js := []) (hs := []) (vs := [_, _]) rfl ⟨⟨_, _, 0, _, rfl, rfl, Src.o 0 rfl, .inl ⟨rfl, by decide, _, rfl, rfl, rfl⟩⟩, rfl, trivial⟩ (by decide) ?_
   have hE : needE lf sz n inn out ops seq st old = _ := needE_2 hvl hne
   have hV := needV_no (by rw [hE]; decide : needE lf sz n inn out ops seq st old ≠ 0)
   rw [hE, hV]
   exact ⟨rfl, rfl, rfl⟩
  ·
   replace hc29 := b_eq hc29
   have hin : (old.length : Int) = inn := hc29
   have hvl : vldB lf sz n inn out ops seq st = true := by simpa using hc22
   obtain ⟨hE0, hlf0, hszb0, -, -, -⟩ := val_iff.1 hvl
   have hseq := val_seq hvl
   have hszb := sizB_iff.1 hszb0
   subst hlf0
   obtain ⟨S, rfl⟩ : ∃ q : Nat, sz = (q : Int) := ⟨sz.toNat, by omega⟩
   obtain ⟨n, rfl⟩ : ∃ q : Nat, n = (q : Int) := ⟨n.toNat, by omega⟩
   rw [Int.toNat_natCast, Int.toNat_natCast] at hseq
   obtain ⟨hS1, hS2, hn1, hn2, hi1, hi2⟩ : 1 ≤ S ∧ S ≤ 4096 ∧ 1 ≤ n ∧ n ≤ 64 ∧ inn ≤ (S : Int) * (n : Int) ∧ out ≤ (S : Int) * (n : Int) := ⟨by omega, by omega, by omega, by omega, hszb.2.2.2.2.1, hszb.2.2.2.2.2⟩
   have hcl := chgL_len (symL ops) inn S n
   have hk64 : seq.length ≤ 64 := by omega
   obtain ⟨k1, k2, k3, k4, k5, k6⟩ := chkE_ok hE0
   have hsl : ((symL ops).length : Int) = out := chkG_tot ops out k3 k6
   have hnl : (runB old (symL ops)).length = (symL ops).length := runB_len _ _
   have hol2 : old.length ≤ 65536 := by omega
   have hsy : syS inn out ops = symL ops := by unfold syS; rw [if_pos hE0]
   refine C.skip (QE.seq (C.seq (C.region ?_))); refine Lpu rfl rfl ?_; refine L.step (Ev.fieldAddr rfl rfl rfl rfl rfl rfl (Src.r 0 rfl) (Nat.zero_lt_succ _) rfl) rfl ?_; refine L.step (Ev.loadA (vs := [.bool false, .int .i64 inn, .int .i64 out, .slice OA ops.length oc]) rfl rfl rfl (Src.r 0 rfl) rfl rfl (by decide)) rfl ?_; refine L.call (js := []) (js' := [0]) (applyR_c BA old bc false inn out ops OA oc hops (by omega) rfl hE0 hin.symm) rfl rfl rfl (by decide) (Hq [1, 2] rfl) rfl ?_
   rw [hsy]
   rintro _ _ _ ⟨NA, nc, rfl, rfl, rfl⟩
   refine L.norm (H' := [_, _]) [0, 1] ⟨rfl, rfl, trivial⟩ (by decide) ?_; refine Lpu rfl rfl ?_; refine Lpu rfl rfl ?_; refine Lpu rfl rfl ?_; refine Lpu rfl rfl ?_; refine Lpu rfl rfl ?_; refine L.nil (QE.seq (C.seq ?_)); refine C.freeze 0 rfl [1] (by decide) (by decide) ?_; refine C.norm (H' := [_]) [0] ⟨rfl, trivial⟩ (by decide) ?_; refine C.region ?_; refine Lpu rfl rfl ?_; refine L.nil (QE.seq (C.seq (C.region ?_))); refine Lpu rfl rfl ?_; refine L.nil (QE.seq (C.seq (C.seq (C.region ?_)))); refine Lpu rfl rfl ?_; refine L.nil (QE.seq (C.block ?_)); refine C.loop (fun i : Nat => [(0, .slice BA old.length bc), (3, ptrOf A3 0), (4, ptrOf A4 0), (7, .slice NA (runB old (symL ops)).length nc), (11, .int .i64 (i : Int)), (9, .int .i64 (((ndT old (runB old (symL ops)) S (seq.take i)) : Nat) : Int)), (10, .int .i64 (((ndG old (runB old (symL ops)) S (seq.take i)) : Nat) : Int))]) (fun i : Nat => [Rd NA (U8 (runB old (symL ops))), Rd A3 [.int .i64 (S : Int), .int .i64 (n : Int), .bool false, .int .i64 inn, .int .i64 out, .slice OA ops.length oc, .slice QA seq.length qc, .slice HA st.length hc], Rd BA (U8 old), Rd OA (opsV ops), Rd QA (I64 seq), Rd HA (I64 st)]) (fun i : Nat => [Own 43 5 A4 1 1 [.int .i64 0, .int .i64 0, .int .i64 0, .int .i64 0, .int .i64 0]]) (fun i : Nat => i ≤ seq.length) (fun i : Nat => seq.length - i) 0 (Nat.zero_le _) (by exact Le.mk' (rs := [0, 1, 2, 3, 4, 5]) (hs := [0]) ⟨rfl, rfl, rfl, rfl, rfl, rfl, rfl, trivial⟩ ⟨rfl, rfl, rfl, rfl, rfl, rfl, trivial⟩ ⟨rfl, trivial⟩ (by decide)) ?_
   intro i hi
   refine C.seq (C.seq (C.region ?_)); refine Lpu rfl rfl ?_; refine L.step (Ev.fieldAddr rfl rfl rfl rfl rfl rfl (Src.r 1 rfl) (Nat.zero_lt_succ _) rfl) rfl ?_; refine L.step (Ev.load rfl rfl rfl (Src.r 1 rfl) rfl) rfl ?_; refine Lpu rfl rfl ?_; refine Lpu rfl rfl ?_; refine L.nil (QE.seq ?_)
   refine C.condB 42 rfl (fun hc42 => ?_) (fun hc42 => ?_)
   ·
    replace hc42 := of_decide_eq_true hc42
    refine C.skip (QE.seq (C.seq (C.block (C.seq ?_))))
    obtain ⟨t, hst, htn, htc⟩ := hseq.2 i (by omega)
    have htS : t * S ≤ 64 * 4096 := Nat.mul_le_mul (by omega) hS2
    refine C.regionM [Rd NA (U8 (runB old (symL ops))), Rd A3 [.int .i64 (S : Int), .int .i64 (n : Int), .bool false, .int .i64 inn, .int .i64 out, .slice OA ops.length oc, .slice QA seq.length qc, .slice HA st.length hc], Rd BA (U8 old), Rd OA (opsV ops), Rd QA (I64 seq), Rd HA (I64 st)] (Hq [0, 1, 2, 3, 4, 5] rfl) ?_; refine LM.q 0 rfl (by kernel_rfl) (Ev.pure rfl) rfl (Hq [0, 1, 2, 3, 4, 5] rfl) ?_; refine LM.q 1 rfl (by kernel_rfl) (Ev.fieldAddr rfl rfl rfl rfl rfl rfl (Src.r 1 rfl) (Nat.zero_lt_succ _) rfl) rfl (Hq [0, 1, 2, 3, 4, 5] rfl) ?_; refine LM.q 2 rfl (by kernel_rfl) (Ev.load rfl rfl rfl (Src.r 1 rfl) rfl) rfl (Hq [0, 1, 2, 3, 4, 5] rfl) ?_; refine LM.q 3 rfl (by kernel_rfl) (Ev.pure rfl) rfl (Hq [0, 1, 2, 3, 4, 5] rfl) ?_; refine LM.q 4 rfl (by kernel_rfl) (Ev.idx1 (k := i) rfl rfl rfl rfl rfl rfl rfl (by omega) (Src.r 4 rfl) (by rw [I64_len]; omega)) rfl (Hq [0, 1, 2, 3, 4, 5] rfl) ?_; refine LM.q 5 rfl (by kernel_rfl) (Ev.cast (u := .int .i64 (t : Int)) (Ev.load rfl rfl rfl (Src.r 4 rfl) (I64_get (by omega))) (congrArg (Value.int .i64) hst)) rfl (Hq [0, 1, 2, 3, 4, 5] rfl) ?_; refine LM.q 6 rfl (by kernel_rfl) (Ev.fieldAddr rfl rfl rfl rfl rfl rfl (Src.r 1 rfl) (Nat.zero_lt_succ _) rfl) rfl (Hq [0, 1, 2, 3, 4, 5] rfl) ?_; refine LM.q 7 rfl (by kernel_rfl) (Ev.load rfl rfl rfl (Src.r 1 rfl) rfl) rfl (Hq [0, 1, 2, 3, 4, 5] rfl) ?_; refine LM.q 9 rfl (by kernel_rfl) (Ev.pure rfl) rfl (Hq [0, 1, 2, 3, 4, 5] rfl) ?_; refine LM.q 10 rfl (by kernel_rfl) (Ev.fieldAddr rfl rfl rfl rfl rfl rfl (Src.r 1 rfl) (Nat.zero_lt_succ _) rfl) rfl (Hq [0, 1, 2, 3, 4, 5] rfl) ?_; refine LM.q 11 rfl (by kernel_rfl) (Ev.load rfl rfl rfl (Src.r 1 rfl) rfl) rfl (Hq [0, 1, 2, 3, 4, 5] rfl) ?_; refine LM.q 12 rfl (by kernel_rfl) (Ev.pure rfl) rfl (Hq [0, 1, 2, 3, 4, 5] rfl) ?_; refine LM.q 13 rfl (by kernel_rfl) (Ev.idx1 (k := i) rfl rfl rfl rfl rfl rfl rfl (by omega) (Src.r 4 rfl) (by rw [I64_len]; omega)) rfl (Hq [0, 1, 2, 3, 4, 5] rfl) ?_; refine LM.q 14 rfl (by kernel_rfl) (Ev.cast (u := .int .i64 (t : Int)) (Ev.load rfl rfl rfl (Src.r 4 rfl) (I64_get (by omega))) (congrArg (Value.int .i64) hst)) rfl (Hq [0, 1, 2, 3, 4, 5] rfl) ?_; refine LM.q 15 rfl (by kernel_rfl) (Ev.fieldAddr rfl rfl rfl rfl rfl rfl (Src.r 1 rfl) (Nat.zero_lt_succ _) rfl) rfl (Hq [0, 1, 2, 3, 4, 5] rfl) ?_; refine LM.q 16 rfl (by kernel_rfl) (Ev.load rfl rfl rfl (Src.r 1 rfl) rfl) rfl (Hq [0, 1, 2, 3, 4, 5] rfl) ?_; refine LM.f 8 rfl (by kernel_rfl) (Hq [0, 1, 2, 3, 4, 5] rfl) ?_; refine L.call (js := []) (js' := [0]) (contentsR_c BA old bc t S (by omega) (by omega) (by omega) hS1 hS2) rfl rfl rfl (by decide) (Hq [2] rfl) rfl ?_
    rintro _ _ _ ⟨A53, c53, rfl, rfl, rfl⟩
    refine L.norm (H' := [_, _]) [0, 1] ⟨rfl, rfl, trivial⟩ (by decide) ?_
    refine L.nil (QE.m (by kernel_rfl) ?_)
    refine LM.cut [] (by kernel_rfl) (Hq [0, 1, 2, 3, 4, 5] rfl) ?_; refine LM.f 17 rfl (by kernel_rfl) trivial ?_; refine L.call (js := []) (js' := [0, 1]) (contentsR_c NA (runB old (symL ops)) nc t S (by omega) (by omega) (by omega) hS1 hS2) rfl rfl rfl (by decide) (Hq [0] rfl) rfl ?_
    rintro _ _ _ ⟨A62, c62, rfl, rfl, rfl⟩
    refine L.norm (H' := [_, _, _]) [0, 1, 2] ⟨rfl, rfl, rfl, trivial⟩ (by decide) ?_
    refine L.nil (QE.m (by kernel_rfl) ?_)
    refine LM.f 18 rfl (by kernel_rfl) trivial ?_; refine L.call (js := []) (js' := [0, 1, 2]) (recSize_c A53 A62 (ctF old t S) (ctF (runB old (symL ops)) t S) c53 c62 S S (ctF_len _ _ _) (ctF_len _ _ _) (by rw [ctF_len, ctF_len]) (by rw [ctF_len]; omega)) rfl rfl rfl (by decide) ⟨(Has.o 1 rfl), (Has.o 0 rfl), trivial⟩ rfl ?_
    rintro _ _ _ ⟨rfl, rfl, rfl⟩
    refine L.norm (H' := [_, _, _]) [0, 1, 2] ⟨rfl, rfl, rfl, trivial⟩ (by decide) ?_
    refine L.nil (QE.m (by kernel_rfl) ?_)
    refine LM.f 19 rfl (by kernel_rfl) trivial ?_; refine Lpu rfl rfl ?_
    refine L.nil (QE.m (by kernel_rfl) ?_)
    refine LM.nil (by kernel_rfl) trivial ?_; refine QE.seq (C.seq ?_)
    have hrl := recN_le (ctF old t S) (ctF (runB old (symL ops)) t S)
    have hcfl := ctF_len old t S
    have hTi := ndT_le (old := old) (new := (runB old (symL ops))) (seq := seq) hS2 i
    have hGi := ndG_le (old := old) (new := (runB old (symL ops))) (seq := seq) hS2 i
    refine C.region ?_; refine Lpu rfl rfl ?_; refine Lpu rfl rfl ?_; refine L.step (Ev.add rfl rfl (by omega) (by omega)) rfl ?_; refine Lpu rfl rfl ?_; refine L.nil (QE.seq (C.region ?_)); refine Lpu rfl rfl ?_; refine Lpu rfl rfl ?_; refine L.step (Ev.cast (u := .int .i64 (max (((ndG old (runB old (symL ops)) S (seq.take i)) : Nat) : Int) ((recN (ctF old t S) (ctF (runB old (symL ops)) t S) : Nat) : Int))) (Ev.pure rfl) (congrArg (Value.int .i64) (by simp only [if_true]; split <;> omega))) rfl ?_; refine Lpu rfl rfl ?_; refine L.nil ?_; refine QE.blkN ?_; refine QE.seq (C.region ?_); refine Lpu rfl rfl ?_; refine L.step (Ev.add rfl rfl (by omega) (by omega)) rfl ?_; refine Lpu rfl rfl ?_; refine L.nil ?_
    have hsT := ndT_succ (old := old) (new := (runB old (symL ops))) (S := S) (seq := seq) (i := i) (by omega)
    have hsG := ndG_succ (old := old) (new := (runB old (symL ops))) (S := S) (seq := seq) (i := i) (by omega)
    have hsR : ndR old (runB old (symL ops)) S (seq.getD i 0) = recN (ctF old t S) (ctF (runB old (symL ops)) t S) := by rw [hst]; rfl
    refine QE.round (i + 1) (by omega) (by omega) (by exact Le.mk' (rs := [0, 1, 2, 3, 4, 5]) (hs := [2]) ⟨rfl, rfl, rfl, rfl, rfl, (congrArg some (congrArg (Value.int .i64) (by omega))), (congrArg some (congrArg (Value.int .i64) (by omega))), trivial⟩ ⟨rfl, rfl, rfl, rfl, rfl, rfl, trivial⟩ ⟨rfl, trivial⟩ (by decide))
   ·
    replace hc42 := of_decide_eq_false hc42
    refine C.exit ?_; refine QE.tX ?_; refine QE.tX ?_; refine QE.blk ?_; refine QE.seq (C.seq (C.seq ?_))
    obtain rfl : i = seq.length := by omega
    rw [List.take_length]
    refine C.region ?_; refine Lpu rfl rfl ?_; refine Lpu rfl rfl ?_; refine L.nil (QE.seq ?_)
    refine C.condB 71 rfl (fun hc71 => ?_) (fun hc71 => ?_)
    ·
     replace hc71 := of_decide_eq_true hc71
     refine C.seq (C.region ?_); refine L.step (Ev.build rfl rfl rfl rfl rfl rfl rfl) rfl ?_; refine L.storeA (j := 0) rfl rfl rfl rfl rfl (Nat.zero_lt_succ _) rfl rfl ?_; refine Lpu rfl rfl ?_; refine L.nil (QE.seq (C.ret (QE.tR ?_))); refine QE.ret (js := []) (hs := []) (vs := [_, _]) rfl ⟨⟨_, _, 0, _, rfl, rfl, Src.o 0 rfl, .inl ⟨rfl, by decide, _, rfl, rfl, rfl⟩⟩, rfl, trivial⟩ (by decide) ?_
     have hE : needE false (S : Int) (n : Int) inn out ops seq st old = 2 := needE_3 hvl hin (by rw [Int.toNat_natCast]; omega)
     have hV := needV_no (by rw [hE]; decide : needE false (S : Int) (n : Int) inn out ops seq st old ≠ 0)
     rw [hE, hV]
     exact ⟨rfl, rfl, rfl⟩
    ·
     replace hc71 := of_decide_eq_false hc71
     refine C.skip (QE.seq (C.seq ?_))
     have hT := ndT_le (old := old) (new := (runB old (symL ops))) (seq := seq) hS2 seq.length
     rw [List.take_length] at hT
     have hG := ndG_le (old := old) (new := (runB old (symL ops))) (seq := seq) hS2 seq.length
     rw [List.take_length] at hG
     have hU : (ndU (ndT old (runB old (symL ops)) S seq) S) ≤ (ndT old (runB old (symL ops)) S seq) + S := ndU_le
     refine C.region ?_; refine Lpu rfl rfl ?_; refine L.step (Ev.fieldAddr rfl rfl rfl rfl rfl rfl (Src.r 1 rfl) (Nat.zero_lt_succ _) rfl) rfl ?_; refine L.step (Ev.load rfl rfl rfl (Src.r 1 rfl) rfl) rfl ?_; refine L.step (Ev.add rfl rfl (by omega) (by omega)) rfl ?_; refine L.step (Ev.sub rfl rfl (by omega) (by omega)) rfl ?_; refine L.step (Ev.fieldAddr rfl rfl rfl rfl rfl rfl (Src.r 1 rfl) (Nat.zero_lt_succ _) rfl) rfl ?_; refine L.step (Ev.load rfl rfl rfl (Src.r 1 rfl) rfl) rfl ?_; refine L.step (Ev.cast (u := .int .i64 (((ndU (ndT old (runB old (symL ops)) S seq) S) : Nat) : Int)) (Ev.quo rfl rfl (by omega) (by omega) (by omega)) (congrArg (Value.int .i64) (by unfold ndU; rw [show (((ndT old (runB old (symL ops)) S seq) : Nat) : Int) + (S : Int) - 1 = (((ndT old (runB old (symL ops)) S seq) + S - 1 : Nat) : Int) by omega]; exact (Int.natCast_ediv _ _).symm))) rfl ?_; refine Lpu rfl rfl ?_; refine L.nil (QE.seq (C.seq (C.region ?_))); refine L.step (Ev.fieldAddr rfl rfl rfl rfl rfl rfl (Src.r 1 rfl) (Nat.zero_lt_succ _) rfl) rfl ?_; refine L.step (Ev.load rfl rfl rfl (Src.r 1 rfl) rfl) rfl ?_; refine Lpu rfl rfl ?_; refine Lpu rfl rfl ?_; refine L.nil (QE.seq (C.seq (C.region ?_))); refine L.step (Ev.fieldAddr rfl rfl rfl rfl rfl rfl (Src.r 1 rfl) (Nat.zero_lt_succ _) rfl) rfl ?_; refine L.step (Ev.load rfl rfl rfl (Src.r 1 rfl) rfl) rfl ?_; refine Lpu rfl rfl ?_; refine Lpu rfl rfl ?_; refine L.nil (QE.seq (C.seq (C.region ?_))); refine Lpu rfl rfl ?_; refine Lpu rfl rfl ?_; refine L.step (Ev.add rfl rfl (by omega) (by omega)) rfl ?_; refine Lpu rfl rfl ?_; refine L.step (Ev.mul rfl rfl (by omega) (by omega)) rfl ?_; refine L.step (Ev.add rfl rfl (by omega) (by omega)) rfl ?_; refine L.step (Ev.cast (u := .int .i64 (((ndN (ndU (ndT old (runB old (symL ops)) S seq) S) st.length seq.length) : Nat) : Int)) (Ev.add rfl rfl (by omega) (by omega)) (congrArg (Value.int .i64) (by unfold ndN; omega))) rfl ?_; refine Lpu rfl rfl ?_; refine L.nil (QE.seq (C.seq ?_))
     have hNN : (ndN (ndU (ndT old (runB old (symL ops)) S seq) S) st.length seq.length) ≤ 3000000 := by unfold ndN; omega
     have hW1 : 1 ≤ ndW S := by unfold ndW; omega
     have hCq := ndQ_le (ndN (ndU (ndT old (runB old (symL ops)) S seq) S) st.length seq.length) (ndW S)
     refine C.region ?_; refine L.step (Ev.fieldAddr rfl rfl rfl rfl rfl rfl (Src.r 1 rfl) (Nat.zero_lt_succ _) rfl) rfl ?_; refine L.step (Ev.load rfl rfl rfl (Src.r 1 rfl) rfl) rfl ?_; refine L.step (Ev.sub rfl rfl (by omega) (by omega)) rfl ?_; refine L.step (Ev.quo30 (q := (S - 8) / 30) rfl rfl rfl tdiv30 (by omega) (by omega)) rfl ?_; refine L.step (Ev.cast (u := .int .i64 (((ndW S) : Nat) : Int)) (Ev.cast (u := .int .i64 (max 1 (((S - 8) / 30 : Nat) : Int))) (Ev.pure rfl) (congrArg (Value.int .i64) (by simp only [if_true]; split <;> omega))) (congrArg (Value.int .i64) (by unfold ndW; omega))) rfl ?_; refine Lpu rfl rfl ?_; refine L.nil (QE.seq (C.seq (C.region ?_))); refine Lpu rfl rfl ?_; refine Lpu rfl rfl ?_; refine L.step (Ev.cast (u := .int .i64 (((ndQ (ndN (ndU (ndT old (runB old (symL ops)) S seq) S) st.length seq.length) (ndW S)) : Nat) : Int)) (Ev.quo rfl rfl (by omega) (by omega) (by omega)) (congrArg (Value.int .i64) (by unfold ndQ; exact (Int.natCast_ediv _ _).symm))) rfl ?_; refine L.step (Ev.cast (u := .int .i64 (((ndC (ndN (ndU (ndT old (runB old (symL ops)) S seq) S) st.length seq.length) (ndW S)) : Nat) : Int)) (Ev.add rfl rfl (by omega) (by omega)) (congrArg (Value.int .i64) (by unfold ndC; omega))) rfl ?_; refine Lpu rfl rfl ?_; refine L.nil (QE.seq (C.seq ?_))
     have hCC : (ndC (ndN (ndU (ndT old (runB old (symL ops)) S seq) S) st.length seq.length) (ndW S)) ≤ 3000001 := by unfold ndC; omega
     refine C.region ?_; refine Lpu rfl rfl ?_; refine Lpu rfl rfl ?_; refine L.step (Ev.fieldAddr rfl rfl rfl rfl rfl rfl (Src.r 1 rfl) (Nat.zero_lt_succ _) rfl) rfl ?_; refine L.step (Ev.load rfl rfl rfl (Src.r 1 rfl) rfl) rfl ?_; refine L.step (Ev.mul rfl rfl (by omega) (by omega)) rfl ?_; refine Lpu rfl rfl ?_; refine L.step (Ev.cast (u := .int .i64 (((2 * S + (ndG old (runB old (symL ops)) S seq)) : Nat) : Int)) (Ev.add rfl rfl (by omega) (by omega)) (congrArg (Value.int .i64) (by omega))) rfl ?_; refine Lpu rfl rfl ?_; refine Lpu rfl rfl ?_; refine L.step (Ev.add rfl rfl (by omega) (by omega)) rfl ?_; refine Lpu rfl rfl ?_; refine L.step (Ev.mul rfl rfl (by omega) (by omega)) rfl ?_; refine L.step (Ev.add rfl rfl (by omega) (by omega)) rfl ?_; refine L.step (Ev.add rfl rfl (by omega) (by omega)) rfl ?_; refine Lpu rfl rfl ?_; refine L.step (Ev.cast (u := .int .i64 (((ndEr (ndU (ndT old (runB old (symL ops)) S seq) S) st.length seq.length (ndC (ndN (ndU (ndT old (runB old (symL ops)) S seq) S) st.length seq.length) (ndW S))) : Nat) : Int)) (Ev.add rfl rfl (by omega) (by omega)) (congrArg (Value.int .i64) (by unfold ndEr; omega))) rfl ?_; refine Lpu rfl rfl ?_; refine L.step (Ev.mul rfl rfl (by omega) (by omega)) rfl ?_; refine Lpu rfl rfl ?_; refine L.step (Ev.mul rfl rfl (by omega) (by omega)) rfl ?_; refine L.step (Ev.add rfl rfl (by omega) (by omega)) rfl ?_; refine Lpu rfl rfl ?_; refine L.step (Ev.mul rfl rfl (by omega) (by omega)) rfl ?_; refine L.step (Ev.add rfl rfl (by omega) (by omega)) rfl ?_; refine L.step (Ev.add rfl rfl (by omega) (by omega)) rfl ?_; refine Lpu rfl rfl ?_; refine L.step (Ev.add rfl rfl (by omega) (by omega)) rfl ?_; refine Lpu rfl rfl ?_; refine L.step (Ev.mul rfl rfl (by omega) (by omega)) rfl ?_; refine L.step (Ev.cast (u := .int .i64 (((ndOp (ndU (ndT old (runB old (symL ops)) S seq) S) st.length seq.length (ndN (ndU (ndT old (runB old (symL ops)) S seq) S) st.length seq.length) (ndC (ndN (ndU (ndT old (runB old (symL ops)) S seq) S) st.length seq.length) (ndW S))) : Nat) : Int)) (Ev.add rfl rfl (by omega) (by omega)) (congrArg (Value.int .i64) (by unfold ndOp; omega))) rfl ?_; refine L.step (Ev.build rfl rfl rfl rfl rfl rfl rfl) rfl ?_; refine L.storeA (j := 0) rfl rfl rfl rfl rfl (Nat.zero_lt_succ _) rfl rfl ?_; refine Lpu rfl rfl ?_; refine L.nil (QE.seq (C.ret ?_)); refine QE.ret (js := []) (hs := []) (vs := [_, _]) rfl ⟨⟨_, _, 0, _, rfl, rfl, Src.o 0 rfl, .inl ⟨rfl, by decide, _, rfl, rfl, rfl⟩⟩, rfl, trivial⟩ (by decide) ?_
     have hE : needE false (S : Int) (n : Int) inn out ops seq st old = 0 := needE_0 hvl hin (by rw [Int.toNat_natCast]; omega)
     have hV := needV_ok hE
     rw [Int.toNat_natCast] at hV
     rw [hE, hV]
     exact ⟨rfl, rfl, rfl⟩

end Go.Proofs.YtpccfdnmnnnboaaGreat
