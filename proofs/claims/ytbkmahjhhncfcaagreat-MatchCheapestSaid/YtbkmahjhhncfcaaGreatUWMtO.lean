/-
  The reference: symbol, Symbols, Run, Apply.
-/
import Derived.Test.YtbkmahjhhncfcaaGreatUWMtI
import Derived.Test.YtbkmahjhhncfcaaGreatUWLaK
import Derived.Test.YtbkmahjhhncfcaaGreatULah
import Derived.Test.YtbkmahjhhncfcaaGreatUOg
import Derived.Test.YtbkmahjhhncfcaaGreatUSlT
import Derived.Test.YtbkmahjhhncfcaaGreatUWMtJ
import Derived.Test.YtbkmahjhhncfcaaGreatUMp
namespace Go.Proofs.YtbkmahjhhncfcaaGreat
open Go.Sl

theorem symbol06Q_c (x : Pq) (i : Nat) (size : Int) (hr : rigQ x size = true) (hl : (i : Int) < x.ln) (hs : size ≤ 65536) (hl0 : x.ln ≤ 65536) :
   Ctr X 75 [.agg (List.toArray x.cells), .int .i64 (i : Int)] [Rd x.A (U8 x.d)] [] (fun v R' H' => v = .agg (List.toArray (Sy.cells (symQ x i))) ∧ R' = [] ∧ H' = []) := by
 refine Ctr.of (X := X) (fn := Tryz.f75) Tryz.func75 rfl (by kernel_rfl) rfl ?_
 intro β
 have hkk := rigQ_kind hr
 refine C.seq (C.region ?_)
 refine L.boxA rfl rfl (fun A2 => ?_)
 refine L.alloc rfl rfl rfl (fun A4 => ?_)
 refine L.nil (QE.seq (C.seq (C.seq ?_))); refine C.freeze 0 rfl [1] (by decide) (by decide) ?_; refine C.region ?_; refine L.step (Ev.fieldAddr rfl rfl rfl rfl rfl rfl (Src.r 0 rfl) (Nat.zero_lt_succ _) rfl) rfl ?_; refine L.step (Ev.load rfl rfl rfl (Src.r 0 rfl) rfl) rfl ?_; refine L.nil (QE.seq (C.block (C.seq (C.region ?_)))); refine Lpu rfl rfl ?_; refine Lpu rfl rfl ?_; refine L.nil (QE.seq ?_)
 refine C.condB 7 rfl (fun hc7 => ?_) (fun hc7 => ?_)
 ·
  replace hc7 := i_eq hc7
  have hin := rigQ_in hr (.inl hc7)
  refine C.seq (C.region ?_); refine L.step (Ev.fieldAddr rfl rfl rfl rfl rfl rfl (Src.r 0 rfl) (Nat.zero_lt_succ _) rfl) rfl ?_; refine L.step (Ev.load rfl rfl rfl (Src.r 0 rfl) rfl) rfl ?_; refine Lpu rfl rfl ?_; refine L.step (Ev.add rfl rfl (by omega) (by omega)) rfl ?_; refine L.step (Ev.build rfl rfl rfl rfl rfl rfl rfl) rfl ?_; refine L.storeA (j := 0) rfl rfl rfl rfl rfl (Nat.zero_lt_succ _) rfl rfl ?_; refine L.nil (QE.seq (C.ret (QE.bR (QE.tR ?_)))); refine QE.ret (js := []) (hs := []) (vs := [_]) rfl ⟨⟨_, _, 0, _, rfl, rfl, Src.o 0 rfl, .inl ⟨rfl, by decide, _, rfl, rfl, rfl⟩⟩, trivial⟩ (by decide) ?_
  exact ⟨by unfold symQ; rw [if_pos hc7]; rfl, rfl, rfl⟩
 ·
  replace hc7 := i_ne hc7
  refine C.seq (C.region ?_); refine Lpu rfl rfl ?_; refine Lpu rfl rfl ?_; refine L.nil (QE.seq ?_)
  refine C.condB 14 rfl (fun hc14 => ?_) (fun hc14 => ?_)
  ·
   replace hc14 := i_eq hc14
   have hin := rigQ_in hr (.inr hc14)
   have hdl := rigQ_data hr (.inl hc14)
   refine C.seq ?_; refine C.regionM [Rd A2 [.int .i64 x.k, .int .i64 x.fr, .int .i64 x.ln, .int .u8 (x.b.toNat : Int), .slice x.A x.d.length x.c], Rd x.A (U8 x.d)] (Hq [0, 1] rfl) ?_; refine LM.q 0 rfl (by kernel_rfl) (Ev.fieldAddr rfl rfl rfl rfl rfl rfl (Src.r 0 rfl) (Nat.zero_lt_succ _) rfl) rfl (Hq [0, 1] rfl) ?_; refine LM.q 1 rfl (by kernel_rfl) (Ev.load rfl rfl rfl (Src.r 0 rfl) rfl) rfl (Hq [0, 1] rfl) ?_; refine LM.q 2 rfl (by kernel_rfl) (Ev.pure rfl) rfl (Hq [0, 1] rfl) ?_; refine LM.q 3 rfl (by kernel_rfl) (Ev.add rfl rfl (by omega) (by omega)) rfl (Hq [0, 1] rfl) ?_; refine LM.q 4 rfl (by kernel_rfl) (Ev.fieldAddr rfl rfl rfl rfl rfl rfl (Src.r 0 rfl) (Nat.zero_lt_succ _) rfl) rfl (Hq [0, 1] rfl) ?_; refine LM.q 5 rfl (by kernel_rfl) (Ev.load rfl rfl rfl (Src.r 0 rfl) rfl) rfl (Hq [0, 1] rfl) ?_; refine LM.f 6 rfl (by kernel_rfl) (Hq [0, 1] rfl) ?_; refine Lpu rfl rfl ?_
   refine L.nil (QE.m (by kernel_rfl) ?_)
   refine LM.f 7 rfl (by kernel_rfl) (Hq [0, 1] rfl) ?_; refine L.step (Ev.idx1 (k := i) rfl rfl rfl rfl rfl rfl rfl (by omega) (Src.r 1 rfl) (by rw [U8_len]; omega)) rfl ?_
   refine L.nil (QE.m (by kernel_rfl) ?_)
   refine LM.f 8 rfl (by kernel_rfl) (Hq [0, 1] rfl) ?_; refine L.step (Ev.load rfl rfl rfl (Src.r 1 rfl) (U8_get (by omega))) rfl ?_
   refine L.nil (QE.m (by kernel_rfl) ?_)
   refine LM.cut [] (by kernel_rfl) (Hq [0, 1] rfl) ?_; refine LM.f 9 rfl (by kernel_rfl) trivial ?_; refine L.step (Ev.build rfl rfl rfl rfl rfl rfl rfl) rfl ?_
   refine L.nil (QE.m (by kernel_rfl) ?_)
   refine LM.f 10 rfl (by kernel_rfl) trivial ?_; refine L.storeA (j := 0) rfl rfl rfl rfl rfl (Nat.zero_lt_succ _) rfl rfl ?_
   refine L.nil (QE.m (by kernel_rfl) ?_)
   refine LM.nil (by kernel_rfl) trivial ?_; refine QE.seq (C.ret (QE.bR (QE.tR ?_))); refine QE.ret (js := []) (hs := []) (vs := [_]) rfl ⟨⟨_, _, 0, _, rfl, rfl, Src.o 0 rfl, .inl ⟨rfl, by decide, _, rfl, rfl, rfl⟩⟩, trivial⟩ (by decide) ?_
   exact ⟨by unfold symQ; rw [if_neg hc7, if_pos hc14]; rfl, rfl, rfl⟩
  ·
   replace hc14 := i_ne hc14
   refine C.seq (C.region ?_); refine Lpu rfl rfl ?_; refine Lpu rfl rfl ?_; refine L.nil (QE.seq ?_)
   refine C.condB 26 rfl (fun hc26 => ?_) (fun hc26 => ?_)
   ·
    replace hc26 := i_eq hc26
    refine C.seq (C.region ?_); refine L.step (Ev.fieldAddr rfl rfl rfl rfl rfl rfl (Src.r 0 rfl) (Nat.zero_lt_succ _) rfl) rfl ?_; refine L.step (Ev.load rfl rfl rfl (Src.r 0 rfl) rfl) rfl ?_; refine L.step (Ev.build rfl rfl rfl rfl rfl rfl rfl) rfl ?_; refine L.storeA (j := 0) rfl rfl rfl rfl rfl (Nat.zero_lt_succ _) rfl rfl ?_; refine L.nil (QE.seq (C.ret (QE.bR (QE.tR ?_)))); refine QE.ret (js := []) (hs := []) (vs := [_]) rfl ⟨⟨_, _, 0, _, rfl, rfl, Src.o 0 rfl, .inl ⟨rfl, by decide, _, rfl, rfl, rfl⟩⟩, trivial⟩ (by decide) ?_
    exact ⟨by unfold symQ; rw [if_neg hc7, if_neg hc14, if_pos hc26]; rfl, rfl, rfl⟩
   ·
    replace hc26 := i_ne hc26
    have hdl := rigQ_data hr (.inr (by omega))
    refine C.skip ?_; refine QE.blkN ?_; refine QE.seq (C.seq (C.region ?_)); refine L.step (Ev.fieldAddr rfl rfl rfl rfl rfl rfl (Src.r 0 rfl) (Nat.zero_lt_succ _) rfl) rfl ?_; refine L.step (Ev.load rfl rfl rfl (Src.r 0 rfl) rfl) rfl ?_; refine Lpu rfl rfl ?_; refine L.step (Ev.idx1 (k := i) rfl rfl rfl rfl rfl rfl rfl (by omega) (Src.r 1 rfl) (by rw [U8_len]; omega)) rfl ?_; refine L.step (Ev.load rfl rfl rfl (Src.r 1 rfl) (U8_get (by omega))) rfl ?_; refine L.step (Ev.build rfl rfl rfl rfl rfl rfl rfl) rfl ?_; refine L.storeA (j := 0) rfl rfl rfl rfl rfl (Nat.zero_lt_succ _) rfl rfl ?_; refine L.nil (QE.seq (C.ret ?_)); refine QE.ret (js := []) (hs := []) (vs := [_]) rfl ⟨⟨_, _, 0, _, rfl, rfl, Src.o 0 rfl, .inl ⟨rfl, by decide, _, rfl, rfl, rfl⟩⟩, trivial⟩ (by decide) ?_
    exact ⟨by unfold symQ; rw [if_neg hc7, if_neg hc14, if_neg hc26]; rfl, rfl, rfl⟩

set_option maxHeartbeats 1000000 in
theorem symbols06Q_c (lf : Bool) (inn out : Int) (ops : List Pq) (OA : Option Addr) (oc : Nat) (hops : ops.length ≤ 9223372036854775807) :
   Ctr X 41 [.agg (List.toArray [.bool lf, .int .i64 inn, .int .i64 out, .slice OA ops.length oc])] [Rd OA (pqV ops), KidsR (pqH ops) (B8 (pqD ops))] [] (fun v R' H' => ∃ (A : Option Addr) (c : Nat), v = .tuple #[.slice A (sysQ inn out ops).length c, .int .i64 (chkP inn out ops)] ∧ R' = [] ∧ H' = [Own 130 3 A (sysQ inn out ops).length c (symsV (sysQ inn out ops))]) := by
 refine Ctr.of (X := X) (fn := Tryz.f41) Tryz.func41 rfl (by kernel_rfl) rfl ?_
 intro β
 refine C.seq (C.region ?_)
 refine L.boxA rfl rfl (fun A1 => ?_)
 refine Lpu rfl rfl ?_; refine Lpu rfl rfl ?_; refine L.nil (QE.seq (C.seq (C.seq ?_))); refine C.freeze 0 rfl [] (by decide) (by decide) ?_; refine C.region ?_; refine L.step (Ev.loadA rfl rfl rfl (Src.r 0 rfl) rfl rfl (by decide)) rfl ?_; refine L.call (js := []) (js' := []) (right06Q_c lf inn out ops OA oc hops) rfl rfl rfl (by decide) (Hq [1] rfl) rfl ?_
 rintro _ _ _ ⟨rfl, rfl, rfl⟩
 refine Lpu rfl rfl ?_; refine L.nil (QE.seq ?_)
 refine C.condB 9 rfl (fun hc9 => ?_) (fun hc9 => ?_)
 ·
  have hE : chkP inn out ops ≠ 0 := by simpa using hc9
  refine C.seq (C.region ?_); refine Lpu rfl rfl ?_; refine Lpu rfl rfl ?_; refine L.nil (QE.seq (C.ret (QE.tR ?_))); refine QE.nil_own 130 3 ?_; refine QE.ret (js := []) (hs := [0]) (vs := [_, _]) rfl ⟨rfl, rfl, trivial⟩ (by decide) ?_
  have hs : sysQ inn out ops = [] := by unfold sysQ; rw [if_neg hE]
  have h60 : chkP inn out ops = 60 := by
    unfold chkP at hE ⊢
    split
    · rfl
    · rename_i h1
      rw [if_neg h1] at hE
      split
      · rename_i h2
        rw [if_pos h2] at hE
        exact absurd rfl hE
      · rfl
  rw [hs, h60]
  exact ⟨none, 0, rfl, rfl, rfl⟩
 ·
  have hE : chkP inn out ops = 0 := by simpa using hc9
  obtain ⟨k1, k2, k3, k4, k5, k6⟩ := chkP_ok hE
  refine C.skip (QE.seq (C.seq (C.region ?_)))
  refine L.lit0S rfl rfl rfl rfl (fun A10 => ?_)
  refine Lpu rfl rfl ?_; refine L.nil (QE.seq (C.seq (C.seq (C.region ?_)))); refine Lpu rfl rfl ?_; refine L.nil (QE.seq (C.block ?_)); refine C.loop (fun q : Nat × Option Addr × Nat => [(1, ptrOf A1 0), (4, .slice q.2.1 (sylQ (ops.take q.1)).length q.2.2), (5, .int .i64 (q.1 : Int))]) (fun q : Nat × Option Addr × Nat => [Rd A1 [.bool lf, .int .i64 inn, .int .i64 out, .slice OA ops.length oc], Rd OA (pqV ops), KidsR (pqH ops) (B8 (pqD ops))]) (fun q : Nat × Option Addr × Nat => [Own 130 3 q.2.1 (sylQ (ops.take q.1)).length q.2.2 (symsV (sylQ (ops.take q.1)))]) (fun q : Nat × Option Addr × Nat => q.1 ≤ ops.length) (fun q : Nat × Option Addr × Nat => ops.length - q.1) (0, A10, 0) (Nat.zero_le _) (by exact Le.mk' (rs := [0, 1, 2]) (hs := [0]) ⟨rfl, rfl, rfl, trivial⟩ ⟨rfl, rfl, rfl, trivial⟩ ⟨rfl, trivial⟩ (by decide)) ?_
  rintro ⟨i, A, c⟩ hi
  dsimp only at hi ⊢
  refine C.seq (C.seq (C.region ?_)); refine Lpu rfl rfl ?_; refine L.step (Ev.fieldAddr rfl rfl rfl rfl rfl rfl (Src.r 0 rfl) (Nat.zero_lt_succ _) rfl) rfl ?_; refine L.step (Ev.load rfl rfl rfl (Src.r 0 rfl) rfl) rfl ?_; refine Lpu rfl rfl ?_; refine Lpu rfl rfl ?_; refine L.nil (QE.seq ?_)
  refine C.condB 15 rfl (fun hc15 => ?_) (fun hc15 => ?_)
  ·
   replace hc15 := of_decide_eq_true hc15
   have hop := chkL_get ops out k6 i (by omega)
   refine C.skip (QE.seq (C.seq (C.block (C.seq (C.region ?_))))); refine Lpu rfl rfl ?_; refine L.nil (QE.seq (C.block ?_))
   obtain ⟨A0, hA0⟩ : ∃ x, x = A := ⟨_, rfl⟩
   obtain ⟨c0, hc0⟩ : ∃ x, x = c := ⟨_, rfl⟩
   refine C.loop (fun q : Nat × Option Addr × Nat => [(1, ptrOf A1 0), (5, .int .i64 (i : Int)), (4, .slice q.2.1 (sylQ (ops.take i) ++ syxQ (ops.getD i Pq.zero) q.1).length q.2.2), (6, .int .i64 (q.1 : Int))]) (fun q : Nat × Option Addr × Nat => [Rd A1 [.bool lf, .int .i64 inn, .int .i64 out, .slice OA ops.length oc], Rd OA (pqV ops), KidsR (pqH ops) (B8 (pqD ops))]) (fun q : Nat × Option Addr × Nat => [Own 130 3 q.2.1 (sylQ (ops.take i) ++ syxQ (ops.getD i Pq.zero) q.1).length q.2.2 (symsV (sylQ (ops.take i) ++ syxQ (ops.getD i Pq.zero) q.1))]) (fun q : Nat × Option Addr × Nat => (q.1 : Int) ≤ (ops.getD i Pq.zero).ln) (fun q : Nat × Option Addr × Nat => (ops.getD i Pq.zero).ln.toNat - q.1) (0, A, c) (by dsimp only; omega) (by exact Le.mk' (rs := [0, 1, 2]) (hs := [0]) ⟨rfl, rfl, (by dsimp only; rw [show syxQ _ 0 = [] from rfl, List.append_nil]; rfl), rfl, trivial⟩ ⟨rfl, rfl, rfl, trivial⟩ ⟨(congrArg some (by dsimp only; rw [show syxQ _ 0 = [] from rfl, List.append_nil])), trivial⟩ (by decide)) ?_
   rintro ⟨j, A, c⟩ hj
   dsimp only at hj ⊢
   refine C.seq (C.seq (C.region ?_)); refine Lpu rfl rfl ?_; refine L.step (Ev.fieldAddr rfl rfl rfl rfl rfl rfl (Src.r 0 rfl) (Nat.zero_lt_succ _) rfl) rfl ?_; refine L.step (Ev.load rfl rfl rfl (Src.r 0 rfl) rfl) rfl ?_; refine Lpu rfl rfl ?_; refine L.step (Ev.idx (k := i) (m := i * 5) rfl rfl rfl rfl rfl rfl (by omega) (Src.r 1 rfl) (pqV_pos (k := i) (by omega)) rfl) rfl ?_; refine L.step (Ev.fieldAddr rfl rfl rfl rfl rfl rfl (Src.r 1 rfl) (pqV_pos (k := i) (by omega)) rfl) rfl ?_; refine L.step (Ev.load rfl rfl rfl (Src.r 1 rfl) ((pqV_get (i := i) (j := 2) (by omega) (by decide)).trans rfl)) rfl ?_; refine Lpu rfl rfl ?_; refine L.nil (QE.seq ?_)
   refine C.condB 25 rfl (fun hc25 => ?_) (fun hc25 => ?_)
   ·
    replace hc25 := of_decide_eq_true hc25
    refine C.skip (QE.seq (C.seq (C.block ?_))); refine C.more (r := Rd (ops.getD i Pq.zero).A (U8 (ops.getD i Pq.zero).d)) (Has.kidQ 2 rfl i (by omega)) ?_
    have hpre := sylQ_pre ops i j (by omega) (by omega)
    have htot := chkL_len ops out k3 k6
    have e1 : (sylQ (ops.take i) ++ syxQ (ops.getD i Pq.zero) (j + 1)) = (sylQ (ops.take i) ++ syxQ (ops.getD i Pq.zero) j) ++ [symQ (ops.getD i Pq.zero) j] := by rw [syxQ_succ, List.append_assoc]
    refine C.region ?_; refine Lpu rfl rfl ?_; refine L.step (Ev.fieldAddr rfl rfl rfl rfl rfl rfl (Src.r 1 rfl) (Nat.zero_lt_succ _) rfl) rfl ?_; refine L.step (Ev.load rfl rfl rfl (Src.r 1 rfl) rfl) rfl ?_; refine Lpu rfl rfl ?_; refine L.step (Ev.idx (k := i) (m := i * 5) rfl rfl rfl rfl rfl rfl (by omega) (Src.r 2 rfl) (pqV_pos (k := i) (by omega)) rfl) rfl ?_; refine L.step (Ev.loadA (vs := Pq.cells (ops.getD i Pq.zero)) rfl rfl rfl (Src.r 2 rfl) (pqV_at ops i (by omega)) rfl (by decide)) rfl ?_; refine Lpu rfl rfl ?_; refine L.call (js := []) (js' := [0]) (symbol06Q_c (ops.getD i Pq.zero) j inn hop.2.2 (by omega) (by omega) (by omega)) rfl rfl rfl (by decide) (Hq [0] rfl) rfl ?_
    rintro _ _ _ ⟨rfl, rfl, rfl⟩
    refine L.lit1S (cs := Sy.cells (symQ (ops.getD i Pq.zero) j)) rfl rfl rfl rfl (Nat.zero_lt_succ _) rfl rfl rfl (fun A36 => ?_)
    refine L.append (j := 0) rfl rfl rfl rfl (by decide) rfl rfl rfl rfl (Src.o 1 rfl) rfl (symQ_one _ _) (by omega) (by show _ * 24 ≤ _; omega) rfl (fun A37 cc37 => ?_)
    refine Lpu rfl rfl ?_; refine L.nil ?_; refine QE.blkN ?_; refine QE.seq (C.region ?_); refine Lpu rfl rfl ?_; refine L.step (Ev.add rfl rfl (by omega) (by omega)) rfl ?_; refine Lpu rfl rfl ?_; refine L.nil ?_
    refine QE.round (i := (j, A, c)) ((j + 1, A37, cc37)) (by dsimp only; omega) (by dsimp only; omega) (by exact Le.mk' (rs := [1, 2, 3]) (hs := [0]) ⟨rfl, rfl, (by dsimp only; rw [e1]; simp only [List.length_append]; rfl), rfl, trivial⟩ ⟨rfl, rfl, rfl, trivial⟩ ⟨(congrArg some (own_eq (by dsimp only; rw [e1]; simp only [List.length_append]; rfl) (by dsimp only; rw [e1]; simp only [symsV_app]; rfl))), trivial⟩ (by decide))
   ·
    replace hc25 := of_decide_eq_false hc25
    refine C.exit ?_; refine QE.tX ?_; refine QE.tX ?_; refine QE.blk ?_; refine QE.blkN ?_; refine QE.seq (C.region ?_); refine Lpu rfl rfl ?_; refine L.step (Ev.add rfl rfl (by omega) (by omega)) rfl ?_; refine Lpu rfl rfl ?_; refine L.nil ?_
    obtain rfl : j = (ops.getD i Pq.zero).ln.toNat := by omega
    have he := sylQ_snoc ops i (by omega)
    refine QE.round (i := (i, A0, c0)) ((i + 1, A, c)) (by dsimp only; omega) (by dsimp only; omega) (by exact Le.mk' (rs := [0, 1, 2]) (hs := [0]) ⟨rfl, (by dsimp only; rw [he]; rfl), rfl, trivial⟩ ⟨rfl, rfl, rfl, trivial⟩ ⟨(congrArg some (by dsimp only; rw [he])), trivial⟩ (by decide))
  ·
   replace hc15 := of_decide_eq_false hc15
   refine C.exit ?_; refine QE.tX ?_; refine QE.tX ?_; refine QE.blk ?_; refine QE.seq (C.seq (C.region ?_)); refine Lpu rfl rfl ?_; refine Lpu rfl rfl ?_; refine Lpu rfl rfl ?_; refine L.nil (QE.seq (C.ret ?_)); refine QE.ret (js := []) (hs := [0]) (vs := [_, _]) rfl ⟨rfl, rfl, trivial⟩ (by decide) ?_
   obtain rfl : i = ops.length := by omega
   have hs : sysQ inn out ops = sylQ ops := by unfold sysQ; rw [if_pos hE]
   rw [hs, hE]
   rw [List.take_length]
   exact ⟨A, c, rfl, rfl, rfl⟩

set_option maxHeartbeats 1000000 in
theorem runR_c (B SA : Option Addr) (old : List UInt8) (l : List Sy) (bc sc : Nat) (hbl : old.length ≤ 1000000) (hl : l.length ≤ 1000000) (hok : runOk old l) :
   Ctr X 42 [.slice B old.length bc, .slice SA l.length sc] [Rd B (U8 old), Rd SA (symsV l)] [] (fun v R' H' => ∃ (A : Option Addr) (c : Nat), v = .tuple #[.slice A (runB old l).length c, .int .i64 0] ∧ R' = [] ∧ H' = [Own 5 1 A (runB old l).length c (U8 (runB old l))]) := by
 refine Ctr.of (X := X) (fn := Tryz.f42) Tryz.func42 rfl (by kernel_rfl) rfl ?_
 intro β
 refine C.seq (C.region ?_); refine Lpu rfl rfl ?_; refine Lpu rfl rfl ?_; refine L.nil (QE.seq (C.seq (C.region ?_)))
 refine L.lit0S rfl rfl rfl rfl (fun A9 => ?_)
 refine Lpu rfl rfl ?_; refine L.nil (QE.seq (C.seq (C.seq (C.region ?_)))); refine Lpu rfl rfl ?_; refine L.nil (QE.seq (C.block ?_)); refine C.loop (fun q : Nat × Option Addr × Nat => [(0, .slice B old.length bc), (1, .slice SA l.length sc), (7, .int .i64 (q.1 : Int)), (6, .slice q.2.1 (runB old (l.take q.1)).length q.2.2)]) (fun q : Nat × Option Addr × Nat => [Rd B (U8 old), Rd SA (symsV l)]) (fun q : Nat × Option Addr × Nat => [Own 5 1 q.2.1 (runB old (l.take q.1)).length q.2.2 (U8 (runB old (l.take q.1)))]) (fun q : Nat × Option Addr × Nat => q.1 ≤ l.length) (fun q : Nat × Option Addr × Nat => l.length - q.1) (0, A9, 0) (Nat.zero_le _) (by exact Le.mk' (rs := [0, 1]) (hs := [0]) ⟨rfl, rfl, rfl, rfl, trivial⟩ ⟨rfl, rfl, trivial⟩ ⟨rfl, trivial⟩ (by decide)) ?_
 rintro ⟨i, A, c⟩ hi
 dsimp only at hi ⊢
 have hrl : (runB old (l.take i)).length = i := by rw [runB_len, List.length_take]; omega
 refine C.seq (C.seq (C.region ?_)); refine Lpu rfl rfl ?_; refine Lpu rfl rfl ?_; refine Lpu rfl rfl ?_; refine Lpu rfl rfl ?_; refine L.nil (QE.seq ?_)
 refine C.condB 13 rfl (fun hc13 => ?_) (fun hc13 => ?_)
 ·
  replace hc13 := of_decide_eq_true hc13
  refine C.skip (QE.seq (C.seq (C.block (C.seq (C.region ?_))))); refine Lpu rfl rfl ?_; refine Lpu rfl rfl ?_; refine L.step (Ev.idx (k := i) (m := i * 3) rfl rfl rfl rfl rfl rfl (by omega) (Src.r 1 rfl) (syms_pos (k := i) (by omega)) rfl) rfl ?_; refine L.step (Ev.fieldAddr rfl rfl rfl rfl rfl rfl (Src.r 1 rfl) (syms_pos (k := i) (by omega)) rfl) rfl ?_; refine L.step (Ev.load rfl rfl rfl (Src.r 1 rfl) ((symsV_get (i := i) (j := 2) (by omega) (by decide)).trans rfl)) rfl ?_; refine Lpu rfl rfl ?_; refine L.nil (QE.seq ?_); refine C.seqJ (fun z : UInt8 => [(0, .slice B old.length bc), (1, .slice SA l.length sc), (7, .int .i64 (i : Int)), (6, .slice A (runB old (l.take i)).length c), (8, .int .u8 (z.toNat : Int))]) (fun z : UInt8 => [Rd B (U8 old), Rd SA (symsV l)]) (fun z : UInt8 => [Own 5 1 A (runB old (l.take i)).length c (U8 (runB old (l.take i)))]) (fun z : UInt8 => z = symB old (l.getD i Sy.zero)) ?_ ?_
  ·
   refine C.seq (C.region ?_); refine Lpu rfl rfl ?_; refine Lpu rfl rfl ?_; refine L.step (Ev.idx (k := i) (m := i * 3) rfl rfl rfl rfl rfl rfl (by omega) (Src.r 1 rfl) (syms_pos (k := i) (by omega)) rfl) rfl ?_; refine L.step (Ev.fieldAddr rfl rfl rfl rfl rfl rfl (Src.r 1 rfl) (syms_pos (k := i) (by omega)) rfl) rfl ?_; refine L.step (Ev.load rfl rfl rfl (Src.r 1 rfl) ((symsV_get (i := i) (j := 0) (by omega) (by decide)).trans rfl)) rfl ?_; refine L.nil (QE.seq ?_)
   refine C.condB 25 rfl (fun hc25 => ?_) (fun hc25 => ?_)
   ·
    have hat := hok i (by omega) hc25
    refine C.seq (C.seq (C.region ?_)); refine Lpu rfl rfl ?_; refine Lpu rfl rfl ?_; refine L.step (Ev.idx (k := i) (m := i * 3) rfl rfl rfl rfl rfl rfl (by omega) (Src.r 1 rfl) (syms_pos (k := i) (by omega)) rfl) rfl ?_; refine L.step (Ev.fieldAddr rfl rfl rfl rfl rfl rfl (Src.r 1 rfl) (syms_pos (k := i) (by omega)) rfl) rfl ?_; refine L.step (Ev.load rfl rfl rfl (Src.r 1 rfl) ((symsV_get (i := i) (j := 1) (by omega) (by decide)).trans rfl)) rfl ?_; refine Lpu rfl rfl ?_; refine Lpu rfl rfl ?_; refine L.step (Ev.sub rfl rfl (by omega) (by omega)) rfl ?_; refine L.call (js := []) (js' := [0]) (in6Q_c (l.getD i Sy.zero).at_ 0 ((old.length : Int) - 1)) rfl rfl rfl (by decide) trivial rfl ?_
    rintro _ _ _ ⟨rfl, rfl, rfl⟩
    refine L.norm (H' := [_]) [0] ⟨rfl, trivial⟩ (by decide) ?_; refine Lpu rfl rfl ?_; refine L.nil (QE.seq ?_)
    refine C.condB 35 rfl (fun hc35 => ?_) (fun hc35 => ?_)
    ·
     have h36 := of_decide_eq_false ((Bool.not_eq_true' _).mp hc35)
     omega
    ·
     refine C.skip (QE.seq (C.region ?_)); refine Lpu rfl rfl ?_; refine Lpu rfl rfl ?_; refine Lpu rfl rfl ?_; refine Lpu rfl rfl ?_; refine L.step (Ev.idx (k := i) (m := i * 3) rfl rfl rfl rfl rfl rfl (by omega) (Src.r 1 rfl) (syms_pos (k := i) (by omega)) rfl) rfl ?_; refine L.step (Ev.fieldAddr rfl rfl rfl rfl rfl rfl (Src.r 1 rfl) (syms_pos (k := i) (by omega)) rfl) rfl ?_; refine L.step (Ev.load rfl rfl rfl (Src.r 1 rfl) ((symsV_get (i := i) (j := 1) (by omega) (by decide)).trans rfl)) rfl ?_; refine L.step (Ev.idx1 (k := (l.getD i Sy.zero).at_.toNat) rfl rfl rfl rfl rfl rfl (by omega) (by omega) (Src.r 0 rfl) (by rw [U8_len]; omega)) rfl ?_; refine L.step (Ev.load rfl rfl rfl (Src.r 0 rfl) (U8_get (by omega))) rfl ?_; refine L.step (Ev.add8 rfl rfl) rfl ?_; refine Lpu rfl rfl ?_; refine L.nil ?_
     refine QE.join (((l.getD i Sy.zero).b + old.getD (l.getD i Sy.zero).at_.toNat 0)) (by unfold symB; rw [if_pos hc25]) (by exact Le.mk' (rs := [0, 1]) (hs := [0]) ⟨rfl, rfl, rfl, rfl, rfl, trivial⟩ ⟨rfl, rfl, trivial⟩ ⟨rfl, trivial⟩ (by decide))
   ·
    refine C.skip ?_
    refine QE.join ((l.getD i Sy.zero).b) (by unfold symB; rw [if_neg (by rw [hc25]; decide)]) (by exact Le.mk' (rs := [0, 1]) (hs := [0]) ⟨rfl, rfl, rfl, rfl, rfl, trivial⟩ ⟨rfl, rfl, trivial⟩ ⟨rfl, trivial⟩ (by decide))
  ·
   intro z hz
   refine C.region ?_; refine Lpu rfl rfl ?_; refine Lpu rfl rfl ?_
   refine L.lit rfl rfl rfl rfl rfl (by rfl) (by rfl) (by rfl) rfl rfl (fun A48 => ?_)
   refine L.append (j := 0) rfl rfl rfl rfl (by decide) rfl rfl rfl rfl (Src.o 1 rfl) rfl (allOne rfl) (by omega) (by show _ * 1 ≤ _; omega) rfl (fun A49 cc49 => ?_)
   refine Lpu rfl rfl ?_; refine L.nil ?_; refine QE.blkN ?_; refine QE.seq (C.region ?_); refine Lpu rfl rfl ?_; refine L.step (Ev.add rfl rfl (by omega) (by omega)) rfl ?_; refine Lpu rfl rfl ?_; refine L.nil ?_
   have he := runB_succ old l (i := i) (by omega)
   rw [← hz] at he
   have hel : (runB old (l.take (i + 1))).length = (runB old (l.take i)).length + 1 := by rw [he, List.length_append]; rfl
   refine QE.round (i := (i, A, c)) ((i + 1, A49, cc49)) (by dsimp only; omega) (by dsimp only; omega) (by exact Le.mk' (rs := [0, 1]) (hs := [0]) ⟨rfl, rfl, rfl, (by dsimp only; rw [hel]; rfl), trivial⟩ ⟨rfl, rfl, trivial⟩ ⟨(congrArg some (own_eq hel.symm (by dsimp only; rw [he, ← U8_app]; rfl))), trivial⟩ (by decide))
 ·
  replace hc13 := of_decide_eq_false hc13
  refine C.exit ?_; refine QE.tX ?_; refine QE.tX ?_; refine QE.blk ?_; refine QE.seq (C.seq (C.region ?_)); refine Lpu rfl rfl ?_; refine Lpu rfl rfl ?_; refine Lpu rfl rfl ?_; refine L.nil (QE.seq (C.ret ?_)); refine QE.ret (js := []) (hs := [0]) (vs := [_, _]) rfl ⟨rfl, rfl, trivial⟩ (by decide) ?_
  obtain rfl : i = l.length := by omega
  rw [List.take_length]
  exact ⟨A, c, rfl, rfl, rfl⟩

set_option maxHeartbeats 1000000 in
theorem apply06Q_c (B : Option Addr) (old : List UInt8) (bc : Nat) (lf : Bool) (inn out : Int) (ops : List Pq) (OA : Option Addr) (oc : Nat) (hops : ops.length ≤ 9223372036854775807) (hbl : old.length ≤ 1000000) (hlf : lf = false) (hE : chkP inn out ops = 0) (hin : inn = (old.length : Int)) :
   Ctr X 19 [.slice B old.length bc, .agg (List.toArray [.bool lf, .int .i64 inn, .int .i64 out, .slice OA ops.length oc])] [Rd B (U8 old), Rd OA (pqV ops), KidsR (pqH ops) (B8 (pqD ops))] [] (fun v R' H' => ∃ (A : Option Addr) (c : Nat), v = .tuple #[.slice A (outsQ old ops).length c, .int .i64 0] ∧ R' = [] ∧ H' = [Own 5 1 A (outsQ old ops).length c (U8 (outsQ old ops))]) := by
 refine Ctr.of (X := X) (fn := Tryz.f19) Tryz.func19 rfl (by kernel_rfl) rfl ?_
 intro β
 have hrun := run_ok (old := old) hE hin
 have hsr := sys_run (old := old) hE
 subst hlf
 refine C.seq (C.region ?_)
 refine L.boxA rfl rfl (fun A3 => ?_)
 refine Lpu rfl rfl ?_; refine Lpu rfl rfl ?_; refine L.nil (QE.seq (C.seq ?_)); refine C.freeze 0 rfl [] (by decide) (by decide) ?_; refine C.region ?_; refine L.step (Ev.loadA (vs := [.bool false, .int .i64 inn, .int .i64 out, .slice OA ops.length oc]) rfl rfl rfl (Src.r 0 rfl) rfl rfl (by decide)) rfl ?_; refine L.call (js := []) (js' := []) (symbols06Q_c false inn out ops OA oc hops) rfl rfl rfl (by decide) (Hq [2, 3] rfl) rfl ?_
 rintro _ _ _ ⟨SA, sc, rfl, rfl, rfl⟩
 refine L.norm (H' := [_]) [0] ⟨rfl, trivial⟩ (by decide) ?_; refine Lpu rfl rfl ?_; refine Lpu rfl rfl ?_; refine Lpu rfl rfl ?_; refine Lpu rfl rfl ?_; refine Lpu rfl rfl ?_; refine L.nil (QE.seq (C.seq (C.seq ?_))); refine C.freeze 0 rfl [] (by decide) (by decide) ?_; refine C.region ?_; refine Lpu rfl rfl ?_; refine Lpu rfl rfl ?_; refine L.nil (QE.seq ?_)
 refine C.condB 21 rfl (fun hc21 => ?_) (fun hc21 => ?_)
 ·
  replace hc21 := b_ne hc21
  exact absurd hE hc21
 ·
  replace hc21 := b_eq hc21
  refine C.skip (QE.seq (C.seq (C.region ?_))); refine Lpu rfl rfl ?_; refine Lpu rfl rfl ?_; refine L.nil (QE.seq (C.seq (C.seq (C.region ?_)))); refine L.step (Ev.fieldAddr rfl rfl rfl rfl rfl rfl (Src.r 1 rfl) (Nat.zero_lt_succ _) rfl) rfl ?_; refine L.step (Ev.load rfl rfl rfl (Src.r 1 rfl) rfl) rfl ?_; refine L.nil (QE.seq ?_)
  refine C.condB 25 rfl (fun hc25 => ?_) (fun hc25 => ?_)
  ·
   cases hc25
  ·
   refine C.skip (QE.seq (C.seq (C.seq (C.region ?_)))); refine Lpu rfl rfl ?_; refine Lpu rfl rfl ?_; refine L.step (Ev.fieldAddr rfl rfl rfl rfl rfl rfl (Src.r 1 rfl) (Nat.zero_lt_succ _) rfl) rfl ?_; refine L.step (Ev.load rfl rfl rfl (Src.r 1 rfl) rfl) rfl ?_; refine Lpu rfl rfl ?_; refine L.nil (QE.seq ?_)
   refine C.condB 39 rfl (fun hc39 => ?_) (fun hc39 => ?_)
   ·
    replace hc39 := b_ne hc39
    omega
   ·
    replace hc39 := b_eq hc39
    refine C.skip (QE.seq (C.seq (C.region ?_))); refine Lpu rfl rfl ?_; refine Lpu rfl rfl ?_; refine L.call (js := []) (js' := []) (runR_c B SA old (sysQ inn out ops) bc sc hbl (by have := hrun.2; omega) hrun.1) rfl rfl rfl (by decide) (Hq [2, 0] rfl) rfl ?_
    rw [hsr]
    rintro _ _ _ ⟨YA, yc, rfl, rfl, rfl⟩
    refine L.norm (H' := [_]) [0] ⟨rfl, trivial⟩ (by decide) ?_; refine Lpu rfl rfl ?_; refine Lpu rfl rfl ?_; refine Lpu rfl rfl ?_; refine Lpu rfl rfl ?_; refine Lpu rfl rfl ?_; refine L.nil (QE.seq (C.seq (C.seq (C.region ?_)))); refine L.step (Ev.fieldAddr rfl rfl rfl rfl rfl rfl (Src.r 1 rfl) (Nat.zero_lt_succ _) rfl) rfl ?_; refine L.step (Ev.load rfl rfl rfl (Src.r 1 rfl) rfl) rfl ?_; refine Lpu rfl rfl ?_; refine L.nil (QE.seq ?_)
    refine C.condB 48 rfl (fun hc48 => ?_) (fun hc48 => ?_)
    ·
     refine C.seq (C.region ?_); refine Lpu rfl rfl ?_; refine Lpu rfl rfl ?_; refine Lpu rfl rfl ?_; refine L.nil (QE.seq (C.ret (QE.tR ?_))); refine QE.ret (js := []) (hs := [0]) (vs := [_, _]) rfl ⟨rfl, rfl, trivial⟩ (by decide) ?_
     exact ⟨YA, yc, rfl, rfl, rfl⟩
    ·
     cases hc48

end Go.Proofs.YtbkmahjhhncfcaaGreat
