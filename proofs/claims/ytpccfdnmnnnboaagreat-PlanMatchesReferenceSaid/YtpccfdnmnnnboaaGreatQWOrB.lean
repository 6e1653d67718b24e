/-
  Readers, members of sets, first orders.
-/
import Derived.Test.YtpccfdnmnnnboaaGreatQWOrA
import Derived.Test.YtpccfdnmnnnboaaGreatQOb
section
namespace Go.Proofs.YtpccfdnmnnnboaaGreat
open Go.Sl

set_option maxHeartbeats 1000000 in
theorem readers_c (LA : Option Addr) (ls : List (List Int)) (lc : Nat) (hs : List Hd) (hh : hs.length = ls.length) (hll : ls.length ≤ 9223372036854775807) (hlr : ∀ i, (ls.getD i []).length ≤ 9223372036854775807) (hr : readB ls = true) (hn : ls.length ≤ 60) :
   Ctr X 87 [.slice LA ls.length lc] [Rd LA (rowsV hs (J8 ls)), KidsR hs (J8 ls)] [] (fun v R' H' => ∃ (A : Option Addr) (ms : List Nat), v = .slice A ls.length ls.length ∧ R' = [] ∧ H' = [Own 150 1 A ls.length ls.length (U64L ms)] ∧ RdIs ls.length (rdP ls) ms) := by
 refine Ctr.of (X := X) (fn := Tryz.f87) Tryz.func87 rfl (by kernel_rfl) rfl ?_
 intro β
 refine C.seq (C.region ?_); refine Lpu rfl rfl ?_; refine L.nil (QE.seq (C.seq (C.region ?_))); refine Lpu rfl rfl ?_; refine Lpu rfl rfl ?_
 refine L.make (m := ls.length) rfl rfl rfl rfl rfl rfl rfl rfl rfl (by show 8 * _ ≤ _; omega) (by omega) rfl (fun A10 => ?_)
 refine Lpu rfl rfl ?_; refine L.nil (QE.seq (C.seq (C.seq (C.region ?_)))); refine Lpu rfl rfl ?_; refine Lpu rfl rfl ?_; refine Lpu rfl rfl ?_; refine L.nil (QE.seq (C.block ?_)); refine C.loop (fun q : Nat × List Nat => [(0, .slice LA ls.length lc), (3, .slice A10 ls.length ls.length), (11, .slice LA ls.length lc), (12, .int .i64 (ls.length : Int)), (13, .int .i64 (q.1 : Int))]) (fun q : Nat × List Nat => [Rd LA (rowsV hs (J8 ls)), KidsR hs (J8 ls)]) (fun q : Nat × List Nat => [Own 150 1 A10 ls.length ls.length (U64L q.2)]) (fun q : Nat × List Nat => q.1 ≤ ls.length ∧ RdI ls.length q.1 0 ls q.2) (fun q : Nat × List Nat => ls.length - q.1) (0, List.replicate ls.length 0) ⟨Nat.zero_le _, RdI.start _ _⟩ (by exact Le.mk' (rs := [0, 1]) (hs := [0]) ⟨rfl, rfl, rfl, rfl, rfl, trivial⟩ ⟨rfl, rfl, trivial⟩ ⟨(congrArg some (own_eq rfl (U64L_rep _))), trivial⟩ (by decide)) ?_
 rintro ⟨u, ms⟩ ⟨hu, hi⟩
 dsimp only at hu hi ⊢
 refine C.seq (C.region ?_); refine Lpu rfl rfl ?_; refine L.nil (QE.seq (C.seq ?_))
 refine C.condB 14 rfl (fun hc14 => ?_) (fun hc14 => ?_)
 ·
  replace hc14 := of_decide_eq_true hc14
  have hul : u < ls.length := by omega
  refine C.skip (QE.seq (C.seq (C.block (C.seq (C.region ?_))))); refine Lpu rfl rfl ?_; refine L.step (Ev.idx1 (k := u) rfl rfl rfl rfl rfl rfl rfl (by omega) (Src.r 0 rfl) (by rw [rowsV_len (by rw [J8_len]; exact hh), J8_len]; omega)) rfl ?_; refine L.step (Ev.load rfl rfl rfl (Src.r 0 rfl) (rowsJ_get hh (by omega))) rfl ?_; refine Lpu rfl rfl ?_; refine Lpu rfl rfl ?_; refine L.nil (QE.seq (C.seq ?_))
  have hrl := hlr u
  refine C.region ?_; refine Lpu rfl rfl ?_; refine Lpu rfl rfl ?_; refine Lpu rfl rfl ?_; refine L.nil (QE.seq (C.block ?_))
  obtain ⟨ms0, hms0⟩ : ∃ m, m = ms := ⟨_, rfl⟩
  refine C.loop (fun q : Nat × List Nat => [(0, .slice LA ls.length lc), (3, .slice A10 ls.length ls.length), (11, .slice LA ls.length lc), (12, .int .i64 (ls.length : Int)), (13, .int .i64 (u : Int)), (4, .int .i64 (u : Int)), (5, .slice (hs.getD u (none, 0)).1 (ls.getD u []).length (hs.getD u (none, 0)).2), (18, .slice (hs.getD u (none, 0)).1 (ls.getD u []).length (hs.getD u (none, 0)).2), (19, .int .i64 ((ls.getD u []).length : Int)), (20, .int .i64 (q.1 : Int))]) (fun q : Nat × List Nat => [Rd LA (rowsV hs (J8 ls)), KidsR hs (J8 ls)]) (fun q : Nat × List Nat => [Own 150 1 A10 ls.length ls.length (U64L q.2)]) (fun q : Nat × List Nat => q.1 ≤ (ls.getD u []).length ∧ RdI ls.length u q.1 ls q.2) (fun q : Nat × List Nat => (ls.getD u []).length - q.1) (0, ms) ⟨Nat.zero_le _, hi⟩ (by exact Le.mk' (rs := [0, 1]) (hs := [0]) ⟨rfl, rfl, rfl, rfl, rfl, rfl, rfl, rfl, rfl, rfl, trivial⟩ ⟨rfl, rfl, trivial⟩ ⟨rfl, trivial⟩ (by decide)) ?_
  rintro ⟨j, ms⟩ ⟨hj, hi⟩
  dsimp only at hj hi ⊢
  refine C.seq (C.region ?_); refine Lpu rfl rfl ?_; refine L.nil (QE.seq (C.seq ?_))
  refine C.condB 21 rfl (fun hc21 => ?_) (fun hc21 => ?_)
  ·
   replace hc21 := of_decide_eq_true hc21
   refine C.skip (QE.seq (C.seq (C.block (C.seq ?_))))
   have hN := rdRow_get (readB_get hr hul) (i := j) (by omega)
   unfold NotRd at hN
   refine C.region ?_; refine L.step (Ev.idx1 (k := j) rfl rfl rfl rfl rfl rfl rfl (by omega) ((Src.kid 1 rfl (by rw [J8_len]; exact hh) (u) (by rw [J8_len]; omega)).cast (J8_get _)) (by rw [I64_len]; omega)) rfl ?_; refine L.step (Ev.load rfl rfl rfl ((Src.kid 1 rfl (by rw [J8_len]; exact hh) (u) (by rw [J8_len]; omega)).cast (J8_get _)) (I64_get (by omega))) rfl ?_; refine Lpu rfl rfl ?_; refine L.nil (QE.seq ?_); refine C.regionM [Rd LA (rowsV hs (J8 ls)), KidsR hs (J8 ls), Rd A10 (U64L ms)] ⟨Has.r 0 rfl, Has.r 1 rfl, Has.o 0 rfl, trivial⟩ ?_; refine LM.q 0 rfl (by kernel_rfl) (Ev.pure rfl) rfl ⟨Has.r 0 rfl, Has.r 1 rfl, Has.o 0 rfl, trivial⟩ ?_; refine LM.q 1 rfl (by kernel_rfl) (Ev.pure rfl) rfl ⟨Has.r 0 rfl, Has.r 1 rfl, Has.o 0 rfl, trivial⟩ ?_; refine LM.q 2 rfl (by kernel_rfl) (Ev.idx1 (k := ((ls.getD u []).getD j 0).toNat) rfl rfl rfl rfl rfl rfl (by omega) (by omega) (Src.r 2 rfl) (by rw [U64L_len, hi.1]; omega)) rfl ⟨Has.r 0 rfl, Has.r 1 rfl, Has.o 0 rfl, trivial⟩ ?_; refine LM.q 3 rfl (by kernel_rfl) (Ev.load rfl rfl rfl (Src.r 2 rfl) (U64L_get (by rw [hi.1]; omega))) rfl ⟨Has.r 0 rfl, Has.r 1 rfl, Has.o 0 rfl, trivial⟩ ?_; refine LM.f 4 rfl (by kernel_rfl) ⟨Has.r 0 rfl, Has.r 1 rfl, Has.o 0 rfl, trivial⟩ ?_; refine Lpu rfl rfl ?_
   refine L.nil (QE.m (by kernel_rfl) ?_)
   refine LM.f 5 rfl (by kernel_rfl) ⟨Has.r 0 rfl, Has.r 1 rfl, Has.o 0 rfl, trivial⟩ ?_; refine L.step (Ev.shlU (m := 1) (k := u) rfl rfl (by omega) (pow_small (by omega))) rfl ?_
   refine L.nil (QE.m (by kernel_rfl) ?_)
   refine LM.cut [] (by kernel_rfl) ⟨Has.r 0 rfl, Has.r 1 rfl, Has.o 0 rfl, trivial⟩ ?_; refine LM.f 6 rfl (by kernel_rfl) trivial ?_; refine L.step (Ev.orU rfl rfl (hi.lt (by omega) (by omega)) (pow_small (by omega))) rfl ?_
   refine L.nil (QE.m (by kernel_rfl) ?_)
   refine LM.f 7 rfl (by kernel_rfl) trivial ?_; refine L.step (Ev.idx1 (k := ((ls.getD u []).getD j 0).toNat) rfl rfl rfl rfl rfl rfl (by omega) (by omega) (Src.o 0 rfl) (by rw [U64L_len, hi.1]; omega)) rfl ?_
   refine L.nil (QE.m (by kernel_rfl) ?_)
   refine LM.f 8 rfl (by kernel_rfl) trivial ?_; refine L.store (j := 0) rfl rfl rfl rfl rfl rfl rfl (by exact U64L_get (by rw [hi.1]; omega)) ?_
   refine L.nil (QE.m (by kernel_rfl) ?_)
   refine LM.nil (by kernel_rfl) trivial ?_; refine QE.blkN ?_; refine QE.seq (C.region ?_); refine L.step (Ev.add rfl rfl (by omega) (by omega)) rfl ?_; refine Lpu rfl rfl ?_; refine L.nil ?_
   refine QE.round (i := (j, ms)) ((j + 1, ms.set ((ls.getD u []).getD j 0).toNat (ms.getD ((ls.getD u []).getD j 0).toNat 0 ||| 1 * 2 ^ u))) (by exact ⟨by dsimp only; omega, hi.next (by omega) (by omega) (by omega)⟩) (by dsimp only; omega) (by exact Le.mk' (rs := [0, 1]) (hs := [0]) ⟨rfl, rfl, rfl, rfl, rfl, rfl, rfl, rfl, rfl, rfl, trivial⟩ ⟨rfl, rfl, trivial⟩ ⟨(congrArg some (own_eq rfl (U64L_set _ _ _))), trivial⟩ (by decide))
  ·
   replace hc21 := of_decide_eq_false hc21
   refine C.exit ?_; refine QE.tX ?_; refine QE.tX ?_; refine QE.blk ?_; refine QE.blkN ?_; refine QE.seq (C.region ?_); refine L.step (Ev.add rfl rfl (by omega) (by omega)) rfl ?_; refine Lpu rfl rfl ?_; refine L.nil ?_
   refine QE.round (i := (u, ms0)) ((u + 1, ms)) (by exact ⟨by dsimp only; omega, hi.row (by omega)⟩) (by dsimp only; omega) (by exact Le.mk' (rs := [0, 1]) (hs := [0]) ⟨rfl, rfl, rfl, rfl, rfl, trivial⟩ ⟨rfl, rfl, trivial⟩ ⟨rfl, trivial⟩ (by decide))
 ·
  replace hc14 := of_decide_eq_false hc14
  refine C.exit ?_; refine QE.tX ?_; refine QE.tX ?_; refine QE.blk ?_; refine QE.seq (C.seq (C.region ?_)); refine Lpu rfl rfl ?_; refine Lpu rfl rfl ?_; refine L.nil (QE.seq (C.ret ?_)); refine QE.ret (js := []) (hs := [0]) (vs := [_]) rfl ⟨rfl, trivial⟩ (by decide) ?_
  obtain rfl : u = ls.length := by omega
  exact ⟨A10, ms, rfl, rfl, rfl, hi.done⟩

theorem members_c (m : Nat) (hm : m < 18446744073709551616) :
   Ctr X 88 [.int .u64 (m : Int)] [] [] (fun v R' H' => ∃ (A : Option Addr) (c : Nat), v = .slice A (mem m 64).length c ∧ R' = [] ∧ H' = [Own 3 1 A (mem m 64).length c (I64 (NI (mem m 64)))]) := by
 refine Ctr.of (X := X) (fn := Tryz.f88) Tryz.func88 rfl (by kernel_rfl) rfl ?_
 intro β
 refine C.seq (C.region ?_); refine Lpu rfl rfl ?_; refine L.nil (QE.seq (C.seq (C.region ?_))); refine Lpu rfl rfl ?_; refine L.nil (QE.seq (C.seq (C.seq (C.region ?_)))); refine Lpu rfl rfl ?_; refine L.nil (QE.seq (C.block ?_)); refine C.nil_own 3 1 ?_; refine C.loop (fun q : Nat × Option Addr × Nat => [(0, .int .u64 (m : Int)), (3, .slice q.2.1 (mem m q.1).length q.2.2), (4, .int .i64 (q.1 : Int))]) (fun q : Nat × Option Addr × Nat => []) (fun q : Nat × Option Addr × Nat => [Own 3 1 q.2.1 (mem m q.1).length q.2.2 (I64 (NI (mem m q.1)))]) (fun q : Nat × Option Addr × Nat => q.1 ≤ 64) (fun q : Nat × Option Addr × Nat => 64 - q.1) (0, none, 0) (Nat.zero_le _) (by exact Le.mk' (rs := []) (hs := [0]) ⟨rfl, rfl, rfl, trivial⟩ trivial ⟨rfl, trivial⟩ (by decide)) ?_
 rintro ⟨t, A, c⟩ ht
 dsimp only at ht ⊢
 refine C.seq (C.seq (C.region ?_)); refine Lpu rfl rfl ?_; refine Lpu rfl rfl ?_; refine L.step (Ev.shrU rfl rfl (by omega)) rfl ?_; refine Lpu rfl rfl ?_; refine L.nil (QE.seq ?_)
 refine C.condB 8 rfl (fun hc8 => ?_) (fun hc8 => ?_)
 ·
  replace hc8 := b_ne hc8
  refine C.skip (QE.seq (C.seq (C.block (C.seq ?_))))
  have ht64 : t < 64 := by
    rcases Nat.lt_or_ge t 64 with h | h
    · exact h
    · exact absurd (by rw [shr_big hm h]; rfl) hc8
  refine C.region ?_; refine Lpu rfl rfl ?_; refine Lpu rfl rfl ?_; refine L.step (Ev.shrU rfl rfl (by omega)) rfl ?_; refine L.step (Ev.andU (b := 1) rfl rfl (Nat.lt_of_le_of_lt (Nat.shiftRight_le _ _) hm) (by decide)) rfl ?_; refine Lpu rfl rfl ?_; refine L.nil (QE.seq ?_)
  refine C.condB 15 rfl (fun hc15 => ?_) (fun hc15 => ?_)
  ·
   replace hc15 := i_eq hc15
   have hb : m.testBit t = true := (bit_and1 m t).1 (by omega)
   have he := mem_yes hb
   have hml := mem_len m t
   refine C.region ?_; refine Lpu rfl rfl ?_; refine Lpu rfl rfl ?_
   refine L.lit rfl rfl rfl rfl rfl (by rfl) (by rfl) (by rfl) rfl rfl (fun A18 => ?_)
   refine L.append (j := 0) rfl rfl rfl rfl (by decide) rfl rfl rfl rfl (Src.o 1 rfl) rfl (allOne rfl) (by omega) (by show _ * 8 ≤ _; omega) rfl (fun A19 cc19 => ?_)
   refine Lpu rfl rfl ?_; refine L.nil ?_; refine QE.blkN ?_; refine QE.seq (C.region ?_); refine Lpu rfl rfl ?_; refine L.step (Ev.add rfl rfl (by omega) (by omega)) rfl ?_; refine Lpu rfl rfl ?_; refine L.nil ?_
   refine QE.round (i := (t, A, c)) ((t + 1, A19, cc19)) (by dsimp only; omega) (by dsimp only; omega) (by exact Le.mk' (rs := []) (hs := [0]) ⟨rfl, (by dsimp only; rw [he, List.length_append]; rfl), rfl, trivial⟩ trivial ⟨(congrArg some (own_eq (by dsimp only; rw [he, List.length_append]; rfl) (by dsimp only; rw [he, NI_app, ← I64_app]; rfl))), trivial⟩ (by decide))
  ·
   replace hc15 := i_ne hc15
   have hb : m.testBit t = false := by
     cases hb : m.testBit t with
     | false => rfl
     | true => exact absurd (by rw [(bit_and1 m t).2 hb]; rfl) hc15
   have he := mem_no hb
   refine C.skip ?_; refine QE.blkN ?_; refine QE.seq (C.region ?_); refine Lpu rfl rfl ?_; refine L.step (Ev.add rfl rfl (by omega) (by omega)) rfl ?_; refine Lpu rfl rfl ?_; refine L.nil ?_
   refine QE.round (i := (t, A, c)) ((t + 1, A, c)) (by dsimp only; omega) (by dsimp only; omega) (by exact Le.mk' (rs := []) (hs := [0]) ⟨rfl, (by dsimp only; rw [he]; rfl), rfl, trivial⟩ trivial ⟨(congrArg some (by dsimp only; rw [he])), trivial⟩ (by decide))
 ·
  replace hc8 := b_eq hc8
  refine C.exit ?_; refine QE.tX ?_; refine QE.tX ?_; refine QE.blk ?_; refine QE.seq (C.seq (C.region ?_)); refine Lpu rfl rfl ?_; refine Lpu rfl rfl ?_; refine L.nil (QE.seq (C.ret ?_)); refine QE.ret (js := []) (hs := [0]) (vs := [_]) rfl ⟨rfl, trivial⟩ (by decide) ?_
  have he : mem m 64 = mem m t := by
    have h0 : m >>> t = 0 := by omega
    have := mem_end (shr_zero.1 h0) (64 - t)
    rwa [show t + (64 - t) = 64 from by omega] at this
  rw [he]
  exact ⟨A, c, rfl, rfl, rfl⟩

set_option maxHeartbeats 1000000 in
theorem first_c (n : Nat) (p : Nat → Nat → Bool) (ms : List Nat) (RA : Option Addr) (rc S : Nat) (hrd : RdIs n p ms) (hn : n ≤ 60) (hS : S < 18446744073709551616) :
   Ctr X 90 [.slice RA n rc, .int .u64 (S : Int)] [Rd RA (U64L ms)] [] (fun v R' H' => ∃ (A : Option Addr) (c : Nat), v = .slice A (frs n p S.testBit n).length c ∧ R' = [] ∧ H' = [Own 3 1 A (frs n p S.testBit n).length c (I64 (NI (frs n p S.testBit n)))]) := by
 refine Ctr.of (X := X) (fn := Tryz.f90) Tryz.func90 rfl (by kernel_rfl) rfl ?_
 intro β
 refine C.seq (C.region ?_); refine Lpu rfl rfl ?_; refine L.nil (QE.seq (C.seq (C.region ?_))); refine Lpu rfl rfl ?_; refine L.nil (QE.seq (C.seq (C.region ?_))); refine Lpu rfl rfl ?_; refine L.nil (QE.seq (C.seq (C.seq (C.region ?_)))); refine Lpu rfl rfl ?_; refine Lpu rfl rfl ?_; refine Lpu rfl rfl ?_; refine L.nil (QE.seq (C.block ?_)); refine C.nil_own 3 1 ?_; refine C.loop (fun q : Nat × Option Addr × Nat × Nat => [(0, .slice RA n rc), (1, .int .u64 (S : Int)), (9, .slice RA n rc), (10, .int .i64 (n : Int)), (5, .slice q.2.1 (frs n p S.testBit q.1).length q.2.2.1), (6, .int .u64 (q.2.2.2 : Int)), (11, .int .i64 (q.1 : Int))]) (fun q : Nat × Option Addr × Nat × Nat => [Rd RA (U64L ms)]) (fun q : Nat × Option Addr × Nat × Nat => [Own 3 1 q.2.1 (frs n p S.testBit q.1).length q.2.2.1 (I64 (NI (frs n p S.testBit q.1)))]) (fun q : Nat × Option Addr × Nat × Nat => q.1 ≤ n ∧ ∀ u, q.2.2.2.testBit u = (frs n p S.testBit q.1).contains u) (fun q : Nat × Option Addr × Nat × Nat => n - q.1) (0, none, 0, 0) ⟨Nat.zero_le _, fun u => Nat.zero_testBit u⟩ (by exact Le.mk' (rs := [0]) (hs := [0]) ⟨rfl, rfl, rfl, rfl, rfl, rfl, rfl, trivial⟩ ⟨rfl, trivial⟩ ⟨rfl, trivial⟩ (by decide)) ?_
 rintro ⟨k, A, c, d⟩ ⟨hk, hd⟩
 dsimp only at hk hd ⊢
 refine C.seq (C.region ?_); refine Lpu rfl rfl ?_; refine L.nil (QE.seq (C.seq ?_))
 refine C.condB 12 rfl (fun hc12 => ?_) (fun hc12 => ?_)
 ·
  replace hc12 := of_decide_eq_true hc12
  refine C.skip (QE.seq (C.seq (C.block (C.seq ?_))))
  have hdl := done_lt hd (frs_mem (n := n) (p := p) (st := S.testBit) k) (by omega)
  have hfl := frs_len (n := n) (p := p) (st := S.testBit) k
  refine C.region ?_; refine Lpu rfl rfl ?_; refine Lpu rfl rfl ?_; refine Lpu rfl rfl ?_; refine L.nil (QE.seq (C.block ?_)); refine C.loop (fun t : Nat => [(0, .slice RA n rc), (1, .int .u64 (S : Int)), (9, .slice RA n rc), (10, .int .i64 (n : Int)), (5, .slice A (frs n p S.testBit k).length c), (6, .int .u64 (d : Int)), (11, .int .i64 (k : Int)), (13, .slice RA n rc), (14, .int .i64 (n : Int)), (15, .int .i64 (t : Int))]) (fun t : Nat => [Rd RA (U64L ms)]) (fun t : Nat => [Own 3 1 A (frs n p S.testBit k).length c (I64 (NI (frs n p S.testBit k)))]) (fun t : Nat => ∀ i, i < t → nxtB n p S.testBit (frs n p S.testBit k) i = false) (fun t : Nat => n - t) 0 all_zero (by exact Le.mk' (rs := [0]) (hs := [0]) ⟨rfl, rfl, rfl, rfl, rfl, rfl, rfl, rfl, rfl, rfl, trivial⟩ ⟨rfl, trivial⟩ ⟨rfl, trivial⟩ (by decide)) ?_
  intro t hno
  refine C.seq (C.region ?_); refine Lpu rfl rfl ?_; refine L.nil (QE.seq (C.seq ?_))
  refine C.condB 16 rfl (fun hc16 => ?_) (fun hc16 => ?_)
  ·
   replace hc16 := of_decide_eq_true hc16
   refine C.skip (QE.seq (C.seq (C.block (C.seq ?_))))
   obtain ⟨z, hz, hzl, hz2⟩ := bopU_andNot (a := ms.getD t 0) (b := d) (hrd.lt (by omega) (by omega)) hdl
   have hza := sub_all (hrd.2 t (by omega)) hd hz2
   refine C.region ?_; refine Lpu rfl rfl ?_; refine L.step (Ev.idx1 (k := t) rfl rfl rfl rfl rfl rfl rfl (by omega) (Src.r 0 rfl) (by rw [U64L_len, hrd.1]; omega)) rfl ?_; refine L.step (Ev.load rfl rfl rfl (Src.r 0 rfl) (U64L_get (by rw [hrd.1]; omega))) rfl ?_; refine Lpu rfl rfl ?_; refine Lpu rfl rfl ?_; refine L.nil (QE.seq (C.seq (C.region ?_))); refine Lpu rfl rfl ?_; refine Lpu rfl rfl ?_; refine L.step (Ev.shrU rfl rfl (by omega)) rfl ?_; refine L.step (Ev.andU (b := 1) rfl rfl (Nat.lt_of_le_of_lt (Nat.shiftRight_le _ _) hdl) (by decide)) rfl ?_; refine Lpu rfl rfl ?_; refine Lpu rfl rfl ?_
   refine L.bool 25 rfl (fun hg25 => ?_) (fun hg25 => ?_)
   ·
    replace hg25 := i_eq hg25
    have hin : (frs n p S.testBit k).contains t = false := by rw [← hd, ← bit_and0]; omega
    refine L.yes rfl ?_; refine Lpu rfl rfl ?_; refine L.yes rfl ?_; refine Lpu rfl rfl ?_; refine L.yes rfl ?_; refine L.step (Ev.shrU rfl rfl (by omega)) rfl ?_; refine L.yes rfl ?_; refine L.step (Ev.andU (b := 1) rfl rfl (Nat.lt_of_le_of_lt (Nat.shiftRight_le _ _) hS) (by decide)) rfl ?_; refine L.yes rfl ?_; refine Lpu rfl rfl ?_; refine L.yes rfl ?_; refine Lpu rfl rfl ?_
    refine L.bool 31 rfl (fun hg31 => ?_) (fun hg31 => ?_)
    ·
     replace hg31 := i_eq hg31
     have hst : S.testBit t = true := (bit_and1 S t).1 (by omega)
     have hx : nxtB n p S.testBit (frs n p S.testBit k) t = true := nxt_st hin hst
     refine L.no rfl rfl rfl ?_; refine L.no rfl rfl rfl ?_; refine L.no rfl rfl rfl ?_; refine L.no rfl rfl rfl ?_; refine L.yes rfl ?_; refine Lpu rfl rfl ?_; refine Lpu rfl rfl ?_; refine L.nil (QE.seq ?_)
     refine C.cond rfl (fun _ => ?_) (fun h => by cases h)
     refine C.seq (C.region ?_); refine Lpu rfl rfl ?_; refine Lpu rfl rfl ?_; refine L.step (Ev.shlU (m := 1) (k := t) rfl rfl (by omega) (pow_small (by omega))) rfl ?_; refine L.step (Ev.orU rfl rfl hdl (pow_small (by omega))) rfl ?_; refine Lpu rfl rfl ?_; refine L.nil (QE.seq (C.seq (C.region ?_))); refine Lpu rfl rfl ?_; refine Lpu rfl rfl ?_
     refine L.lit rfl rfl rfl rfl rfl (by rfl) (by rfl) (by rfl) rfl rfl (fun A44 => ?_)
     refine L.append (j := 0) rfl rfl rfl rfl (by decide) rfl rfl rfl rfl (Src.o 1 rfl) rfl (allOne rfl) (by omega) (by show _ * 8 ≤ _; omega) rfl (fun A45 cc45 => ?_)
     refine Lpu rfl rfl ?_; refine L.nil (QE.seq ?_); refine C.exit ?_; refine QE.blkX rfl ?_; refine QE.tX ?_; refine QE.tX ?_; refine QE.blk ?_; refine QE.blkN ?_; refine QE.seq (C.region ?_); refine L.step (Ev.add rfl rfl (by omega) (by omega)) rfl ?_; refine Lpu rfl rfl ?_; refine L.nil ?_
     have he := frs_some hno (by omega) hx
     refine QE.round (i := (k, A, c, d)) ((k + 1, A45, cc45, d ||| 1 * 2 ^ t)) (by exact ⟨by dsimp only; omega, by dsimp only; rw [he]; exact done_step hd⟩) (by dsimp only; omega) (by exact Le.mk' (rs := [0]) (hs := [0]) ⟨rfl, rfl, rfl, rfl, (by dsimp only; rw [he, List.length_append]; rfl), rfl, rfl, trivial⟩ ⟨rfl, trivial⟩ ⟨(congrArg some (own_eq (by dsimp only; rw [he, List.length_append]; rfl) (by dsimp only; rw [he, NI_app, ← I64_app]; rfl))), trivial⟩ (by decide))
    ·
     replace hg31 := i_ne hg31
     have hst : S.testBit t = false := by
       cases hb : S.testBit t with
       | false => rfl
       | true => exact absurd (by rw [(bit_and1 S t).2 hb]; rfl) hg31
     refine L.yes rfl ?_; refine Lpu rfl rfl ?_; refine L.yes rfl ?_; refine Lpu rfl rfl ?_; refine L.yes rfl ?_; refine L.step (Ev.cast (u := .int .u64 ((z : Nat) : Int)) (Ev.pure rfl) (congrArg (Value.int .u64) hz)) rfl ?_; refine L.yes rfl ?_; refine Lpu rfl rfl ?_; refine L.yes rfl ?_; refine Lpu rfl rfl ?_; refine Lpu rfl rfl ?_; refine L.nil (QE.seq ?_)
     refine C.condB 37 rfl (fun hc37 => ?_) (fun hc37 => ?_)
     ·
      replace hc37 := i_eq hc37
      have hx : nxtB n p S.testBit (frs n p S.testBit k) t = true := by
        first
          | exact hx
          | rw [nxt_rd hin hst]; exact hza.1 (by omega)
      refine C.seq (C.region ?_); refine Lpu rfl rfl ?_; refine Lpu rfl rfl ?_; refine L.step (Ev.shlU (m := 1) (k := t) rfl rfl (by omega) (pow_small (by omega))) rfl ?_; refine L.step (Ev.orU rfl rfl hdl (pow_small (by omega))) rfl ?_; refine Lpu rfl rfl ?_; refine L.nil (QE.seq (C.seq (C.region ?_))); refine Lpu rfl rfl ?_; refine Lpu rfl rfl ?_
      refine L.lit rfl rfl rfl rfl rfl (by rfl) (by rfl) (by rfl) rfl rfl (fun A44 => ?_)
      refine L.append (j := 0) rfl rfl rfl rfl (by decide) rfl rfl rfl rfl (Src.o 1 rfl) rfl (allOne rfl) (by omega) (by show _ * 8 ≤ _; omega) rfl (fun A45 cc45 => ?_)
      refine Lpu rfl rfl ?_; refine L.nil (QE.seq ?_); refine C.exit ?_; refine QE.blkX rfl ?_; refine QE.tX ?_; refine QE.tX ?_; refine QE.blk ?_; refine QE.blkN ?_; refine QE.seq (C.region ?_); refine L.step (Ev.add rfl rfl (by omega) (by omega)) rfl ?_; refine Lpu rfl rfl ?_; refine L.nil ?_
      have he := frs_some hno (by omega) hx
      refine QE.round (i := (k, A, c, d)) ((k + 1, A45, cc45, d ||| 1 * 2 ^ t)) (by exact ⟨by dsimp only; omega, by dsimp only; rw [he]; exact done_step hd⟩) (by dsimp only; omega) (by exact Le.mk' (rs := [0]) (hs := [0]) ⟨rfl, rfl, rfl, rfl, (by dsimp only; rw [he, List.length_append]; rfl), rfl, rfl, trivial⟩ ⟨rfl, trivial⟩ ⟨(congrArg some (own_eq (by dsimp only; rw [he, List.length_append]; rfl) (by dsimp only; rw [he, NI_app, ← I64_app]; rfl))), trivial⟩ (by decide))
     ·
      replace hc37 := i_ne hc37
      have hx : nxtB n p S.testBit (frs n p S.testBit k) t = false := by
        first
          | exact hx
          | rw [nxt_rd hin hst]; cases hq : ((List.range n).all fun u => !p u t || (frs n p S.testBit k).contains u) with
            | false => rfl
            | true => exact absurd (by rw [hza.2 hq]; rfl) hc37
      refine C.skip ?_; refine QE.blkN ?_; refine QE.seq (C.region ?_); refine L.step (Ev.add rfl rfl (by omega) (by omega)) rfl ?_; refine Lpu rfl rfl ?_; refine L.nil ?_
      refine QE.round (t + 1) (by exact (all_step hno hx)) (by omega) (by exact Le.mk' (rs := [0]) (hs := [0]) ⟨rfl, rfl, rfl, rfl, rfl, rfl, rfl, rfl, rfl, rfl, trivial⟩ ⟨rfl, trivial⟩ ⟨rfl, trivial⟩ (by decide))
   ·
    replace hg25 := i_ne hg25
    have hin : (frs n p S.testBit k).contains t = true := by
      cases hb : (frs n p S.testBit k).contains t with
      | true => rfl
      | false => exact absurd (by rw [(bit_and0 d t).2 (by rw [hd]; exact hb)]; rfl) hg25
    have hx : nxtB n p S.testBit (frs n p S.testBit k) t = false := nxt_in hin
    refine L.no rfl rfl rfl ?_; refine L.no rfl rfl rfl ?_; refine L.no rfl rfl rfl ?_; refine L.no rfl rfl rfl ?_; refine L.no rfl rfl rfl ?_; refine L.no rfl rfl rfl ?_; refine L.no rfl rfl rfl ?_; refine L.no rfl rfl rfl ?_; refine L.no rfl rfl rfl ?_; refine L.no rfl rfl rfl ?_; refine L.no rfl rfl rfl ?_; refine Lpu rfl rfl ?_; refine L.nil (QE.seq ?_)
    refine C.cond rfl (fun h => by cases h) (fun _ => ?_)
    refine C.skip ?_; refine QE.blkN ?_; refine QE.seq (C.region ?_); refine L.step (Ev.add rfl rfl (by omega) (by omega)) rfl ?_; refine Lpu rfl rfl ?_; refine L.nil ?_
    refine QE.round (t + 1) (by exact (all_step hno hx)) (by omega) (by exact Le.mk' (rs := [0]) (hs := [0]) ⟨rfl, rfl, rfl, rfl, rfl, rfl, rfl, rfl, rfl, rfl, trivial⟩ ⟨rfl, trivial⟩ ⟨rfl, trivial⟩ (by decide))
  ·
   replace hc16 := of_decide_eq_false hc16
   refine C.exit ?_; refine QE.tX ?_; refine QE.tX ?_; refine QE.blk ?_; refine QE.blkN ?_; refine QE.seq (C.region ?_); refine L.step (Ev.add rfl rfl (by omega) (by omega)) rfl ?_; refine Lpu rfl rfl ?_; refine L.nil ?_
   have he := frs_none (fun i hi => hno i (by omega))
   refine QE.round (i := (k, A, c, d)) ((k + 1, A, c, d)) (by exact ⟨by dsimp only; omega, by dsimp only; rw [he]; exact hd⟩) (by dsimp only; omega) (by exact Le.mk' (rs := [0]) (hs := [0]) ⟨rfl, rfl, rfl, rfl, (by dsimp only; rw [he]; rfl), rfl, rfl, trivial⟩ ⟨rfl, trivial⟩ ⟨(congrArg some (by dsimp only; rw [he])), trivial⟩ (by decide))
 ·
  replace hc12 := of_decide_eq_false hc12
  refine C.exit ?_; refine QE.tX ?_; refine QE.tX ?_; refine QE.blk ?_; refine QE.seq (C.seq (C.region ?_)); refine Lpu rfl rfl ?_; refine Lpu rfl rfl ?_; refine L.nil (QE.seq (C.ret ?_)); refine QE.ret (js := []) (hs := [0]) (vs := [_]) rfl ⟨rfl, trivial⟩ (by decide) ?_
  obtain rfl : n = k := by omega
  exact ⟨A, c, rfl, rfl, rfl⟩

end Go.Proofs.YtpccfdnmnnnboaaGreat
end
/-
  The stashes in their order, as plain data.
-/
section
namespace Go.Sl

def stL : Nat → Nat → Nat → List (List Nat)
 | 0, _, _ => [[]]
 | k + 1, f, n => (List.range' f (n - f)).flatMap fun t => (stL k (t + 1) n).map (t :: ·)
def stP (k f n d : Nat) : List (List Nat) := (List.range' f d).flatMap fun t => (stL k (t + 1) n).map (t :: ·)
theorem stP_zero (k f n : Nat) : stP k f n 0 = [] := rfl
theorem stP_succ (k f n d : Nat) : stP k f n (d + 1) = stP k f n d ++ (stL k (f + d + 1) n).map ((f + d) :: ·) := by
 simp [stP, List.range'_concat]
theorem stP_all (k f n : Nat) : stP k f n (n - f) = stL (k + 1) f n := rfl
theorem stL_len : ∀ (k f n : Nat), (stL k f n).length ≤ 2 ^ (n - f)
 | 0, _, _ => Nat.one_le_two_pow
 | k + 1, f, n => by
   have key : ∀ d, d ≤ n - f → (stP k f n d).length + 2 ^ (n - (f + d)) ≤ 2 ^ (n - f) := by
     intro d
     induction d with
     | zero =>
       intro _
       rw [stP_zero]
       simp
     | succ d ih =>
       intro hd
       have h1 := ih (by omega)
       have h2 := stL_len k (f + d + 1) n
       rw [stP_succ, List.length_append, List.length_map]
       rw [show n - (f + d) = n - (f + d + 1) + 1 from by omega, Nat.pow_succ] at h1
       rw [show f + (d + 1) = f + d + 1 from by omega]
       omega
   have := key (n - f) (Nat.le_refl _)
   rw [stP_all] at this
   exact Nat.le_trans (Nat.le_add_right _ _) this
theorem stP_len (k f n d : Nat) (h : d ≤ n - f) : (stP k f n d).length ≤ 2 ^ (n - f) := by
 have e : (stL (k + 1) f n) = stP k f n d ++ (List.range' (f + d) (n - f - d)).flatMap fun t => (stL k (t + 1) n).map (t :: ·) := by
   rw [← stP_all]
   unfold stP
   rw [← List.flatMap_append, List.range'_append_1, show d + (n - f - d) = n - f from by omega]
 have h2 := stL_len (k + 1) f n
 rw [e, List.length_append] at h2
 omega
theorem stL_each : ∀ (k f n : Nat), ∀ l ∈ stL k f n, l.length = k
 | 0, _, _, l, h => by
   obtain rfl := List.mem_singleton.1 h
   rfl
 | k + 1, f, n, l, h => by
   simp only [stL, List.mem_flatMap, List.mem_map] at h
   obtain ⟨t, _, l', h', rfl⟩ := h
   rw [List.length_cons, stL_each k _ _ l' h']
def NL (ls : List (List Nat)) : List (List Int) := ls.map NI
theorem NL_len (ls : List (List Nat)) : (NL ls).length = ls.length := by simp [NL]
theorem NL_app (a b : List (List Nat)) : NL (a ++ b) = NL a ++ NL b := by simp [NL]
theorem NL_get {ls : List (List Nat)} {i : Nat} (h : i < ls.length) : (NL ls).getD i [] = NI (ls.getD i []) := by simp [NL, h]
theorem stL_get {k f n i : Nat} (h : i < (stL k f n).length) : ((NL (stL k f n)).getD i []).length = k := by
 rw [NL_get h, NI_len]
 exact stL_each k f n _ (by simp [h])
/-- What was put together up to a place. -/
def stQ (k f n d i : Nat) : List (List Nat) := stP k f n d ++ ((stL k (f + d + 1) n).take i).map ((f + d) :: ·)
theorem stQ_zero (k f n d : Nat) : stQ k f n d 0 = stP k f n d := by simp [stQ]
theorem stQ_succ {k f n d i : Nat} (h : i < (stL k (f + d + 1) n).length) : stQ k f n d (i + 1) = stQ k f n d i ++ [(f + d) :: (stL k (f + d + 1) n).getD i []] := by
 unfold stQ
 rw [take_snoc' _ [] i h, List.map_append, List.append_assoc]
 rfl
theorem stQ_all {k f n d i : Nat} (h : (stL k (f + d + 1) n).length ≤ i) : stQ k f n d i = stP k f n (d + 1) := by
 unfold stQ
 rw [List.take_of_length_le h, stP_succ]
theorem stQ_len {k f n d i : Nat} (h : d + 1 ≤ n - f) : (stQ k f n d i).length ≤ 2 ^ (n - f) := by
 have := stP_len k f n (d + 1) h
 rw [stP_succ, List.length_append, List.length_map] at this
 unfold stQ
 rw [List.length_append, List.length_map, List.length_take]
 omega
theorem two_pow_small {n f : Nat} (h : n ≤ 16) : 2 ^ (n - f) ≤ 65536 := Nat.le_trans (Nat.pow_le_pow_right (by decide) (show n - f ≤ 16 by omega)) (by decide)
end Go.Sl
end
