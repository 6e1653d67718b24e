/-
  Right of the program and of the reference.
-/
import Derived.Test.YtdkilfnbilohmaaVWOrI
import Derived.Test.YtdkilfnbilohmaaVOh
namespace Go.Proofs.Ytdkilfnbilohmaa
open Go.Sl

set_option maxHeartbeats 1000000 in
theorem rightP_c (LA : Option Addr) (ls : List (List Int)) (lc : Nat) (hs : List Hd) (hh : hs.length = ls.length) (hll : ls.length ≤ 9223372036854775807) (hlr : ∀ i, (ls.getD i []).length ≤ 9223372036854775807) (seq st : List Int) (QA TA : Option Addr) (qc tc : Nat) (hq : seq.length ≤ 1000000) (ht : st.length ≤ 1000000) :
   Ctr X 16 [.slice LA ls.length lc, .slice QA seq.length qc, .slice TA st.length tc] [Rd LA (rowsV hs (J8 ls)), KidsR hs (J8 ls), Rd QA (I64 seq), Rd TA (I64 st)] [] (fun v R' H' => v = .bool (rightP ls seq st) ∧ R' = [] ∧ H' = []) := by
 refine Ctr.of (X := X) (fn := Try.f16) Try.func16 rfl (by kernel_rfl) rfl ?_
 intro β
 refine C.seq (C.region ?_); refine Lpu rfl rfl ?_; refine L.nil (QE.seq (C.seq (C.seq (C.region ?_)))); refine Lpu rfl rfl ?_; refine L.call (js := []) (js' := []) (readings_c LA ls lc hs hh hll hlr) rfl rfl rfl (by decide) (Hq [0, 1] rfl) rfl ?_
 rintro _ _ _ ⟨rfl, rfl, rfl⟩
 refine Lpu rfl rfl ?_; refine Lpu rfl rfl ?_
 refine L.bool 21 rfl (fun hg21 => ?_) (fun hg21 => ?_)
 ·
  have hrb : readB ls = false := by simpa using hg21
  refine L.no rfl rfl rfl ?_; refine L.no rfl rfl rfl ?_; refine L.no rfl rfl rfl ?_; refine L.no rfl rfl rfl ?_; refine L.no rfl rfl rfl ?_; refine Lpu rfl rfl ?_; refine L.nil (QE.seq ?_)
  refine C.cond rfl (fun _ => ?_) (fun h => by cases h)
  refine C.seq (C.region ?_); refine Lpu rfl rfl ?_; refine L.nil (QE.seq (C.ret (QE.tR ?_))); refine QE.ret (js := []) (hs := []) (vs := [_]) rfl ⟨rfl, trivial⟩ (by decide) ?_
  exact ⟨congrArg Value.bool (by unfold rightP; exact (decide_eq_false (by rintro ⟨h1, h2, h3, h4, h5⟩; rw [hrb] at h1; cases h1)).symm), rfl, rfl⟩
 ·
  have hrb : readB ls = true := by simpa using hg21
  refine L.yes rfl ?_; refine Lpu rfl rfl ?_; refine L.yes rfl ?_; refine Lpu rfl rfl ?_; refine L.yes rfl ?_; refine Lpu rfl rfl ?_; refine L.yes rfl ?_; refine Lpu rfl rfl ?_; refine L.yes rfl ?_; refine Lpu rfl rfl ?_; refine Lpu rfl rfl ?_; refine L.nil (QE.seq ?_)
  refine C.condB 27 rfl (fun hc27 => ?_) (fun hc27 => ?_)
  ·
   replace hc27 := b_ne hc27
   refine C.seq (C.region ?_); refine Lpu rfl rfl ?_; refine L.nil (QE.seq (C.ret (QE.tR ?_))); refine QE.ret (js := []) (hs := []) (vs := [_]) rfl ⟨rfl, trivial⟩ (by decide) ?_
   exact ⟨congrArg Value.bool (by unfold rightP; exact (decide_eq_false (by rintro ⟨h1, h2, h3, h4, h5⟩; omega)).symm), rfl, rfl⟩
  ·
   replace hc27 := b_eq hc27
   refine C.skip (QE.seq (C.seq (C.region ?_))); refine Lpu rfl rfl ?_; refine Lpu rfl rfl ?_
   refine L.make (m := ls.length) rfl rfl rfl rfl rfl rfl rfl rfl rfl (by show 8 * _ ≤ _; omega) (by omega) rfl (fun A30 => ?_)
   refine Lpu rfl rfl ?_; refine L.nil (QE.seq (C.seq (C.seq (C.region ?_)))); refine Lpu rfl rfl ?_; refine Lpu rfl rfl ?_; refine Lpu rfl rfl ?_; refine L.nil (QE.seq (C.block ?_)); refine C.loop (fun k : Nat => [(0, .slice LA ls.length lc), (1, .slice QA seq.length qc), (2, .slice TA st.length tc), (7, .slice A30 ls.length ls.length), (32, .int .i64 (ls.length : Int)), (33, .int .i64 (k : Int))]) (fun k : Nat => [Rd LA (rowsV hs (J8 ls)), KidsR hs (J8 ls), Rd QA (I64 seq), Rd TA (I64 st)]) (fun k : Nat => [Own 3 1 A30 ls.length ls.length (I64 (List.replicate k (-1) ++ List.replicate (ls.length - k) 0))]) (fun k : Nat => k ≤ ls.length) (fun k : Nat => ls.length - k) 0 (Nat.zero_le _) (by exact Le.mk' (rs := [0, 1, 2, 3]) (hs := [0]) ⟨rfl, rfl, rfl, rfl, rfl, rfl, trivial⟩ ⟨rfl, rfl, rfl, rfl, trivial⟩ ⟨(congrArg some (own_eq rfl (by rw [List.replicate_zero, List.nil_append, I64, List.map_replicate]; rfl))), trivial⟩ (by decide)) ?_
   intro k hk
   refine C.seq (C.region ?_); refine Lpu rfl rfl ?_; refine L.nil (QE.seq (C.seq ?_))
   refine C.condB 34 rfl (fun hc34 => ?_) (fun hc34 => ?_)
   ·
    replace hc34 := of_decide_eq_true hc34
    refine C.skip (QE.seq (C.seq (C.block (C.seq (C.region ?_))))); refine Lpu rfl rfl ?_; refine Lpu rfl rfl ?_; refine L.nil (QE.seq (C.region ?_)); refine Lpu rfl rfl ?_; refine Lpu rfl rfl ?_; refine L.step (Ev.idx1 (k := k) rfl rfl rfl rfl rfl rfl rfl (by omega) (Src.o 0 rfl) (by rw [I64_len, List.length_append, List.length_replicate, List.length_replicate]; omega)) rfl ?_; refine L.store (j := 0) rfl rfl rfl rfl rfl rfl rfl (by exact I64_get (k := k) (by rw [List.length_append, List.length_replicate, List.length_replicate]; omega)) ?_; refine L.nil ?_; refine QE.blkN ?_; refine QE.seq (C.region ?_); refine L.step (Ev.add rfl rfl (by omega) (by omega)) rfl ?_; refine Lpu rfl rfl ?_; refine L.nil ?_
    refine QE.round (k + 1) (by omega) (by omega) (by exact Le.mk' (rs := [0, 1, 2, 3]) (hs := [0]) ⟨rfl, rfl, rfl, rfl, rfl, rfl, trivial⟩ ⟨rfl, rfl, rfl, rfl, trivial⟩ ⟨(congrArg some (own_eq rfl (by rw [I64_set, fill_step _ _ _ _ (by omega)]))), trivial⟩ (by decide))
   ·
    replace hc34 := of_decide_eq_false hc34
    refine C.exit ?_; refine QE.tX ?_; refine QE.tX ?_; refine QE.blk ?_; refine QE.seq (C.seq (C.seq (C.region ?_))); refine Lpu rfl rfl ?_; refine Lpu rfl rfl ?_; refine Lpu rfl rfl ?_; refine L.nil (QE.seq (C.block ?_)); refine C.loop (fun i : Nat => [(0, .slice LA ls.length lc), (1, .slice QA seq.length qc), (2, .slice TA st.length tc), (7, .slice A30 ls.length ls.length), (40, .slice QA seq.length qc), (41, .int .i64 (seq.length : Int)), (42, .int .i64 (i : Int))]) (fun i : Nat => [Rd LA (rowsV hs (J8 ls)), KidsR hs (J8 ls), Rd QA (I64 seq), Rd TA (I64 st)]) (fun i : Nat => [Own 3 1 A30 ls.length ls.length (I64 (atL ls.length seq i))]) (fun i : Nat => i ≤ seq.length ∧ ∀ j, j < i → ¬badS ls.length seq j) (fun i : Nat => seq.length - i) 0 ⟨Nat.zero_le _, all_zero⟩ (by exact Le.mk' (rs := [0, 1, 2, 3]) (hs := [0]) ⟨rfl, rfl, rfl, rfl, rfl, rfl, rfl, trivial⟩ ⟨rfl, rfl, rfl, rfl, trivial⟩ ⟨(congrArg some (own_eq rfl (by rw [show k = ls.length from by omega, Nat.sub_self, List.replicate_zero, List.append_nil]; rfl))), trivial⟩ (by decide)) ?_
    rintro i ⟨hi, hbs⟩
    refine C.seq (C.region ?_); refine Lpu rfl rfl ?_; refine L.nil (QE.seq (C.seq ?_))
    refine C.condB 43 rfl (fun hc43 => ?_) (fun hc43 => ?_)
    ·
     replace hc43 := of_decide_eq_true hc43
     refine C.skip (QE.seq (C.seq (C.block (C.seq (C.region ?_))))); refine Lpu rfl rfl ?_; refine L.step (Ev.idx1 (k := i) rfl rfl rfl rfl rfl rfl rfl (by omega) (Src.r 2 rfl) (by rw [I64_len]; omega)) rfl ?_; refine L.step (Ev.load rfl rfl rfl (Src.r 2 rfl) (I64_get (by omega))) rfl ?_; refine Lpu rfl rfl ?_; refine Lpu rfl rfl ?_; refine L.nil (QE.seq (C.seq (C.seq (C.region ?_)))); refine Lpu rfl rfl ?_; refine Lpu rfl rfl ?_; refine Lpu rfl rfl ?_
     refine L.bool 49 rfl (fun hg49 => ?_) (fun hg49 => ?_)
     ·
      replace hg49 := of_decide_eq_true hg49
      refine L.no rfl rfl rfl ?_; refine L.no rfl rfl rfl ?_; refine L.no rfl rfl rfl ?_; refine L.no rfl rfl rfl ?_; refine Lpu rfl rfl ?_; refine Lpu rfl rfl ?_; refine L.no rfl rfl rfl ?_; refine L.no rfl rfl rfl ?_; refine L.no rfl rfl rfl ?_; refine L.no rfl rfl rfl ?_; refine L.no rfl rfl rfl ?_; refine Lpu rfl rfl ?_; refine L.nil (QE.seq ?_)
      refine C.cond rfl (fun _ => ?_) (fun h => by cases h)
      refine C.seq ?_
      have hb : badS ls.length seq i := by unfold badS; omega
      refine C.region ?_; refine Lpu rfl rfl ?_; refine L.nil (QE.seq (C.ret (QE.tR (QE.bR (QE.tR (QE.tR (QE.bR (QE.tR ?_)))))))); refine QE.ret (js := []) (hs := []) (vs := [_]) rfl ⟨rfl, trivial⟩ (by decide) ?_
      exact ⟨congrArg Value.bool (by unfold rightP; exact (decide_eq_false (by rintro ⟨h1, h2, h3, h4, h5⟩; exact h3 i (by omega) hb)).symm), rfl, rfl⟩
     ·
      replace hg49 := of_decide_eq_false hg49
      refine L.yes rfl ?_; refine Lpu rfl rfl ?_; refine L.yes rfl ?_; refine Lpu rfl rfl ?_; refine L.yes rfl ?_; refine Lpu rfl rfl ?_; refine L.yes rfl ?_; refine Lpu rfl rfl ?_; refine Lpu rfl rfl ?_; refine Lpu rfl rfl ?_
      refine L.bool 55 rfl (fun hg55 => ?_) (fun hg55 => ?_)
      ·
       replace hg55 := of_decide_eq_true hg55
       refine L.no rfl rfl rfl ?_; refine L.no rfl rfl rfl ?_; refine L.no rfl rfl rfl ?_; refine L.no rfl rfl rfl ?_; refine L.no rfl rfl rfl ?_; refine Lpu rfl rfl ?_; refine L.nil (QE.seq ?_)
       refine C.cond rfl (fun _ => ?_) (fun h => by cases h)
       refine C.seq ?_
       have hb : badS ls.length seq i := by unfold badS; omega
       refine C.region ?_; refine Lpu rfl rfl ?_; refine L.nil (QE.seq (C.ret (QE.tR (QE.bR (QE.tR (QE.tR (QE.bR (QE.tR ?_)))))))); refine QE.ret (js := []) (hs := []) (vs := [_]) rfl ⟨rfl, trivial⟩ (by decide) ?_
       exact ⟨congrArg Value.bool (by unfold rightP; exact (decide_eq_false (by rintro ⟨h1, h2, h3, h4, h5⟩; exact h3 i (by omega) hb)).symm), rfl, rfl⟩
      ·
       replace hg55 := of_decide_eq_false hg55
       refine L.yes rfl ?_; refine Lpu rfl rfl ?_; refine L.yes rfl ?_; refine Lpu rfl rfl ?_; refine L.yes rfl ?_; refine L.step (Ev.idx1 (k := (seq.getD i 0).toNat) rfl rfl rfl rfl rfl rfl (by omega) (by omega) (Src.o 0 rfl) (by rw [I64_len, atL_len]; omega)) rfl ?_; refine L.yes rfl ?_; refine L.step (Ev.load rfl rfl rfl (Src.o 0 rfl) (I64_get (by rw [atL_len]; omega))) rfl ?_; refine L.yes rfl ?_; refine Lpu rfl rfl ?_; refine Lpu rfl rfl ?_; refine L.nil (QE.seq ?_)
       refine C.condB 61 rfl (fun hc61 => ?_) (fun hc61 => ?_)
       ·
        replace hc61 := of_decide_eq_true hc61
        refine C.seq ?_
        have hb : badS ls.length seq i := by unfold badS; omega
        refine C.region ?_; refine Lpu rfl rfl ?_; refine L.nil (QE.seq (C.ret (QE.tR (QE.bR (QE.tR (QE.tR (QE.bR (QE.tR ?_)))))))); refine QE.ret (js := []) (hs := []) (vs := [_]) rfl ⟨rfl, trivial⟩ (by decide) ?_
        exact ⟨congrArg Value.bool (by unfold rightP; exact (decide_eq_false (by rintro ⟨h1, h2, h3, h4, h5⟩; exact h3 i (by omega) hb)).symm), rfl, rfl⟩
       ·
        replace hc61 := of_decide_eq_false hc61
        refine C.skip (QE.seq ?_)
        have hb : ¬badS ls.length seq i := by unfold badS; omega
        refine C.region ?_; refine Lpu rfl rfl ?_; refine Lpu rfl rfl ?_; refine Lpu rfl rfl ?_; refine L.step (Ev.idx1 (k := (seq.getD i 0).toNat) rfl rfl rfl rfl rfl rfl (by omega) (by omega) (Src.o 0 rfl) (by rw [I64_len, atL_len]; omega)) rfl ?_; refine L.store (j := 0) rfl rfl rfl rfl rfl rfl rfl (by exact I64_get (k := (seq.getD i 0).toNat) (by rw [atL_len]; omega)) ?_; refine L.nil ?_; refine QE.blkN ?_; refine QE.seq (C.region ?_); refine L.step (Ev.add rfl rfl (by omega) (by omega)) rfl ?_; refine Lpu rfl rfl ?_; refine L.nil ?_
        refine QE.round (i + 1) (by exact ⟨by omega, all_step hbs hb⟩) (by omega) (by exact Le.mk' (rs := [0, 1, 2, 3]) (hs := [0]) ⟨rfl, rfl, rfl, rfl, rfl, rfl, rfl, trivial⟩ ⟨rfl, rfl, rfl, rfl, trivial⟩ ⟨(congrArg some (own_eq rfl (I64_set _ _ _))), trivial⟩ (by decide))
    ·
     replace hc43 := of_decide_eq_false hc43
     refine C.exit ?_; refine QE.tX ?_; refine QE.tX ?_; refine QE.blk ?_; refine QE.seq (C.seq ?_)
     obtain rfl : i = seq.length := by omega
     refine C.freeze 0 rfl [] (by decide) (by decide) ?_; refine C.region ?_; refine Lpu rfl rfl ?_; refine L.nil (QE.seq (C.seq (C.seq (C.region ?_)))); refine Lpu rfl rfl ?_; refine Lpu rfl rfl ?_; refine Lpu rfl rfl ?_; refine L.nil (QE.seq (C.block ?_)); refine C.loop (fun j : Nat => [(0, .slice LA ls.length lc), (1, .slice QA seq.length qc), (2, .slice TA st.length tc), (7, .slice A30 ls.length ls.length), (67, .slice TA st.length tc), (68, .int .i64 (st.length : Int)), (69, .int .i64 (j : Int)), (11, .int .i64 (prevI st j))]) (fun j : Nat => [Rd A30 (I64 (atL ls.length seq seq.length)), Rd LA (rowsV hs (J8 ls)), KidsR hs (J8 ls), Rd QA (I64 seq), Rd TA (I64 st)]) (fun j : Nat => []) (fun j : Nat => j ≤ st.length ∧ ∀ i, i < j → ¬NotRd ls.length ls.length st i) (fun j : Nat => st.length - j) 0 ⟨Nat.zero_le _, all_zero⟩ (by exact Le.mk' (rs := [0, 1, 2, 3, 4]) (hs := []) ⟨rfl, rfl, rfl, rfl, rfl, rfl, rfl, rfl, trivial⟩ ⟨rfl, rfl, rfl, rfl, rfl, trivial⟩ trivial (by decide)) ?_
     rintro j ⟨hj, hj2⟩
     refine C.seq (C.region ?_); refine Lpu rfl rfl ?_; refine L.nil (QE.seq (C.seq ?_))
     refine C.condB 70 rfl (fun hc70 => ?_) (fun hc70 => ?_)
     ·
      replace hc70 := of_decide_eq_true hc70
      refine C.skip (QE.seq (C.seq (C.block (C.seq (C.region ?_))))); refine L.step (Ev.idx1 (k := j) rfl rfl rfl rfl rfl rfl rfl (by omega) (Src.r 4 rfl) (by rw [I64_len]; omega)) rfl ?_; refine L.step (Ev.load rfl rfl rfl (Src.r 4 rfl) (I64_get (by omega))) rfl ?_; refine Lpu rfl rfl ?_; refine L.nil (QE.seq (C.seq (C.seq (C.region ?_)))); refine Lpu rfl rfl ?_; refine Lpu rfl rfl ?_; refine Lpu rfl rfl ?_; refine Lpu rfl rfl ?_
      refine L.bool 76 rfl (fun hg76 => ?_) (fun hg76 => ?_)
      ·
       replace hg76 := of_decide_eq_true hg76
       refine L.no rfl rfl rfl ?_; refine L.no rfl rfl rfl ?_; refine L.no rfl rfl rfl ?_; refine L.no rfl rfl rfl ?_; refine Lpu rfl rfl ?_; refine L.nil (QE.seq ?_)
       refine C.cond rfl (fun _ => ?_) (fun h => by cases h)
       refine C.seq ?_
       have hN : NotRd ls.length ls.length st j := (not_rd hj2).2 (by omega)
       refine C.region ?_; refine Lpu rfl rfl ?_; refine L.nil (QE.seq (C.ret (QE.tR (QE.bR (QE.tR (QE.tR (QE.bR (QE.tR ?_)))))))); refine QE.ret (js := []) (hs := []) (vs := [_]) rfl ⟨rfl, trivial⟩ (by decide) ?_
       exact ⟨congrArg Value.bool (by unfold rightP; exact (decide_eq_false (by rintro ⟨h1, h2, h3, h4, h5⟩; exact rdRow_get h4 (by omega) hN)).symm), rfl, rfl⟩
      ·
       replace hg76 := of_decide_eq_false hg76
       refine L.yes rfl ?_; refine Lpu rfl rfl ?_; refine L.yes rfl ?_; refine Lpu rfl rfl ?_; refine L.yes rfl ?_; refine Lpu rfl rfl ?_; refine L.yes rfl ?_; refine Lpu rfl rfl ?_; refine Lpu rfl rfl ?_; refine L.nil (QE.seq ?_)
       refine C.condB 81 rfl (fun hc81 => ?_) (fun hc81 => ?_)
       ·
        replace hc81 := of_decide_eq_true hc81
        refine C.seq ?_
        have hN : NotRd ls.length ls.length st j := (not_rd hj2).2 (by omega)
        refine C.region ?_; refine Lpu rfl rfl ?_; refine L.nil (QE.seq (C.ret (QE.tR (QE.bR (QE.tR (QE.tR (QE.bR (QE.tR ?_)))))))); refine QE.ret (js := []) (hs := []) (vs := [_]) rfl ⟨rfl, trivial⟩ (by decide) ?_
        exact ⟨congrArg Value.bool (by unfold rightP; exact (decide_eq_false (by rintro ⟨h1, h2, h3, h4, h5⟩; exact rdRow_get h4 (by omega) hN)).symm), rfl, rfl⟩
       ·
        replace hc81 := of_decide_eq_false hc81
        refine C.skip (QE.seq ?_)
        have hN : ¬NotRd ls.length ls.length st j := fun h => by have := (not_rd hj2).1 h; omega
        refine C.region ?_; refine Lpu rfl rfl ?_; refine Lpu rfl rfl ?_; refine L.nil ?_; refine QE.blkN ?_; refine QE.seq (C.region ?_); refine L.step (Ev.add rfl rfl (by omega) (by omega)) rfl ?_; refine Lpu rfl rfl ?_; refine L.nil ?_
        refine QE.round (j + 1) (by exact ⟨by omega, all_step hj2 hN⟩) (by omega) (by exact Le.mk' (rs := [0, 1, 2, 3, 4]) (hs := []) ⟨rfl, rfl, rfl, rfl, rfl, rfl, rfl, rfl, trivial⟩ ⟨rfl, rfl, rfl, rfl, rfl, trivial⟩ trivial (by decide))
     ·
      replace hc70 := of_decide_eq_false hc70
      refine C.exit ?_; refine QE.tX ?_; refine QE.tX ?_; refine QE.blk ?_; refine QE.seq (C.seq (C.seq (C.region ?_))); refine Lpu rfl rfl ?_; refine Lpu rfl rfl ?_; refine Lpu rfl rfl ?_; refine L.nil (QE.seq (C.block ?_))
      have hst : rdRow ls.length ls.length st = true := rdRow_yes (fun i hi => hj2 i (by omega))
      refine C.loop (fun u : Nat => [(0, .slice LA ls.length lc), (1, .slice QA seq.length qc), (2, .slice TA st.length tc), (7, .slice A30 ls.length ls.length), (84, .slice LA ls.length lc), (85, .int .i64 (ls.length : Int)), (86, .int .i64 (u : Int))]) (fun u : Nat => [Rd A30 (I64 (atL ls.length seq seq.length)), Rd LA (rowsV hs (J8 ls)), KidsR hs (J8 ls), Rd QA (I64 seq), Rd TA (I64 st)]) (fun u : Nat => []) (fun u : Nat => u ≤ ls.length ∧ ∀ a, a < u → ∀ j, j < (ls.getD a []).length → lastB ls seq st a ((ls.getD a []).getD j 0) = false) (fun u : Nat => ls.length - u) 0 ⟨Nat.zero_le _, all_zero⟩ (by exact Le.mk' (rs := [0, 1, 2, 3, 4]) (hs := []) ⟨rfl, rfl, rfl, rfl, rfl, rfl, rfl, trivial⟩ ⟨rfl, rfl, rfl, rfl, rfl, trivial⟩ trivial (by decide)) ?_
      rintro u ⟨hu, hu2⟩
      refine C.seq (C.region ?_); refine Lpu rfl rfl ?_; refine L.nil (QE.seq (C.seq ?_))
      refine C.condB 87 rfl (fun hc87 => ?_) (fun hc87 => ?_)
      ·
       replace hc87 := of_decide_eq_true hc87
       refine C.skip (QE.seq (C.seq (C.block (C.seq (C.region ?_))))); refine Lpu rfl rfl ?_; refine L.step (Ev.idx1 (k := u) rfl rfl rfl rfl rfl rfl rfl (by omega) (Src.r 1 rfl) (by rw [rowsV_len (by rw [J8_len]; exact hh), J8_len]; omega)) rfl ?_; refine L.step (Ev.load rfl rfl rfl (Src.r 1 rfl) (rowsJ_get hh (by omega))) rfl ?_; refine Lpu rfl rfl ?_; refine Lpu rfl rfl ?_; refine L.nil (QE.seq (C.seq ?_))
       have hrl := hlr u
       refine C.region ?_; refine Lpu rfl rfl ?_; refine Lpu rfl rfl ?_; refine Lpu rfl rfl ?_; refine L.nil (QE.seq (C.block ?_)); refine C.loop (fun j : Nat => [(0, .slice LA ls.length lc), (1, .slice QA seq.length qc), (2, .slice TA st.length tc), (7, .slice A30 ls.length ls.length), (84, .slice LA ls.length lc), (85, .int .i64 (ls.length : Int)), (86, .int .i64 (u : Int)), (14, .int .i64 (u : Int)), (91, .slice (hs.getD u (none, 0)).1 (ls.getD u []).length (hs.getD u (none, 0)).2), (92, .int .i64 ((ls.getD u []).length : Int)), (93, .int .i64 (j : Int))]) (fun j : Nat => [Rd A30 (I64 (atL ls.length seq seq.length)), Rd LA (rowsV hs (J8 ls)), KidsR hs (J8 ls), Rd QA (I64 seq), Rd TA (I64 st)]) (fun j : Nat => []) (fun j : Nat => j ≤ (ls.getD u []).length ∧ ∀ a, a < j → lastB ls seq st u ((ls.getD u []).getD a 0) = false) (fun j : Nat => (ls.getD u []).length - j) 0 ⟨Nat.zero_le _, all_zero⟩ (by exact Le.mk' (rs := [0, 1, 2, 3, 4]) (hs := []) ⟨rfl, rfl, rfl, rfl, rfl, rfl, rfl, rfl, rfl, rfl, rfl, trivial⟩ ⟨rfl, rfl, rfl, rfl, rfl, trivial⟩ trivial (by decide)) ?_
       rintro j ⟨hj, hl2⟩
       refine C.seq (C.region ?_); refine Lpu rfl rfl ?_; refine L.nil (QE.seq (C.seq ?_))
       refine C.condB 94 rfl (fun hc94 => ?_) (fun hc94 => ?_)
       ·
        replace hc94 := of_decide_eq_true hc94
        refine C.skip (QE.seq (C.seq (C.block (C.seq (C.region ?_))))); refine L.step (Ev.idx1 (k := j) rfl rfl rfl rfl rfl rfl rfl (by omega) ((Src.kid 2 rfl (by rw [J8_len]; exact hh) (u) (by rw [J8_len]; omega)).cast (J8_get _)) (by rw [I64_len]; omega)) rfl ?_; refine L.step (Ev.load rfl rfl rfl ((Src.kid 2 rfl (by rw [J8_len]; exact hh) (u) (by rw [J8_len]; omega)).cast (J8_get _)) (I64_get (by omega))) rfl ?_; refine Lpu rfl rfl ?_; refine L.nil (QE.seq (C.seq ?_))
        have hrn := rdRow_get (readB_get hrb (u := u) (by omega)) (i := j) (by omega)
        unfold NotRd at hrn
        refine C.regionQ (by kernel_rfl) ?_; refine LQ.step (Ev.pure rfl) rfl ?_; refine LQ.step (Ev.pure rfl) rfl ?_; refine LQ.step (Ev.idx1 (k := u) rfl rfl rfl rfl rfl rfl rfl (by omega) (Src.r 0 rfl) (by rw [I64_len, atL_len]; omega)) rfl ?_; refine LQ.step (Ev.load rfl rfl rfl (Src.r 0 rfl) (I64_get (by rw [atL_len]; omega))) rfl ?_; refine LQ.step (Ev.pure rfl) rfl ?_; refine LQ.step (Ev.pure rfl) rfl ?_; refine LQ.step (Ev.idx1 (k := ((ls.getD u []).getD j 0).toNat) rfl rfl rfl rfl rfl rfl (by omega) (by omega) (Src.r 0 rfl) (by rw [I64_len, atL_len]; omega)) rfl ?_; refine LQ.step (Ev.load rfl rfl rfl (Src.r 0 rfl) (I64_get (by rw [atL_len]; omega))) rfl ?_; refine LQ.step (Ev.pure rfl) rfl ?_; refine LQ.step (Ev.pure rfl) rfl ?_
        refine LQ.bool 106 rfl (fun hg106 => ?_) (fun hg106 => ?_)
        ·
         replace hg106 := of_decide_eq_true hg106
         refine LQ.yes rfl ?_; refine LQ.step (Ev.pure rfl) rfl ?_; refine LQ.yes rfl ?_; refine LQ.step (Ev.pure rfl) rfl ?_; refine LQ.yes rfl ?_; refine LQ.call (.bool (st.contains ((ls.getD u []).getD j 0))) (contains_c TA st tc ((ls.getD u []).getD j 0) (by omega)) (fun _ _ _ h => h.1) rfl (Hq [4] rfl) rfl ?_; refine LQ.yes rfl ?_; refine LQ.step (Ev.pure rfl) rfl ?_; refine LQ.step (Ev.pure rfl) rfl ?_; refine LQ.nil ?_; refine QE.seq ?_
         refine C.condB 111 rfl (fun hc111 => ?_) (fun hc111 => ?_)
         ·
          have hl : lastB ls seq st u ((ls.getD u []).getD j 0) = true := by unfold lastB; rw [decide_eq_true hg106, Bool.true_and]; exact hc111
          refine C.seq (C.region ?_); refine Lpu rfl rfl ?_; refine L.nil (QE.seq (C.ret (QE.bR (QE.tR (QE.tR (QE.bR (QE.bR (QE.tR (QE.tR (QE.bR (QE.tR ?_))))))))))); refine QE.ret (js := []) (hs := []) (vs := [_]) rfl ⟨rfl, trivial⟩ (by decide) ?_
          exact ⟨congrArg Value.bool (by unfold rightP; exact (decide_eq_false (by rintro ⟨h1, h2, h3, h4, h5⟩; have := h5 u (by omega) j (by omega); rw [hl] at this; cases this)).symm), rfl, rfl⟩
         ·
          have hl : lastB ls seq st u ((ls.getD u []).getD j 0) = false := by unfold lastB; rw [decide_eq_true hg106, Bool.true_and]; exact hc111
          refine C.skip ?_; refine QE.blkN ?_; refine QE.seq (C.region ?_); refine L.step (Ev.add rfl rfl (by omega) (by omega)) rfl ?_; refine Lpu rfl rfl ?_; refine L.nil ?_
          refine QE.round (j + 1) (by exact ⟨by omega, all_step hl2 hl⟩) (by omega) (by exact Le.mk' (rs := [0, 1, 2, 3, 4]) (hs := []) ⟨rfl, rfl, rfl, rfl, rfl, rfl, rfl, rfl, rfl, rfl, rfl, trivial⟩ ⟨rfl, rfl, rfl, rfl, rfl, trivial⟩ trivial (by decide))
        ·
         replace hg106 := of_decide_eq_false hg106
         have hl : lastB ls seq st u ((ls.getD u []).getD j 0) = false := by unfold lastB; rw [decide_eq_false hg106]; rfl
         refine LQ.no rfl rfl rfl ?_; refine LQ.no rfl rfl rfl ?_; refine LQ.no rfl rfl rfl ?_; refine LQ.no rfl rfl rfl ?_; refine LQ.step (Ev.pure rfl) rfl ?_; refine LQ.nil ?_; refine QE.seq ?_
         refine C.cond rfl (fun h => by cases h) (fun _ => ?_)
         refine C.skip ?_; refine QE.blkN ?_; refine QE.seq (C.region ?_); refine L.step (Ev.add rfl rfl (by omega) (by omega)) rfl ?_; refine Lpu rfl rfl ?_; refine L.nil ?_
         refine QE.round (j + 1) (by exact ⟨by omega, all_step hl2 hl⟩) (by omega) (by exact Le.mk' (rs := [0, 1, 2, 3, 4]) (hs := []) ⟨rfl, rfl, rfl, rfl, rfl, rfl, rfl, rfl, rfl, rfl, rfl, trivial⟩ ⟨rfl, rfl, rfl, rfl, rfl, trivial⟩ trivial (by decide))
       ·
        replace hc94 := of_decide_eq_false hc94
        refine C.exit ?_; refine QE.tX ?_; refine QE.tX ?_; refine QE.blk ?_; refine QE.blkN ?_; refine QE.seq (C.region ?_); refine L.step (Ev.add rfl rfl (by omega) (by omega)) rfl ?_; refine Lpu rfl rfl ?_; refine L.nil ?_
        refine QE.round (u + 1) (by exact ⟨by omega, all_step hu2 (fun i hi => hl2 i (by omega))⟩) (by omega) (by exact Le.mk' (rs := [0, 1, 2, 3, 4]) (hs := []) ⟨rfl, rfl, rfl, rfl, rfl, rfl, rfl, trivial⟩ ⟨rfl, rfl, rfl, rfl, rfl, trivial⟩ trivial (by decide))
      ·
       replace hc87 := of_decide_eq_false hc87
       refine C.exit ?_; refine QE.tX ?_; refine QE.tX ?_; refine QE.blk ?_; refine QE.seq (C.seq (C.region ?_)); refine Lpu rfl rfl ?_; refine L.nil (QE.seq (C.ret ?_)); refine QE.ret (js := []) (hs := []) (vs := [_]) rfl ⟨rfl, trivial⟩ (by decide) ?_
       exact ⟨congrArg Value.bool (by unfold rightP; exact (decide_eq_true ⟨hrb, by omega, fun i hi => hbs i (by omega), hst, fun a ha => hu2 a (by omega)⟩).symm), rfl, rfl⟩

end Go.Proofs.Ytdkilfnbilohmaa
