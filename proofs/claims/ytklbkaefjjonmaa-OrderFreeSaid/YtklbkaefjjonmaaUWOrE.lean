/-
  The order of the reference; results held against each other.
-/
import Derived.Test.YtklbkaefjjonmaaUWOrD
import Derived.Test.YtklbkaefjjonmaaUOe
namespace Go.Proofs.Ytklbkaefjjonmaa
open Go.Sl

set_option maxHeartbeats 1000000 in
theorem order21_c (LA : Option Addr) (ls : List (List Int)) (lc : Nat) (hs : List Hd) (hh : hs.length = ls.length) (hll : ls.length ≤ 9223372036854775807) (hlr : ∀ i, (ls.getD i []).length ≤ 9223372036854775807) :
    Ctr X 14 [.slice LA ls.length lc] [Rd LA (rowsV hs (J8 ls)), KidsR hs (J8 ls)] [] (fun v R' H' => ∃ (A B : Option Addr) (c d : Nat), v = .agg (List.toArray [.slice A (refQ ls).length c, .slice B (refH ls).length d, .int .i64 (refE ls)]) ∧ R' = [Rd A (I64 (NI (refQ ls))), Rd B (I64 (NI (refH ls)))] ∧ H' = []) := by
  refine Ctr.of (X := X) (fn := Try.f14) Try.func14 rfl (by kernel_rfl) rfl ?_
  intro β
  refine C.seq ?_
  refine C.region ?_
  refine L.alloc rfl rfl rfl (fun A2 => ?_)
  refine L.nil ?_
  refine QE.seq ?_
  refine C.seq ?_
  refine C.seq ?_
  refine C.region ?_
  refine L.step (Ev.pure rfl) rfl ?_
  refine L.call (js := []) (js' := [0]) (readings21_c LA ls lc hs hh hll hlr) rfl rfl rfl (by decide) ⟨(Has.r 0 rfl), (Has.r 1 rfl), trivial⟩ rfl ?_
  rintro _ _ _ ⟨rfl, rfl, rfl⟩
  refine L.step (Ev.pure rfl) rfl ?_
  refine L.nil ?_
  refine QE.seq ?_
  refine C.condB 9 rfl (fun hc9 => ?_) (fun hc9 => ?_)
  · skip
    have hrb : readB ls = false := by simpa using hc9
    refine C.seq ?_
    refine C.region ?_
    refine L.step (Ev.build rfl rfl rfl rfl rfl rfl rfl) rfl ?_
    refine L.storeA (j := 0) rfl rfl rfl rfl rfl (Nat.zero_lt_succ _) rfl rfl ?_
    refine L.nil ?_
    refine QE.seq ?_
    refine C.ret ?_
    refine QE.tR ?_
    refine QE.more (r := Rd none (I64 (NI []))) (Has.nil) ?_
    refine QE.more (r := Rd none (I64 (NI []))) (Has.nil) ?_
    refine QE.ret (js := [1, 0]) (hs := []) (vs := [_]) rfl ⟨⟨_, _, 0, _, rfl, rfl, Src.o 0 rfl, .inl ⟨rfl, by decide, _, rfl, rfl, rfl⟩⟩, trivial⟩ (by decide) ?_
    obtain ⟨e1, e2, e3⟩ := ref_none (refT_no (.inl hrb))
    refine ⟨none, none, 0, 0, ?_, ?_, rfl⟩
    · rw [e1, e2, e3]; first | rw [if_pos hrb] | rw [if_neg (by rw [hrb]; decide)]
      rfl
    · rw [e1, e2]; rfl
  · skip
    have hrb : readB ls = true := by simpa using hc9
    refine C.skip ?_
    refine QE.seq ?_
    refine C.seq ?_
    refine C.seq ?_
    refine C.region ?_
    refine L.step (Ev.pure rfl) rfl ?_
    refine L.step (Ev.pure rfl) rfl ?_
    refine L.step (Ev.pure rfl) rfl ?_
    refine L.nil ?_
    refine QE.seq ?_
    refine C.condB 13 rfl (fun hc13 => ?_) (fun hc13 => ?_)
    · skip
      replace hc13 := of_decide_eq_true hc13
      refine C.seq ?_
      refine C.region ?_
      refine L.step (Ev.build rfl rfl rfl rfl rfl rfl rfl) rfl ?_
      refine L.storeA (j := 0) rfl rfl rfl rfl rfl (Nat.zero_lt_succ _) rfl rfl ?_
      refine L.nil ?_
      refine QE.seq ?_
      refine C.ret ?_
      refine QE.tR ?_
      refine QE.more (r := Rd none (I64 (NI []))) (Has.nil) ?_
      refine QE.more (r := Rd none (I64 (NI []))) (Has.nil) ?_
      refine QE.ret (js := [1, 0]) (hs := []) (vs := [_]) rfl ⟨⟨_, _, 0, _, rfl, rfl, Src.o 0 rfl, .inl ⟨rfl, by decide, _, rfl, rfl, rfl⟩⟩, trivial⟩ (by decide) ?_
      have hbig : 16 < ls.length := by omega
      obtain ⟨e1, e2, e3⟩ := ref_none (refT_no (.inr hbig))
      refine ⟨none, none, 0, 0, ?_, ?_, rfl⟩
      · rw [e1, e2, e3]; first | rw [if_pos hrb] | rw [if_neg (by rw [hrb]; decide)]
        rfl
      · rw [e1, e2]; rfl
    · skip
      replace hc13 := of_decide_eq_false hc13
      refine C.skip ?_
      refine QE.seq ?_
      refine C.seq ?_
      refine C.seq ?_
      refine C.region ?_
      refine L.step (Ev.pure rfl) rfl ?_
      refine L.nil ?_
      refine QE.seq ?_
      refine C.block ?_
      refine C.loop (fun k : Nat => [(0, .slice LA ls.length lc), (2, ptrOf A2 0), (3, .int .i64 (k : Int))]) (fun k : Nat => [Rd LA (rowsV hs (J8 ls)), KidsR hs (J8 ls)]) (fun k : Nat => [Own 30 3 A2 1 1 [.slice none 0 0, .slice none 0 0, .int .i64 0]]) (fun k : Nat => k ≤ ls.length + 1 ∧ srch (fun k => (stL k 0 ls.length).find? (fullL ls.length (rdP ls))) k = none) (fun k : Nat => ls.length + 1 - k) 0 ⟨Nat.zero_le _, rfl⟩ (by exact Le.mk' (rs := [0, 1]) (hs := [0]) ⟨rfl, rfl, rfl, trivial⟩ ⟨rfl, rfl, trivial⟩ ⟨rfl, trivial⟩ (by decide)) ?_
      rintro k ⟨hk, hsr⟩
      refine C.seq ?_
      refine C.seq ?_
      refine C.region ?_
      refine L.step (Ev.pure rfl) rfl ?_
      refine L.step (Ev.pure rfl) rfl ?_
      refine L.step (Ev.pure rfl) rfl ?_
      refine L.step (Ev.pure rfl) rfl ?_
      refine L.nil ?_
      refine QE.seq ?_
      refine C.condB 18 rfl (fun hc18 => ?_) (fun hc18 => ?_)
      · skip
        replace hc18 := of_decide_eq_true hc18
        refine C.skip ?_
        refine QE.seq ?_
        refine C.seq ?_
        refine C.block ?_
        refine C.seq ?_
        refine C.region ?_
        refine L.step (Ev.pure rfl) rfl ?_
        refine L.step (Ev.pure rfl) rfl ?_
        refine L.step (Ev.pure rfl) rfl ?_
        refine L.callR (js := []) (js' := [0]) (stash_c k (by omega) 0 ls.length (by omega)) rfl rfl rfl (by decide) trivial rfl ?_
        rintro _ _ _ ⟨S, sc, ss, rfl, rfl, rfl, hss⟩
        refine L.step (Ev.pure rfl) rfl ?_
        refine L.nil ?_
        refine QE.seq ?_
        refine C.seq ?_
        refine C.freeze 0 rfl [1] (by decide) (by decide) ?_
        have hsl := stL_len k 0 ls.length
        have hp3 := two_pow_small (f := 0) (show ls.length ≤ 16 by omega)
        refine C.region ?_
        refine L.step (Ev.pure rfl) rfl ?_
        refine L.nil ?_
        refine QE.seq ?_
        refine C.block ?_
        refine C.loop (fun i : Nat => [(0, .slice LA ls.length lc), (2, ptrOf A2 0), (3, .int .i64 (k : Int)), (4, .slice S (stL k 0 ls.length).length sc), (5, .int .i64 (i : Int))]) (fun i : Nat => [Rd S (rowsV ss (J8 (NL (stL k 0 ls.length)))), KidsR ss (J8 (NL (stL k 0 ls.length))), Rd LA (rowsV hs (J8 ls)), KidsR hs (J8 ls)]) (fun i : Nat => [Own 30 3 A2 1 1 [.slice none 0 0, .slice none 0 0, .int .i64 0]]) (fun i : Nat => i ≤ (stL k 0 ls.length).length ∧ ∀ j, j < i → fullL ls.length (rdP ls) ((stL k 0 ls.length).getD j []) = false) (fun i : Nat => (stL k 0 ls.length).length - i) 0 ⟨Nat.zero_le _, all_zero⟩ (by exact Le.mk' (rs := [0, 1, 2, 3]) (hs := [0]) ⟨rfl, rfl, rfl, rfl, rfl, trivial⟩ ⟨rfl, rfl, rfl, rfl, trivial⟩ ⟨rfl, trivial⟩ (by decide)) ?_
        rintro i ⟨hi, hi2⟩
        refine C.seq ?_
        refine C.seq ?_
        refine C.region ?_
        refine L.step (Ev.pure rfl) rfl ?_
        refine L.step (Ev.pure rfl) rfl ?_
        refine L.step (Ev.pure rfl) rfl ?_
        refine L.step (Ev.pure rfl) rfl ?_
        refine L.nil ?_
        refine QE.seq ?_
        refine C.condB 28 rfl (fun hc28 => ?_) (fun hc28 => ?_)
        · skip
          replace hc28 := of_decide_eq_true hc28
          refine C.skip ?_
          refine QE.seq ?_
          refine C.seq ?_
          refine C.block ?_
          refine C.seq ?_
          have hni := stL_get (k := k) (f := 0) (n := ls.length) (i := i) (by omega)
          refine C.region ?_
          refine L.step (Ev.pure rfl) rfl ?_
          refine L.step (Ev.pure rfl) rfl ?_
          refine L.step (Ev.pure rfl) rfl ?_
          refine L.step (Ev.idx1 (k := i) rfl rfl rfl rfl rfl rfl rfl (by omega) (Src.r 0 rfl) (by rw [rowsV_len (by rw [J8_len, NL_len]; exact hss), J8_len, NL_len]; omega)) rfl ?_
          refine L.step (Ev.load rfl rfl rfl (Src.r 0 rfl) (rowsJ_get (by rw [NL_len]; exact hss) (by rw [NL_len]; omega))) rfl ?_
          refine L.call (js := []) (js' := [0]) (first21_c LA ls lc hs hh hll hlr hrb (by omega) ((NL (stL k 0 ls.length)).getD i []) (ss.getD i (none, 0)).1 (ss.getD i (none, 0)).2 (by rw [hni]; omega)) rfl rfl rfl (by decide) ⟨(Has.r 2 rfl), (Has.r 3 rfl), ((Has.kid 1 rfl (by rw [J8_len, NL_len]; exact hss) (i) (by rw [J8_len, NL_len]; omega)).cast (J8_get _)), trivial⟩ rfl ?_
          rintro _ _ _ ⟨A36, c36, rfl, rfl, rfl⟩
          have hfr : (frs ls.length (rdP ls) (fun t => ((NL (stL k 0 ls.length)).getD i []).contains (t : Int)) ls.length) = (frs ls.length (rdP ls) (fun t => ((stL k 0 ls.length).getD i []).contains t) ls.length) := frs_congr (fun t => NL_st (by omega) t) ls.length
          refine L.step (Ev.pure rfl) rfl ?_
          refine L.nil ?_
          refine QE.seq ?_
          refine C.seq ?_
          refine C.region ?_
          refine L.step (Ev.pure rfl) rfl ?_
          refine L.step (Ev.pure rfl) rfl ?_
          refine L.step (Ev.pure rfl) rfl ?_
          refine L.step (Ev.pure rfl) rfl ?_
          refine L.step (Ev.pure rfl) rfl ?_
          refine L.nil ?_
          refine QE.seq ?_
          refine C.condB 41 rfl (fun hc41 => ?_) (fun hc41 => ?_)
          · skip
            replace hc41 := i_eq hc41
            have hyes : fullL ls.length (rdP ls) ((stL k 0 ls.length).getD i []) = true := full_iff.2 (by rw [← hfr]; omega)
            refine C.seq ?_
            refine C.freeze 0 rfl [1] (by decide) (by decide) ?_
            refine C.region ?_
            refine L.step (Ev.pure rfl) rfl ?_
            refine L.step (Ev.pure rfl) rfl ?_
            refine L.step (Ev.pure rfl) rfl ?_
            refine L.step (Ev.idx1 (k := i) rfl rfl rfl rfl rfl rfl rfl (by omega) (Src.r 1 rfl) (by rw [rowsV_len (by rw [J8_len, NL_len]; exact hss), J8_len, NL_len]; omega)) rfl ?_
            refine L.step (Ev.load rfl rfl rfl (Src.r 1 rfl) (rowsJ_get (by rw [NL_len]; exact hss) (by rw [NL_len]; omega))) rfl ?_
            refine L.step (Ev.build rfl rfl rfl rfl rfl rfl rfl) rfl ?_
            refine L.storeA (j := 0) rfl rfl rfl rfl rfl (Nat.zero_lt_succ _) rfl rfl ?_
            refine L.nil ?_
            refine QE.seq ?_
            refine C.ret ?_
            refine QE.bR ?_
            refine QE.tR ?_
            refine QE.tR ?_
            refine QE.bR ?_
            refine QE.bR ?_
            refine QE.tR ?_
            refine QE.tR ?_
            refine QE.bR ?_
            refine QE.tR ?_
            refine QE.more (r := Rd (ss.getD i (none, 0)).1 (I64 ((NL (stL k 0 ls.length)).getD i []))) (((Has.kid 2 rfl (by rw [J8_len, NL_len]; exact hss) (i) (by rw [J8_len, NL_len]; omega)).cast (J8_get _))) ?_
            refine QE.ret (js := [1, 0]) (hs := []) (vs := [_]) rfl ⟨⟨_, _, 0, _, rfl, rfl, Src.o 0 rfl, .inl ⟨rfl, by decide, _, rfl, rfl, rfl⟩⟩, trivial⟩ (by decide) ?_
            have hT : refT ls = some ((stL k 0 ls.length).getD i []) := by
              rw [refT_ok hrb (by omega)]
              exact srch_found hsr (find_at (d := []) hi2 (by omega) hyes) (by omega)
            obtain ⟨e1, e2, e3⟩ := ref_some hrb hT
            have hnl : (NL (stL k 0 ls.length)).getD i [] = NI ((stL k 0 ls.length).getD i []) := NL_get (by omega)
            refine ⟨A36, (ss.getD i (none, 0)).1, c36, (ss.getD i (none, 0)).2, ?_, ?_, rfl⟩
            · rw [e1, e2, e3, ← hfr, show ((stL k 0 ls.length).getD i []).length = ((NL (stL k 0 ls.length)).getD i []).length from by rw [hnl, NI_len]]; rfl
            · rw [e1, e2, ← hfr, ← hnl]; rfl
          · skip
            replace hc41 := i_ne hc41
            have hno : fullL ls.length (rdP ls) ((stL k 0 ls.length).getD i []) = false := full_no.2 (by rw [← hfr]; omega)
            refine C.skip ?_
            refine QE.blkN ?_
            refine QE.seq ?_
            refine C.region ?_
            refine L.step (Ev.pure rfl) rfl ?_
            refine L.step (Ev.add rfl rfl (by omega) (by omega)) rfl ?_
            refine L.step (Ev.pure rfl) rfl ?_
            refine L.nil ?_
            refine QE.round (i + 1) (by exact ⟨by omega, all_step hi2 hno⟩) (by omega) (by exact Le.mk' (rs := [0, 1, 2, 3]) (hs := [1]) ⟨rfl, rfl, rfl, rfl, rfl, trivial⟩ ⟨rfl, rfl, rfl, rfl, trivial⟩ ⟨rfl, trivial⟩ (by decide))
        · skip
          replace hc28 := of_decide_eq_false hc28
          refine C.exit ?_
          refine QE.tX ?_
          refine QE.tX ?_
          refine QE.blk ?_
          refine QE.blkN ?_
          refine QE.seq ?_
          refine C.region ?_
          refine L.step (Ev.pure rfl) rfl ?_
          refine L.step (Ev.add rfl rfl (by omega) (by omega)) rfl ?_
          refine L.step (Ev.pure rfl) rfl ?_
          refine L.nil ?_
          refine QE.round (k + 1) (by exact ⟨by omega, srch_none hsr (find_not (d := []) (fun j hj => hi2 j (by omega)))⟩) (by omega) (by exact Le.mk' (rs := [2, 3]) (hs := [0]) ⟨rfl, rfl, rfl, trivial⟩ ⟨rfl, rfl, trivial⟩ ⟨rfl, trivial⟩ (by decide))
      · skip
        replace hc18 := of_decide_eq_false hc18
        refine C.exit ?_
        refine QE.tX ?_
        refine QE.tX ?_
        refine QE.blk ?_
        refine QE.seq ?_
        refine C.seq ?_
        refine C.region ?_
        refine L.step (Ev.build rfl rfl rfl rfl rfl rfl rfl) rfl ?_
        refine L.storeA (j := 0) rfl rfl rfl rfl rfl (Nat.zero_lt_succ _) rfl rfl ?_
        refine L.nil ?_
        refine QE.seq ?_
        refine C.ret ?_
        refine QE.more (r := Rd none (I64 (NI []))) (Has.nil) ?_
        refine QE.more (r := Rd none (I64 (NI []))) (Has.nil) ?_
        refine QE.ret (js := [1, 0]) (hs := []) (vs := [_]) rfl ⟨⟨_, _, 0, _, rfl, rfl, Src.o 0 rfl, .inl ⟨rfl, by decide, _, rfl, rfl, rfl⟩⟩, trivial⟩ (by decide) ?_
        obtain ⟨e1, e2, e3⟩ := ref_none (by
          rw [refT_ok hrb (by omega)]
          have : k = ls.length + 1 := by omega
          rw [this] at hsr
          exact hsr)
        refine ⟨none, none, 0, 0, ?_, ?_, rfl⟩
        · rw [e1, e2, e3]; first | rw [if_pos hrb] | rw [if_neg (by rw [hrb]; decide)]
          rfl
        · rw [e1, e2]; rfl

theorem ordered_c (LA : Option Addr) (ls : List (List Int)) (lc : Nat) (hs : List Hd) (hh : hs.length = ls.length) (hll : ls.length ≤ 9223372036854775807) (hlr : ∀ i, (ls.getD i []).length ≤ 9223372036854775807) :
    Ctr X 13 [.slice LA ls.length lc] [Rd LA (rowsV hs (J8 ls)), KidsR hs (J8 ls)] [] (fun v R' H' => ∃ (A B : Option Addr) (c d : Nat), v = .agg (List.toArray [.slice A (ordQ ls).length c, .slice B (ordH ls).length d, .int .i64 (ordE ls)]) ∧ R' = [Rd A (I64 (NI (ordQ ls))), Rd B (I64 (NI (ordH ls)))] ∧ H' = []) := by
  refine Ctr.of (X := X) (fn := Try.f13) Try.func13 rfl (by kernel_rfl) rfl ?_
  intro β
  refine C.seq ?_
  refine C.region ?_
  refine L.alloc rfl rfl rfl (fun A2 => ?_)
  refine L.nil ?_
  refine QE.seq ?_
  refine C.seq ?_
  refine C.region ?_
  refine L.step (Ev.pure rfl) rfl ?_
  refine L.callR (js := []) (js' := [0]) (order_c LA ls lc hs hh hll hlr) rfl rfl rfl (by decide) ⟨(Has.r 0 rfl), (Has.r 1 rfl), trivial⟩ rfl ?_
  rintro _ _ _ ⟨A, B, c, d, rfl, rfl, rfl⟩
  refine L.step (Ev.pure rfl) rfl ?_
  refine L.step (Ev.pure rfl) rfl ?_
  refine L.step (Ev.pure rfl) rfl ?_
  refine L.step (Ev.pure rfl) rfl ?_
  refine L.step (Ev.pure rfl) rfl ?_
  refine L.step (Ev.pure rfl) rfl ?_
  refine L.step (Ev.pure rfl) rfl ?_
  refine L.nil ?_
  refine QE.seq ?_
  refine C.seq ?_
  refine C.region ?_
  refine L.step (Ev.pure rfl) rfl ?_
  refine L.step (Ev.pure rfl) rfl ?_
  refine L.step (Ev.pure rfl) rfl ?_
  refine L.step (Ev.build rfl rfl rfl rfl rfl rfl rfl) rfl ?_
  refine L.storeA (j := 0) rfl rfl rfl rfl rfl (Nat.zero_lt_succ _) rfl rfl ?_
  refine L.nil ?_
  refine QE.seq ?_
  refine C.ret ?_
  refine QE.ret (js := [0, 1]) (hs := []) (vs := [_]) rfl ⟨⟨_, _, 0, _, rfl, rfl, Src.o 0 rfl, .inl ⟨rfl, by decide, _, rfl, rfl, rfl⟩⟩, trivial⟩ (by decide) ?_
  exact ⟨A, B, c, d, rfl, rfl, rfl⟩

theorem ints_n (A : Option Addr) (a : List Nat) (c : Nat) (B : Option Addr) (b : List Nat) (d : Nat) (ha : a.length ≤ 9223372036854775807) (hb : b.length ≤ 9223372036854775807) : Ctr X 18 [.slice A a.length c, .slice B b.length d] [Rd A (I64 (NI a)), Rd B (I64 (NI b))] [] (fun v R' H' => v = .bool (decide (a = b)) ∧ R' = [] ∧ H' = []) := by
  have := ints_c A (NI a) c B (NI b) d (by rw [NI_len]; exact ha) (by rw [NI_len]; exact hb)
  rw [NI_len, NI_len] at this
  refine this.mono ?_
  rintro v R' H' ⟨rfl, h⟩
  refine ⟨congrArg Value.bool ?_, h⟩
  rw [Bool.eq_iff_iff, decide_eq_true_eq, decide_eq_true_eq]
  exact ⟨NI_inj, fun h => by rw [h]⟩

theorem same18_c (A B A' B' : Option Addr) (c d c' d' : Nat) (q h q' h' : List Nat) (e e' : Int) (hq : q.length ≤ 1000000) (hh : h.length ≤ 1000000) (hq' : q'.length ≤ 1000000) (hh' : h'.length ≤ 1000000) :
    Ctr X 12 [.agg (List.toArray [.slice A q.length c, .slice B h.length d, .int .i64 e]), .agg (List.toArray [.slice A' q'.length c', .slice B' h'.length d', .int .i64 e'])] [Rd A (I64 (NI q)), Rd B (I64 (NI h)), Rd A' (I64 (NI q')), Rd B' (I64 (NI h'))] [] (fun v R' H' => v = .bool (decide (q = q' ∧ h = h' ∧ e = e')) ∧ R' = [] ∧ H' = []) := by
  refine Ctr.of (X := X) (fn := Try.f12) Try.func12 rfl (by kernel_rfl) rfl ?_
  intro β
  refine C.seq ?_
  refine C.region ?_
  refine L.boxA rfl rfl (fun A2 => ?_)
  refine L.boxA rfl rfl (fun A3 => ?_)
  refine L.step (Ev.pure rfl) rfl ?_
  refine L.nil ?_
  refine QE.seq ?_
  refine C.seq ?_
  refine C.freeze 0 rfl [1] (by decide) (by decide) ?_
  refine C.freeze 0 rfl [] (by decide) (by decide) ?_
  refine C.region ?_
  refine L.step (Ev.fieldAddr rfl rfl rfl rfl rfl rfl (Src.r 1 rfl) (Nat.zero_lt_succ _) rfl) rfl ?_
  refine L.step (Ev.load rfl rfl rfl (Src.r 1 rfl) rfl) rfl ?_
  refine L.step (Ev.fieldAddr rfl rfl rfl rfl rfl rfl (Src.r 0 rfl) (Nat.zero_lt_succ _) rfl) rfl ?_
  refine L.step (Ev.load rfl rfl rfl (Src.r 0 rfl) rfl) rfl ?_
  refine L.call (js := []) (js' := []) (ints_n A q c A' q' c' (by omega) (by omega)) rfl rfl rfl (by decide) ⟨(Has.r 2 rfl), (Has.r 4 rfl), trivial⟩ rfl ?_
  rintro _ _ _ ⟨rfl, rfl, rfl⟩
  refine L.step (Ev.pure rfl) rfl ?_
  refine L.bool 10 rfl (fun hg10 => ?_) (fun hg10 => ?_)
  · skip
    replace hg10 := of_decide_eq_true hg10
    refine L.yes rfl ?_
    refine L.step (Ev.fieldAddr rfl rfl rfl rfl rfl rfl (Src.r 1 rfl) (Nat.zero_lt_succ _) rfl) rfl ?_
    refine L.yes rfl ?_
    refine L.step (Ev.load rfl rfl rfl (Src.r 1 rfl) rfl) rfl ?_
    refine L.yes rfl ?_
    refine L.step (Ev.fieldAddr rfl rfl rfl rfl rfl rfl (Src.r 0 rfl) (Nat.zero_lt_succ _) rfl) rfl ?_
    refine L.yes rfl ?_
    refine L.step (Ev.load rfl rfl rfl (Src.r 0 rfl) rfl) rfl ?_
    refine L.yes rfl ?_
    refine L.call (js := []) (js' := []) (ints_n B h d B' h' d' (by omega) (by omega)) rfl rfl rfl (by decide) ⟨(Has.r 3 rfl), (Has.r 5 rfl), trivial⟩ rfl ?_
    rintro _ _ _ ⟨rfl, rfl, rfl⟩
    refine L.step (Ev.pure rfl) rfl ?_
    refine L.step (Ev.pure rfl) rfl ?_
    refine L.bool 17 rfl (fun hg17 => ?_) (fun hg17 => ?_)
    · skip
      replace hg17 := of_decide_eq_true hg17
      refine L.yes rfl ?_
      refine L.step (Ev.fieldAddr rfl rfl rfl rfl rfl rfl (Src.r 1 rfl) (Nat.zero_lt_succ _) rfl) rfl ?_
      refine L.yes rfl ?_
      refine L.step (Ev.load rfl rfl rfl (Src.r 1 rfl) rfl) rfl ?_
      refine L.yes rfl ?_
      refine L.step (Ev.fieldAddr rfl rfl rfl rfl rfl rfl (Src.r 0 rfl) (Nat.zero_lt_succ _) rfl) rfl ?_
      refine L.yes rfl ?_
      refine L.step (Ev.load rfl rfl rfl (Src.r 0 rfl) rfl) rfl ?_
      refine L.yes rfl ?_
      refine L.step (Ev.pure rfl) rfl ?_
      refine L.step (Ev.pure rfl) rfl ?_
      refine L.step (Ev.pure rfl) rfl ?_
      refine L.nil ?_
      refine QE.seq ?_
      refine C.ret ?_
      refine QE.ret (js := []) (hs := []) (vs := [_]) rfl ⟨rfl, trivial⟩ (by decide) ?_
      exact ⟨congrArg Value.bool (by subst hg10 hg17; rw [Bool.eq_iff_iff]; simp), rfl, rfl⟩
    · skip
      replace hg17 := of_decide_eq_false hg17
      refine L.no rfl rfl rfl ?_
      refine L.no rfl rfl rfl ?_
      refine L.no rfl rfl rfl ?_
      refine L.no rfl rfl rfl ?_
      refine L.no rfl rfl rfl ?_
      refine L.step (Ev.pure rfl) rfl ?_
      refine L.step (Ev.pure rfl) rfl ?_
      refine L.nil ?_
      refine QE.seq ?_
      refine C.ret ?_
      refine QE.ret (js := []) (hs := []) (vs := [_]) rfl ⟨rfl, trivial⟩ (by decide) ?_
      exact ⟨congrArg Value.bool ((decide_eq_false (fun x => hg17 x.2.1)).symm), rfl, rfl⟩
  · skip
    replace hg10 := of_decide_eq_false hg10
    refine L.no rfl rfl rfl ?_
    refine L.no rfl rfl rfl ?_
    refine L.no rfl rfl rfl ?_
    refine L.no rfl rfl rfl ?_
    refine L.no rfl rfl rfl ?_
    refine L.step (Ev.pure rfl) rfl ?_
    refine L.step (Ev.pure rfl) rfl ?_
    refine L.no rfl rfl rfl ?_
    refine L.no rfl rfl rfl ?_
    refine L.no rfl rfl rfl ?_
    refine L.no rfl rfl rfl ?_
    refine L.no rfl rfl rfl ?_
    refine L.step (Ev.pure rfl) rfl ?_
    refine L.step (Ev.pure rfl) rfl ?_
    refine L.nil ?_
    refine QE.seq ?_
    refine C.ret ?_
    refine QE.ret (js := []) (hs := []) (vs := [_]) rfl ⟨rfl, trivial⟩ (by decide) ?_
    exact ⟨congrArg Value.bool ((decide_eq_false (fun x => hg10 x.1)).symm), rfl, rfl⟩

end Go.Proofs.Ytklbkaefjjonmaa
