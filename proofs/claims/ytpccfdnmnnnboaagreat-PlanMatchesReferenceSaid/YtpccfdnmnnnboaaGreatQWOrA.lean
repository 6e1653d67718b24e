/-
  Numbers, lists of numbers, and readings.
-/
import Derived.Test.YtpccfdnmnnnboaaGreatQSlT
import Derived.Test.YtpccfdnmnnnboaaGreatQSlV
namespace Go.Proofs.YtpccfdnmnnnboaaGreat
open Go.Sl

theorem nan_c (a : Int) :
   Ctr X 154 [.int .i64 a] [] [] (fun v R' H' => v = .bool false ∧ R' = [] ∧ H' = []) := by
 refine Ctr.of (X := X) (fn := Tryz.f154) Tryz.func154 rfl (by kernel_rfl) rfl ?_
 intro β
 refine C.seq (C.region ?_); refine Lpu rfl rfl ?_; refine L.nil (QE.seq (C.seq (C.region ?_))); refine Lpu rfl rfl ?_; refine Lpu rfl rfl ?_; refine Lpu rfl rfl ?_; refine Lpu rfl rfl ?_; refine L.nil (QE.seq (C.ret ?_)); refine QE.ret (js := []) (hs := []) (vs := [_]) rfl ⟨rfl, trivial⟩ (by decide) ?_
 exact ⟨congrArg Value.bool (by simp), rfl, rfl⟩

theorem nan2_c (a : Int) :
   Ctr X 144 [.int .i64 a] [] [] (fun v R' H' => v = .bool false ∧ R' = [] ∧ H' = []) := by
 refine Ctr.of (X := X) (fn := Tryz.f144) Tryz.func144 rfl (by kernel_rfl) rfl ?_
 intro β
 refine C.seq (C.region ?_); refine Lpu rfl rfl ?_; refine L.nil (QE.seq (C.seq (C.region ?_))); refine Lpu rfl rfl ?_; refine Lpu rfl rfl ?_; refine Lpu rfl rfl ?_; refine Lpu rfl rfl ?_; refine L.nil (QE.seq (C.ret ?_)); refine QE.ret (js := []) (hs := []) (vs := [_]) rfl ⟨rfl, trivial⟩ (by decide) ?_
 exact ⟨congrArg Value.bool (by simp), rfl, rfl⟩

theorem cmp_c (a b : Int) :
   Ctr X 132 [.int .i64 a, .int .i64 b] [] [] (fun v R' H' => v = .int .i64 (cmpI a b) ∧ R' = [] ∧ H' = []) := by
 refine Ctr.of (X := X) (fn := Tryz.f132) Tryz.func132 rfl (by kernel_rfl) rfl ?_
 intro β
 refine C.seq (C.region ?_); refine Lpu rfl rfl ?_; refine L.nil (QE.seq (C.seq (C.region ?_))); refine Lpu rfl rfl ?_; refine L.call (js := []) (js' := []) (nan_c _) rfl rfl rfl (by decide) trivial rfl ?_
 rintro _ _ _ ⟨rfl, rfl, rfl⟩
 refine Lpu rfl rfl ?_; refine L.nil (QE.seq (C.seq (C.region ?_))); refine Lpu rfl rfl ?_; refine L.call (js := []) (js' := []) (nan_c _) rfl rfl rfl (by decide) trivial rfl ?_
 rintro _ _ _ ⟨rfl, rfl, rfl⟩
 refine Lpu rfl rfl ?_; refine L.nil (QE.seq (C.seq (C.seq (C.region ?_)))); refine Lpu rfl rfl ?_; refine L.nil (QE.seq ?_)
 refine C.cond rfl (fun h => by cases h) (fun _ => ?_)
 refine C.skip (QE.seq (C.seq (C.seq (C.region ?_)))); refine Lpu rfl rfl ?_; refine L.nil (QE.seq ?_)
 refine C.cond rfl (fun h => by cases h) (fun _ => ?_)
 refine C.skip (QE.seq (C.seq (C.seq (C.region ?_)))); refine Lpu rfl rfl ?_; refine Lpu rfl rfl ?_; refine Lpu rfl rfl ?_; refine L.nil (QE.seq ?_)
 refine C.condB 16 rfl (fun hc16 => ?_) (fun hc16 => ?_)
 ·
  replace hc16 := of_decide_eq_true hc16
  refine C.seq (C.region ?_); refine Lpu rfl rfl ?_; refine L.nil (QE.seq (C.ret (QE.tR ?_))); refine QE.ret (js := []) (hs := []) (vs := [_]) rfl ⟨rfl, trivial⟩ (by decide) ?_
  exact ⟨congrArg (Value.int .i64) (by unfold cmpI; rw [if_pos hc16]), rfl, rfl⟩
 ·
  replace hc16 := of_decide_eq_false hc16
  refine C.skip (QE.seq (C.seq (C.seq (C.region ?_)))); refine Lpu rfl rfl ?_; refine Lpu rfl rfl ?_; refine Lpu rfl rfl ?_; refine L.nil (QE.seq ?_)
  refine C.condB 19 rfl (fun hc19 => ?_) (fun hc19 => ?_)
  ·
   replace hc19 := of_decide_eq_true hc19
   refine C.seq (C.region ?_); refine Lpu rfl rfl ?_; refine L.nil (QE.seq (C.ret (QE.tR ?_))); refine QE.ret (js := []) (hs := []) (vs := [_]) rfl ⟨rfl, trivial⟩ (by decide) ?_
   exact ⟨congrArg (Value.int .i64) (by unfold cmpI; rw [if_neg hc16, if_pos hc19]), rfl, rfl⟩
  ·
   replace hc19 := of_decide_eq_false hc19
   refine C.skip (QE.seq (C.seq (C.region ?_))); refine Lpu rfl rfl ?_; refine L.nil (QE.seq (C.ret ?_)); refine QE.ret (js := []) (hs := []) (vs := [_]) rfl ⟨rfl, trivial⟩ (by decide) ?_
   exact ⟨congrArg (Value.int .i64) (by unfold cmpI; rw [if_neg hc16, if_neg hc19]), rfl, rfl⟩

theorem less_c (a b : Int) :
   Ctr X 143 [.int .i64 a, .int .i64 b] [] [] (fun v R' H' => v = .bool (decide (a < b)) ∧ R' = [] ∧ H' = []) := by
 refine Ctr.of (X := X) (fn := Tryz.f143) Tryz.func143 rfl (by kernel_rfl) rfl ?_
 intro β
 refine C.seq (C.region ?_); refine Lpu rfl rfl ?_; refine L.nil (QE.seq (C.seq (C.region ?_))); refine Lpu rfl rfl ?_; refine L.call (js := []) (js' := []) (nan_c _) rfl rfl rfl (by decide) trivial rfl ?_
 rintro _ _ _ ⟨rfl, rfl, rfl⟩
 refine Lpu rfl rfl ?_; refine L.no rfl rfl rfl ?_; refine L.no rfl rfl rfl ?_; refine L.no rfl rfl rfl ?_; refine Lpu rfl rfl ?_; refine Lpu rfl rfl ?_; refine L.yes rfl ?_; refine Lpu rfl rfl ?_; refine L.yes rfl ?_; refine Lpu rfl rfl ?_; refine L.yes rfl ?_; refine Lpu rfl rfl ?_; refine Lpu rfl rfl ?_; refine Lpu rfl rfl ?_; refine L.nil (QE.seq (C.ret ?_)); refine QE.ret (js := []) (hs := []) (vs := [_]) rfl ⟨rfl, trivial⟩ (by decide) ?_
 exact ⟨rfl, rfl, rfl⟩

theorem has_c (A : Option Addr) (l : List Int) (c : Nat) (n : Int) (hl : l.length ≤ 9223372036854775807) :
   Ctr X 23 [.slice A l.length c, .int .i64 n] [Rd A (I64 l)] [] (fun v R' H' => v = .bool (l.contains n) ∧ R' = [] ∧ H' = []) := by
 refine Ctr.of (X := X) (fn := Tryz.f23) Tryz.func23 rfl (by kernel_rfl) rfl ?_
 intro β
 refine C.seq (C.region ?_); refine Lpu rfl rfl ?_; refine L.nil (QE.seq (C.seq (C.seq (C.region ?_)))); refine Lpu rfl rfl ?_; refine L.nil (QE.seq (C.block ?_)); refine C.loop (fun k : Nat => [(0, .slice A l.length c), (1, .int .i64 n), (5, .int .i64 (k : Int))]) (fun k : Nat => [Rd A (I64 l)]) (fun k : Nat => []) (fun k : Nat => k ≤ l.length ∧ ∀ i, i < k → l.getD i 0 ≠ n) (fun k : Nat => l.length - k) 0 ⟨Nat.zero_le _, all_zero⟩ (by exact Le.mk' (rs := [0]) (hs := []) ⟨rfl, rfl, rfl, trivial⟩ ⟨rfl, trivial⟩ trivial (by decide)) ?_
 rintro k ⟨hk, hno⟩
 refine C.seq (C.seq (C.region ?_)); refine Lpu rfl rfl ?_; refine Lpu rfl rfl ?_; refine Lpu rfl rfl ?_; refine Lpu rfl rfl ?_; refine L.nil (QE.seq ?_)
 refine C.condB 9 rfl (fun hc9 => ?_) (fun hc9 => ?_)
 ·
  replace hc9 := of_decide_eq_true hc9
  refine C.skip (QE.seq (C.seq (C.block (C.seq (C.region ?_))))); refine Lpu rfl rfl ?_; refine Lpu rfl rfl ?_; refine L.step (Ev.idx1 (k := k) rfl rfl rfl rfl rfl rfl rfl (by omega) (Src.r 0 rfl) (by rw [I64_len]; omega)) rfl ?_; refine L.step (Ev.load rfl rfl rfl (Src.r 0 rfl) (I64_get (by omega))) rfl ?_; refine Lpu rfl rfl ?_; refine Lpu rfl rfl ?_; refine L.nil (QE.seq ?_)
  refine C.condB 17 rfl (fun hc17 => ?_) (fun hc17 => ?_)
  ·
   replace hc17 := i_eq hc17
   refine C.seq (C.region ?_); refine Lpu rfl rfl ?_; refine L.nil (QE.seq (C.ret (QE.bR (QE.tR (QE.tR (QE.bR (QE.tR ?_))))))); refine QE.ret (js := []) (hs := []) (vs := [_]) rfl ⟨rfl, trivial⟩ (by decide) ?_
   exact ⟨congrArg Value.bool ((has_yes (by omega) hc17).symm), rfl, rfl⟩
  ·
   replace hc17 := i_ne hc17
   refine C.skip ?_; refine QE.blkN ?_; refine QE.seq (C.region ?_); refine Lpu rfl rfl ?_; refine L.step (Ev.add rfl rfl (by omega) (by omega)) rfl ?_; refine Lpu rfl rfl ?_; refine L.nil ?_
   refine QE.round (k + 1) (by exact ⟨by omega, all_step hno hc17⟩) (by omega) (by exact Le.mk' (rs := [0]) (hs := []) ⟨rfl, rfl, rfl, trivial⟩ ⟨rfl, trivial⟩ trivial (by decide))
 ·
  replace hc9 := of_decide_eq_false hc9
  refine C.exit ?_; refine QE.tX ?_; refine QE.tX ?_; refine QE.blk ?_; refine QE.seq (C.seq (C.region ?_)); refine Lpu rfl rfl ?_; refine L.nil (QE.seq (C.ret ?_)); refine QE.ret (js := []) (hs := []) (vs := [_]) rfl ⟨rfl, trivial⟩ (by decide) ?_
  exact ⟨congrArg Value.bool ((has_no (fun i hi => hno i (by omega))).symm), rfl, rfl⟩

theorem index_c (A : Option Addr) (l : List Int) (c : Nat) (n : Int) (hl : l.length ≤ 9223372036854775807) :
   Ctr X 103 [.slice A l.length c, .int .i64 n] [Rd A (I64 l)] [] (fun v R' H' => ∃ q : Int, v = .int .i64 q ∧ R' = [] ∧ H' = [] ∧ decide (q ≥ 0) = l.contains n) := by
 refine Ctr.of (X := X) (fn := Tryz.f103) Tryz.func103 rfl (by kernel_rfl) rfl ?_
 intro β
 refine C.seq (C.region ?_); refine Lpu rfl rfl ?_; refine L.nil (QE.seq (C.seq (C.seq (C.region ?_)))); refine Lpu rfl rfl ?_; refine Lpu rfl rfl ?_; refine Lpu rfl rfl ?_; refine L.nil (QE.seq (C.block ?_)); refine C.loop (fun k : Nat => [(0, .slice A l.length c), (1, .int .i64 n), (7, .int .i64 (l.length : Int)), (8, .int .i64 (k : Int))]) (fun k : Nat => [Rd A (I64 l)]) (fun k : Nat => []) (fun k : Nat => k ≤ l.length ∧ ∀ i, i < k → l.getD i 0 ≠ n) (fun k : Nat => l.length - k) 0 ⟨Nat.zero_le _, all_zero⟩ (by exact Le.mk' (rs := [0]) (hs := []) ⟨rfl, rfl, rfl, rfl, trivial⟩ ⟨rfl, trivial⟩ trivial (by decide)) ?_
 rintro k ⟨hk, hno⟩
 refine C.seq (C.region ?_); refine Lpu rfl rfl ?_; refine L.nil (QE.seq (C.seq ?_))
 refine C.condB 9 rfl (fun hc9 => ?_) (fun hc9 => ?_)
 ·
  replace hc9 := of_decide_eq_true hc9
  refine C.skip (QE.seq (C.seq (C.block (C.seq (C.region ?_))))); refine Lpu rfl rfl ?_; refine Lpu rfl rfl ?_; refine L.nil (QE.seq (C.seq (C.region ?_))); refine Lpu rfl rfl ?_; refine Lpu rfl rfl ?_; refine Lpu rfl rfl ?_; refine L.step (Ev.idx1 (k := k) rfl rfl rfl rfl rfl rfl rfl (by omega) (Src.r 0 rfl) (by rw [I64_len]; omega)) rfl ?_; refine L.step (Ev.load rfl rfl rfl (Src.r 0 rfl) (I64_get (by omega))) rfl ?_; refine Lpu rfl rfl ?_; refine L.nil (QE.seq ?_)
  refine C.condB 16 rfl (fun hc16 => ?_) (fun hc16 => ?_)
  ·
   replace hc16 := i_eq hc16
   refine C.seq (C.region ?_); refine Lpu rfl rfl ?_; refine Lpu rfl rfl ?_; refine L.nil (QE.seq (C.ret (QE.bR (QE.tR (QE.tR (QE.bR (QE.tR ?_))))))); refine QE.ret (js := []) (hs := []) (vs := [_]) rfl ⟨rfl, trivial⟩ (by decide) ?_
   refine ⟨_, rfl, rfl, rfl, ?_⟩
   rw [has_yes (by omega) hc16.symm]
   exact decide_eq_true (by omega)
  ·
   replace hc16 := i_ne hc16
   refine C.skip ?_; refine QE.blkN ?_; refine QE.seq (C.region ?_); refine L.step (Ev.add rfl rfl (by omega) (by omega)) rfl ?_; refine Lpu rfl rfl ?_; refine L.nil ?_
   refine QE.round (k + 1) (by exact ⟨by omega, all_step hno (fun e => hc16 e.symm)⟩) (by omega) (by exact Le.mk' (rs := [0]) (hs := []) ⟨rfl, rfl, rfl, rfl, trivial⟩ ⟨rfl, trivial⟩ trivial (by decide))
 ·
  replace hc9 := of_decide_eq_false hc9
  refine C.exit ?_; refine QE.tX ?_; refine QE.tX ?_; refine QE.blk ?_; refine QE.seq (C.seq (C.region ?_)); refine Lpu rfl rfl ?_; refine L.nil (QE.seq (C.ret ?_)); refine QE.ret (js := []) (hs := []) (vs := [_]) rfl ⟨rfl, trivial⟩ (by decide) ?_
  refine ⟨_, rfl, rfl, rfl, ?_⟩
  rw [has_no (fun i hi => hno i (by omega))]
  rfl

theorem contains_c (A : Option Addr) (l : List Int) (c : Nat) (n : Int) (hl : l.length ≤ 9223372036854775807) :
   Ctr X 62 [.slice A l.length c, .int .i64 n] [Rd A (I64 l)] [] (fun v R' H' => v = .bool (l.contains n) ∧ R' = [] ∧ H' = []) := by
 refine Ctr.of (X := X) (fn := Tryz.f62) Tryz.func62 rfl (by kernel_rfl) rfl ?_
 intro β
 refine C.seq (C.region ?_); refine Lpu rfl rfl ?_; refine L.nil (QE.seq (C.seq (C.region ?_))); refine Lpu rfl rfl ?_; refine Lpu rfl rfl ?_; refine L.call (js := []) (js' := []) (index_c A l c n hl) rfl rfl rfl (by decide) (Hq [0] rfl) rfl ?_
 rintro _ _ _ ⟨q, rfl, rfl, rfl, hq⟩
 refine Lpu rfl rfl ?_; refine Lpu rfl rfl ?_; refine L.nil (QE.seq (C.ret ?_)); refine QE.ret (js := []) (hs := []) (vs := [_]) rfl ⟨rfl, trivial⟩ (by decide) ?_
 exact ⟨congrArg Value.bool (hq), rfl, rfl⟩

theorem ints_c (A : Option Addr) (a : List Int) (c : Nat) (B : Option Addr) (b : List Int) (d : Nat) (ha : a.length ≤ 9223372036854775807) (_hb : b.length ≤ 9223372036854775807) :
   Ctr X 39 [.slice A a.length c, .slice B b.length d] [Rd A (I64 a), Rd B (I64 b)] [] (fun v R' H' => v = .bool (decide (a = b)) ∧ R' = [] ∧ H' = []) := by
 refine Ctr.of (X := X) (fn := Tryz.f39) Tryz.func39 rfl (by kernel_rfl) rfl ?_
 intro β
 refine C.seq (C.region ?_); refine Lpu rfl rfl ?_; refine L.nil (QE.seq (C.seq (C.seq (C.region ?_)))); refine Lpu rfl rfl ?_; refine Lpu rfl rfl ?_; refine Lpu rfl rfl ?_; refine Lpu rfl rfl ?_; refine Lpu rfl rfl ?_; refine L.nil (QE.seq ?_)
 refine C.condB 10 rfl (fun hc10 => ?_) (fun hc10 => ?_)
 ·
  replace hc10 := b_ne hc10
  refine C.seq (C.region ?_); refine Lpu rfl rfl ?_; refine L.nil (QE.seq (C.ret (QE.tR ?_))); refine QE.ret (js := []) (hs := []) (vs := [_]) rfl ⟨rfl, trivial⟩ (by decide) ?_
  exact ⟨congrArg Value.bool ((decide_eq_false (fun e => hc10 (by rw [e]))).symm), rfl, rfl⟩
 ·
  replace hc10 := b_eq hc10
  refine C.skip (QE.seq (C.seq (C.seq (C.region ?_)))); refine Lpu rfl rfl ?_; refine L.nil (QE.seq (C.block ?_)); refine C.loop (fun k : Nat => [(0, .slice A a.length c), (1, .slice B b.length d), (5, .int .i64 (k : Int))]) (fun k : Nat => [Rd A (I64 a), Rd B (I64 b)]) (fun k : Nat => []) (fun k : Nat => k ≤ a.length ∧ ∀ i, i < k → a.getD i 0 = b.getD i 0) (fun k : Nat => a.length - k) 0 ⟨Nat.zero_le _, all_zero⟩ (by exact Le.mk' (rs := [0, 1]) (hs := []) ⟨rfl, rfl, rfl, trivial⟩ ⟨rfl, rfl, trivial⟩ trivial (by decide)) ?_
  rintro k ⟨hk, heq⟩
  refine C.seq (C.seq (C.region ?_)); refine Lpu rfl rfl ?_; refine Lpu rfl rfl ?_; refine Lpu rfl rfl ?_; refine Lpu rfl rfl ?_; refine L.nil (QE.seq ?_)
  refine C.condB 14 rfl (fun hc14 => ?_) (fun hc14 => ?_)
  ·
   replace hc14 := of_decide_eq_true hc14
   refine C.skip (QE.seq (C.seq (C.block (C.seq ?_)))); refine C.regionQ (by kernel_rfl) ?_; refine LQ.step (Ev.pure rfl) rfl ?_; refine LQ.step (Ev.pure rfl) rfl ?_; refine LQ.step (Ev.idx1 (k := k) rfl rfl rfl rfl rfl rfl rfl (by omega) (Src.r 0 rfl) (by rw [I64_len]; omega)) rfl ?_; refine LQ.step (Ev.load rfl rfl rfl (Src.r 0 rfl) (I64_get (by omega))) rfl ?_; refine LQ.step (Ev.pure rfl) rfl ?_; refine LQ.step (Ev.pure rfl) rfl ?_; refine LQ.step (Ev.idx1 (k := k) rfl rfl rfl rfl rfl rfl rfl (by omega) (Src.r 1 rfl) (by rw [I64_len]; omega)) rfl ?_; refine LQ.step (Ev.load rfl rfl rfl (Src.r 1 rfl) (I64_get (by omega))) rfl ?_; refine LQ.step (Ev.pure rfl) rfl ?_; refine LQ.nil ?_; refine QE.seq ?_
   refine C.condB 25 rfl (fun hc25 => ?_) (fun hc25 => ?_)
   ·
    replace hc25 := b_ne hc25
    refine C.seq (C.region ?_); refine Lpu rfl rfl ?_; refine L.nil (QE.seq (C.ret (QE.bR (QE.tR (QE.tR (QE.bR (QE.tR ?_))))))); refine QE.ret (js := []) (hs := []) (vs := [_]) rfl ⟨rfl, trivial⟩ (by decide) ?_
    exact ⟨congrArg Value.bool ((decide_eq_false (fun e => hc25 (by rw [e]))).symm), rfl, rfl⟩
   ·
    replace hc25 := b_eq hc25
    refine C.skip ?_; refine QE.blkN ?_; refine QE.seq (C.region ?_); refine Lpu rfl rfl ?_; refine L.step (Ev.add rfl rfl (by omega) (by omega)) rfl ?_; refine Lpu rfl rfl ?_; refine L.nil ?_
    refine QE.round (k + 1) (by exact ⟨by omega, all_step heq hc25⟩) (by omega) (by exact Le.mk' (rs := [0, 1]) (hs := []) ⟨rfl, rfl, rfl, trivial⟩ ⟨rfl, rfl, trivial⟩ trivial (by decide))
  ·
   replace hc14 := of_decide_eq_false hc14
   refine C.exit ?_; refine QE.tX ?_; refine QE.tX ?_; refine QE.blk ?_; refine QE.seq (C.seq (C.region ?_)); refine Lpu rfl rfl ?_; refine L.nil (QE.seq (C.ret ?_)); refine QE.ret (js := []) (hs := []) (vs := [_]) rfl ⟨rfl, trivial⟩ (by decide) ?_
   exact ⟨congrArg Value.bool ((decide_eq_true (ext_getD (d := 0) (by omega) (fun i hi => heq i (by omega)))).symm), rfl, rfl⟩

theorem scmp_c (A : Option Addr) (a : List Int) (c : Nat) (B : Option Addr) (b : List Int) (d : Nat) (ha : a.length ≤ 9223372036854775807) (hb : b.length ≤ 9223372036854775807) :
   Ctr X 89 [.slice A a.length c, .slice B b.length d] [Rd A (I64 a), Rd B (I64 b)] [] (fun v R' H' => v = .int .i64 (cmpL a b) ∧ R' = [] ∧ H' = []) := by
 refine Ctr.of (X := X) (fn := Tryz.f89) Tryz.func89 rfl (by kernel_rfl) rfl ?_
 intro β
 refine C.seq (C.region ?_); refine Lpu rfl rfl ?_; refine L.nil (QE.seq (C.seq (C.seq (C.region ?_)))); refine Lpu rfl rfl ?_; refine Lpu rfl rfl ?_; refine Lpu rfl rfl ?_; refine L.nil (QE.seq (C.block ?_)); refine C.loop (fun k : Nat => [(0, .slice A a.length c), (1, .slice B b.length d), (9, .slice A a.length c), (10, .int .i64 (a.length : Int)), (11, .int .i64 (k : Int))]) (fun k : Nat => [Rd A (I64 a), Rd B (I64 b)]) (fun k : Nat => []) (fun k : Nat => k ≤ a.length ∧ k ≤ b.length ∧ cmpL a b = cmpL (a.drop k) (b.drop k)) (fun k : Nat => a.length - k) 0 ⟨Nat.zero_le _, Nat.zero_le _, rfl⟩ (by exact Le.mk' (rs := [0, 1]) (hs := []) ⟨rfl, rfl, rfl, rfl, rfl, trivial⟩ ⟨rfl, rfl, trivial⟩ trivial (by decide)) ?_
 rintro k ⟨hk, hkb, heq⟩
 refine C.seq (C.region ?_); refine Lpu rfl rfl ?_; refine L.nil (QE.seq (C.seq ?_))
 refine C.condB 12 rfl (fun hc12 => ?_) (fun hc12 => ?_)
 ·
  replace hc12 := of_decide_eq_true hc12
  refine C.skip (QE.seq (C.seq (C.block (C.seq (C.region ?_))))); refine Lpu rfl rfl ?_; refine L.step (Ev.idx1 (k := k) rfl rfl rfl rfl rfl rfl rfl (by omega) (Src.r 0 rfl) (by rw [I64_len]; omega)) rfl ?_; refine L.step (Ev.load rfl rfl rfl (Src.r 0 rfl) (I64_get (by omega))) rfl ?_; refine Lpu rfl rfl ?_; refine Lpu rfl rfl ?_; refine L.nil (QE.seq (C.seq (C.seq (C.region ?_)))); refine Lpu rfl rfl ?_; refine Lpu rfl rfl ?_; refine Lpu rfl rfl ?_; refine Lpu rfl rfl ?_; refine L.nil (QE.seq ?_)
  refine C.condB 19 rfl (fun hc19 => ?_) (fun hc19 => ?_)
  ·
   replace hc19 := of_decide_eq_true hc19
   refine C.seq (C.region ?_); refine Lpu rfl rfl ?_; refine L.nil (QE.seq (C.ret (QE.tR (QE.bR (QE.tR (QE.tR (QE.bR (QE.tR ?_)))))))); refine QE.ret (js := []) (hs := []) (vs := [_]) rfl ⟨rfl, trivial⟩ (by decide) ?_
   exact ⟨congrArg (Value.int .i64) (by rw [heq, cmpL_gt (by omega) (by omega)]), rfl, rfl⟩
  ·
   replace hc19 := of_decide_eq_false hc19
   refine C.skip (QE.seq (C.seq (C.region ?_))); refine Lpu rfl rfl ?_; refine Lpu rfl rfl ?_; refine L.step (Ev.idx1 (k := k) rfl rfl rfl rfl rfl rfl rfl (by omega) (Src.r 1 rfl) (by rw [I64_len]; omega)) rfl ?_; refine L.step (Ev.load rfl rfl rfl (Src.r 1 rfl) (I64_get (by omega))) rfl ?_; refine Lpu rfl rfl ?_; refine L.nil (QE.seq (C.seq (C.region ?_))); refine Lpu rfl rfl ?_; refine Lpu rfl rfl ?_; refine L.call (js := []) (js' := []) (cmp_c _ _) rfl rfl rfl (by decide) trivial rfl ?_
   rintro _ _ _ ⟨rfl, rfl, rfl⟩
   refine Lpu rfl rfl ?_; refine L.nil (QE.seq (C.seq (C.region ?_))); refine Lpu rfl rfl ?_; refine Lpu rfl rfl ?_; refine L.nil (QE.seq ?_)
   refine C.condB 28 rfl (fun hc28 => ?_) (fun hc28 => ?_)
   ·
    replace hc28 := b_ne hc28
    refine C.seq (C.region ?_); refine Lpu rfl rfl ?_; refine Lpu rfl rfl ?_; refine L.nil (QE.seq (C.ret (QE.bR (QE.tR (QE.tR (QE.bR (QE.tR ?_))))))); refine QE.ret (js := []) (hs := []) (vs := [_]) rfl ⟨rfl, trivial⟩ (by decide) ?_
    exact ⟨congrArg (Value.int .i64) (by rw [heq, cmpL_step (by omega) (by omega), if_neg hc28]), rfl, rfl⟩
   ·
    replace hc28 := b_eq hc28
    refine C.skip ?_; refine QE.blkN ?_; refine QE.seq (C.region ?_); refine L.step (Ev.add rfl rfl (by omega) (by omega)) rfl ?_; refine Lpu rfl rfl ?_; refine L.nil ?_
    refine QE.round (k + 1) (by exact ⟨by omega, by omega, by rw [heq, cmpL_step (by omega) (by omega), if_pos hc28]⟩) (by omega) (by exact Le.mk' (rs := [0, 1]) (hs := []) ⟨rfl, rfl, rfl, rfl, rfl, trivial⟩ ⟨rfl, rfl, trivial⟩ trivial (by decide))
 ·
  replace hc12 := of_decide_eq_false hc12
  refine C.exit ?_; refine QE.tX ?_; refine QE.tX ?_; refine QE.blk ?_; refine QE.seq (C.seq (C.seq (C.region ?_))); refine Lpu rfl rfl ?_; refine Lpu rfl rfl ?_; refine Lpu rfl rfl ?_; refine Lpu rfl rfl ?_; refine Lpu rfl rfl ?_; refine L.nil (QE.seq ?_)
  refine C.condB 35 rfl (fun hc35 => ?_) (fun hc35 => ?_)
  ·
   replace hc35 := of_decide_eq_true hc35
   refine C.seq (C.region ?_); refine Lpu rfl rfl ?_; refine L.nil (QE.seq (C.ret (QE.tR ?_))); refine QE.ret (js := []) (hs := []) (vs := [_]) rfl ⟨rfl, trivial⟩ (by decide) ?_
   exact ⟨congrArg (Value.int .i64) (by rw [heq, cmpL_lt (by omega) (by omega)]), rfl, rfl⟩
  ·
   replace hc35 := of_decide_eq_false hc35
   refine C.skip (QE.seq (C.seq (C.region ?_))); refine Lpu rfl rfl ?_; refine L.nil (QE.seq (C.ret ?_)); refine QE.ret (js := []) (hs := []) (vs := [_]) rfl ⟨rfl, trivial⟩ (by decide) ?_
   exact ⟨congrArg (Value.int .i64) (by rw [heq, cmpL_eq (by omega) (by omega)]), rfl, rfl⟩

theorem readings_c (LA : Option Addr) (ls : List (List Int)) (lc : Nat) (hs : List Hd) (hh : hs.length = ls.length) (hll : ls.length ≤ 9223372036854775807) (hlr : ∀ i, (ls.getD i []).length ≤ 9223372036854775807) :
   Ctr X 86 [.slice LA ls.length lc] [Rd LA (rowsV hs (J8 ls)), KidsR hs (J8 ls)] [] (fun v R' H' => v = .bool (readB ls) ∧ R' = [] ∧ H' = []) := by
 refine Ctr.of (X := X) (fn := Tryz.f86) Tryz.func86 rfl (by kernel_rfl) rfl ?_
 intro β
 refine C.seq (C.region ?_); refine Lpu rfl rfl ?_; refine L.nil (QE.seq (C.seq (C.seq (C.region ?_)))); refine Lpu rfl rfl ?_; refine Lpu rfl rfl ?_; refine Lpu rfl rfl ?_; refine L.nil (QE.seq (C.block ?_)); refine C.loop (fun u : Nat => [(0, .slice LA ls.length lc), (8, .slice LA ls.length lc), (9, .int .i64 (ls.length : Int)), (10, .int .i64 (u : Int))]) (fun u : Nat => [Rd LA (rowsV hs (J8 ls)), KidsR hs (J8 ls)]) (fun u : Nat => []) (fun u : Nat => u ≤ ls.length ∧ ∀ i, i < u → rdRow ls.length i (ls.getD i []) = true) (fun u : Nat => ls.length - u) 0 ⟨Nat.zero_le _, all_zero⟩ (by exact Le.mk' (rs := [0, 1]) (hs := []) ⟨rfl, rfl, rfl, rfl, trivial⟩ ⟨rfl, rfl, trivial⟩ trivial (by decide)) ?_
 rintro u ⟨hu, hu2⟩
 refine C.seq (C.region ?_); refine Lpu rfl rfl ?_; refine L.nil (QE.seq (C.seq ?_))
 refine C.condB 11 rfl (fun hc11 => ?_) (fun hc11 => ?_)
 ·
  replace hc11 := of_decide_eq_true hc11
  refine C.skip (QE.seq (C.seq (C.block (C.seq (C.region ?_))))); refine Lpu rfl rfl ?_; refine L.step (Ev.idx1 (k := u) rfl rfl rfl rfl rfl rfl rfl (by omega) (Src.r 0 rfl) (by rw [rowsV_len (by rw [J8_len]; exact hh), J8_len]; omega)) rfl ?_; refine L.step (Ev.load rfl rfl rfl (Src.r 0 rfl) (rowsJ_get hh (by omega))) rfl ?_; refine Lpu rfl rfl ?_; refine Lpu rfl rfl ?_; refine L.nil (QE.seq (C.seq (C.region ?_))); refine Lpu rfl rfl ?_; refine L.nil (QE.seq (C.seq ?_))
  have hrl := hlr u
  refine C.region ?_; refine Lpu rfl rfl ?_; refine Lpu rfl rfl ?_; refine Lpu rfl rfl ?_; refine L.nil (QE.seq (C.block ?_)); refine C.loop (fun j : Nat => [(0, .slice LA ls.length lc), (8, .slice LA ls.length lc), (9, .int .i64 (ls.length : Int)), (10, .int .i64 (u : Int)), (3, .int .i64 (u : Int)), (4, .slice (hs.getD u (none, 0)).1 (ls.getD u []).length (hs.getD u (none, 0)).2), (15, .slice (hs.getD u (none, 0)).1 (ls.getD u []).length (hs.getD u (none, 0)).2), (16, .int .i64 ((ls.getD u []).length : Int)), (5, .int .i64 (prevI (ls.getD u []) j)), (17, .int .i64 (j : Int))]) (fun j : Nat => [Rd LA (rowsV hs (J8 ls)), KidsR hs (J8 ls)]) (fun j : Nat => []) (fun j : Nat => j ≤ (ls.getD u []).length ∧ ∀ i, i < j → ¬NotRd ls.length u (ls.getD u []) i) (fun j : Nat => (ls.getD u []).length - j) 0 ⟨Nat.zero_le _, all_zero⟩ (by exact Le.mk' (rs := [0, 1]) (hs := []) ⟨rfl, rfl, rfl, rfl, rfl, rfl, rfl, rfl, rfl, rfl, trivial⟩ ⟨rfl, rfl, trivial⟩ trivial (by decide)) ?_
  rintro j ⟨hj, hj2⟩
  refine C.seq (C.region ?_); refine Lpu rfl rfl ?_; refine L.nil (QE.seq (C.seq ?_))
  refine C.condB 18 rfl (fun hc18 => ?_) (fun hc18 => ?_)
  ·
   replace hc18 := of_decide_eq_true hc18
   refine C.skip (QE.seq (C.seq (C.block (C.seq (C.region ?_))))); refine L.step (Ev.idx1 (k := j) rfl rfl rfl rfl rfl rfl rfl (by omega) ((Src.kid 1 rfl (by rw [J8_len]; exact hh) (u) (by rw [J8_len]; omega)).cast (J8_get _)) (by rw [I64_len]; omega)) rfl ?_; refine L.step (Ev.load rfl rfl rfl ((Src.kid 1 rfl (by rw [J8_len]; exact hh) (u) (by rw [J8_len]; omega)).cast (J8_get _)) (I64_get (by omega))) rfl ?_; refine Lpu rfl rfl ?_; refine L.nil (QE.seq (C.seq (C.seq (C.region ?_)))); refine Lpu rfl rfl ?_; refine Lpu rfl rfl ?_; refine Lpu rfl rfl ?_; refine Lpu rfl rfl ?_
   refine L.bool 24 rfl (fun hg24 => ?_) (fun hg24 => ?_)
   ·
    replace hg24 := of_decide_eq_true hg24
    refine L.no rfl rfl rfl ?_; refine L.no rfl rfl rfl ?_; refine L.no rfl rfl rfl ?_; refine L.no rfl rfl rfl ?_; refine Lpu rfl rfl ?_; refine Lpu rfl rfl ?_; refine L.no rfl rfl rfl ?_; refine L.no rfl rfl rfl ?_; refine L.no rfl rfl rfl ?_; refine Lpu rfl rfl ?_; refine L.nil (QE.seq ?_)
    refine C.cond rfl (fun _ => ?_) (fun h => by cases h)
    refine C.seq ?_
    have hN : NotRd ls.length u (ls.getD u []) j := (not_rd hj2).2 (by omega)
    refine C.region ?_; refine Lpu rfl rfl ?_; refine L.nil (QE.seq (C.ret (QE.tR (QE.bR (QE.tR (QE.tR (QE.bR (QE.bR (QE.tR (QE.tR (QE.bR (QE.tR ?_)))))))))))); refine QE.ret (js := []) (hs := []) (vs := [_]) rfl ⟨rfl, trivial⟩ (by decide) ?_
    exact ⟨congrArg Value.bool ((readB_no (by omega) (rdRow_no (by omega) hN)).symm), rfl, rfl⟩
   ·
    replace hg24 := of_decide_eq_false hg24
    refine L.yes rfl ?_; refine Lpu rfl rfl ?_; refine L.yes rfl ?_; refine Lpu rfl rfl ?_; refine L.yes rfl ?_; refine Lpu rfl rfl ?_; refine L.yes rfl ?_; refine Lpu rfl rfl ?_; refine Lpu rfl rfl ?_; refine Lpu rfl rfl ?_
    refine L.bool 30 rfl (fun hg30 => ?_) (fun hg30 => ?_)
    ·
     replace hg30 := of_decide_eq_true hg30
     refine L.no rfl rfl rfl ?_; refine L.no rfl rfl rfl ?_; refine L.no rfl rfl rfl ?_; refine Lpu rfl rfl ?_; refine L.nil (QE.seq ?_)
     refine C.cond rfl (fun _ => ?_) (fun h => by cases h)
     refine C.seq ?_
     have hN : NotRd ls.length u (ls.getD u []) j := (not_rd hj2).2 (by omega)
     refine C.region ?_; refine Lpu rfl rfl ?_; refine L.nil (QE.seq (C.ret (QE.tR (QE.bR (QE.tR (QE.tR (QE.bR (QE.bR (QE.tR (QE.tR (QE.bR (QE.tR ?_)))))))))))); refine QE.ret (js := []) (hs := []) (vs := [_]) rfl ⟨rfl, trivial⟩ (by decide) ?_
     exact ⟨congrArg Value.bool ((readB_no (by omega) (rdRow_no (by omega) hN)).symm), rfl, rfl⟩
    ·
     replace hg30 := of_decide_eq_false hg30
     refine L.yes rfl ?_; refine Lpu rfl rfl ?_; refine L.yes rfl ?_; refine Lpu rfl rfl ?_; refine L.yes rfl ?_; refine Lpu rfl rfl ?_; refine Lpu rfl rfl ?_; refine L.nil (QE.seq ?_)
     refine C.condB 34 rfl (fun hc34 => ?_) (fun hc34 => ?_)
     ·
      replace hc34 := i_eq hc34
      refine C.seq ?_
      have hN : NotRd ls.length u (ls.getD u []) j := (not_rd hj2).2 (by omega)
      refine C.region ?_; refine Lpu rfl rfl ?_; refine L.nil (QE.seq (C.ret (QE.tR (QE.bR (QE.tR (QE.tR (QE.bR (QE.bR (QE.tR (QE.tR (QE.bR (QE.tR ?_)))))))))))); refine QE.ret (js := []) (hs := []) (vs := [_]) rfl ⟨rfl, trivial⟩ (by decide) ?_
      exact ⟨congrArg Value.bool ((readB_no (by omega) (rdRow_no (by omega) hN)).symm), rfl, rfl⟩
     ·
      replace hc34 := i_ne hc34
      refine C.skip (QE.seq ?_)
      have hN : ¬NotRd ls.length u (ls.getD u []) j := fun h => by have := (not_rd hj2).1 h; omega
      refine C.region ?_; refine Lpu rfl rfl ?_; refine Lpu rfl rfl ?_; refine L.nil ?_; refine QE.blkN ?_; refine QE.seq (C.region ?_); refine L.step (Ev.add rfl rfl (by omega) (by omega)) rfl ?_; refine Lpu rfl rfl ?_; refine L.nil ?_
      refine QE.round (j + 1) (by exact ⟨by omega, all_step hj2 hN⟩) (by omega) (by exact Le.mk' (rs := [0, 1]) (hs := []) ⟨rfl, rfl, rfl, rfl, rfl, rfl, rfl, rfl, rfl, rfl, trivial⟩ ⟨rfl, rfl, trivial⟩ trivial (by decide))
  ·
   replace hc18 := of_decide_eq_false hc18
   refine C.exit ?_; refine QE.tX ?_; refine QE.tX ?_; refine QE.blk ?_; refine QE.blkN ?_; refine QE.seq (C.region ?_); refine L.step (Ev.add rfl rfl (by omega) (by omega)) rfl ?_; refine Lpu rfl rfl ?_; refine L.nil ?_
   refine QE.round (u + 1) (by exact ⟨by omega, all_step hu2 (rdRow_yes (fun i hi => hj2 i (by omega)))⟩) (by omega) (by exact Le.mk' (rs := [0, 1]) (hs := []) ⟨rfl, rfl, rfl, rfl, trivial⟩ ⟨rfl, rfl, trivial⟩ trivial (by decide))
 ·
  replace hc11 := of_decide_eq_false hc11
  refine C.exit ?_; refine QE.tX ?_; refine QE.tX ?_; refine QE.blk ?_; refine QE.seq (C.seq (C.region ?_)); refine Lpu rfl rfl ?_; refine L.nil (QE.seq (C.ret ?_)); refine QE.ret (js := []) (hs := []) (vs := [_]) rfl ⟨rfl, trivial⟩ (by decide) ?_
  exact ⟨congrArg Value.bool ((readB_yes (fun i hi => hu2 i (by omega))).symm), rfl, rfl⟩

theorem readings21_c (LA : Option Addr) (ls : List (List Int)) (lc : Nat) (hs : List Hd) (hh : hs.length = ls.length) (hll : ls.length ≤ 9223372036854775807) (hlr : ∀ i, (ls.getD i []).length ≤ 9223372036854775807) :
   Ctr X 92 [.slice LA ls.length lc] [Rd LA (rowsV hs (J8 ls)), KidsR hs (J8 ls)] [] (fun v R' H' => v = .bool (readB ls) ∧ R' = [] ∧ H' = []) := by
 refine Ctr.of (X := X) (fn := Tryz.f92) Tryz.func92 rfl (by kernel_rfl) rfl ?_
 intro β
 refine C.seq (C.region ?_); refine Lpu rfl rfl ?_; refine L.nil (QE.seq (C.seq (C.seq (C.region ?_)))); refine Lpu rfl rfl ?_; refine L.nil (QE.seq (C.block ?_)); refine C.loop (fun u : Nat => [(0, .slice LA ls.length lc), (3, .int .i64 (u : Int))]) (fun u : Nat => [Rd LA (rowsV hs (J8 ls)), KidsR hs (J8 ls)]) (fun u : Nat => []) (fun u : Nat => u ≤ ls.length ∧ ∀ i, i < u → rdRow ls.length i (ls.getD i []) = true) (fun u : Nat => ls.length - u) 0 ⟨Nat.zero_le _, all_zero⟩ (by exact Le.mk' (rs := [0, 1]) (hs := []) ⟨rfl, rfl, trivial⟩ ⟨rfl, rfl, trivial⟩ trivial (by decide)) ?_
 rintro u ⟨hu, hu2⟩
 refine C.seq (C.seq (C.region ?_)); refine Lpu rfl rfl ?_; refine Lpu rfl rfl ?_; refine Lpu rfl rfl ?_; refine Lpu rfl rfl ?_; refine L.nil (QE.seq ?_)
 refine C.condB 9 rfl (fun hc9 => ?_) (fun hc9 => ?_)
 ·
  replace hc9 := of_decide_eq_true hc9
  refine C.skip (QE.seq (C.seq (C.block (C.seq ?_))))
  have hrl := hlr u
  refine C.region ?_; refine Lpu rfl rfl ?_; refine L.nil (QE.seq (C.block ?_)); refine C.loop (fun j : Nat => [(0, .slice LA ls.length lc), (3, .int .i64 (u : Int)), (4, .int .i64 (j : Int))]) (fun j : Nat => [Rd LA (rowsV hs (J8 ls)), KidsR hs (J8 ls)]) (fun j : Nat => []) (fun j : Nat => j ≤ (ls.getD u []).length ∧ ∀ i, i < j → ¬NotRd ls.length u (ls.getD u []) i) (fun j : Nat => (ls.getD u []).length - j) 0 ⟨Nat.zero_le _, all_zero⟩ (by exact Le.mk' (rs := [0, 1]) (hs := []) ⟨rfl, rfl, rfl, trivial⟩ ⟨rfl, rfl, trivial⟩ trivial (by decide)) ?_
  rintro j ⟨hj, hj2⟩
  refine C.seq (C.seq (C.region ?_)); refine Lpu rfl rfl ?_; refine Lpu rfl rfl ?_; refine Lpu rfl rfl ?_; refine L.step (Ev.idx1 (k := u) rfl rfl rfl rfl rfl rfl rfl (by omega) (Src.r 0 rfl) (by rw [rowsV_len (by rw [J8_len]; exact hh), J8_len]; omega)) rfl ?_; refine L.step (Ev.load rfl rfl rfl (Src.r 0 rfl) (rowsJ_get hh (by omega))) rfl ?_; refine Lpu rfl rfl ?_; refine Lpu rfl rfl ?_; refine L.nil (QE.seq ?_)
  refine C.condB 18 rfl (fun hc18 => ?_) (fun hc18 => ?_)
  ·
   replace hc18 := of_decide_eq_true hc18
   refine C.skip (QE.seq (C.seq (C.block (C.seq (C.region ?_))))); refine Lpu rfl rfl ?_; refine Lpu rfl rfl ?_; refine L.step (Ev.idx1 (k := u) rfl rfl rfl rfl rfl rfl rfl (by omega) (Src.r 0 rfl) (by rw [rowsV_len (by rw [J8_len]; exact hh), J8_len]; omega)) rfl ?_; refine L.step (Ev.load rfl rfl rfl (Src.r 0 rfl) (rowsJ_get hh (by omega))) rfl ?_; refine Lpu rfl rfl ?_; refine L.step (Ev.idx1 (k := j) rfl rfl rfl rfl rfl rfl rfl (by omega) ((Src.kid 1 rfl (by rw [J8_len]; exact hh) (u) (by rw [J8_len]; omega)).cast (J8_get _)) (by rw [I64_len]; omega)) rfl ?_; refine L.step (Ev.load rfl rfl rfl ((Src.kid 1 rfl (by rw [J8_len]; exact hh) (u) (by rw [J8_len]; omega)).cast (J8_get _)) (I64_get (by omega))) rfl ?_; refine Lpu rfl rfl ?_; refine L.nil (QE.seq (C.seq (C.region ?_))); refine Lpu rfl rfl ?_; refine Lpu rfl rfl ?_; refine Lpu rfl rfl ?_
   refine L.bool 30 rfl (fun hg30 => ?_) (fun hg30 => ?_)
   ·
    replace hg30 := of_decide_eq_true hg30
    refine L.no rfl rfl rfl ?_; refine L.no rfl rfl rfl ?_; refine L.no rfl rfl rfl ?_; refine L.no rfl rfl rfl ?_; refine Lpu rfl rfl ?_; refine Lpu rfl rfl ?_; refine L.no rfl rfl rfl ?_; refine L.no rfl rfl rfl ?_; refine L.no rfl rfl rfl ?_; refine Lpu rfl rfl ?_; refine Lpu rfl rfl ?_; refine L.no rfl rfl rfl ?_; refine L.no rfl rfl rfl ?_; refine L.no rfl rfl rfl ?_; refine L.no rfl rfl rfl ?_; refine L.no rfl rfl rfl ?_; refine L.no rfl rfl rfl ?_; refine L.no rfl rfl rfl ?_; refine L.no rfl rfl rfl ?_; refine L.no rfl rfl rfl ?_; refine L.no rfl rfl rfl ?_; refine L.no rfl rfl rfl ?_; refine L.no rfl rfl rfl ?_; refine L.no rfl rfl rfl ?_; refine L.no rfl rfl rfl ?_; refine Lpu rfl rfl ?_; refine L.nil (QE.seq ?_)
    refine C.cond rfl (fun _ => ?_) (fun h => by cases h)
    refine C.seq ?_
    have hN : NotRd ls.length u (ls.getD u []) j := by unfold NotRd; omega
    refine C.region ?_; refine Lpu rfl rfl ?_; refine L.nil (QE.seq (C.ret (QE.bR (QE.tR (QE.tR (QE.bR (QE.bR (QE.tR (QE.tR (QE.bR (QE.tR ?_))))))))))); refine QE.ret (js := []) (hs := []) (vs := [_]) rfl ⟨rfl, trivial⟩ (by decide) ?_
    exact ⟨congrArg Value.bool ((readB_no (by omega) (rdRow_no (by omega) hN)).symm), rfl, rfl⟩
   ·
    replace hg30 := of_decide_eq_false hg30
    refine L.yes rfl ?_; refine Lpu rfl rfl ?_; refine L.yes rfl ?_; refine Lpu rfl rfl ?_; refine L.yes rfl ?_; refine Lpu rfl rfl ?_; refine L.yes rfl ?_; refine Lpu rfl rfl ?_; refine Lpu rfl rfl ?_; refine Lpu rfl rfl ?_
    refine L.bool 36 rfl (fun hg36 => ?_) (fun hg36 => ?_)
    ·
     replace hg36 := of_decide_eq_true hg36
     refine L.no rfl rfl rfl ?_; refine L.no rfl rfl rfl ?_; refine L.no rfl rfl rfl ?_; refine Lpu rfl rfl ?_; refine Lpu rfl rfl ?_; refine L.no rfl rfl rfl ?_; refine L.no rfl rfl rfl ?_; refine L.no rfl rfl rfl ?_; refine L.no rfl rfl rfl ?_; refine L.no rfl rfl rfl ?_; refine L.no rfl rfl rfl ?_; refine L.no rfl rfl rfl ?_; refine L.no rfl rfl rfl ?_; refine L.no rfl rfl rfl ?_; refine L.no rfl rfl rfl ?_; refine L.no rfl rfl rfl ?_; refine L.no rfl rfl rfl ?_; refine L.no rfl rfl rfl ?_; refine L.no rfl rfl rfl ?_; refine Lpu rfl rfl ?_; refine L.nil (QE.seq ?_)
     refine C.cond rfl (fun _ => ?_) (fun h => by cases h)
     refine C.seq ?_
     have hN : NotRd ls.length u (ls.getD u []) j := by unfold NotRd; omega
     refine C.region ?_; refine Lpu rfl rfl ?_; refine L.nil (QE.seq (C.ret (QE.bR (QE.tR (QE.tR (QE.bR (QE.bR (QE.tR (QE.tR (QE.bR (QE.tR ?_))))))))))); refine QE.ret (js := []) (hs := []) (vs := [_]) rfl ⟨rfl, trivial⟩ (by decide) ?_
     exact ⟨congrArg Value.bool ((readB_no (by omega) (rdRow_no (by omega) hN)).symm), rfl, rfl⟩
    ·
     replace hg36 := of_decide_eq_false hg36
     refine L.yes rfl ?_; refine Lpu rfl rfl ?_; refine L.yes rfl ?_; refine Lpu rfl rfl ?_; refine L.yes rfl ?_; refine Lpu rfl rfl ?_; refine Lpu rfl rfl ?_; refine Lpu rfl rfl ?_
     refine L.bool 41 rfl (fun hg41 => ?_) (fun hg41 => ?_)
     ·
      replace hg41 := i_eq hg41
      refine L.no rfl rfl rfl ?_; refine L.no rfl rfl rfl ?_; refine L.no rfl rfl rfl ?_; refine L.no rfl rfl rfl ?_; refine L.no rfl rfl rfl ?_; refine L.no rfl rfl rfl ?_; refine L.no rfl rfl rfl ?_; refine L.no rfl rfl rfl ?_; refine L.no rfl rfl rfl ?_; refine L.no rfl rfl rfl ?_; refine L.no rfl rfl rfl ?_; refine L.no rfl rfl rfl ?_; refine L.no rfl rfl rfl ?_; refine L.no rfl rfl rfl ?_; refine Lpu rfl rfl ?_; refine L.nil (QE.seq ?_)
      refine C.cond rfl (fun _ => ?_) (fun h => by cases h)
      refine C.seq ?_
      have hN : NotRd ls.length u (ls.getD u []) j := by unfold NotRd; omega
      refine C.region ?_; refine Lpu rfl rfl ?_; refine L.nil (QE.seq (C.ret (QE.bR (QE.tR (QE.tR (QE.bR (QE.bR (QE.tR (QE.tR (QE.bR (QE.tR ?_))))))))))); refine QE.ret (js := []) (hs := []) (vs := [_]) rfl ⟨rfl, trivial⟩ (by decide) ?_
      exact ⟨congrArg Value.bool ((readB_no (by omega) (rdRow_no (by omega) hN)).symm), rfl, rfl⟩
     ·
      replace hg41 := i_ne hg41
      refine L.yes rfl ?_; refine Lpu rfl rfl ?_; refine L.yes rfl ?_; refine Lpu rfl rfl ?_; refine L.yes rfl ?_; refine Lpu rfl rfl ?_
      refine L.bool 44 rfl (fun hg44 => ?_) (fun hg44 => ?_)
      ·
       replace hg44 := of_decide_eq_true hg44
       refine L.yes rfl ?_; refine Lpu rfl rfl ?_; refine L.yes rfl ?_; refine Lpu rfl rfl ?_; refine L.yes rfl ?_; refine Lpu rfl rfl ?_; refine L.yes rfl ?_; refine L.step (Ev.idx1 (k := u) rfl rfl rfl rfl rfl rfl rfl (by omega) (Src.r 0 rfl) (by rw [rowsV_len (by rw [J8_len]; exact hh), J8_len]; omega)) rfl ?_; refine L.yes rfl ?_; refine L.step (Ev.load rfl rfl rfl (Src.r 0 rfl) (rowsJ_get hh (by omega))) rfl ?_; refine L.yes rfl ?_; refine Lpu rfl rfl ?_; refine L.yes rfl ?_; refine L.step (Ev.sub rfl rfl (by omega) (by omega)) rfl ?_; refine L.yes rfl ?_; refine L.step (Ev.idx1 (k := (j - 1)) rfl rfl rfl rfl rfl rfl (by omega) (by omega) ((Src.kid 1 rfl (by rw [J8_len]; exact hh) (u) (by rw [J8_len]; omega)).cast (J8_get _)) (by rw [I64_len]; omega)) rfl ?_; refine L.yes rfl ?_; refine L.step (Ev.load rfl rfl rfl ((Src.kid 1 rfl (by rw [J8_len]; exact hh) (u) (by rw [J8_len]; omega)).cast (J8_get _)) (I64_get (by omega))) rfl ?_; refine L.yes rfl ?_; refine Lpu rfl rfl ?_; refine L.yes rfl ?_; refine Lpu rfl rfl ?_; refine Lpu rfl rfl ?_; refine L.nil (QE.seq ?_)
       refine C.condB 56 rfl (fun hc56 => ?_) (fun hc56 => ?_)
       ·
        replace hc56 := of_decide_eq_true hc56
        refine C.seq ?_
        have hN : NotRd ls.length u (ls.getD u []) j := by unfold NotRd; omega
        refine C.region ?_; refine Lpu rfl rfl ?_; refine L.nil (QE.seq (C.ret (QE.bR (QE.tR (QE.tR (QE.bR (QE.bR (QE.tR (QE.tR (QE.bR (QE.tR ?_))))))))))); refine QE.ret (js := []) (hs := []) (vs := [_]) rfl ⟨rfl, trivial⟩ (by decide) ?_
        exact ⟨congrArg Value.bool ((readB_no (by omega) (rdRow_no (by omega) hN)).symm), rfl, rfl⟩
       ·
        replace hc56 := of_decide_eq_false hc56
        have hN : ¬NotRd ls.length u (ls.getD u []) j := by unfold NotRd; omega
        refine C.skip ?_; refine QE.blkN ?_; refine QE.seq (C.region ?_); refine Lpu rfl rfl ?_; refine L.step (Ev.add rfl rfl (by omega) (by omega)) rfl ?_; refine Lpu rfl rfl ?_; refine L.nil ?_
        refine QE.round (j + 1) (by exact ⟨by omega, all_step hj2 hN⟩) (by omega) (by exact Le.mk' (rs := [0, 1]) (hs := []) ⟨rfl, rfl, rfl, trivial⟩ ⟨rfl, rfl, trivial⟩ trivial (by decide))
      ·
       replace hg44 := of_decide_eq_false hg44
       have hN : ¬NotRd ls.length u (ls.getD u []) j := by unfold NotRd; omega
       refine L.no rfl rfl rfl ?_; refine L.no rfl rfl rfl ?_; refine L.no rfl rfl rfl ?_; refine L.no rfl rfl rfl ?_; refine L.no rfl rfl rfl ?_; refine L.no rfl rfl rfl ?_; refine L.no rfl rfl rfl ?_; refine L.no rfl rfl rfl ?_; refine L.no rfl rfl rfl ?_; refine L.no rfl rfl rfl ?_; refine L.yes rfl ?_; refine Lpu rfl rfl ?_; refine Lpu rfl rfl ?_; refine L.nil (QE.seq ?_)
       refine C.cond rfl (fun h => by cases h) (fun _ => ?_)
       refine C.skip ?_; refine QE.blkN ?_; refine QE.seq (C.region ?_); refine Lpu rfl rfl ?_; refine L.step (Ev.add rfl rfl (by omega) (by omega)) rfl ?_; refine Lpu rfl rfl ?_; refine L.nil ?_
       refine QE.round (j + 1) (by exact ⟨by omega, all_step hj2 hN⟩) (by omega) (by exact Le.mk' (rs := [0, 1]) (hs := []) ⟨rfl, rfl, rfl, trivial⟩ ⟨rfl, rfl, trivial⟩ trivial (by decide))
  ·
   replace hc18 := of_decide_eq_false hc18
   refine C.exit ?_; refine QE.tX ?_; refine QE.tX ?_; refine QE.blk ?_; refine QE.blkN ?_; refine QE.seq (C.region ?_); refine Lpu rfl rfl ?_; refine L.step (Ev.add rfl rfl (by omega) (by omega)) rfl ?_; refine Lpu rfl rfl ?_; refine L.nil ?_
   refine QE.round (u + 1) (by exact ⟨by omega, all_step hu2 (rdRow_yes (fun i hi => hj2 i (by omega)))⟩) (by omega) (by exact Le.mk' (rs := [0, 1]) (hs := []) ⟨rfl, rfl, trivial⟩ ⟨rfl, rfl, trivial⟩ trivial (by decide))
 ·
  replace hc9 := of_decide_eq_false hc9
  refine C.exit ?_; refine QE.tX ?_; refine QE.tX ?_; refine QE.blk ?_; refine QE.seq (C.seq (C.region ?_)); refine Lpu rfl rfl ?_; refine L.nil (QE.seq (C.ret ?_)); refine QE.ret (js := []) (hs := []) (vs := [_]) rfl ⟨rfl, trivial⟩ (by decide) ?_
  exact ⟨congrArg Value.bool ((readB_yes (fun i hi => hu2 i (by omega))).symm), rfl, rfl⟩

end Go.Proofs.YtpccfdnmnnnboaaGreat
