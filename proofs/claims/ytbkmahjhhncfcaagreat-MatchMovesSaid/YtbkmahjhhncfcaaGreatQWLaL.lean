/-
  The contract of the program's Read.
-/
import Derived.Test.YtbkmahjhhncfcaaGreatQWLaK
namespace Go.Proofs.YtbkmahjhhncfcaaGreat
open Go.Sl

theorem Bs_app2 (a b : List Bool) : Bs a ++ Bs b = Bs (a ++ b) := by simp [Bs]

theorem eq8_c (A B : Option Addr) (c d : Nat) (xs ys : List UInt8) (hx : xs.length ≤ 9223372036854775806) :
   Ctr X 108 [.slice A xs.length c, .slice B ys.length d] [Rd A (U8 xs), Rd B (U8 ys)] [] (fun v R' H' => v = .bool (xs == ys) ∧ R' = [] ∧ H' = []) := by
 refine Ctr.of (X := X) (fn := Tryz.f108) Tryz.func108 rfl (by kernel_rfl) rfl ?_
 intro β
 refine C.seq (C.region ?_); refine Lpu rfl rfl ?_; refine L.nil (QE.seq (C.seq (C.seq (C.region ?_)))); refine Lpu rfl rfl ?_; refine Lpu rfl rfl ?_; refine Lpu rfl rfl ?_; refine Lpu rfl rfl ?_; refine Lpu rfl rfl ?_; refine L.nil (QE.seq ?_)
 refine C.condB 10 rfl (fun hc10 => ?_) (fun hc10 => ?_)
 ·
  replace hc10 := b_ne hc10
  refine C.seq (C.region ?_); refine Lpu rfl rfl ?_; refine L.nil (QE.seq (C.ret (QE.tR ?_))); refine QE.ret (js := []) (hs := []) (vs := [_]) rfl ⟨rfl, trivial⟩ (by decide) ?_
  refine ⟨congrArg Value.bool ?_, rfl, rfl⟩
  rw [eq_comm, beq_eq_false_iff_ne]
  intro h
  subst h
  exact hc10 rfl
 ·
  replace hc10 := b_eq hc10
  refine C.skip (QE.seq (C.seq (C.seq (C.region ?_)))); refine Lpu rfl rfl ?_; refine Lpu rfl rfl ?_; refine Lpu rfl rfl ?_; refine L.nil (QE.seq (C.block ?_)); refine C.loop (fun k : Nat => [(0, .slice A xs.length c), (1, .slice B ys.length d), (12, .int .i64 (xs.length : Int)), (13, .int .i64 (k : Int))]) (fun k : Nat => [Rd A (U8 xs), Rd B (U8 ys)]) (fun k : Nat => []) (fun k : Nat => k ≤ xs.length ∧ xs.take k = ys.take k) (fun k : Nat => xs.length - k) 0 ⟨by omega, by simp⟩ (by exact Le.mk' (rs := [0, 1]) (hs := []) ⟨rfl, rfl, rfl, rfl, trivial⟩ ⟨rfl, rfl, trivial⟩ trivial (by decide)) ?_
  rintro k ⟨hk, htk⟩
  refine C.seq (C.region ?_); refine Lpu rfl rfl ?_; refine L.nil (QE.seq (C.seq ?_))
  refine C.condB 14 rfl (fun hc14 => ?_) (fun hc14 => ?_)
  ·
   replace hc14 := of_decide_eq_true hc14
   refine C.skip (QE.seq (C.seq (C.block (C.seq (C.region ?_))))); refine Lpu rfl rfl ?_; refine Lpu rfl rfl ?_; refine L.nil (QE.seq (C.seq ?_)); refine C.regionQ (by kernel_rfl) ?_; refine LQ.step (Ev.pure rfl) rfl ?_; refine LQ.step (Ev.pure rfl) rfl ?_; refine LQ.step (Ev.idx1 (k := k) rfl rfl rfl rfl rfl rfl rfl (by omega) (Src.r 0 rfl) (by rw [U8_len]; omega)) rfl ?_; refine LQ.step (Ev.load rfl rfl rfl (Src.r 0 rfl) (U8_get (by omega))) rfl ?_; refine LQ.step (Ev.pure rfl) rfl ?_; refine LQ.step (Ev.pure rfl) rfl ?_; refine LQ.step (Ev.idx1 (k := k) rfl rfl rfl rfl rfl rfl rfl (by omega) (Src.r 1 rfl) (by rw [U8_len]; omega)) rfl ?_; refine LQ.step (Ev.load rfl rfl rfl (Src.r 1 rfl) (U8_get (by omega))) rfl ?_; refine LQ.step (Ev.pure rfl) rfl ?_; refine LQ.nil ?_; refine QE.seq ?_
   refine C.condB 24 rfl (fun hc24 => ?_) (fun hc24 => ?_)
   ·
    replace hc24 := b_ne hc24
    refine C.seq (C.region ?_); refine Lpu rfl rfl ?_; refine L.nil (QE.seq (C.ret (QE.bR (QE.tR (QE.tR (QE.bR (QE.tR ?_))))))); refine QE.ret (js := []) (hs := []) (vs := [_]) rfl ⟨rfl, trivial⟩ (by decide) ?_
    refine ⟨congrArg Value.bool ?_, rfl, rfl⟩
    rw [eq_comm, beq_eq_false_iff_ne]
    intro h
    subst h
    exact hc24 rfl
   ·
    replace hc24 := b_eq hc24
    refine C.skip ?_; refine QE.blkN ?_; refine QE.seq (C.region ?_); refine L.step (Ev.add rfl rfl (by omega) (by omega)) rfl ?_; refine Lpu rfl rfl ?_; refine L.nil ?_
    refine QE.round (k + 1) ?_ (by omega) (by exact Le.mk' (rs := [0, 1]) (hs := []) ⟨rfl, rfl, rfl, rfl, trivial⟩ ⟨rfl, rfl, trivial⟩ trivial (by decide))
    · refine ⟨by omega, ?_⟩
      rw [take_snoc' xs 0 k (by omega), take_snoc' ys 0 k (by omega), htk, u8_eq.1 hc24]
  ·
   replace hc14 := of_decide_eq_false hc14
   refine C.exit ?_; refine QE.tX ?_; refine QE.tX ?_; refine QE.blk ?_; refine QE.seq (C.seq (C.region ?_)); refine Lpu rfl rfl ?_; refine L.nil (QE.seq (C.ret ?_)); refine QE.ret (js := []) (hs := []) (vs := [_]) rfl ⟨rfl, trivial⟩ (by decide) ?_
   refine ⟨congrArg Value.bool ?_, rfl, rfl⟩
   obtain rfl : k = xs.length := by omega
   rw [List.take_of_length_le (Nat.le_refl _), List.take_of_length_le (by omega)] at htk
   rw [eq_comm, beq_iff_eq]
   exact htk

set_option maxHeartbeats 4000000 in
theorem read_c (B : Option Addr) (b : List UInt8) (bc : Nat) (hb : b.length ≤ bc) (hl : b.length ≤ 1000000) :
   Ctr X 82 [.slice B b.length bc] [Rd B (U8 b)] [] (fun v R' H' => ∃ (WA MA LA : Option Addr) (wc mc lc : Nat), v = .tuple #[.agg (List.toArray [.slice WA (readR b).ws.length wc, .slice MA (readR b).ms.length mc, .slice LA (readR b).ls.length lc]), .int .i64 (readE b)] ∧ R' = [] ∧ H' = [Own 73 1 WA (readR b).ws.length wc (N32 (readR b).ws), Own 4 1 MA (readR b).ms.length mc (Bs (readR b).ms), Own 3 1 LA (readR b).ls.length lc (I64 (readR b).ls)]) := by
 refine Ctr.of (X := X) (fn := Tryz.f82) Tryz.func82 rfl (by kernel_rfl) rfl ?_
 intro β
 have hnl : rN b < 65536 := numB_lt b 0
 have hkl : rK b < 65536 := numB_lt b 2
 have hrM : rM b = 4 + 2 * rK b := rfl
 have hrW : rW b = rM b + (rN b + 7) / 8 := rfl
 refine C.seq (C.region ?_)
 refine L.box rfl rfl rfl (fun A1 => ?_)
 refine L.alloc rfl rfl rfl (fun A2 => ?_)
 refine Lpu rfl rfl ?_; refine L.nil (QE.seq (C.seq (C.seq ?_))); refine C.freeze 0 rfl [1] (by decide) (by decide) ?_; refine C.norm (H' := [_]) [0] ⟨rfl, trivial⟩ (by decide) ?_; refine C.region ?_; refine L.step (Ev.load rfl rfl rfl (Src.r 0 rfl) rfl) rfl ?_; refine Lpu rfl rfl ?_; refine Lpu rfl rfl ?_; refine L.nil (QE.seq ?_)
 refine C.condB 17 rfl (fun hc17 => ?_) (fun hc17 => ?_)
 ·
  replace hc17 := of_decide_eq_true hc17
  refine C.seq (C.region ?_); refine L.step (Ev.build rfl rfl rfl rfl rfl rfl rfl) rfl ?_; refine L.storeA (j := 0) rfl rfl rfl rfl rfl (Nat.zero_lt_succ _) rfl rfl ?_; refine Lpu rfl rfl ?_; refine L.nil (QE.seq (C.ret (QE.tR ?_))); refine QE.nil_own 73 1 ?_; refine QE.nil_own 4 1 ?_; refine QE.nil_own 3 1 ?_; refine QE.ret (js := []) (hs := [1, 2, 3]) (vs := [_, _]) rfl ⟨⟨_, _, 0, _, rfl, rfl, Src.o 0 rfl, .inl ⟨rfl, by decide, _, rfl, rfl, rfl⟩⟩, rfl, trivial⟩ (by decide) ?_
  have hN : ¬ readOk b := fun h => by have := h.1; omega
  have e1 : readR b = Lf.zero := by unfold readR; rw [if_neg hN]
  have e2 : readE b = 3 := by unfold readE; rw [if_neg hN]
  rw [e1, e2]
  exact ⟨none, none, none, 0, 0, 0, rfl, rfl, rfl⟩
 ·
  replace hc17 := of_decide_eq_false hc17
  refine C.skip (QE.seq (C.seq (C.region ?_))); refine Lpu rfl rfl ?_; refine Lpu rfl rfl ?_; refine L.nil (QE.seq (C.seq (C.region ?_))); refine Lpu rfl rfl ?_; refine L.callv (js := []) (js' := [0]) (number_c A1 B b bc (0) (by omega) hl) rfl rfl rfl rfl rfl (by decide) (Hq [0, 1] rfl) rfl ?_
  rintro _ _ _ ⟨rfl, rfl, rfl⟩
  refine L.norm (H' := [_]) [0] ⟨rfl, trivial⟩ (by decide) ?_; refine Lpu rfl rfl ?_; refine L.callv (js := []) (js' := [0]) (number_c A1 B b bc (2) (by omega) hl) rfl rfl rfl rfl rfl (by decide) (Hq [0, 1] rfl) rfl ?_
  rintro _ _ _ ⟨rfl, rfl, rfl⟩
  refine L.norm (H' := [_]) [0] ⟨rfl, trivial⟩ (by decide) ?_; refine Lpu rfl rfl ?_; refine Lpu rfl rfl ?_; refine L.nil (QE.seq (C.seq (C.region ?_))); refine Lpu rfl rfl ?_; refine L.step (Ev.cast (u := .int .i64 ((2 * rK b : Nat) : Int)) (Ev.mul rfl rfl (by show _ ≤ 2 * (numB b 2 : Int); omega) (by show 2 * (numB b 2 : Int) ≤ _; have : numB b 2 < 65536 := numB_lt b 2; omega)) (congrArg (Value.int .i64) (by show (2 : Int) * (numB b 2 : Int) = _; unfold rK; omega))) rfl ?_; refine L.step (Ev.cast (u := .int .i64 ((rM b : Nat) : Int)) (Ev.add rfl rfl (by omega) (by omega)) (congrArg (Value.int .i64) (by omega))) rfl ?_; refine Lpu rfl rfl ?_; refine L.nil (QE.seq (C.seq (C.region ?_))); refine Lpu rfl rfl ?_; refine Lpu rfl rfl ?_; refine L.step (Ev.cast (u := .int .i64 ((rN b + 7 : Nat) : Int)) (Ev.add rfl rfl (by show _ ≤ (numB b 0 : Int) + 7; omega) (by show (numB b 0 : Int) + 7 ≤ _; have : numB b 0 < 65536 := numB_lt b 0; omega)) (congrArg (Value.int .i64) (by show (numB b 0 : Int) + 7 = _; unfold rN; omega))) rfl ?_; refine L.step (Ev.cast (u := .int .i64 (((rN b + 7) / 8 : Nat) : Int)) (Ev.quo rfl rfl (by omega) (by decide) (by omega)) (congrArg (Value.int .i64) (by omega))) rfl ?_; refine L.step (Ev.cast (u := .int .i64 ((rW b : Nat) : Int)) (Ev.add rfl rfl (by omega) (by omega)) (congrArg (Value.int .i64) (by omega))) rfl ?_; refine Lpu rfl rfl ?_; refine L.nil (QE.seq (C.seq (C.seq (C.region ?_)))); refine L.step (Ev.load rfl rfl rfl (Src.r 0 rfl) rfl) rfl ?_; refine Lpu rfl rfl ?_; refine Lpu rfl rfl ?_; refine Lpu rfl rfl ?_; refine L.step (Ev.cast (u := .int .i64 ((4 * rN b : Nat) : Int)) (Ev.mul rfl rfl (by show _ ≤ 4 * (numB b 0 : Int); omega) (by show 4 * (numB b 0 : Int) ≤ _; have : numB b 0 < 65536 := numB_lt b 0; omega)) (congrArg (Value.int .i64) (by show 4 * (numB b 0 : Int) = _; unfold rN; omega))) rfl ?_; refine L.step (Ev.cast (u := .int .i64 ((rW b + 4 * rN b : Nat) : Int)) (Ev.add rfl rfl (by omega) (by omega)) (congrArg (Value.int .i64) (by omega))) rfl ?_; refine Lpu rfl rfl ?_; refine L.nil (QE.seq ?_)
  refine C.condB 38 rfl (fun hc38 => ?_) (fun hc38 => ?_)
  ·
   replace hc38 := b_ne hc38
   refine C.seq (C.region ?_); refine L.step (Ev.build rfl rfl rfl rfl rfl rfl rfl) rfl ?_; refine L.storeA (j := 0) rfl rfl rfl rfl rfl (Nat.zero_lt_succ _) rfl rfl ?_; refine Lpu rfl rfl ?_; refine L.nil (QE.seq (C.ret (QE.tR ?_))); refine QE.nil_own 73 1 ?_; refine QE.nil_own 4 1 ?_; refine QE.nil_own 3 1 ?_; refine QE.ret (js := []) (hs := [1, 2, 3]) (vs := [_, _]) rfl ⟨⟨_, _, 0, _, rfl, rfl, Src.o 0 rfl, .inl ⟨rfl, by decide, _, rfl, rfl, rfl⟩⟩, rfl, trivial⟩ (by decide) ?_
   have hN : ¬ readOk b := fun h => by have := h.2.1; omega
   have e1 : readR b = Lf.zero := by unfold readR; rw [if_neg hN]
   have e2 : readE b = 3 := by unfold readE; rw [if_neg hN]
   rw [e1, e2]
   exact ⟨none, none, none, 0, 0, 0, rfl, rfl, rfl⟩
  ·
   replace hc38 := b_eq hc38
   have hlen : b.length = rW b + 4 * rN b := by omega
   have hxl3 := readX_lens hlen
   refine C.skip (QE.seq (C.seq (C.region ?_)))
   refine L.alloc rfl rfl rfl (fun A9 => ?_)
   refine L.nil (QE.seq (C.seq (C.region ?_))); refine Lpu rfl rfl ?_; refine L.nil (QE.seq (C.seq (C.seq (C.region ?_)))); refine Lpu rfl rfl ?_; refine Lpu rfl rfl ?_; refine L.nil (QE.seq (C.block ?_)); refine C.nil_own 3 1 ?_; refine C.loop (fun q : Nat × Option Addr × Nat => [(1, ptrOf A1 0), (2, ptrOf A2 0), (4, .func (.func 107) #[] #[ptrOf A1 0]), (5, .int .i64 ((rN b) : Int)), (6, .int .i64 ((rK b) : Int)), (7, .int .i64 (rM b : Int)), (8, .int .i64 (rW b : Int)), (9, ptrOf A9 0), (40, .int .i64 ((rK b) : Int)), (41, .int .i64 (q.1 : Int)), (10, .int .i64 (rlast b q.1 : Int))]) (fun q : Nat × Option Addr × Nat => [Rd A1 [.slice B b.length bc], Rd B (U8 b)]) (fun q : Nat × Option Addr × Nat => [Own 57 3 A2 1 1 [.slice none 0 0, .slice none 0 0, .slice none 0 0], Own 57 3 A9 1 1 [.slice none 0 0, .slice none 0 0, .slice q.2.1 (rlabs b q.1).length q.2.2], Own 3 1 q.2.1 (rlabs b q.1).length q.2.2 (I64 (rlabs b q.1))]) (fun q : Nat × Option Addr × Nat => q.1 ≤ (rK b)) (fun q : Nat × Option Addr × Nat => (rK b) - q.1) (0, none, 0) (Nat.zero_le _) (by exact Le.mk' (rs := [0, 1]) (hs := [0, 1, 2]) ⟨rfl, rfl, rfl, rfl, rfl, rfl, rfl, rfl, rfl, rfl, rfl, trivial⟩ ⟨rfl, rfl, trivial⟩ ⟨rfl, rfl, rfl, trivial⟩ (by decide)) ?_
   rintro ⟨i, LA, lc⟩ hi
   dsimp only at hi ⊢
   refine C.seq (C.region ?_); refine Lpu rfl rfl ?_; refine L.nil (QE.seq (C.seq ?_))
   refine C.condB 42 rfl (fun hc42 => ?_) (fun hc42 => ?_)
   ·
    replace hc42 := of_decide_eq_true hc42
    have hrl := rlast_le b i
    have hll0 := rlabs_len b i
    refine C.skip (QE.seq (C.seq (C.block (C.seq (C.region ?_))))); refine Lpu rfl rfl ?_; refine Lpu rfl rfl ?_; refine L.nil (QE.seq (C.seq (C.region ?_))); refine Lpu rfl rfl ?_; refine Lpu rfl rfl ?_; refine Lpu rfl rfl ?_; refine L.step (Ev.cast (u := .int .i64 ((2 * i : Nat) : Int)) (Ev.mul rfl rfl (by omega) (by omega)) (congrArg (Value.int .i64) (by omega))) rfl ?_; refine L.step (Ev.cast (u := .int .i64 ((4 + 2 * i : Nat) : Int)) (Ev.add rfl rfl (by omega) (by omega)) (congrArg (Value.int .i64) (by omega))) rfl ?_; refine L.callv (js := []) (js' := [0, 1, 2]) (number_c A1 B b bc (4 + 2 * i) (by omega) hl) rfl rfl rfl rfl rfl (by decide) (Hq [0, 1] rfl) rfl ?_
    rintro _ _ _ ⟨rfl, rfl, rfl⟩
    refine L.norm (H' := [_, _, _]) [0, 1, 2] ⟨rfl, rfl, rfl, trivial⟩ (by decide) ?_; refine L.step (Ev.cast (u := .int .i64 ((4 * numB b (4 + 2 * i) : Nat) : Int)) (Ev.mul rfl rfl (by omega) (by have := numB_lt b (4 + 2 * i); omega)) (congrArg (Value.int .i64) (by omega))) rfl ?_; refine L.step (Ev.cast (u := .int .i64 ((rlast b (i + 1) : Nat) : Int)) (Ev.add rfl rfl (by omega) (by have := numB_lt b (4 + 2 * i); omega)) (congrArg (Value.int .i64) (by rw [← rlast_succ]; omega))) rfl ?_; refine Lpu rfl rfl ?_; refine L.nil (QE.seq (C.region ?_)); refine L.step (Ev.fieldAddr rfl rfl rfl rfl rfl rfl (Src.o 1 rfl) (Nat.zero_lt_succ _) rfl) rfl ?_; refine L.step (Ev.load rfl rfl rfl (Src.o 1 rfl) rfl) rfl ?_; refine Lpu rfl rfl ?_
    refine L.lit rfl rfl rfl rfl rfl (by rfl) (by rfl) (by rfl) rfl rfl (fun A55 => ?_)
    refine L.append (j := 2) rfl rfl rfl rfl (by decide) rfl rfl rfl rfl (Src.o 3 rfl) rfl (I64_one [(rlast b (i + 1) : Int)]) (by rw [rlabs_len]; omega) (by show _ * 8 ≤ _; omega) rfl (fun A56 cc56 => ?_)
    refine L.step (Ev.fieldAddr rfl rfl rfl rfl rfl rfl (Src.o 1 rfl) (Nat.zero_lt_succ _) rfl) rfl ?_
    first | refine L.store (j := 0) rfl rfl rfl rfl rfl rfl rfl rfl ?_ | refine L.store (j := 1) rfl rfl rfl rfl rfl rfl rfl rfl ?_ | refine L.store (j := 2) rfl rfl rfl rfl rfl rfl rfl rfl ?_ | refine L.store (j := 3) rfl rfl rfl rfl rfl rfl rfl rfl ?_ | refine L.store (j := 4) rfl rfl rfl rfl rfl rfl rfl rfl ?_ | refine L.store (j := 5) rfl rfl rfl rfl rfl rfl rfl rfl ?_
    refine L.nil ?_; refine QE.blkN ?_; refine QE.seq (C.region ?_); refine L.step (Ev.add rfl rfl (by omega) (by omega)) rfl ?_; refine Lpu rfl rfl ?_; refine L.nil ?_
    have he := rlabs_succ b i
    have hel : (rlabs b (i + 1)).length = (rlabs b i).length + 1 := by rw [he, List.length_append]; rfl
    refine QE.round (i := (i, LA, lc)) ((i + 1, A56, cc56)) (by dsimp only; omega) (by dsimp only; omega) (by exact Le.mk' (rs := [0, 1]) (hs := [0, 1, 2]) ⟨rfl, rfl, rfl, rfl, rfl, rfl, rfl, rfl, rfl, rfl, rfl, trivial⟩ ⟨rfl, rfl, trivial⟩ ⟨rfl, (congrArg some (own_eq2 rfl (by dsimp only; rw [hel]; rfl))), (congrArg some (own_eq2 hel.symm (by dsimp only; rw [he]; simp only [← I64_app]; rfl))), trivial⟩ (by decide))
   ·
    replace hc42 := of_decide_eq_false hc42
    refine C.exit ?_; refine QE.tX ?_; refine QE.tX ?_; refine QE.blk ?_; refine QE.seq (C.seq (C.seq ?_))
    obtain rfl : i = rK b := by omega
    clear hi
    refine C.region ?_; refine Lpu rfl rfl ?_; refine Lpu rfl rfl ?_; refine L.nil (QE.seq (C.block ?_)); refine C.nil_own 4 1 ?_; refine C.loop (fun q : Nat × Option Addr × Nat => [(1, ptrOf A1 0), (2, ptrOf A2 0), (4, .func (.func 107) #[] #[ptrOf A1 0]), (5, .int .i64 ((rN b) : Int)), (6, .int .i64 ((rK b) : Int)), (7, .int .i64 (rM b : Int)), (8, .int .i64 (rW b : Int)), (9, ptrOf A9 0), (59, .int .i64 ((rN b) : Int)), (60, .int .i64 (q.1 : Int))]) (fun q : Nat × Option Addr × Nat => [Rd A1 [.slice B b.length bc], Rd B (U8 b)]) (fun q : Nat × Option Addr × Nat => [Own 57 3 A2 1 1 [.slice none 0 0, .slice none 0 0, .slice none 0 0], Own 57 3 A9 1 1 [.slice none 0 0, .slice q.2.1 (rmarks b (rM b) q.1).length q.2.2, .slice LA (rlabs b (rK b)).length lc], Own 3 1 LA (rlabs b (rK b)).length lc (I64 (rlabs b (rK b))), Own 4 1 q.2.1 (rmarks b (rM b) q.1).length q.2.2 (Bs (rmarks b (rM b) q.1))]) (fun q : Nat × Option Addr × Nat => q.1 ≤ (rN b)) (fun q : Nat × Option Addr × Nat => (rN b) - q.1) (0, none, 0) (Nat.zero_le _) (by exact Le.mk' (rs := [0, 1]) (hs := [0, 1, 2, 3]) ⟨rfl, rfl, rfl, rfl, rfl, rfl, rfl, rfl, rfl, rfl, trivial⟩ ⟨rfl, rfl, trivial⟩ ⟨rfl, rfl, rfl, rfl, trivial⟩ (by decide)) ?_
    rintro ⟨i, MA, mc⟩ hi
    dsimp only at hi ⊢
    refine C.seq (C.region ?_); refine Lpu rfl rfl ?_; refine L.nil (QE.seq (C.seq ?_))
    refine C.condB 61 rfl (fun hc61 => ?_) (fun hc61 => ?_)
    ·
     replace hc61 := of_decide_eq_true hc61
     have hll1 := rmarks_len b (rM b) i
     refine C.skip (QE.seq (C.seq (C.block (C.seq (C.region ?_))))); refine Lpu rfl rfl ?_; refine Lpu rfl rfl ?_; refine L.nil (QE.seq ?_); refine C.regionM [Rd A1 [.slice B b.length bc], Rd B (U8 b), Rd A9 [.slice none 0 0, .slice MA (rmarks b (rM b) i).length mc, .slice LA (rlabs b (rK b)).length lc]] ⟨Has.r 0 rfl, Has.r 1 rfl, Has.o 1 rfl, trivial⟩ ?_; refine LM.q 0 rfl (by kernel_rfl) (Ev.fieldAddr rfl rfl rfl rfl rfl rfl (Src.r 2 rfl) (Nat.zero_lt_succ _) rfl) rfl ⟨Has.r 0 rfl, Has.r 1 rfl, Has.o 1 rfl, trivial⟩ ?_; refine LM.q 1 rfl (by kernel_rfl) (Ev.load rfl rfl rfl (Src.r 2 rfl) rfl) rfl ⟨Has.r 0 rfl, Has.r 1 rfl, Has.o 1 rfl, trivial⟩ ?_; refine LM.q 2 rfl (by kernel_rfl) (Ev.load rfl rfl rfl (Src.r 0 rfl) rfl) rfl ⟨Has.r 0 rfl, Has.r 1 rfl, Has.o 1 rfl, trivial⟩ ?_; refine LM.q 3 rfl (by kernel_rfl) (Ev.pure rfl) rfl ⟨Has.r 0 rfl, Has.r 1 rfl, Has.o 1 rfl, trivial⟩ ?_; refine LM.q 4 rfl (by kernel_rfl) (Ev.pure rfl) rfl ⟨Has.r 0 rfl, Has.r 1 rfl, Has.o 1 rfl, trivial⟩ ?_; refine LM.q 5 rfl (by kernel_rfl) (Ev.cast (u := .int .i64 ((i / 8 : Nat) : Int)) (Ev.quo rfl rfl (by omega) (by decide) (by omega)) (congrArg (Value.int .i64) (by omega))) rfl ⟨Has.r 0 rfl, Has.r 1 rfl, Has.o 1 rfl, trivial⟩ ?_; refine LM.q 6 rfl (by kernel_rfl) (Ev.cast (u := .int .i64 ((rM b + i / 8 : Nat) : Int)) (Ev.add rfl rfl (by omega) (by omega)) (congrArg (Value.int .i64) (by omega))) rfl ⟨Has.r 0 rfl, Has.r 1 rfl, Has.o 1 rfl, trivial⟩ ?_; refine LM.q 7 rfl (by kernel_rfl) (Ev.idx1 (k := rM b + i / 8) rfl rfl rfl rfl rfl rfl rfl (by omega) (Src.r 1 rfl) (by rw [U8_len]; omega)) rfl ⟨Has.r 0 rfl, Has.r 1 rfl, Has.o 1 rfl, trivial⟩ ?_; refine LM.q 8 rfl (by kernel_rfl) (Ev.load rfl rfl rfl (Src.r 1 rfl) (U8_get (by omega))) rfl ⟨Has.r 0 rfl, Has.r 1 rfl, Has.o 1 rfl, trivial⟩ ?_; refine LM.f 9 rfl (by kernel_rfl) ⟨Has.r 0 rfl, Has.r 1 rfl, Has.o 1 rfl, trivial⟩ ?_; refine Lpu rfl rfl ?_
     refine L.nil (QE.m (by kernel_rfl) ?_)
     refine LM.f 10 rfl (by kernel_rfl) ⟨Has.r 0 rfl, Has.r 1 rfl, Has.o 1 rfl, trivial⟩ ?_; refine L.step (Ev.cast (u := .int .i64 ((i % 8 : Nat) : Int)) (Ev.rem rfl rfl (by omega) (by decide)) (congrArg (Value.int .i64) (by omega))) rfl ?_
     refine L.nil (QE.m (by kernel_rfl) ?_)
     refine LM.f 11 rfl (by kernel_rfl) ⟨Has.r 0 rfl, Has.r 1 rfl, Has.o 1 rfl, trivial⟩ ?_; refine L.step (Ev.shr8q (k := i % 8) (q := ((b.getD (rM b + i / 8) 0).toNat) / 2 ^ (i % 8)) rfl rfl rfl (by omega) rfl) rfl ?_
     refine L.nil (QE.m (by kernel_rfl) ?_)
     refine LM.f 12 rfl (by kernel_rfl) ⟨Has.r 0 rfl, Has.r 1 rfl, Has.o 1 rfl, trivial⟩ ?_; refine L.step (Ev.low8 1 (q := ((b.getD (rM b + i / 8) 0).toNat) / 2 ^ (i % 8) % 2) rfl rfl rfl (Nat.lt_of_le_of_lt (Nat.div_le_self _ _) (UInt8.toNat_lt _)) (by decide) rfl) rfl ?_
     refine L.nil (QE.m (by kernel_rfl) ?_)
     refine LM.f 13 rfl (by kernel_rfl) ⟨Has.r 0 rfl, Has.r 1 rfl, Has.o 1 rfl, trivial⟩ ?_; refine L.step (Ev.cast (u := .bool (rmark b (rM b) i)) (Ev.pure rfl) (congrArg Value.bool (beq_one _))) rfl ?_
     refine L.nil (QE.m (by kernel_rfl) ?_)
     refine LM.f 14 rfl (by kernel_rfl) ⟨Has.r 0 rfl, Has.r 1 rfl, Has.o 1 rfl, trivial⟩ ?_
     refine L.lit rfl rfl rfl rfl rfl (by rfl) (by rfl) (by rfl) rfl rfl (fun A77 => ?_)
     refine L.nil (QE.m (by kernel_rfl) ?_)
     refine LM.cut [] (by kernel_rfl) ⟨Has.r 0 rfl, Has.r 1 rfl, Has.o 1 rfl, trivial⟩ ?_; refine LM.f 15 rfl (by kernel_rfl) trivial ?_
     refine L.append (j := 3) rfl rfl rfl rfl (by decide) rfl rfl rfl rfl (Src.o 4 rfl) rfl (Bs_one [rmark b (rM b) i]) (by rw [rmarks_len]; omega) (by show _ * 1 ≤ _; omega) rfl (fun A78 cc78 => ?_)
     refine L.nil (QE.m (by kernel_rfl) ?_)
     refine LM.f 16 rfl (by kernel_rfl) trivial ?_; refine L.step (Ev.fieldAddr rfl rfl rfl rfl rfl rfl (Src.o 1 rfl) (Nat.zero_lt_succ _) rfl) rfl ?_
     refine L.nil (QE.m (by kernel_rfl) ?_)
     refine LM.f 17 rfl (by kernel_rfl) trivial ?_
     first | refine L.store (j := 0) rfl rfl rfl rfl rfl rfl rfl rfl ?_ | refine L.store (j := 1) rfl rfl rfl rfl rfl rfl rfl rfl ?_ | refine L.store (j := 2) rfl rfl rfl rfl rfl rfl rfl rfl ?_ | refine L.store (j := 3) rfl rfl rfl rfl rfl rfl rfl rfl ?_ | refine L.store (j := 4) rfl rfl rfl rfl rfl rfl rfl rfl ?_ | refine L.store (j := 5) rfl rfl rfl rfl rfl rfl rfl rfl ?_
     refine L.nil (QE.m (by kernel_rfl) ?_)
     refine LM.nil (by kernel_rfl) trivial ?_; refine QE.blkN ?_; refine QE.seq (C.region ?_); refine L.step (Ev.add rfl rfl (by omega) (by omega)) rfl ?_; refine Lpu rfl rfl ?_; refine L.nil ?_
     have he := rmarks_succ b (rM b) i
     have hel : (rmarks b (rM b) (i + 1)).length = (rmarks b (rM b) i).length + 1 := by rw [he, List.length_append]; rfl
     refine QE.round (i := (i, MA, mc)) ((i + 1, A78, cc78)) (by dsimp only; omega) (by dsimp only; omega) (by exact Le.mk' (rs := [0, 1]) (hs := [0, 1, 2, 3]) ⟨rfl, rfl, rfl, rfl, rfl, rfl, rfl, rfl, rfl, rfl, trivial⟩ ⟨rfl, rfl, trivial⟩ ⟨rfl, (congrArg some (own_eq2 rfl (by dsimp only; rw [hel]; rfl))), rfl, (congrArg some (own_eq2 hel.symm (by dsimp only; rw [he]; simp only [← Bs_app2]; rfl))), trivial⟩ (by decide))
    ·
     replace hc61 := of_decide_eq_false hc61
     refine C.exit ?_; refine QE.tX ?_; refine QE.tX ?_; refine QE.blk ?_; refine QE.seq (C.seq ?_)
     obtain rfl : i = rN b := by omega
     refine C.region ?_; refine L.step (Ev.load rfl rfl rfl (Src.r 0 rfl) rfl) rfl ?_; refine Lpu rfl rfl ?_; refine L.step (Ev.cast (u := .slice (subA B bc (rW b) 1) (b.drop (rW b)).length (bc - rW b)) (Ev.sliceL (l := rW b) rfl rfl rfl rfl rfl rfl (by omega)) (by rw [List.length_drop]; rfl)) rfl ?_; refine L.more (r := Rd (subA B bc (rW b) 1) (U8 (b.drop (rW b)))) (Has.dropU2 (Has.r 1 rfl) bc (rW b) hb) ?_; refine L.call (js := []) (js' := [0, 1, 2, 3]) (words_c (subA B bc (rW b) 1) (b.drop (rW b)) (bc - rW b) (by rw [List.length_drop]; omega) (by rw [List.length_drop]; omega)) rfl rfl rfl (by decide) (Hq [0] rfl) rfl ?_
     rintro _ _ _ ⟨WA, wc, rfl, rfl, rfl⟩
     refine L.norm (H' := [_, _, _, _, _]) [0, 1, 2, 3, 4] ⟨rfl, rfl, rfl, rfl, rfl, trivial⟩ (by decide) ?_; refine Lpu rfl rfl ?_; refine Lpu rfl rfl ?_; refine Lpu rfl rfl ?_; refine L.step (Ev.fieldAddr rfl rfl rfl rfl rfl rfl (Src.o 2 rfl) (Nat.zero_lt_succ _) rfl) rfl ?_
     first | refine L.store (j := 0) rfl rfl rfl rfl rfl rfl rfl rfl ?_ | refine L.store (j := 1) rfl rfl rfl rfl rfl rfl rfl rfl ?_ | refine L.store (j := 2) rfl rfl rfl rfl rfl rfl rfl rfl ?_ | refine L.store (j := 3) rfl rfl rfl rfl rfl rfl rfl rfl ?_ | refine L.store (j := 4) rfl rfl rfl rfl rfl rfl rfl rfl ?_ | refine L.store (j := 5) rfl rfl rfl rfl rfl rfl rfl rfl ?_
     refine L.nil (QE.seq (C.seq (C.seq ?_)))
     have hx32 : W32 (readX b).ws := wordsR_w32 _
     refine C.region ?_; refine L.step (Ev.loadA (vs := [.slice WA (readX b).ws.length wc, .slice MA (readX b).ms.length mc, .slice LA (readX b).ls.length lc]) rfl rfl rfl (Src.o 2 rfl) rfl rfl (by decide)) rfl ?_; refine L.call (js := []) (js' := [0, 1, 2, 3, 4]) (lower_c WA MA LA wc mc lc (readX b) (by omega) (by omega) (by omega) hx32) rfl rfl rfl (by decide) ⟨(Has.o 0 rfl), (Has.o 4 rfl), (Has.o 3 rfl), trivial⟩ rfl ?_
     rintro _ _ _ ⟨YA, yc, rfl, rfl, rfl⟩
     refine L.norm (H' := [_, _, _, _, _, _]) [0, 1, 2, 3, 4, 5] ⟨rfl, rfl, rfl, rfl, rfl, rfl, trivial⟩ (by decide) ?_; refine Lpu rfl rfl ?_; refine Lpu rfl rfl ?_; refine Lpu rfl rfl ?_; refine Lpu rfl rfl ?_; refine Lpu rfl rfl ?_; refine L.nil (QE.seq (C.seq ?_)); refine C.le (Γ' := [(1, ptrOf A1 0), (2, ptrOf A2 0), (9, ptrOf A9 0), (14, .int .i64 (lowC (readX b)))]) (R' := [Rd A1 [.slice B b.length bc], Rd B (U8 b)]) (H' := [Own 57 3 A2 1 1 [.slice none 0 0, .slice none 0 0, .slice none 0 0], Own 57 3 A9 1 1 [.slice WA (readX b).ws.length wc, .slice MA (readX b).ms.length mc, .slice LA (readX b).ls.length lc], Own 73 1 WA (readX b).ws.length wc (N32 (readX b).ws), Own 4 1 MA (readX b).ms.length mc (Bs (readX b).ms), Own 3 1 LA (readX b).ls.length lc (I64 (readX b).ls)]) (by exact Le.mk' (rs := [1, 2]) (hs := [2, 3, 1, 5, 4]) ⟨rfl, rfl, rfl, rfl, trivial⟩ ⟨rfl, rfl, trivial⟩ ⟨rfl, rfl, rfl, rfl, rfl, trivial⟩ (by decide)) ?_
     refine C.cap 3 rfl (fun hmc => ?_)
     refine C.regionM [Rd A1 [.slice B b.length bc], Rd B (U8 b), Rd A9 [.slice WA (readX b).ws.length wc, .slice MA (readX b).ms.length mc, .slice LA (readX b).ls.length lc]] ⟨Has.r 0 rfl, Has.r 1 rfl, Has.o 1 rfl, trivial⟩ ?_; refine LM.q 0 rfl (by kernel_rfl) (Ev.pure rfl) rfl ⟨Has.r 0 rfl, Has.r 1 rfl, Has.o 1 rfl, trivial⟩ ?_; refine LM.q 1 rfl (by kernel_rfl) (Ev.pure rfl) rfl ⟨Has.r 0 rfl, Has.r 1 rfl, Has.o 1 rfl, trivial⟩ ?_; refine LM.q 2 rfl (by kernel_rfl) (Ev.pure rfl) rfl ⟨Has.r 0 rfl, Has.r 1 rfl, Has.o 1 rfl, trivial⟩ ?_
     refine LM.bool 96 rfl (fun hg96 => ?_) (fun hg96 => ?_)
     ·
      replace hg96 := b_ne hg96
      refine LM.no 3 rfl (by kernel_rfl) rfl rfl rfl ⟨Has.r 0 rfl, Has.r 1 rfl, Has.o 1 rfl, trivial⟩ ?_; refine LM.no 4 rfl (by kernel_rfl) rfl rfl rfl ⟨Has.r 0 rfl, Has.r 1 rfl, Has.o 1 rfl, trivial⟩ ?_; refine LM.f 5 rfl (by kernel_rfl) ⟨Has.r 0 rfl, Has.r 1 rfl, Has.o 1 rfl, trivial⟩ ?_; refine L.no rfl rfl rfl ?_
      refine L.nil (QE.m (by kernel_rfl) ?_)
      refine LM.cut [] (by kernel_rfl) ⟨Has.r 0 rfl, Has.r 1 rfl, Has.o 1 rfl, trivial⟩ ?_; refine LM.f 6 rfl (by kernel_rfl) trivial ?_; refine L.no rfl rfl rfl ?_
      refine L.nil (QE.m (by kernel_rfl) ?_)
      refine LM.f 7 rfl (by kernel_rfl) trivial ?_; refine L.no rfl rfl rfl ?_
      refine L.nil (QE.m (by kernel_rfl) ?_)
      refine LM.f 8 rfl (by kernel_rfl) trivial ?_; refine Lpu rfl rfl ?_
      refine L.nil (QE.m (by kernel_rfl) ?_)
      refine LM.nil (by kernel_rfl) trivial ?_; refine QE.seq ?_
      refine C.cond rfl (fun _ => ?_) (fun h => by cases h)
      refine C.seq (C.region ?_); refine L.step (Ev.build rfl rfl rfl rfl rfl rfl rfl) rfl ?_; refine L.storeA (j := 0) rfl rfl rfl rfl rfl (Nat.zero_lt_succ _) rfl rfl ?_; refine Lpu rfl rfl ?_; refine L.nil (QE.seq (C.ret (QE.tR ?_))); refine QE.nil_own 73 1 ?_; refine QE.nil_own 4 1 ?_; refine QE.nil_own 3 1 ?_; refine QE.ret (js := []) (hs := [5, 6, 7]) (vs := [_, _]) rfl ⟨⟨_, _, 0, _, rfl, rfl, Src.o 0 rfl, .inl ⟨rfl, by decide, _, rfl, rfl, rfl⟩⟩, rfl, trivial⟩ (by decide) ?_
      have hN : ¬ readOk b := fun h => hg96 h.2.2.1
      have e1 : readR b = Lf.zero := by unfold readR; rw [if_neg hN]
      have e2 : readE b = 3 := by unfold readE; rw [if_neg hN]
      rw [e1, e2]
      exact ⟨none, none, none, 0, 0, 0, rfl, rfl, rfl⟩
     ·
      replace hg96 := b_eq hg96
      refine LM.qy 3 rfl (by kernel_rfl) rfl (Ev.loadA (vs := [.slice WA (readX b).ws.length wc, .slice MA (readX b).ms.length mc, .slice LA (readX b).ls.length lc]) rfl rfl rfl (Src.r 2 rfl) rfl rfl (by decide)) rfl ⟨Has.r 0 rfl, Has.r 1 rfl, Has.o 1 rfl, trivial⟩ ?_; refine LM.qy 5 rfl (by kernel_rfl) rfl (Ev.load rfl rfl rfl (Src.r 0 rfl) rfl) rfl ⟨Has.r 0 rfl, Has.r 1 rfl, Has.o 1 rfl, trivial⟩ ?_; refine LM.f 4 rfl (by kernel_rfl) ⟨Has.r 0 rfl, Has.r 1 rfl, Has.o 1 rfl, trivial⟩ ?_; refine L.yes rfl ?_; refine L.call (js := []) (js' := [0, 1, 2, 3, 4]) (form_c WA MA LA wc mc lc (readX b) (by omega) (by omega) (by omega) hx32 hmc (readX_asc b)) rfl rfl rfl (by decide) ⟨(Has.o 2 rfl), (Has.o 3 rfl), (Has.o 4 rfl), trivial⟩ rfl ?_
      rintro _ _ _ ⟨ZA, zc, rfl, rfl, rfl⟩
      refine L.norm (H' := [_, _, _, _, _, _]) [0, 1, 2, 3, 4, 5] ⟨rfl, rfl, rfl, rfl, rfl, rfl, trivial⟩ (by decide) ?_
      refine L.nil (QE.m (by kernel_rfl) ?_)
      refine LM.cut [] (by kernel_rfl) ⟨Has.r 0 rfl, Has.r 1 rfl, Has.o 2 rfl, trivial⟩ ?_; refine LM.f 6 rfl (by kernel_rfl) trivial ?_; refine L.yes rfl ?_; refine L.call (js := []) (js' := [0, 1, 2, 3, 4, 5]) (eq8_c ZA B zc bc (formF (readX b)) b (by rw [formF_len]; omega)) rfl rfl rfl (by decide) ⟨(Has.o 0 rfl), (Has.r 1 rfl), trivial⟩ rfl ?_
      rintro _ _ _ ⟨rfl, rfl, rfl⟩
      refine L.norm (H' := [_, _, _, _, _, _]) [0, 1, 2, 3, 4, 5] ⟨rfl, rfl, rfl, rfl, rfl, rfl, trivial⟩ (by decide) ?_
      refine L.nil (QE.m (by kernel_rfl) ?_)
      refine LM.f 7 rfl (by kernel_rfl) trivial ?_; refine L.yes rfl ?_; refine Lpu rfl rfl ?_
      refine L.nil (QE.m (by kernel_rfl) ?_)
      refine LM.f 8 rfl (by kernel_rfl) trivial ?_; refine Lpu rfl rfl ?_
      refine L.nil (QE.m (by kernel_rfl) ?_)
      refine LM.nil (by kernel_rfl) trivial ?_; refine QE.seq ?_
      refine C.condB 102 rfl (fun hc102 => ?_) (fun hc102 => ?_)
      ·
       refine C.seq (C.region ?_); refine L.step (Ev.build rfl rfl rfl rfl rfl rfl rfl) rfl ?_; refine L.storeA (j := 1) rfl rfl rfl rfl rfl (Nat.zero_lt_succ _) rfl rfl ?_; refine Lpu rfl rfl ?_; refine L.nil (QE.seq (C.ret (QE.tR ?_))); refine QE.nil_own 73 1 ?_; refine QE.nil_own 4 1 ?_; refine QE.nil_own 3 1 ?_; refine QE.ret (js := []) (hs := [6, 7, 8]) (vs := [_, _]) rfl ⟨⟨_, _, 0, _, rfl, rfl, Src.o 1 rfl, .inl ⟨rfl, by decide, _, rfl, rfl, rfl⟩⟩, rfl, trivial⟩ (by decide) ?_
       have hN : ¬ readOk b := fun h => by rw [h.2.2.2] at hc102; simp at hc102
       have e1 : readR b = Lf.zero := by unfold readR; rw [if_neg hN]
       have e2 : readE b = 3 := by unfold readE; rw [if_neg hN]
       rw [e1, e2]
       exact ⟨none, none, none, 0, 0, 0, rfl, rfl, rfl⟩
      ·
       refine C.skip (QE.seq (C.seq (C.region ?_))); refine L.step (Ev.loadA rfl rfl rfl (Src.o 2 rfl) rfl rfl (by decide)) rfl ?_; refine L.storeA (j := 1) rfl rfl rfl rfl rfl (Nat.zero_lt_succ _) rfl rfl ?_; refine Lpu rfl rfl ?_; refine L.nil (QE.seq (C.ret ?_)); refine QE.ret (js := []) (hs := [3, 4, 5]) (vs := [_, _]) rfl ⟨⟨_, _, 0, _, rfl, rfl, Src.o 1 rfl, .inl ⟨rfl, by decide, _, rfl, rfl, rfl⟩⟩, rfl, trivial⟩ (by decide) ?_
       have hY : readOk b := ⟨by omega, hlen, hg96, by simpa using hc102⟩
       have e1 : readR b = readX b := by unfold readR; rw [if_pos hY]
       have e2 : readE b = 0 := by unfold readE; rw [if_pos hY]
       rw [e1, e2]
       exact ⟨WA, MA, LA, wc, mc, lc, rfl, rfl, rfl⟩

end Go.Proofs.YtbkmahjhhncfcaaGreat
