/-
  The record of a change, of the program and of the reference.
-/
import Derived.Test.YthfjkdgopkmgoaaRWSvC
import Derived.Test.YthfjkdgopkmgoaaRPu
import Derived.Test.YthfjkdgopkmgoaaRPm
namespace Go.Proofs.Ythfjkdgopkmgoaa
open Go.Sl

theorem rec_u {x : UInt8} {a b : List UInt8} {k : Nat} (h : k < (chgN a b a.length).length) : U8 (recP x a (chgN a b a.length) k) ++ U8 (tw ((chgN a b a.length).getD k (0, 0)).1) ++ U8 (tw (((chgN a b a.length).getD k (0, 0)).2 - ((chgN a b a.length).getD k (0, 0)).1)) ++ U8 ((a.drop ((chgN a b a.length).getD k (0, 0)).1).take (((chgN a b a.length).getD k (0, 0)).2 - ((chgN a b a.length).getD k (0, 0)).1)) = U8 (recP x a (chgN a b a.length) (k + 1)) := by
  rw [U8_app, U8_app, U8_app, recP_succ h]
theorem rec_l {x : UInt8} {a b : List UInt8} {k : Nat} (h : k < (chgN a b a.length).length) : (recP x a (chgN a b a.length) k).length + 2 + 2 + (((chgN a b a.length).getD k (0, 0)).2 - ((chgN a b a.length).getD k (0, 0)).1) = (recP x a (chgN a b a.length) (k + 1)).length := by
  have hr := chgN_getD h
  rw [← recP_succ h]
  simp only [List.length_append, List.length_take, List.length_drop, tw, List.length_cons, List.length_nil]
  omega

theorem two_c (n : Nat) (_hn : n ≤ 1000000) :
    Ctr X 53 [.int .i64 (n : Int)] [] [] (fun v R' H' => ∃ A, v = .slice A 2 2 ∧ R' = [] ∧ H' = [Own 5 1 A 2 2 (U8 (tw n))]) := by
  refine Ctr.of (X := X) (fn := Try.f53) Try.func53 rfl (by kernel_rfl) rfl ?_
  intro β
  refine C.seq ?_
  refine C.region ?_
  refine L.step (Ev.pure rfl) rfl ?_
  refine L.nil ?_
  refine QE.seq ?_
  refine C.seq ?_
  refine C.region ?_
  refine L.step (Ev.pure rfl) rfl ?_
  refine L.step (Ev.shr rfl rfl (by decide)) rfl ?_
  refine L.step (Ev.toByte rfl rfl rfl rfl) rfl ?_
  refine L.step (Ev.pure rfl) rfl ?_
  refine L.step (Ev.toByte rfl rfl rfl rfl) rfl ?_
  refine L.lit rfl rfl rfl rfl rfl (by rfl) (by rfl) (by rfl) rfl rfl (fun A8 => ?_)
  refine L.step (Ev.pure rfl) rfl ?_
  refine L.nil ?_
  refine QE.seq ?_
  refine C.ret ?_
  refine QE.ret (js := []) (hs := [0]) (vs := [_]) rfl ⟨rfl, trivial⟩ (by decide) ?_
  refine ⟨A8, rfl, rfl, ?_⟩
  rw [show tw n = [UInt8.ofInt ((n : Int).fdiv (2 ^ 8)), UInt8.ofInt (n : Int)] from by rw [tw_hi, ofInt_nat]; rfl]
  rfl

theorem two21_c (n : Nat) (hn : n ≤ 1000000) :
    Ctr X 55 [.int .i64 (n : Int)] [] [] (fun v R' H' => ∃ A, v = .slice A 2 2 ∧ R' = [] ∧ H' = [Own 5 1 A 2 2 (U8 (tw n))]) := by
  refine Ctr.of (X := X) (fn := Try.f55) Try.func55 rfl (by kernel_rfl) rfl ?_
  intro β
  refine C.seq ?_
  refine C.region ?_
  refine L.step (Ev.pure rfl) rfl ?_
  refine L.nil ?_
  refine QE.seq ?_
  refine C.seq ?_
  refine C.region ?_
  refine L.step (Ev.pure rfl) rfl ?_
  refine L.step (Ev.quo rfl rfl (by omega) (by omega) (by omega)) rfl ?_
  refine L.step (Ev.toByte rfl rfl rfl rfl) rfl ?_
  refine L.step (Ev.pure rfl) rfl ?_
  refine L.step (Ev.rem rfl rfl (by omega) (by omega)) rfl ?_
  refine L.step (Ev.toByte rfl rfl rfl rfl) rfl ?_
  refine L.lit rfl rfl rfl rfl rfl (by rfl) (by rfl) (by rfl) rfl rfl (fun A9 => ?_)
  refine L.step (Ev.pure rfl) rfl ?_
  refine L.nil ?_
  refine QE.seq ?_
  refine C.ret ?_
  refine QE.ret (js := []) (hs := [0]) (vs := [_]) rfl ⟨rfl, trivial⟩ (by decide) ?_
  refine ⟨A9, rfl, rfl, ?_⟩
  rw [show tw n = [UInt8.ofInt ((n : Int) / 256), UInt8.ofInt ((n : Int) % 256)] from by rw [tw_hi', tw_lo']; rfl]
  rfl

theorem num21_c (A : Option Addr) (l : List UInt8) (c at_ : Nat) (hl : l.length ≤ 9223372036854775807) (ha : at_ ≤ 1000000) :
    Ctr X 63 [.slice A l.length c, .int .i64 (at_ : Int)] [Rd A (U8 l)] [] (fun v R' H' => v = .int .i64 (num21 l at_) ∧ R' = [] ∧ H' = []) := by
  refine Ctr.of (X := X) (fn := Try.f63) Try.func63 rfl (by kernel_rfl) rfl ?_
  intro β
  refine C.seq ?_
  refine C.region ?_
  refine L.step (Ev.pure rfl) rfl ?_
  refine L.nil ?_
  refine QE.seq ?_
  refine C.seq ?_
  refine C.seq ?_
  refine C.region ?_
  refine L.step (Ev.pure rfl) rfl ?_
  refine L.step (Ev.add rfl rfl (by omega) (by omega)) rfl ?_
  refine L.step (Ev.pure rfl) rfl ?_
  refine L.step (Ev.pure rfl) rfl ?_
  refine L.step (Ev.pure rfl) rfl ?_
  refine L.nil ?_
  refine QE.seq ?_
  refine C.condB 9 rfl (fun hc9 => ?_) (fun hc9 => ?_)
  · skip
    replace hc9 := of_decide_eq_true hc9
    refine C.seq ?_
    refine C.region ?_
    refine L.step (Ev.pure rfl) rfl ?_
    refine L.nil ?_
    refine QE.seq ?_
    refine C.ret ?_
    refine QE.tR ?_
    refine QE.ret (js := []) (hs := []) (vs := [_]) rfl ⟨rfl, trivial⟩ (by decide) ?_
    exact ⟨congrArg (Value.int .i64) (if_neg (by omega)).symm, rfl, rfl⟩
  · skip
    replace hc9 := of_decide_eq_false hc9
    refine C.skip ?_
    refine QE.seq ?_
    refine C.seq ?_
    have hb0 := u8_lt (l.getD at_ 0)
    have hb1 := u8_lt (l.getD (at_ + 1) 0)
    refine C.regionQ (by kernel_rfl) ?_
    refine LQ.step (Ev.pure rfl) rfl ?_
    refine LQ.step (Ev.pure rfl) rfl ?_
    refine LQ.step (Ev.idx1 (k := at_) rfl rfl rfl rfl rfl rfl rfl (by omega) (Src.r 0 rfl) (by rw [U8_len]; omega)) rfl ?_
    refine LQ.step (Ev.load rfl rfl rfl (Src.r 0 rfl) (U8_get (by omega))) rfl ?_
    first | refine LQ.step (Ev.byteInt rfl rfl rfl rfl) rfl ?_ | refine LQ.step (Ev.toInt rfl rfl rfl rfl (by omega) (by omega)) rfl ?_
    refine LQ.step (Ev.mul rfl rfl (by omega) (by omega)) rfl ?_
    refine LQ.step (Ev.pure rfl) rfl ?_
    refine LQ.step (Ev.pure rfl) rfl ?_
    refine LQ.step (Ev.add rfl rfl (by omega) (by omega)) rfl ?_
    refine LQ.step (Ev.idx1 (k := (at_ + 1)) rfl rfl rfl rfl rfl rfl (by omega) (by omega) (Src.r 0 rfl) (by rw [U8_len]; omega)) rfl ?_
    refine LQ.step (Ev.load rfl rfl rfl (Src.r 0 rfl) (U8_get (by omega))) rfl ?_
    first | refine LQ.step (Ev.byteInt rfl rfl rfl rfl) rfl ?_ | refine LQ.step (Ev.toInt rfl rfl rfl rfl (by omega) (by omega)) rfl ?_
    refine LQ.step (Ev.add rfl rfl (by omega) (by omega)) rfl ?_
    refine LQ.step (Ev.pure rfl) rfl ?_
    refine LQ.nil ?_
    refine QE.seq ?_
    refine C.ret ?_
    refine QE.ret (js := []) (hs := []) (vs := [_]) rfl ⟨rfl, trivial⟩ (by decide) ?_
    refine ⟨congrArg (Value.int .i64) ?_, rfl, rfl⟩
    unfold num21
    rw [if_pos (by omega)]
    exact num21_eq l at_

theorem sector_c (A : Option Addr) (l : List UInt8) (c : Nat) (hl : 0 < l.length) :
    Ctr X 32 [.slice A l.length c] [Rd A (U8 l)] [] (fun v R' H' => v = .int .i64 ((l.getD 0 0).toNat : Int) ∧ R' = [] ∧ H' = []) := by
  refine Ctr.of (X := X) (fn := Try.f32) Try.func32 rfl (by kernel_rfl) rfl ?_
  intro β
  refine C.seq ?_
  refine C.region ?_
  refine L.step (Ev.pure rfl) rfl ?_
  refine L.nil ?_
  refine QE.seq ?_
  refine C.seq ?_
  refine C.region ?_
  refine L.step (Ev.pure rfl) rfl ?_
  refine L.step (Ev.idx1 (k := 0) rfl rfl rfl rfl rfl rfl rfl hl (Src.r 0 rfl) (by rw [U8_len]; exact hl)) rfl ?_
  refine L.step (Ev.load rfl rfl rfl (Src.r 0 rfl) (U8_get hl)) rfl ?_
  first | refine L.step (Ev.byteInt rfl rfl rfl rfl) rfl ?_ | refine L.step (Ev.toInt rfl rfl rfl rfl (by omega) (by omega)) rfl ?_
  refine L.step (Ev.pure rfl) rfl ?_
  refine L.nil ?_
  refine QE.seq ?_
  refine C.ret ?_
  refine QE.ret (js := []) (hs := []) (vs := [_]) rfl ⟨rfl, trivial⟩ (by decide) ?_
  exact ⟨rfl, rfl, rfl⟩

set_option maxHeartbeats 1000000 in
theorem changed01_c (SA SB : Option Addr) (a b : List UInt8) (ca cb : Nat) (hab : a.length = b.length) (hal : a.length ≤ 100000) :
    Ctr X 54 [.slice SA a.length ca, .slice SB b.length cb] [Rd SA (U8 a), Rd SB (U8 b)] [] (fun v R' H' => ∃ (O : Option Addr) (c : Nat), v = .slice O (chgN a b a.length).length c ∧ R' = [] ∧ H' = [Own 102 2 O (chgN a b a.length).length c (rangesV (chgN a b a.length))]) := by
  refine Ctr.of (X := X) (fn := Try.f54) Try.func54 rfl (by kernel_rfl) rfl ?_
  intro β
  refine C.seq ?_
  refine C.region ?_
  refine L.step (Ev.pure rfl) rfl ?_
  refine L.nil ?_
  refine QE.seq ?_
  refine C.seq ?_
  refine C.region ?_
  refine L.lit0A rfl rfl rfl rfl (fun A8 => ?_)
  refine L.step (Ev.pure rfl) rfl ?_
  refine L.nil ?_
  refine QE.seq ?_
  refine C.seq ?_
  refine C.seq ?_
  refine C.region ?_
  refine L.step (Ev.pure rfl) rfl ?_
  refine L.nil ?_
  refine QE.seq ?_
  refine C.block ?_
  refine C.loop (fun q : Nat × Option Addr × Nat => [(0, .slice SA a.length ca), (1, .slice SB b.length cb), (5, .slice q.2.1 (chgN a b q.1).length q.2.2), (6, .int .i64 (q.1 : Int))]) (fun q : Nat × Option Addr × Nat => [Rd SA (U8 a), Rd SB (U8 b)]) (fun q : Nat × Option Addr × Nat => [Own 102 2 q.2.1 (chgN a b q.1).length q.2.2 (rangesV (chgN a b q.1))]) (fun q : Nat × Option Addr × Nat => q.1 ≤ a.length) (fun q : Nat × Option Addr × Nat => a.length - q.1) (0, A8, 0) (Nat.zero_le _) (by exact Le.mk' (rs := [0, 1]) (hs := [0]) ⟨rfl, rfl, rfl, rfl, trivial⟩ ⟨rfl, rfl, trivial⟩ ⟨rfl, trivial⟩ (by decide)) ?_
  rintro ⟨k, O, c⟩ hk
  dsimp only at hk ⊢
  refine C.seq ?_
  refine C.seq ?_
  have hcl := chgN_len' a b k
  refine C.region ?_
  refine L.step (Ev.pure rfl) rfl ?_
  refine L.step (Ev.pure rfl) rfl ?_
  refine L.step (Ev.pure rfl) rfl ?_
  refine L.step (Ev.pure rfl) rfl ?_
  refine L.nil ?_
  refine QE.seq ?_
  refine C.condB 12 rfl (fun hc12 => ?_) (fun hc12 => ?_)
  · skip
    replace hc12 := of_decide_eq_true hc12
    refine C.skip ?_
    refine QE.seq ?_
    refine C.seq ?_
    refine C.block ?_
    refine C.seq ?_
    refine C.seq ?_
    refine C.regionQ (by kernel_rfl) ?_
    refine LQ.step (Ev.pure rfl) rfl ?_
    refine LQ.step (Ev.pure rfl) rfl ?_
    refine LQ.step (Ev.idx1 (k := k) rfl rfl rfl rfl rfl rfl rfl (by omega) (Src.r 0 rfl) (by rw [U8_len]; omega)) rfl ?_
    refine LQ.step (Ev.load rfl rfl rfl (Src.r 0 rfl) (U8_get (by omega))) rfl ?_
    refine LQ.step (Ev.pure rfl) rfl ?_
    refine LQ.step (Ev.pure rfl) rfl ?_
    refine LQ.step (Ev.idx1 (k := k) rfl rfl rfl rfl rfl rfl rfl (by omega) (Src.r 1 rfl) (by rw [U8_len]; omega)) rfl ?_
    refine LQ.step (Ev.load rfl rfl rfl (Src.r 1 rfl) (U8_get (by omega))) rfl ?_
    refine LQ.step (Ev.pure rfl) rfl ?_
    refine LQ.nil ?_
    refine QE.seq ?_
    refine C.condB 23 rfl (fun hc23 => ?_) (fun hc23 => ?_)
    · skip
      replace hc23 := i_eq hc23
      refine C.exit ?_
      refine QE.tX ?_
      refine QE.blk ?_
      refine QE.seq ?_
      refine C.region ?_
      refine L.step (Ev.pure rfl) rfl ?_
      refine L.step (Ev.add rfl rfl (by omega) (by omega)) rfl ?_
      refine L.step (Ev.pure rfl) rfl ?_
      refine L.nil ?_
      have e1 : chgN a b (k + 1) = chgN a b k := by rw [chgN, if_pos (u8_eq.1 hc23)]
      refine QE.round (i := (k, O, c)) ((k + 1, O, c)) (by dsimp only; omega) (by dsimp only; omega) (by exact Le.mk' (rs := [0, 1]) (hs := [0]) ⟨rfl, rfl, (by dsimp only; rw [e1]; rfl), rfl, trivial⟩ ⟨rfl, rfl, trivial⟩ ⟨(by dsimp only; rw [e1]; rfl), trivial⟩ (by decide))
    · skip
      replace hc23 := i_ne hc23
      refine C.skip ?_
      refine QE.seq ?_
      refine C.seq ?_
      refine C.region ?_
      refine L.step (Ev.pure rfl) rfl ?_
      refine L.step (Ev.pure rfl) rfl ?_
      refine L.step (Ev.pure rfl) rfl ?_
      refine L.nil ?_
      refine QE.seq ?_
      refine C.seq ?_
      refine C.region ?_
      refine L.step (Ev.pure rfl) rfl ?_
      refine L.step (Ev.pure rfl) rfl ?_
      refine L.step (Ev.pure rfl) rfl ?_
      refine L.bool 28 rfl (fun hg28 => ?_) (fun hg28 => ?_)
      · skip
        replace hg28 := of_decide_eq_true hg28
        refine L.yes rfl ?_
        refine L.step (Ev.pure rfl) rfl ?_
        refine L.yes rfl ?_
        refine L.step (Ev.pure rfl) rfl ?_
        refine L.yes rfl ?_
        refine L.step (Ev.sub rfl rfl (by omega) (by omega)) rfl ?_
        refine L.yes rfl ?_
        refine L.step (Ev.idx (k := (chgN a b k).length - 1) (m := ((chgN a b k).length - 1) * 2) rfl rfl rfl rfl rfl (by omega) (by omega) (Src.o 0 rfl) (ranges_pos (k := (chgN a b k).length - 1) (by omega)) rfl) rfl ?_
        refine L.yes rfl ?_
        refine L.step (Ev.fieldAddr rfl rfl rfl rfl rfl rfl (Src.o 0 rfl) (ranges_pos (k := 0) (by omega)) rfl) rfl ?_
        refine L.yes rfl ?_
        refine L.step (Ev.load rfl rfl rfl (Src.o 0 rfl) (rangesV_get (chgN a b k) ((chgN a b k).length - 1) 1 (by omega) (by decide))) rfl ?_
        refine L.yes rfl ?_
        refine L.step (Ev.pure rfl) rfl ?_
        refine L.yes rfl ?_
        refine L.step (Ev.pure rfl) rfl ?_
        refine L.step (Ev.pure rfl) rfl ?_
        refine L.nil ?_
        refine QE.seq ?_
        refine C.condB 37 rfl (fun hc37 => ?_) (fun hc37 => ?_)
        · skip
          replace hc37 := i_eq hc37
          refine C.region ?_
          refine L.step (Ev.pure rfl) rfl ?_
          refine L.step (Ev.pure rfl) rfl ?_
          refine L.step (Ev.sub rfl rfl (by omega) (by omega)) rfl ?_
          refine L.step (Ev.pure rfl) rfl ?_
          refine L.step (Ev.add rfl rfl (by omega) (by omega)) rfl ?_
          refine L.step (Ev.idx (k := (chgN a b k).length - 1) (m := ((chgN a b k).length - 1) * 2) rfl rfl rfl rfl rfl (by omega) (by omega) (Src.o 0 rfl) (ranges_pos (k := (chgN a b k).length - 1) (by omega)) rfl) rfl ?_
          refine L.step (Ev.fieldAddr rfl rfl rfl rfl rfl rfl (Src.o 0 rfl) (ranges_pos (k := 0) (by omega)) rfl) rfl ?_
          refine L.store (j := 0) rfl rfl rfl rfl rfl rfl rfl (by exact rangesV_get (chgN a b k) ((chgN a b k).length - 1) 1 (by omega) (by decide)) ?_
          refine L.nil ?_
          refine QE.blkN ?_
          refine QE.seq ?_
          refine C.region ?_
          refine L.step (Ev.pure rfl) rfl ?_
          refine L.step (Ev.add rfl rfl (by omega) (by omega)) rfl ?_
          refine L.step (Ev.pure rfl) rfl ?_
          refine L.nil ?_
          have e1 : chgN a b (k + 1) = (chgN a b k).set ((chgN a b k).length - 1) (((chgN a b k).getD ((chgN a b k).length - 1) (0, 0)).1, k + 1) := by rw [chgN, if_neg (fun e => hc23 (u8_eq.2 e)), stepR_put (by omega) (by exact Int.ofNat.inj hc37)]
          have e2 : (chgN a b (k + 1)).length = (chgN a b k).length := by rw [e1, List.length_set]
          refine QE.round (i := (k, O, c)) ((k + 1, O, c)) (by dsimp only; omega) (by dsimp only; omega) (by exact Le.mk' (rs := [0, 1]) (hs := [0]) ⟨rfl, rfl, (by dsimp only; rw [e2]; rfl), rfl, trivial⟩ ⟨rfl, rfl, trivial⟩ ⟨(congrArg some (own_eq e2.symm (by dsimp only; rw [e1]; exact rangesV_set2 _ _ (k + 1) (by omega)))), trivial⟩ (by decide))
        · skip
          replace hc37 := i_ne hc37
          refine C.region ?_
          refine L.step (Ev.pure rfl) rfl ?_
          refine L.step (Ev.pure rfl) rfl ?_
          refine L.step (Ev.pure rfl) rfl ?_
          refine L.step (Ev.add rfl rfl (by omega) (by omega)) rfl ?_
          refine L.step (Ev.build rfl rfl rfl rfl rfl rfl rfl) rfl ?_
          refine L.lit1A (cs := [.int .i64 (k : Int), .int .i64 ((k : Int) + 1)]) rfl rfl rfl rfl (Nat.zero_lt_succ _) rfl rfl rfl (fun A50 => ?_)
          refine L.append (j := 0) rfl rfl rfl rfl (by decide) rfl rfl rfl rfl (Src.o 1 rfl) rfl (by exact rangesV_one [(k, k + 1)]) (by omega) (by show _ * 16 ≤ _; omega) rfl (fun A51 cc51 => ?_)
          refine L.step (Ev.pure rfl) rfl ?_
          refine L.nil ?_
          refine QE.blkN ?_
          refine QE.seq ?_
          refine C.region ?_
          refine L.step (Ev.pure rfl) rfl ?_
          refine L.step (Ev.add rfl rfl (by omega) (by omega)) rfl ?_
          refine L.step (Ev.pure rfl) rfl ?_
          refine L.nil ?_
          have hst : (chgN a b k).length = 0 ∨ ((chgN a b k).getD ((chgN a b k).length - 1) (0, 0)).2 ≠ k := .inr (fun e => hc37 (congrArg Int.ofNat e))
          have e1 : chgN a b (k + 1) = chgN a b k ++ [(k, k + 1)] := by rw [chgN, if_neg (fun e => hc23 (u8_eq.2 e)), stepR_app hst]
          have e2 : (chgN a b (k + 1)).length = (chgN a b k).length + 1 := by rw [e1]; simp
          refine QE.round (i := (k, O, c)) ((k + 1, A51, cc51)) (by dsimp only; omega) (by dsimp only; omega) (by exact Le.mk' (rs := [0, 1]) (hs := [0]) ⟨rfl, rfl, (by dsimp only; rw [e2]; rfl), rfl, trivial⟩ ⟨rfl, rfl, trivial⟩ ⟨(congrArg some (own_eq e2.symm (by dsimp only; rw [e1]; exact rangesV_snoc _ (k, k + 1)))), trivial⟩ (by decide))
      · skip
        replace hg28 := of_decide_eq_false hg28
        refine L.no rfl rfl rfl ?_
        refine L.no rfl rfl rfl ?_
        refine L.no rfl rfl rfl ?_
        refine L.no rfl rfl rfl ?_
        refine L.no rfl rfl rfl ?_
        refine L.no rfl rfl rfl ?_
        refine L.no rfl rfl rfl ?_
        refine L.no rfl rfl rfl ?_
        refine L.step (Ev.pure rfl) rfl ?_
        refine L.nil ?_
        refine QE.seq ?_
        refine C.cond rfl (fun h => by cases h) (fun _ => ?_)
        refine C.region ?_
        refine L.step (Ev.pure rfl) rfl ?_
        refine L.step (Ev.pure rfl) rfl ?_
        refine L.step (Ev.pure rfl) rfl ?_
        refine L.step (Ev.add rfl rfl (by omega) (by omega)) rfl ?_
        refine L.step (Ev.build rfl rfl rfl rfl rfl rfl rfl) rfl ?_
        refine L.lit1A (cs := [.int .i64 (k : Int), .int .i64 ((k : Int) + 1)]) rfl rfl rfl rfl (Nat.zero_lt_succ _) rfl rfl rfl (fun A50 => ?_)
        refine L.append (j := 0) rfl rfl rfl rfl (by decide) rfl rfl rfl rfl (Src.o 1 rfl) rfl (by exact rangesV_one [(k, k + 1)]) (by omega) (by show _ * 16 ≤ _; omega) rfl (fun A51 cc51 => ?_)
        refine L.step (Ev.pure rfl) rfl ?_
        refine L.nil ?_
        refine QE.blkN ?_
        refine QE.seq ?_
        refine C.region ?_
        refine L.step (Ev.pure rfl) rfl ?_
        refine L.step (Ev.add rfl rfl (by omega) (by omega)) rfl ?_
        refine L.step (Ev.pure rfl) rfl ?_
        refine L.nil ?_
        have hst : (chgN a b k).length = 0 ∨ ((chgN a b k).getD ((chgN a b k).length - 1) (0, 0)).2 ≠ k := .inl (by omega)
        have e1 : chgN a b (k + 1) = chgN a b k ++ [(k, k + 1)] := by rw [chgN, if_neg (fun e => hc23 (u8_eq.2 e)), stepR_app hst]
        have e2 : (chgN a b (k + 1)).length = (chgN a b k).length + 1 := by rw [e1]; simp
        refine QE.round (i := (k, O, c)) ((k + 1, A51, cc51)) (by dsimp only; omega) (by dsimp only; omega) (by exact Le.mk' (rs := [0, 1]) (hs := [0]) ⟨rfl, rfl, (by dsimp only; rw [e2]; rfl), rfl, trivial⟩ ⟨rfl, rfl, trivial⟩ ⟨(congrArg some (own_eq e2.symm (by dsimp only; rw [e1]; exact rangesV_snoc _ (k, k + 1)))), trivial⟩ (by decide))
  · skip
    replace hc12 := of_decide_eq_false hc12
    refine C.exit ?_
    refine QE.tX ?_
    refine QE.tX ?_
    refine QE.blk ?_
    refine QE.seq ?_
    refine C.seq ?_
    refine C.region ?_
    refine L.step (Ev.pure rfl) rfl ?_
    refine L.step (Ev.pure rfl) rfl ?_
    refine L.nil ?_
    refine QE.seq ?_
    refine C.ret ?_
    refine QE.ret (js := []) (hs := [0]) (vs := [_]) rfl ⟨rfl, trivial⟩ (by decide) ?_
    obtain rfl : k = a.length := by omega
    exact ⟨O, c, rfl, rfl, rfl⟩

set_option maxHeartbeats 2000000 in
theorem record_c (sec : Int) (SA SB : Option Addr) (a b : List UInt8) (ca cb : Nat) (hca : a.length ≤ ca) (_hal : a.length ≤ 9223372036854775807) (hbl : b.length ≤ 9223372036854775807) :
    Ctr X 21 [.int .i64 sec, .slice SA a.length ca, .slice SB b.length cb] [Rd SA (U8 a), Rd SB (U8 b)] [] (fun v R' H' => ∃ (A : Option Addr) (c : Nat), v = .tuple #[.slice A (recS sec a b).length c, .int .i64 (recE sec a b)] ∧ R' = [] ∧ H' = [Own 5 1 A (recS sec a b).length c (U8 (recS sec a b))]) := by
  refine Ctr.of (X := X) (fn := Try.f21) Try.func21 rfl (by kernel_rfl) rfl ?_
  intro β
  refine C.seq ?_
  refine C.region ?_
  refine L.step (Ev.pure rfl) rfl ?_
  refine L.step (Ev.pure rfl) rfl ?_
  refine L.nil ?_
  refine QE.seq ?_
  refine C.seq ?_
  refine C.seq ?_
  refine C.region ?_
  refine L.step (Ev.pure rfl) rfl ?_
  refine L.step (Ev.pure rfl) rfl ?_
  refine L.step (Ev.pure rfl) rfl ?_
  refine L.bool 14 rfl (fun hg14 => ?_) (fun hg14 => ?_)
  · skip
    replace hg14 := of_decide_eq_true hg14
    refine L.no rfl rfl rfl ?_
    refine L.no rfl rfl rfl ?_
    refine L.step (Ev.pure rfl) rfl ?_
    refine L.step (Ev.pure rfl) rfl ?_
    refine L.no rfl rfl rfl ?_
    refine L.no rfl rfl rfl ?_
    refine L.no rfl rfl rfl ?_
    refine L.no rfl rfl rfl ?_
    refine L.no rfl rfl rfl ?_
    refine L.step (Ev.pure rfl) rfl ?_
    refine L.step (Ev.pure rfl) rfl ?_
    refine L.no rfl rfl rfl ?_
    refine L.no rfl rfl rfl ?_
    refine L.no rfl rfl rfl ?_
    refine L.step (Ev.pure rfl) rfl ?_
    refine L.step (Ev.pure rfl) rfl ?_
    refine L.no rfl rfl rfl ?_
    refine L.no rfl rfl rfl ?_
    refine L.no rfl rfl rfl ?_
    refine L.step (Ev.pure rfl) rfl ?_
    refine L.nil ?_
    refine QE.seq ?_
    refine C.cond rfl (fun _ => ?_) (fun h => by cases h)
    refine C.seq ?_
    refine C.region ?_
    refine L.step (Ev.pure rfl) rfl ?_
    refine L.step (Ev.pure rfl) rfl ?_
    refine L.nil ?_
    refine QE.seq ?_
    refine C.ret ?_
    refine QE.tR ?_
    refine QE.nil_own 5 1 ?_
    refine QE.ret (js := []) (hs := [0]) (vs := [_, _]) rfl ⟨rfl, rfl, trivial⟩ (by decide) ?_
    have hB : RecBad sec a b := by unfold RecBad; omega
    refine ⟨none, 0, by rw [recE_bad hB, recS_bad hB]; rfl, rfl, by rw [recS_bad hB]; rfl⟩
  · skip
    replace hg14 := of_decide_eq_false hg14
    refine L.yes rfl ?_
    refine L.step (Ev.pure rfl) rfl ?_
    refine L.yes rfl ?_
    refine L.step (Ev.pure rfl) rfl ?_
    refine L.step (Ev.pure rfl) rfl ?_
    refine L.step (Ev.pure rfl) rfl ?_
    refine L.bool 18 rfl (fun hg18 => ?_) (fun hg18 => ?_)
    · skip
      replace hg18 := of_decide_eq_true hg18
      refine L.no rfl rfl rfl ?_
      refine L.no rfl rfl rfl ?_
      refine L.no rfl rfl rfl ?_
      refine L.no rfl rfl rfl ?_
      refine L.no rfl rfl rfl ?_
      refine L.step (Ev.pure rfl) rfl ?_
      refine L.step (Ev.pure rfl) rfl ?_
      refine L.no rfl rfl rfl ?_
      refine L.no rfl rfl rfl ?_
      refine L.no rfl rfl rfl ?_
      refine L.step (Ev.pure rfl) rfl ?_
      refine L.step (Ev.pure rfl) rfl ?_
      refine L.no rfl rfl rfl ?_
      refine L.no rfl rfl rfl ?_
      refine L.no rfl rfl rfl ?_
      refine L.step (Ev.pure rfl) rfl ?_
      refine L.nil ?_
      refine QE.seq ?_
      refine C.cond rfl (fun _ => ?_) (fun h => by cases h)
      refine C.seq ?_
      refine C.region ?_
      refine L.step (Ev.pure rfl) rfl ?_
      refine L.step (Ev.pure rfl) rfl ?_
      refine L.nil ?_
      refine QE.seq ?_
      refine C.ret ?_
      refine QE.tR ?_
      refine QE.nil_own 5 1 ?_
      refine QE.ret (js := []) (hs := [0]) (vs := [_, _]) rfl ⟨rfl, rfl, trivial⟩ (by decide) ?_
      have hB : RecBad sec a b := by unfold RecBad; omega
      refine ⟨none, 0, by rw [recE_bad hB, recS_bad hB]; rfl, rfl, by rw [recS_bad hB]; rfl⟩
    · skip
      replace hg18 := of_decide_eq_false hg18
      refine L.yes rfl ?_
      refine L.step (Ev.pure rfl) rfl ?_
      refine L.yes rfl ?_
      refine L.step (Ev.pure rfl) rfl ?_
      refine L.yes rfl ?_
      refine L.step (Ev.pure rfl) rfl ?_
      refine L.yes rfl ?_
      refine L.step (Ev.pure rfl) rfl ?_
      refine L.yes rfl ?_
      refine L.step (Ev.pure rfl) rfl ?_
      refine L.step (Ev.pure rfl) rfl ?_
      refine L.step (Ev.pure rfl) rfl ?_
      refine L.bool 25 rfl (fun hg25 => ?_) (fun hg25 => ?_)
      · skip
        replace hg25 := b_ne hg25
        refine L.no rfl rfl rfl ?_
        refine L.no rfl rfl rfl ?_
        refine L.no rfl rfl rfl ?_
        refine L.step (Ev.pure rfl) rfl ?_
        refine L.step (Ev.pure rfl) rfl ?_
        refine L.no rfl rfl rfl ?_
        refine L.no rfl rfl rfl ?_
        refine L.no rfl rfl rfl ?_
        refine L.step (Ev.pure rfl) rfl ?_
        refine L.nil ?_
        refine QE.seq ?_
        refine C.cond rfl (fun _ => ?_) (fun h => by cases h)
        refine C.seq ?_
        refine C.region ?_
        refine L.step (Ev.pure rfl) rfl ?_
        refine L.step (Ev.pure rfl) rfl ?_
        refine L.nil ?_
        refine QE.seq ?_
        refine C.ret ?_
        refine QE.tR ?_
        refine QE.nil_own 5 1 ?_
        refine QE.ret (js := []) (hs := [0]) (vs := [_, _]) rfl ⟨rfl, rfl, trivial⟩ (by decide) ?_
        have hB : RecBad sec a b := by unfold RecBad; omega
        refine ⟨none, 0, by rw [recE_bad hB, recS_bad hB]; rfl, rfl, by rw [recS_bad hB]; rfl⟩
      · skip
        replace hg25 := b_eq hg25
        refine L.yes rfl ?_
        refine L.step (Ev.pure rfl) rfl ?_
        refine L.yes rfl ?_
        refine L.step (Ev.pure rfl) rfl ?_
        refine L.yes rfl ?_
        refine L.step (Ev.pure rfl) rfl ?_
        refine L.step (Ev.pure rfl) rfl ?_
        refine L.step (Ev.pure rfl) rfl ?_
        refine L.bool 30 rfl (fun hg30 => ?_) (fun hg30 => ?_)
        · skip
          replace hg30 := of_decide_eq_true hg30
          refine L.no rfl rfl rfl ?_
          refine L.no rfl rfl rfl ?_
          refine L.no rfl rfl rfl ?_
          refine L.step (Ev.pure rfl) rfl ?_
          refine L.nil ?_
          refine QE.seq ?_
          refine C.cond rfl (fun _ => ?_) (fun h => by cases h)
          refine C.seq ?_
          refine C.region ?_
          refine L.step (Ev.pure rfl) rfl ?_
          refine L.step (Ev.pure rfl) rfl ?_
          refine L.nil ?_
          refine QE.seq ?_
          refine C.ret ?_
          refine QE.tR ?_
          refine QE.nil_own 5 1 ?_
          refine QE.ret (js := []) (hs := [0]) (vs := [_, _]) rfl ⟨rfl, rfl, trivial⟩ (by decide) ?_
          have hB : RecBad sec a b := by unfold RecBad; omega
          refine ⟨none, 0, by rw [recE_bad hB, recS_bad hB]; rfl, rfl, by rw [recS_bad hB]; rfl⟩
        · skip
          replace hg30 := of_decide_eq_false hg30
          refine L.yes rfl ?_
          refine L.step (Ev.pure rfl) rfl ?_
          refine L.yes rfl ?_
          refine L.step (Ev.pure rfl) rfl ?_
          refine L.yes rfl ?_
          refine L.step (Ev.pure rfl) rfl ?_
          refine L.step (Ev.pure rfl) rfl ?_
          refine L.nil ?_
          refine QE.seq ?_
          refine C.condB 34 rfl (fun hc34 => ?_) (fun hc34 => ?_)
          · skip
            replace hc34 := of_decide_eq_true hc34
            refine C.seq ?_
            refine C.region ?_
            refine L.step (Ev.pure rfl) rfl ?_
            refine L.step (Ev.pure rfl) rfl ?_
            refine L.nil ?_
            refine QE.seq ?_
            refine C.ret ?_
            refine QE.tR ?_
            refine QE.nil_own 5 1 ?_
            refine QE.ret (js := []) (hs := [0]) (vs := [_, _]) rfl ⟨rfl, rfl, trivial⟩ (by decide) ?_
            have hB : RecBad sec a b := by unfold RecBad; omega
            refine ⟨none, 0, by rw [recE_bad hB, recS_bad hB]; rfl, rfl, by rw [recS_bad hB]; rfl⟩
          · skip
            replace hc34 := of_decide_eq_false hc34
            refine C.skip ?_
            refine QE.seq ?_
            refine C.seq ?_
            have hB : ¬RecBad sec a b := by unfold RecBad; omega
            have hcl := chgN_len' a b a.length
            refine C.region ?_
            refine L.step (Ev.pure rfl) rfl ?_
            refine L.step (Ev.pure rfl) rfl ?_
            refine L.call (js := []) (js' := []) (changed_c SA SB a b ca cb (by omega) (by omega)) rfl rfl rfl (by decide) ⟨(Has.r 0 rfl), (Has.r 1 rfl), trivial⟩ rfl ?_
            rintro _ _ _ ⟨O, oc, rfl, rfl, rfl⟩
            refine L.step (Ev.pure rfl) rfl ?_
            refine L.nil ?_
            refine QE.seq ?_
            refine C.seq ?_
            refine C.freeze 0 rfl [] (by decide) (by decide) ?_
            refine C.region ?_
            refine L.step (Ev.pure rfl) rfl ?_
            refine L.step (Ev.toByte rfl rfl rfl rfl) rfl ?_
            refine L.lit rfl rfl rfl rfl rfl (by rfl) (by rfl) (by rfl) rfl rfl (fun A40 => ?_)
            refine L.step (Ev.pure rfl) rfl ?_
            refine L.step (Ev.pure rfl) rfl ?_
            refine L.call (js := []) (js' := [0]) (two_c (chgN a b a.length).length (by omega)) rfl rfl rfl (by decide) trivial rfl ?_
            rintro _ _ _ ⟨A43, rfl, rfl, rfl⟩
            refine L.append (j := 1) rfl rfl rfl rfl (by decide) rfl rfl rfl rfl (Src.o 0 rfl) (by rfl) (U8_one _) (by omega) (by show _ * 1 ≤ _; omega) rfl (fun A44 cc44 => ?_)
            refine L.step (Ev.pure rfl) rfl ?_
            refine L.nil ?_
            refine QE.seq ?_
            refine C.seq ?_
            refine C.seq ?_
            refine C.region ?_
            refine L.step (Ev.pure rfl) rfl ?_
            refine L.step (Ev.pure rfl) rfl ?_
            refine L.step (Ev.pure rfl) rfl ?_
            refine L.nil ?_
            refine QE.seq ?_
            refine C.block ?_
            refine C.loop (fun q : Nat × Option Addr × Nat => [(1, .slice SA a.length ca), (9, .slice q.2.1 (recP (UInt8.ofInt sec) a (chgN a b a.length) q.1).length q.2.2), (45, .slice O (chgN a b a.length).length oc), (46, .int .i64 ((chgN a b a.length).length : Int)), (47, .int .i64 (q.1 : Int))]) (fun q : Nat × Option Addr × Nat => [Rd O (rangesV (chgN a b a.length)), Rd SA (U8 a), Rd SB (U8 b)]) (fun q : Nat × Option Addr × Nat => [Own 5 1 q.2.1 (recP (UInt8.ofInt sec) a (chgN a b a.length) q.1).length q.2.2 (U8 (recP (UInt8.ofInt sec) a (chgN a b a.length) q.1))]) (fun q : Nat × Option Addr × Nat => q.1 ≤ (chgN a b a.length).length) (fun q : Nat × Option Addr × Nat => (chgN a b a.length).length - q.1) (0, A44, cc44) (Nat.zero_le _) (by exact Le.mk' (rs := [0, 1, 2]) (hs := [1]) ⟨rfl, rfl, rfl, rfl, rfl, trivial⟩ ⟨rfl, rfl, rfl, trivial⟩ ⟨rfl, trivial⟩ (by decide)) ?_
            rintro ⟨k, A, c⟩ hk
            dsimp only at hk ⊢
            have hpl := recP_len (x := (UInt8.ofInt sec)) (a := a) (b := b) k
            have hpe := recP_len (x := (UInt8.ofInt sec)) (a := a) (b := b) (chgN a b a.length).length
            refine C.seq ?_
            refine C.region ?_
            refine L.step (Ev.pure rfl) rfl ?_
            refine L.nil ?_
            refine QE.seq ?_
            refine C.seq ?_
            refine C.condB 48 rfl (fun hc48 => ?_) (fun hc48 => ?_)
            · skip
              replace hc48 := of_decide_eq_true hc48
              have hk2 : k < (chgN a b a.length).length := by omega
              have hr := chgN_getD hk2
              refine C.skip ?_
              refine QE.seq ?_
              refine C.seq ?_
              refine C.block ?_
              refine C.seq ?_
              refine C.region ?_
              refine L.step (Ev.idx (k := k) (m := k * 2) rfl rfl rfl rfl rfl rfl hk2 (Src.r 0 rfl) (ranges_pos hk2) rfl) rfl ?_
              refine L.step (Ev.loadA (k := k * 2) rfl rfl rfl (Src.r 0 rfl) (rangesV_at (chgN a b a.length) k hk2) rfl (by decide)) rfl ?_
              refine L.alloc rfl rfl rfl (fun A11 => ?_)
              refine L.storeA (j := 1) rfl rfl rfl rfl rfl (Nat.zero_lt_succ _) rfl rfl ?_
              refine L.nil ?_
              refine QE.seq ?_
              refine C.seq ?_
              refine C.region ?_
              refine L.step (Ev.pure rfl) rfl ?_
              refine L.step (Ev.fieldAddr rfl rfl rfl rfl rfl rfl (Src.o 1 rfl) (Nat.zero_lt_succ _) rfl) rfl ?_
              refine L.step (Ev.load rfl rfl rfl (Src.o 1 rfl) rfl) rfl ?_
              refine L.call (js := []) (js' := [0, 1]) (two_c ((chgN a b a.length).getD k (0, 0)).1 (by omega)) rfl rfl rfl (by decide) trivial rfl ?_
              rintro _ _ _ ⟨A54, rfl, rfl, rfl⟩
              refine L.append (j := 1) rfl rfl rfl rfl (by decide) rfl rfl rfl rfl (Src.o 0 rfl) (by rfl) (U8_one _) (by omega) (by show _ * 1 ≤ _; omega) rfl (fun A55 cc55 => ?_)
              refine L.step (Ev.pure rfl) rfl ?_
              refine L.nil ?_
              refine QE.seq ?_
              refine C.seq ?_
              refine C.region ?_
              refine L.step (Ev.pure rfl) rfl ?_
              refine L.step (Ev.fieldAddr rfl rfl rfl rfl rfl rfl (Src.o 2 rfl) (Nat.zero_lt_succ _) rfl) rfl ?_
              refine L.step (Ev.load rfl rfl rfl (Src.o 2 rfl) rfl) rfl ?_
              refine L.step (Ev.fieldAddr rfl rfl rfl rfl rfl rfl (Src.o 2 rfl) (Nat.zero_lt_succ _) rfl) rfl ?_
              refine L.step (Ev.load rfl rfl rfl (Src.o 2 rfl) rfl) rfl ?_
              refine L.step (Ev.cast (u := .int .i64 ((((chgN a b a.length).getD k (0, 0)).2 - ((chgN a b a.length).getD k (0, 0)).1 : Nat) : Int)) (Ev.sub rfl rfl (by omega) (by omega)) (congrArg (Value.int .i64) (by omega))) rfl ?_
              refine L.call (js := []) (js' := [0, 1, 2]) (two_c (((chgN a b a.length).getD k (0, 0)).2 - ((chgN a b a.length).getD k (0, 0)).1) (by omega)) rfl rfl rfl (by decide) trivial rfl ?_
              rintro _ _ _ ⟨A62, rfl, rfl, rfl⟩
              refine L.append (j := 2) rfl rfl rfl rfl (by decide) rfl rfl rfl rfl (Src.o 0 rfl) (by rfl) (U8_one _) (by omega) (by show _ * 1 ≤ _; omega) rfl (fun A63 cc63 => ?_)
              refine L.step (Ev.pure rfl) rfl ?_
              refine L.nil ?_
              refine QE.seq ?_
              refine C.region ?_
              refine L.step (Ev.pure rfl) rfl ?_
              refine L.step (Ev.pure rfl) rfl ?_
              refine L.step (Ev.fieldAddr rfl rfl rfl rfl rfl rfl (Src.o 3 rfl) (Nat.zero_lt_succ _) rfl) rfl ?_
              refine L.step (Ev.load rfl rfl rfl (Src.o 3 rfl) rfl) rfl ?_
              refine L.step (Ev.fieldAddr rfl rfl rfl rfl rfl rfl (Src.o 3 rfl) (Nat.zero_lt_succ _) rfl) rfl ?_
              refine L.step (Ev.load rfl rfl rfl (Src.o 3 rfl) rfl) rfl ?_
              refine L.step (Ev.sliceLH (l := ((chgN a b a.length).getD k (0, 0)).1) (h := ((chgN a b a.length).getD k (0, 0)).2) rfl rfl rfl rfl rfl rfl rfl rfl (by omega) (by omega)) rfl ?_
              refine L.append (j := 2) rfl rfl rfl rfl (by decide) rfl rfl rfl rfl (Src.cast (Src.take (Src.sub (Src.r 1 rfl) ca ((chgN a b a.length).getD k (0, 0)).1 1 (by rw [U8_len]; omega)) (((chgN a b a.length).getD k (0, 0)).2 - ((chgN a b a.length).getD k (0, 0)).1)) (by rw [Nat.mul_one, U8_drop, U8_take])) (by rw [U8_len, List.length_take, List.length_drop]; show _ = _ * 1; rw [Nat.mul_one]; omega) (U8_one _) (by omega) (by show _ * 1 ≤ _; omega) rfl (fun A71 cc71 => ?_)
              refine L.step (Ev.pure rfl) rfl ?_
              refine L.nil ?_
              refine QE.blkN ?_
              refine QE.seq ?_
              refine C.region ?_
              refine L.step (Ev.add rfl rfl (by omega) (by omega)) rfl ?_
              refine L.step (Ev.pure rfl) rfl ?_
              refine L.nil ?_
              refine QE.round (i := (k, A, c)) ((k + 1, A71, cc71)) (by dsimp only; omega) (by dsimp only; omega) (by exact Le.mk' (rs := [0, 1, 2]) (hs := [2]) ⟨rfl, (by dsimp only; rw [← rec_l hk2]; rfl), rfl, rfl, rfl, trivial⟩ ⟨rfl, rfl, rfl, trivial⟩ ⟨(congrArg some (own_eq (rec_l hk2) (rec_u hk2))), trivial⟩ (by decide))
            · skip
              replace hc48 := of_decide_eq_false hc48
              refine C.exit ?_
              refine QE.tX ?_
              refine QE.tX ?_
              refine QE.blk ?_
              refine QE.seq ?_
              refine C.seq ?_
              refine C.region ?_
              refine L.step (Ev.pure rfl) rfl ?_
              refine L.step (Ev.pure rfl) rfl ?_
              refine L.step (Ev.pure rfl) rfl ?_
              refine L.step (Ev.cast (u := .int .i64 (((recP (UInt8.ofInt sec) a (chgN a b a.length) k).length + 2 : Nat) : Int)) (Ev.add rfl rfl (by omega) (by omega)) (congrArg (Value.int .i64) (by omega))) rfl ?_
              refine L.call (js := []) (js' := [0]) (two_c ((recP (UInt8.ofInt sec) a (chgN a b a.length) k).length + 2) (by omega)) rfl rfl rfl (by decide) trivial rfl ?_
              rintro _ _ _ ⟨A77, rfl, rfl, rfl⟩
              refine L.append (j := 1) rfl rfl rfl rfl (by decide) rfl rfl rfl rfl (Src.o 0 rfl) (by rfl) (U8_one _) (by omega) (by show _ * 1 ≤ _; omega) rfl (fun A78 cc78 => ?_)
              refine L.step (Ev.pure rfl) rfl ?_
              refine L.step (Ev.pure rfl) rfl ?_
              refine L.nil ?_
              refine QE.seq ?_
              refine C.ret ?_
              refine QE.ret (js := []) (hs := [1]) (vs := [_, _]) rfl ⟨rfl, rfl, trivial⟩ (by decide) ?_
              obtain rfl : k = (chgN a b a.length).length := by omega
              refine ⟨A78, cc78, ?_, rfl, ?_⟩
              · rw [recE_ok hB, recS_ok hB]; unfold recB; rw [List.length_append]; rfl
              · rw [recS_ok hB]; unfold recB; rw [← U8_app, List.length_append]; rfl

set_option maxHeartbeats 2000000 in
theorem record21_c (sec : Int) (SA SB : Option Addr) (a b : List UInt8) (ca cb : Nat) (hca : a.length ≤ ca) (_hal : a.length ≤ 9223372036854775807) (hbl : b.length ≤ 9223372036854775807) :
    Ctr X 22 [.agg (List.toArray [.int .i64 sec, .slice SA a.length ca, .slice SB b.length cb])] [Rd SA (U8 a), Rd SB (U8 b)] [] (fun v R' H' => ∃ (A : Option Addr) (c : Nat), v = .tuple #[.slice A (recS sec a b).length c, .int .i64 (recE sec a b)] ∧ R' = [] ∧ H' = [Own 5 1 A (recS sec a b).length c (U8 (recS sec a b))]) := by
  refine Ctr.of (X := X) (fn := Try.f22) Try.func22 rfl (by kernel_rfl) rfl ?_
  intro β
  refine C.seq ?_
  refine C.region ?_
  refine L.boxA rfl rfl (fun A1 => ?_)
  refine L.step (Ev.pure rfl) rfl ?_
  refine L.step (Ev.pure rfl) rfl ?_
  refine L.nil ?_
  refine QE.seq ?_
  refine C.seq ?_
  refine C.seq ?_
  refine C.freeze 0 rfl [] (by decide) (by decide) ?_
  refine C.region ?_
  refine L.step (Ev.fieldAddr rfl rfl rfl rfl rfl rfl (Src.r 0 rfl) (Nat.zero_lt_succ _) rfl) rfl ?_
  refine L.step (Ev.load rfl rfl rfl (Src.r 0 rfl) rfl) rfl ?_
  refine L.step (Ev.pure rfl) rfl ?_
  refine L.step (Ev.pure rfl) rfl ?_
  refine L.bool 10 rfl (fun hg10 => ?_) (fun hg10 => ?_)
  · skip
    replace hg10 := of_decide_eq_true hg10
    refine L.no rfl rfl rfl ?_
    refine L.no rfl rfl rfl ?_
    refine L.no rfl rfl rfl ?_
    refine L.step (Ev.pure rfl) rfl ?_
    refine L.step (Ev.pure rfl) rfl ?_
    refine L.no rfl rfl rfl ?_
    refine L.no rfl rfl rfl ?_
    refine L.no rfl rfl rfl ?_
    refine L.no rfl rfl rfl ?_
    refine L.no rfl rfl rfl ?_
    refine L.no rfl rfl rfl ?_
    refine L.no rfl rfl rfl ?_
    refine L.step (Ev.pure rfl) rfl ?_
    refine L.step (Ev.pure rfl) rfl ?_
    refine L.no rfl rfl rfl ?_
    refine L.no rfl rfl rfl ?_
    refine L.no rfl rfl rfl ?_
    refine L.no rfl rfl rfl ?_
    refine L.step (Ev.pure rfl) rfl ?_
    refine L.step (Ev.pure rfl) rfl ?_
    refine L.no rfl rfl rfl ?_
    refine L.no rfl rfl rfl ?_
    refine L.no rfl rfl rfl ?_
    refine L.no rfl rfl rfl ?_
    refine L.step (Ev.pure rfl) rfl ?_
    refine L.nil ?_
    refine QE.seq ?_
    refine C.cond rfl (fun _ => ?_) (fun h => by cases h)
    refine C.seq ?_
    refine C.region ?_
    refine L.step (Ev.pure rfl) rfl ?_
    refine L.step (Ev.pure rfl) rfl ?_
    refine L.nil ?_
    refine QE.seq ?_
    refine C.ret ?_
    refine QE.tR ?_
    refine QE.nil_own 5 1 ?_
    refine QE.ret (js := []) (hs := [0]) (vs := [_, _]) rfl ⟨rfl, rfl, trivial⟩ (by decide) ?_
    have hB : RecBad sec a b := by unfold RecBad; omega
    refine ⟨none, 0, by rw [recE_bad hB, recS_bad hB]; rfl, rfl, by rw [recS_bad hB]; rfl⟩
  · skip
    replace hg10 := of_decide_eq_false hg10
    refine L.yes rfl ?_
    refine L.step (Ev.fieldAddr rfl rfl rfl rfl rfl rfl (Src.r 0 rfl) (Nat.zero_lt_succ _) rfl) rfl ?_
    refine L.yes rfl ?_
    refine L.step (Ev.load rfl rfl rfl (Src.r 0 rfl) rfl) rfl ?_
    refine L.yes rfl ?_
    refine L.step (Ev.pure rfl) rfl ?_
    refine L.step (Ev.pure rfl) rfl ?_
    refine L.step (Ev.pure rfl) rfl ?_
    refine L.bool 15 rfl (fun hg15 => ?_) (fun hg15 => ?_)
    · skip
      replace hg15 := of_decide_eq_true hg15
      refine L.no rfl rfl rfl ?_
      refine L.no rfl rfl rfl ?_
      refine L.no rfl rfl rfl ?_
      refine L.no rfl rfl rfl ?_
      refine L.no rfl rfl rfl ?_
      refine L.no rfl rfl rfl ?_
      refine L.no rfl rfl rfl ?_
      refine L.step (Ev.pure rfl) rfl ?_
      refine L.step (Ev.pure rfl) rfl ?_
      refine L.no rfl rfl rfl ?_
      refine L.no rfl rfl rfl ?_
      refine L.no rfl rfl rfl ?_
      refine L.no rfl rfl rfl ?_
      refine L.step (Ev.pure rfl) rfl ?_
      refine L.step (Ev.pure rfl) rfl ?_
      refine L.no rfl rfl rfl ?_
      refine L.no rfl rfl rfl ?_
      refine L.no rfl rfl rfl ?_
      refine L.no rfl rfl rfl ?_
      refine L.step (Ev.pure rfl) rfl ?_
      refine L.nil ?_
      refine QE.seq ?_
      refine C.cond rfl (fun _ => ?_) (fun h => by cases h)
      refine C.seq ?_
      refine C.region ?_
      refine L.step (Ev.pure rfl) rfl ?_
      refine L.step (Ev.pure rfl) rfl ?_
      refine L.nil ?_
      refine QE.seq ?_
      refine C.ret ?_
      refine QE.tR ?_
      refine QE.nil_own 5 1 ?_
      refine QE.ret (js := []) (hs := [0]) (vs := [_, _]) rfl ⟨rfl, rfl, trivial⟩ (by decide) ?_
      have hB : RecBad sec a b := by unfold RecBad; omega
      refine ⟨none, 0, by rw [recE_bad hB, recS_bad hB]; rfl, rfl, by rw [recS_bad hB]; rfl⟩
    · skip
      replace hg15 := of_decide_eq_false hg15
      refine L.yes rfl ?_
      refine L.step (Ev.fieldAddr rfl rfl rfl rfl rfl rfl (Src.r 0 rfl) (Nat.zero_lt_succ _) rfl) rfl ?_
      refine L.yes rfl ?_
      refine L.step (Ev.load rfl rfl rfl (Src.r 0 rfl) rfl) rfl ?_
      refine L.yes rfl ?_
      refine L.step (Ev.pure rfl) rfl ?_
      refine L.yes rfl ?_
      refine L.step (Ev.fieldAddr rfl rfl rfl rfl rfl rfl (Src.r 0 rfl) (Nat.zero_lt_succ _) rfl) rfl ?_
      refine L.yes rfl ?_
      refine L.step (Ev.load rfl rfl rfl (Src.r 0 rfl) rfl) rfl ?_
      refine L.yes rfl ?_
      refine L.step (Ev.pure rfl) rfl ?_
      refine L.yes rfl ?_
      refine L.step (Ev.pure rfl) rfl ?_
      refine L.step (Ev.pure rfl) rfl ?_
      refine L.step (Ev.pure rfl) rfl ?_
      refine L.bool 24 rfl (fun hg24 => ?_) (fun hg24 => ?_)
      · skip
        replace hg24 := b_ne hg24
        refine L.no rfl rfl rfl ?_
        refine L.no rfl rfl rfl ?_
        refine L.no rfl rfl rfl ?_
        refine L.no rfl rfl rfl ?_
        refine L.step (Ev.pure rfl) rfl ?_
        refine L.step (Ev.pure rfl) rfl ?_
        refine L.no rfl rfl rfl ?_
        refine L.no rfl rfl rfl ?_
        refine L.no rfl rfl rfl ?_
        refine L.no rfl rfl rfl ?_
        refine L.step (Ev.pure rfl) rfl ?_
        refine L.nil ?_
        refine QE.seq ?_
        refine C.cond rfl (fun _ => ?_) (fun h => by cases h)
        refine C.seq ?_
        refine C.region ?_
        refine L.step (Ev.pure rfl) rfl ?_
        refine L.step (Ev.pure rfl) rfl ?_
        refine L.nil ?_
        refine QE.seq ?_
        refine C.ret ?_
        refine QE.tR ?_
        refine QE.nil_own 5 1 ?_
        refine QE.ret (js := []) (hs := [0]) (vs := [_, _]) rfl ⟨rfl, rfl, trivial⟩ (by decide) ?_
        have hB : RecBad sec a b := by unfold RecBad; omega
        refine ⟨none, 0, by rw [recE_bad hB, recS_bad hB]; rfl, rfl, by rw [recS_bad hB]; rfl⟩
      · skip
        replace hg24 := b_eq hg24
        refine L.yes rfl ?_
        refine L.step (Ev.fieldAddr rfl rfl rfl rfl rfl rfl (Src.r 0 rfl) (Nat.zero_lt_succ _) rfl) rfl ?_
        refine L.yes rfl ?_
        refine L.step (Ev.load rfl rfl rfl (Src.r 0 rfl) rfl) rfl ?_
        refine L.yes rfl ?_
        refine L.step (Ev.pure rfl) rfl ?_
        refine L.yes rfl ?_
        refine L.step (Ev.pure rfl) rfl ?_
        refine L.step (Ev.pure rfl) rfl ?_
        refine L.step (Ev.pure rfl) rfl ?_
        refine L.bool 30 rfl (fun hg30 => ?_) (fun hg30 => ?_)
        · skip
          replace hg30 := of_decide_eq_true hg30
          refine L.no rfl rfl rfl ?_
          refine L.no rfl rfl rfl ?_
          refine L.no rfl rfl rfl ?_
          refine L.no rfl rfl rfl ?_
          refine L.step (Ev.pure rfl) rfl ?_
          refine L.nil ?_
          refine QE.seq ?_
          refine C.cond rfl (fun _ => ?_) (fun h => by cases h)
          refine C.seq ?_
          refine C.region ?_
          refine L.step (Ev.pure rfl) rfl ?_
          refine L.step (Ev.pure rfl) rfl ?_
          refine L.nil ?_
          refine QE.seq ?_
          refine C.ret ?_
          refine QE.tR ?_
          refine QE.nil_own 5 1 ?_
          refine QE.ret (js := []) (hs := [0]) (vs := [_, _]) rfl ⟨rfl, rfl, trivial⟩ (by decide) ?_
          have hB : RecBad sec a b := by unfold RecBad; omega
          refine ⟨none, 0, by rw [recE_bad hB, recS_bad hB]; rfl, rfl, by rw [recS_bad hB]; rfl⟩
        · skip
          replace hg30 := of_decide_eq_false hg30
          refine L.yes rfl ?_
          refine L.step (Ev.fieldAddr rfl rfl rfl rfl rfl rfl (Src.r 0 rfl) (Nat.zero_lt_succ _) rfl) rfl ?_
          refine L.yes rfl ?_
          refine L.step (Ev.load rfl rfl rfl (Src.r 0 rfl) rfl) rfl ?_
          refine L.yes rfl ?_
          refine L.step (Ev.pure rfl) rfl ?_
          refine L.yes rfl ?_
          refine L.step (Ev.pure rfl) rfl ?_
          refine L.step (Ev.pure rfl) rfl ?_
          refine L.nil ?_
          refine QE.seq ?_
          refine C.condB 35 rfl (fun hc35 => ?_) (fun hc35 => ?_)
          · skip
            replace hc35 := of_decide_eq_true hc35
            refine C.seq ?_
            refine C.region ?_
            refine L.step (Ev.pure rfl) rfl ?_
            refine L.step (Ev.pure rfl) rfl ?_
            refine L.nil ?_
            refine QE.seq ?_
            refine C.ret ?_
            refine QE.tR ?_
            refine QE.nil_own 5 1 ?_
            refine QE.ret (js := []) (hs := [0]) (vs := [_, _]) rfl ⟨rfl, rfl, trivial⟩ (by decide) ?_
            have hB : RecBad sec a b := by unfold RecBad; omega
            refine ⟨none, 0, by rw [recE_bad hB, recS_bad hB]; rfl, rfl, by rw [recS_bad hB]; rfl⟩
          · skip
            replace hc35 := of_decide_eq_false hc35
            refine C.skip ?_
            refine QE.seq ?_
            refine C.seq ?_
            have hB : ¬RecBad sec a b := by unfold RecBad; omega
            have hcl := chgN_len' a b a.length
            refine C.region ?_
            refine L.step (Ev.fieldAddr rfl rfl rfl rfl rfl rfl (Src.r 0 rfl) (Nat.zero_lt_succ _) rfl) rfl ?_
            refine L.step (Ev.load rfl rfl rfl (Src.r 0 rfl) rfl) rfl ?_
            refine L.step (Ev.fieldAddr rfl rfl rfl rfl rfl rfl (Src.r 0 rfl) (Nat.zero_lt_succ _) rfl) rfl ?_
            refine L.step (Ev.load rfl rfl rfl (Src.r 0 rfl) rfl) rfl ?_
            refine L.call (js := []) (js' := []) (changed01_c SA SB a b ca cb (by omega) (by omega)) rfl rfl rfl (by decide) ⟨(Has.r 1 rfl), (Has.r 2 rfl), trivial⟩ rfl ?_
            rintro _ _ _ ⟨O, oc, rfl, rfl, rfl⟩
            refine L.step (Ev.pure rfl) rfl ?_
            refine L.nil ?_
            refine QE.seq ?_
            refine C.seq ?_
            refine C.freeze 0 rfl [] (by decide) (by decide) ?_
            refine C.join (fun q : Option Addr × Nat => [(1, ptrOf A1 0), (4, .slice O (chgN a b a.length).length oc), (5, .slice q.1 (recP (UInt8.ofInt sec) a (chgN a b a.length) 0).length q.2)]) (fun q : Option Addr × Nat => [Rd O (rangesV (chgN a b a.length)), Rd A1 [.int .i64 sec, .slice SA a.length ca, .slice SB b.length cb], Rd SA (U8 a), Rd SB (U8 b)]) (fun q : Option Addr × Nat => [Own 5 1 q.1 (recP (UInt8.ofInt sec) a (chgN a b a.length) 0).length q.2 (U8 (recP (UInt8.ofInt sec) a (chgN a b a.length) 0))]) (fun q : Option Addr × Nat => True) ?_ ?_
            · skip
              refine C.regionM [Rd O (rangesV (chgN a b a.length)), Rd A1 [.int .i64 sec, .slice SA a.length ca, .slice SB b.length cb], Rd SA (U8 a), Rd SB (U8 b)] ⟨Has.r 0 rfl, Has.r 1 rfl, Has.r 2 rfl, Has.r 3 rfl, trivial⟩ ?_
              refine LM.q 0 rfl (by kernel_rfl) (Ev.fieldAddr rfl rfl rfl rfl rfl rfl (Src.r 1 rfl) (Nat.zero_lt_succ _) rfl) rfl ⟨Has.r 0 rfl, Has.r 1 rfl, Has.r 2 rfl, Has.r 3 rfl, trivial⟩ ?_
              refine LM.q 1 rfl (by kernel_rfl) (Ev.load rfl rfl rfl (Src.r 1 rfl) rfl) rfl ⟨Has.r 0 rfl, Has.r 1 rfl, Has.r 2 rfl, Has.r 3 rfl, trivial⟩ ?_
              refine LM.q 2 rfl (by kernel_rfl) (Ev.toByte rfl rfl rfl rfl) rfl ⟨Has.r 0 rfl, Has.r 1 rfl, Has.r 2 rfl, Has.r 3 rfl, trivial⟩ ?_
              refine LM.q 4 rfl (by kernel_rfl) (Ev.pure rfl) rfl ⟨Has.r 0 rfl, Has.r 1 rfl, Has.r 2 rfl, Has.r 3 rfl, trivial⟩ ?_
              refine LM.q 5 rfl (by kernel_rfl) (Ev.pure rfl) rfl ⟨Has.r 0 rfl, Has.r 1 rfl, Has.r 2 rfl, Has.r 3 rfl, trivial⟩ ?_
              refine LM.alt [3, 6] (by kernel_rfl) (by decide) ⟨Has.r 0 rfl, Has.r 1 rfl, Has.r 2 rfl, Has.r 3 rfl, trivial⟩ ⟨⟨_, rfl, ?_⟩, ⟨_, rfl, ?_⟩, trivial⟩
              · skip
                refine L.lit rfl rfl rfl rfl rfl (by rfl) (by rfl) (by rfl) rfl rfl (fun A44 => ?_)
                refine L.nil (QE.m (by kernel_rfl) ?_)
                refine LM.f 6 rfl (by kernel_rfl) ⟨Has.r 0 rfl, Has.r 1 rfl, Has.r 2 rfl, Has.r 3 rfl, trivial⟩ ?_
                refine L.call (js := []) (js' := [0]) (two21_c (chgN a b a.length).length (by omega)) rfl rfl rfl (by decide) trivial rfl ?_
                rintro _ _ _ ⟨A47, rfl, rfl, rfl⟩
                refine L.nil (QE.m (by kernel_rfl) ?_)
                refine LM.cut [] (by kernel_rfl) ⟨Has.r 0 rfl, Has.r 1 rfl, Has.r 2 rfl, Has.r 3 rfl, trivial⟩ ?_
                refine LM.f 7 rfl (by kernel_rfl) trivial ?_
                refine L.append (j := 1) rfl rfl rfl rfl (by decide) rfl rfl rfl rfl (Src.o 0 rfl) (by rfl) (U8_one _) (by omega) (by show _ * 1 ≤ _; omega) rfl (fun A48 cc48 => ?_)
                refine L.nil (QE.m (by kernel_rfl) ?_)
                refine LM.f 8 rfl (by kernel_rfl) trivial ?_
                refine L.step (Ev.pure rfl) rfl ?_
                refine L.nil (QE.m (by kernel_rfl) ?_)
                refine LM.nil (by kernel_rfl) trivial ?_
                refine QE.joined ((A48, cc48)) (by exact trivial) (by exact Le.mk' (rs := [0, 1, 2, 3]) (hs := [1]) ⟨rfl, rfl, rfl, trivial⟩ ⟨rfl, rfl, rfl, rfl, trivial⟩ ⟨rfl, trivial⟩ (by decide))
              · skip
                refine L.call (js := []) (js' := []) (two21_c (chgN a b a.length).length (by omega)) rfl rfl rfl (by decide) trivial rfl ?_
                rintro _ _ _ ⟨A47, rfl, rfl, rfl⟩
                refine L.nil (QE.m (by kernel_rfl) ?_)
                refine LM.f 3 rfl (by kernel_rfl) ⟨Has.r 0 rfl, Has.r 1 rfl, Has.r 2 rfl, Has.r 3 rfl, trivial⟩ ?_
                refine L.lit rfl rfl rfl rfl rfl (by rfl) (by rfl) (by rfl) rfl rfl (fun A44 => ?_)
                refine L.nil (QE.m (by kernel_rfl) ?_)
                refine LM.cut [] (by kernel_rfl) ⟨Has.r 0 rfl, Has.r 1 rfl, Has.r 2 rfl, Has.r 3 rfl, trivial⟩ ?_
                refine LM.f 7 rfl (by kernel_rfl) trivial ?_
                refine L.append (j := 1) rfl rfl rfl rfl (by decide) rfl rfl rfl rfl (Src.o 0 rfl) (by rfl) (U8_one _) (by omega) (by show _ * 1 ≤ _; omega) rfl (fun A48 cc48 => ?_)
                refine L.nil (QE.m (by kernel_rfl) ?_)
                refine LM.f 8 rfl (by kernel_rfl) trivial ?_
                refine L.step (Ev.pure rfl) rfl ?_
                refine L.nil (QE.m (by kernel_rfl) ?_)
                refine LM.nil (by kernel_rfl) trivial ?_
                refine QE.joined ((A48, cc48)) (by exact trivial) (by exact Le.mk' (rs := [0, 1, 2, 3]) (hs := [1]) ⟨rfl, rfl, rfl, trivial⟩ ⟨rfl, rfl, rfl, rfl, trivial⟩ ⟨rfl, trivial⟩ (by decide))
            · skip
              rintro ⟨A48, cc48⟩ _
              dsimp only
              refine QE.seq ?_
              refine C.seq ?_
              refine C.seq ?_
              refine C.region ?_
              refine L.step (Ev.pure rfl) rfl ?_
              refine L.nil ?_
              refine QE.seq ?_
              refine C.block ?_
              refine C.loop (fun q : Nat × Option Addr × Nat => [(1, ptrOf A1 0), (4, .slice O (chgN a b a.length).length oc), (5, .slice q.2.1 (recP (UInt8.ofInt sec) a (chgN a b a.length) q.1).length q.2.2), (6, .int .i64 (q.1 : Int))]) (fun q : Nat × Option Addr × Nat => [Rd O (rangesV (chgN a b a.length)), Rd A1 [.int .i64 sec, .slice SA a.length ca, .slice SB b.length cb], Rd SA (U8 a), Rd SB (U8 b)]) (fun q : Nat × Option Addr × Nat => [Own 5 1 q.2.1 (recP (UInt8.ofInt sec) a (chgN a b a.length) q.1).length q.2.2 (U8 (recP (UInt8.ofInt sec) a (chgN a b a.length) q.1))]) (fun q : Nat × Option Addr × Nat => q.1 ≤ (chgN a b a.length).length) (fun q : Nat × Option Addr × Nat => (chgN a b a.length).length - q.1) (0, A48, cc48) (Nat.zero_le _) (by exact Le.mk' (rs := [0, 1, 2, 3]) (hs := [0]) ⟨rfl, rfl, rfl, rfl, trivial⟩ ⟨rfl, rfl, rfl, rfl, trivial⟩ ⟨rfl, trivial⟩ (by decide)) ?_
              rintro ⟨k, A, c⟩ hk
              dsimp only at hk ⊢
              have hpl := recP_len (x := (UInt8.ofInt sec)) (a := a) (b := b) k
              have hpe := recP_len (x := (UInt8.ofInt sec)) (a := a) (b := b) (chgN a b a.length).length
              refine C.seq ?_
              refine C.seq ?_
              refine C.region ?_
              refine L.step (Ev.pure rfl) rfl ?_
              refine L.step (Ev.pure rfl) rfl ?_
              refine L.step (Ev.pure rfl) rfl ?_
              refine L.step (Ev.pure rfl) rfl ?_
              refine L.nil ?_
              refine QE.seq ?_
              refine C.condB 52 rfl (fun hc52 => ?_) (fun hc52 => ?_)
              · skip
                replace hc52 := of_decide_eq_true hc52
                have hk2 : k < (chgN a b a.length).length := by omega
                have hr := chgN_getD hk2
                refine C.skip ?_
                refine QE.seq ?_
                refine C.seq ?_
                refine C.block ?_
                refine C.seq ?_
                refine C.region ?_
                refine L.step (Ev.pure rfl) rfl ?_
                refine L.step (Ev.pure rfl) rfl ?_
                refine L.step (Ev.pure rfl) rfl ?_
                refine L.step (Ev.idx (k := k) (m := k * 2) rfl rfl rfl rfl rfl rfl hk2 (Src.r 0 rfl) (ranges_pos hk2) rfl) rfl ?_
                refine L.step (Ev.fieldAddr rfl rfl rfl rfl rfl rfl (Src.r 0 rfl) (ranges_pos hk2) rfl) rfl ?_
                refine L.step (Ev.load rfl rfl rfl (Src.r 0 rfl) ((rangesV_get (chgN a b a.length) k 0 hk2 (by decide)).trans rfl)) rfl ?_
                refine L.call (js := []) (js' := [0]) (two21_c ((chgN a b a.length).getD k (0, 0)).1 (by omega)) rfl rfl rfl (by decide) trivial rfl ?_
                rintro _ _ _ ⟨A61, rfl, rfl, rfl⟩
                refine L.append (j := 1) rfl rfl rfl rfl (by decide) rfl rfl rfl rfl (Src.o 0 rfl) (by rfl) (U8_one _) (by omega) (by show _ * 1 ≤ _; omega) rfl (fun A62 cc62 => ?_)
                refine L.step (Ev.pure rfl) rfl ?_
                refine L.nil ?_
                refine QE.seq ?_
                refine C.seq ?_
                refine C.regionM [Rd O (rangesV (chgN a b a.length)), Rd A1 [.int .i64 sec, .slice SA a.length ca, .slice SB b.length cb], Rd SA (U8 a), Rd SB (U8 b)] ⟨Has.r 0 rfl, Has.r 1 rfl, Has.r 2 rfl, Has.r 3 rfl, trivial⟩ ?_
                refine LM.q 0 rfl (by kernel_rfl) (Ev.pure rfl) rfl ⟨Has.r 0 rfl, Has.r 1 rfl, Has.r 2 rfl, Has.r 3 rfl, trivial⟩ ?_
                refine LM.q 1 rfl (by kernel_rfl) (Ev.pure rfl) rfl ⟨Has.r 0 rfl, Has.r 1 rfl, Has.r 2 rfl, Has.r 3 rfl, trivial⟩ ?_
                refine LM.q 2 rfl (by kernel_rfl) (Ev.pure rfl) rfl ⟨Has.r 0 rfl, Has.r 1 rfl, Has.r 2 rfl, Has.r 3 rfl, trivial⟩ ?_
                refine LM.q 3 rfl (by kernel_rfl) (Ev.idx (k := k) (m := k * 2) rfl rfl rfl rfl rfl rfl hk2 (Src.r 0 rfl) (ranges_pos hk2) rfl) rfl ⟨Has.r 0 rfl, Has.r 1 rfl, Has.r 2 rfl, Has.r 3 rfl, trivial⟩ ?_
                refine LM.q 4 rfl (by kernel_rfl) (Ev.fieldAddr rfl rfl rfl rfl rfl rfl (Src.r 0 rfl) (ranges_pos hk2) rfl) rfl ⟨Has.r 0 rfl, Has.r 1 rfl, Has.r 2 rfl, Has.r 3 rfl, trivial⟩ ?_
                refine LM.q 5 rfl (by kernel_rfl) (Ev.load rfl rfl rfl (Src.r 0 rfl) ((rangesV_get (chgN a b a.length) k 1 hk2 (by decide)).trans rfl)) rfl ⟨Has.r 0 rfl, Has.r 1 rfl, Has.r 2 rfl, Has.r 3 rfl, trivial⟩ ?_
                refine LM.q 6 rfl (by kernel_rfl) (Ev.pure rfl) rfl ⟨Has.r 0 rfl, Has.r 1 rfl, Has.r 2 rfl, Has.r 3 rfl, trivial⟩ ?_
                refine LM.f 7 rfl (by kernel_rfl) ⟨Has.r 0 rfl, Has.r 1 rfl, Has.r 2 rfl, Has.r 3 rfl, trivial⟩ ?_
                refine L.step (Ev.pure rfl) rfl ?_
                refine L.nil (QE.m (by kernel_rfl) ?_)
                refine LM.f 8 rfl (by kernel_rfl) ⟨Has.r 0 rfl, Has.r 1 rfl, Has.r 2 rfl, Has.r 3 rfl, trivial⟩ ?_
                refine L.step (Ev.idx (k := k) (m := k * 2) rfl rfl rfl rfl rfl rfl hk2 (Src.r 0 rfl) (ranges_pos hk2) rfl) rfl ?_
                refine L.nil (QE.m (by kernel_rfl) ?_)
                refine LM.f 9 rfl (by kernel_rfl) ⟨Has.r 0 rfl, Has.r 1 rfl, Has.r 2 rfl, Has.r 3 rfl, trivial⟩ ?_
                refine L.step (Ev.fieldAddr rfl rfl rfl rfl rfl rfl (Src.r 0 rfl) (ranges_pos hk2) rfl) rfl ?_
                refine L.nil (QE.m (by kernel_rfl) ?_)
                refine LM.f 10 rfl (by kernel_rfl) ⟨Has.r 0 rfl, Has.r 1 rfl, Has.r 2 rfl, Has.r 3 rfl, trivial⟩ ?_
                refine L.step (Ev.load rfl rfl rfl (Src.r 0 rfl) ((rangesV_get (chgN a b a.length) k 0 hk2 (by decide)).trans rfl)) rfl ?_
                refine L.nil (QE.m (by kernel_rfl) ?_)
                refine LM.f 11 rfl (by kernel_rfl) ⟨Has.r 0 rfl, Has.r 1 rfl, Has.r 2 rfl, Has.r 3 rfl, trivial⟩ ?_
                refine L.step (Ev.cast (u := .int .i64 ((((chgN a b a.length).getD k (0, 0)).2 - ((chgN a b a.length).getD k (0, 0)).1 : Nat) : Int)) (Ev.sub rfl rfl (by omega) (by omega)) (congrArg (Value.int .i64) (by omega))) rfl ?_
                refine L.nil (QE.m (by kernel_rfl) ?_)
                refine LM.f 12 rfl (by kernel_rfl) ⟨Has.r 0 rfl, Has.r 1 rfl, Has.r 2 rfl, Has.r 3 rfl, trivial⟩ ?_
                refine L.call (js := []) (js' := [0, 1]) (two21_c (((chgN a b a.length).getD k (0, 0)).2 - ((chgN a b a.length).getD k (0, 0)).1) (by omega)) rfl rfl rfl (by decide) trivial rfl ?_
                rintro _ _ _ ⟨A75, rfl, rfl, rfl⟩
                refine L.nil (QE.m (by kernel_rfl) ?_)
                refine LM.cut [] (by kernel_rfl) ⟨Has.r 0 rfl, Has.r 1 rfl, Has.r 2 rfl, Has.r 3 rfl, trivial⟩ ?_
                refine LM.f 13 rfl (by kernel_rfl) trivial ?_
                refine L.append (j := 2) rfl rfl rfl rfl (by decide) rfl rfl rfl rfl (Src.o 0 rfl) (by rfl) (U8_one _) (by omega) (by show _ * 1 ≤ _; omega) rfl (fun A76 cc76 => ?_)
                refine L.nil (QE.m (by kernel_rfl) ?_)
                refine LM.f 14 rfl (by kernel_rfl) trivial ?_
                refine L.step (Ev.pure rfl) rfl ?_
                refine L.nil (QE.m (by kernel_rfl) ?_)
                refine LM.nil (by kernel_rfl) trivial ?_
                refine QE.seq ?_
                refine C.regionM [Rd O (rangesV (chgN a b a.length)), Rd A1 [.int .i64 sec, .slice SA a.length ca, .slice SB b.length cb], Rd SA (U8 a), Rd SB (U8 b)] ⟨Has.r 0 rfl, Has.r 1 rfl, Has.r 2 rfl, Has.r 3 rfl, trivial⟩ ?_
                refine LM.q 0 rfl (by kernel_rfl) (Ev.pure rfl) rfl ⟨Has.r 0 rfl, Has.r 1 rfl, Has.r 2 rfl, Has.r 3 rfl, trivial⟩ ?_
                refine LM.q 1 rfl (by kernel_rfl) (Ev.fieldAddr rfl rfl rfl rfl rfl rfl (Src.r 1 rfl) (Nat.zero_lt_succ _) rfl) rfl ⟨Has.r 0 rfl, Has.r 1 rfl, Has.r 2 rfl, Has.r 3 rfl, trivial⟩ ?_
                refine LM.q 2 rfl (by kernel_rfl) (Ev.load rfl rfl rfl (Src.r 1 rfl) rfl) rfl ⟨Has.r 0 rfl, Has.r 1 rfl, Has.r 2 rfl, Has.r 3 rfl, trivial⟩ ?_
                refine LM.q 3 rfl (by kernel_rfl) (Ev.pure rfl) rfl ⟨Has.r 0 rfl, Has.r 1 rfl, Has.r 2 rfl, Has.r 3 rfl, trivial⟩ ?_
                refine LM.q 4 rfl (by kernel_rfl) (Ev.pure rfl) rfl ⟨Has.r 0 rfl, Has.r 1 rfl, Has.r 2 rfl, Has.r 3 rfl, trivial⟩ ?_
                refine LM.q 5 rfl (by kernel_rfl) (Ev.idx (k := k) (m := k * 2) rfl rfl rfl rfl rfl rfl hk2 (Src.r 0 rfl) (ranges_pos hk2) rfl) rfl ⟨Has.r 0 rfl, Has.r 1 rfl, Has.r 2 rfl, Has.r 3 rfl, trivial⟩ ?_
                refine LM.q 6 rfl (by kernel_rfl) (Ev.fieldAddr rfl rfl rfl rfl rfl rfl (Src.r 0 rfl) (ranges_pos hk2) rfl) rfl ⟨Has.r 0 rfl, Has.r 1 rfl, Has.r 2 rfl, Has.r 3 rfl, trivial⟩ ?_
                refine LM.q 7 rfl (by kernel_rfl) (Ev.load rfl rfl rfl (Src.r 0 rfl) ((rangesV_get (chgN a b a.length) k 0 hk2 (by decide)).trans rfl)) rfl ⟨Has.r 0 rfl, Has.r 1 rfl, Has.r 2 rfl, Has.r 3 rfl, trivial⟩ ?_
                refine LM.q 8 rfl (by kernel_rfl) (Ev.pure rfl) rfl ⟨Has.r 0 rfl, Has.r 1 rfl, Has.r 2 rfl, Has.r 3 rfl, trivial⟩ ?_
                refine LM.f 9 rfl (by kernel_rfl) ⟨Has.r 0 rfl, Has.r 1 rfl, Has.r 2 rfl, Has.r 3 rfl, trivial⟩ ?_
                refine L.step (Ev.pure rfl) rfl ?_
                refine L.nil (QE.m (by kernel_rfl) ?_)
                refine LM.f 10 rfl (by kernel_rfl) ⟨Has.r 0 rfl, Has.r 1 rfl, Has.r 2 rfl, Has.r 3 rfl, trivial⟩ ?_
                refine L.step (Ev.idx (k := k) (m := k * 2) rfl rfl rfl rfl rfl rfl hk2 (Src.r 0 rfl) (ranges_pos hk2) rfl) rfl ?_
                refine L.nil (QE.m (by kernel_rfl) ?_)
                refine LM.f 11 rfl (by kernel_rfl) ⟨Has.r 0 rfl, Has.r 1 rfl, Has.r 2 rfl, Has.r 3 rfl, trivial⟩ ?_
                refine L.step (Ev.fieldAddr rfl rfl rfl rfl rfl rfl (Src.r 0 rfl) (ranges_pos hk2) rfl) rfl ?_
                refine L.nil (QE.m (by kernel_rfl) ?_)
                refine LM.f 12 rfl (by kernel_rfl) ⟨Has.r 0 rfl, Has.r 1 rfl, Has.r 2 rfl, Has.r 3 rfl, trivial⟩ ?_
                refine L.step (Ev.load rfl rfl rfl (Src.r 0 rfl) ((rangesV_get (chgN a b a.length) k 1 hk2 (by decide)).trans rfl)) rfl ?_
                refine L.nil (QE.m (by kernel_rfl) ?_)
                refine LM.f 13 rfl (by kernel_rfl) ⟨Has.r 0 rfl, Has.r 1 rfl, Has.r 2 rfl, Has.r 3 rfl, trivial⟩ ?_
                refine L.step (Ev.sliceLH (l := ((chgN a b a.length).getD k (0, 0)).1) (h := ((chgN a b a.length).getD k (0, 0)).2) rfl rfl rfl rfl rfl rfl rfl rfl (by omega) (by omega)) rfl ?_
                refine L.nil (QE.m (by kernel_rfl) ?_)
                refine LM.cut [] (by kernel_rfl) ⟨Has.r 0 rfl, Has.r 1 rfl, Has.r 2 rfl, Has.r 3 rfl, trivial⟩ ?_
                refine LM.f 14 rfl (by kernel_rfl) trivial ?_
                refine L.append (j := 2) rfl rfl rfl rfl (by decide) rfl rfl rfl rfl (Src.cast (Src.take (Src.sub (Src.r 2 rfl) ca ((chgN a b a.length).getD k (0, 0)).1 1 (by rw [U8_len]; omega)) (((chgN a b a.length).getD k (0, 0)).2 - ((chgN a b a.length).getD k (0, 0)).1)) (by rw [Nat.mul_one, U8_drop, U8_take])) (by rw [U8_len, List.length_take, List.length_drop]; show _ = _ * 1; rw [Nat.mul_one]; omega) (U8_one _) (by omega) (by show _ * 1 ≤ _; omega) rfl (fun A91 cc91 => ?_)
                refine L.nil (QE.m (by kernel_rfl) ?_)
                refine LM.f 15 rfl (by kernel_rfl) trivial ?_
                refine L.step (Ev.pure rfl) rfl ?_
                refine L.nil (QE.m (by kernel_rfl) ?_)
                refine LM.nil (by kernel_rfl) trivial ?_
                refine QE.blkN ?_
                refine QE.seq ?_
                refine C.region ?_
                refine L.step (Ev.pure rfl) rfl ?_
                refine L.step (Ev.add rfl rfl (by omega) (by omega)) rfl ?_
                refine L.step (Ev.pure rfl) rfl ?_
                refine L.nil ?_
                refine QE.round (i := (k, A, c)) ((k + 1, A91, cc91)) (by dsimp only; omega) (by dsimp only; omega) (by exact Le.mk' (rs := [0, 1, 2, 3]) (hs := [2]) ⟨rfl, rfl, (by dsimp only; rw [← rec_l hk2]; rfl), rfl, trivial⟩ ⟨rfl, rfl, rfl, rfl, trivial⟩ ⟨(congrArg some (own_eq (rec_l hk2) (rec_u hk2))), trivial⟩ (by decide))
              · skip
                replace hc52 := of_decide_eq_false hc52
                refine C.exit ?_
                refine QE.tX ?_
                refine QE.tX ?_
                refine QE.blk ?_
                refine QE.seq ?_
                refine C.seq ?_
                refine C.region ?_
                refine L.step (Ev.pure rfl) rfl ?_
                refine L.step (Ev.pure rfl) rfl ?_
                refine L.step (Ev.pure rfl) rfl ?_
                refine L.step (Ev.cast (u := .int .i64 (((recP (UInt8.ofInt sec) a (chgN a b a.length) k).length + 2 : Nat) : Int)) (Ev.add rfl rfl (by omega) (by omega)) (congrArg (Value.int .i64) (by omega))) rfl ?_
                refine L.call (js := []) (js' := [0]) (two21_c ((recP (UInt8.ofInt sec) a (chgN a b a.length) k).length + 2) (by omega)) rfl rfl rfl (by decide) trivial rfl ?_
                rintro _ _ _ ⟨A96, rfl, rfl, rfl⟩
                refine L.append (j := 1) rfl rfl rfl rfl (by decide) rfl rfl rfl rfl (Src.o 0 rfl) (by rfl) (U8_one _) (by omega) (by show _ * 1 ≤ _; omega) rfl (fun A97 cc97 => ?_)
                refine L.step (Ev.pure rfl) rfl ?_
                refine L.step (Ev.pure rfl) rfl ?_
                refine L.nil ?_
                refine QE.seq ?_
                refine C.ret ?_
                refine QE.ret (js := []) (hs := [1]) (vs := [_, _]) rfl ⟨rfl, rfl, trivial⟩ (by decide) ?_
                obtain rfl : k = (chgN a b a.length).length := by omega
                refine ⟨A97, cc97, ?_, rfl, ?_⟩
                · rw [recE_ok hB, recS_ok hB]; unfold recB; rw [List.length_append]; rfl
                · rw [recS_ok hB]; unfold recB; rw [← U8_app, List.length_append]; rfl

end Go.Proofs.Ythfjkdgopkmgoaa
