/-
  Words and bytes, in the program.
-/
import Derived.Test.YtbkmahjhhncfcaaGreatQWLaC
namespace Go.Proofs.YtbkmahjhhncfcaaGreat
open Go.Sl

set_option maxHeartbeats 1000000 in
theorem words_c (B : Option Addr) (b : List UInt8) (bc : Nat) (hb : b.length ≤ bc) (hl : b.length ≤ 1000000) :
   Ctr X 63 [.slice B b.length bc] [Rd B (U8 b)] [] (fun v R' H' => ∃ (A : Option Addr) (c : Nat), v = .tuple #[.slice A (wordsR b).length c, .int .i64 (wordsE b)] ∧ R' = [] ∧ H' = [Own 73 1 A (wordsR b).length c (N32 (wordsR b))]) := by
 refine Ctr.of (X := X) (fn := Tryz.f63) Tryz.func63 rfl (by kernel_rfl) rfl ?_
 intro β
 refine C.seq (C.region ?_); refine Lpu rfl rfl ?_; refine Lpu rfl rfl ?_; refine L.nil (QE.seq (C.seq (C.seq (C.region ?_)))); refine Lpu rfl rfl ?_; refine Lpu rfl rfl ?_; refine L.step (Ev.rem rfl rfl (by omega) (by decide)) rfl ?_; refine Lpu rfl rfl ?_; refine L.nil (QE.seq ?_)
 refine C.condB 8 rfl (fun hc8 => ?_) (fun hc8 => ?_)
 ·
  replace hc8 := b_ne hc8
  refine C.seq (C.region ?_); refine Lpu rfl rfl ?_; refine Lpu rfl rfl ?_; refine L.nil (QE.seq (C.ret (QE.tR ?_))); refine QE.nil_own 73 1 ?_; refine QE.ret (js := []) (hs := [0]) (vs := [_, _]) rfl ⟨rfl, rfl, trivial⟩ (by decide) ?_
  refine ⟨none, 0, ?_, rfl, ?_⟩
  · unfold wordsR wordsE
    rw [if_neg (by omega), if_neg (by omega)]
    rfl
  · unfold wordsR
    rw [if_neg (by omega)]
    rfl
 ·
  replace hc8 := b_eq hc8
  refine C.skip (QE.seq (C.seq (C.region ?_))); refine Lpu rfl rfl ?_; refine L.nil (QE.seq (C.seq (C.block ?_)))
  have hm4 : b.length % 4 = 0 := by omega
  refine C.nil_own 73 1 ?_; refine C.loop (fun q : Nat × Option Addr × List UInt8 × Nat × Option Addr × Nat => [(0, .slice q.2.1 q.2.2.1.length q.2.2.2.1), (4, .slice q.2.2.2.2.1 (wordsN b q.1).length q.2.2.2.2.2)]) (fun q : Nat × Option Addr × List UInt8 × Nat × Option Addr × Nat => [Rd q.2.1 (U8 q.2.2.1)]) (fun q : Nat × Option Addr × List UInt8 × Nat × Option Addr × Nat => [Own 73 1 q.2.2.2.2.1 (wordsN b q.1).length q.2.2.2.2.2 (N32 (wordsN b q.1))]) (fun q : Nat × Option Addr × List UInt8 × Nat × Option Addr × Nat => q.2.2.1 = b.drop (4 * q.1) ∧ 4 * q.1 ≤ b.length ∧ q.2.2.1.length ≤ q.2.2.2.1) (fun q : Nat × Option Addr × List UInt8 × Nat × Option Addr × Nat => b.length - 4 * q.1) (0, B, b, bc, none, 0) ⟨rfl, Nat.zero_le _, hb⟩ (by exact Le.mk' (rs := [0]) (hs := [0]) ⟨rfl, rfl, trivial⟩ ⟨rfl, trivial⟩ ⟨rfl, trivial⟩ (by decide)) ?_
  rintro ⟨i, S, l, c, O, oc⟩ ⟨hl1, hi, hc⟩
  dsimp only at hl1 hi hc ⊢
  have hll : l.length = b.length - 4 * i := by rw [hl1, List.length_drop]
  have hwl := wordsN_len b i
  refine C.seq (C.seq (C.region ?_)); refine Lpu rfl rfl ?_; refine Lpu rfl rfl ?_; refine Lpu rfl rfl ?_; refine L.nil (QE.seq ?_)
  refine C.condB 11 rfl (fun hc11 => ?_) (fun hc11 => ?_)
  ·
   replace hc11 := of_decide_eq_true hc11
   have hx0 := UInt8.toNat_lt (l.getD 0 0)
   have hx1 := UInt8.toNat_lt (l.getD 1 0)
   have hx2 := UInt8.toNat_lt (l.getD 2 0)
   have hx3 := UInt8.toNat_lt (l.getD 3 0)
   refine C.skip (QE.seq (C.seq (C.block ?_))); refine C.regionM [Rd S (U8 l)] (Hq [0] rfl) ?_; refine LM.q 0 rfl (by kernel_rfl) (Ev.pure rfl) rfl (Hq [0] rfl) ?_; refine LM.q 1 rfl (by kernel_rfl) (Ev.pure rfl) rfl (Hq [0] rfl) ?_; refine LM.q 2 rfl (by kernel_rfl) (Ev.idx1 (k := 0) rfl rfl rfl rfl rfl rfl rfl (by omega) (Src.r 0 rfl) (by rw [U8_len]; omega)) rfl (Hq [0] rfl) ?_; refine LM.q 3 rfl (by kernel_rfl) (Ev.load rfl rfl rfl (Src.r 0 rfl) (U8_get (by omega))) rfl (Hq [0] rfl) ?_; refine LM.q 4 rfl (by kernel_rfl) (Ev.toU32 (q := (l.getD 0 0).toNat) rfl rfl rfl rfl (by omega)) rfl (Hq [0] rfl) ?_; refine LM.q 5 rfl (by kernel_rfl) (Ev.shl32 (k := 24) (q := (l.getD 0 0).toNat * 16777216) rfl rfl rfl (by decide) rfl (by omega)) rfl (Hq [0] rfl) ?_; refine LM.q 6 rfl (by kernel_rfl) (Ev.pure rfl) rfl (Hq [0] rfl) ?_; refine LM.q 7 rfl (by kernel_rfl) (Ev.idx1 (k := 1) rfl rfl rfl rfl rfl rfl rfl (by omega) (Src.r 0 rfl) (by rw [U8_len]; omega)) rfl (Hq [0] rfl) ?_; refine LM.q 8 rfl (by kernel_rfl) (Ev.load rfl rfl rfl (Src.r 0 rfl) (U8_get (by omega))) rfl (Hq [0] rfl) ?_; refine LM.q 9 rfl (by kernel_rfl) (Ev.toU32 (q := (l.getD 1 0).toNat) rfl rfl rfl rfl (by omega)) rfl (Hq [0] rfl) ?_; refine LM.q 10 rfl (by kernel_rfl) (Ev.shl32 (k := 16) (q := (l.getD 1 0).toNat * 65536) rfl rfl rfl (by decide) rfl (by omega)) rfl (Hq [0] rfl) ?_; refine LM.q 11 rfl (by kernel_rfl) (Ev.beside32 24 (p := 16777216) rfl (c := (l.getD 0 0).toNat) (q := (l.getD 0 0).toNat * 16777216 + (l.getD 1 0).toNat * 65536) rfl rfl rfl (by omega) (by omega) (by omega) rfl) rfl (Hq [0] rfl) ?_; refine LM.q 12 rfl (by kernel_rfl) (Ev.pure rfl) rfl (Hq [0] rfl) ?_; refine LM.q 13 rfl (by kernel_rfl) (Ev.idx1 (k := 2) rfl rfl rfl rfl rfl rfl rfl (by omega) (Src.r 0 rfl) (by rw [U8_len]; omega)) rfl (Hq [0] rfl) ?_; refine LM.q 14 rfl (by kernel_rfl) (Ev.load rfl rfl rfl (Src.r 0 rfl) (U8_get (by omega))) rfl (Hq [0] rfl) ?_; refine LM.q 15 rfl (by kernel_rfl) (Ev.toU32 (q := (l.getD 2 0).toNat) rfl rfl rfl rfl (by omega)) rfl (Hq [0] rfl) ?_; refine LM.q 16 rfl (by kernel_rfl) (Ev.shl32 (k := 8) (q := (l.getD 2 0).toNat * 256) rfl rfl rfl (by decide) rfl (by omega)) rfl (Hq [0] rfl) ?_; refine LM.q 17 rfl (by kernel_rfl) (Ev.beside32 16 (p := 65536) rfl (c := (l.getD 0 0).toNat * 256 + (l.getD 1 0).toNat) (q := (l.getD 0 0).toNat * 16777216 + (l.getD 1 0).toNat * 65536 + (l.getD 2 0).toNat * 256) rfl rfl (by omega) (by omega) (by omega) (by omega) rfl) rfl (Hq [0] rfl) ?_; refine LM.f 18 rfl (by kernel_rfl) (Hq [0] rfl) ?_; refine Lpu rfl rfl ?_
   refine L.nil (QE.m (by kernel_rfl) ?_)
   refine LM.f 19 rfl (by kernel_rfl) (Hq [0] rfl) ?_; refine L.step (Ev.idx1 (k := 3) rfl rfl rfl rfl rfl rfl rfl (by omega) (Src.r 0 rfl) (by rw [U8_len]; omega)) rfl ?_
   refine L.nil (QE.m (by kernel_rfl) ?_)
   refine LM.f 20 rfl (by kernel_rfl) (Hq [0] rfl) ?_; refine L.step (Ev.load rfl rfl rfl (Src.r 0 rfl) (U8_get (by omega))) rfl ?_
   refine L.nil (QE.m (by kernel_rfl) ?_)
   refine LM.f 21 rfl (by kernel_rfl) (Hq [0] rfl) ?_; refine L.step (Ev.toU32 (q := (l.getD 3 0).toNat) rfl rfl rfl rfl (by omega)) rfl ?_
   refine L.nil (QE.m (by kernel_rfl) ?_)
   refine LM.f 22 rfl (by kernel_rfl) (Hq [0] rfl) ?_; refine L.step (Ev.beside32 8 (p := 256) rfl (c := (l.getD 0 0).toNat * 65536 + (l.getD 1 0).toNat * 256 + (l.getD 2 0).toNat) (q := w4 b i) rfl rfl (by omega) (by omega) (by omega) (by omega) (w4_zero hl1)) rfl ?_
   refine L.nil (QE.m (by kernel_rfl) ?_)
   refine LM.f 23 rfl (by kernel_rfl) (Hq [0] rfl) ?_
   refine L.lit rfl rfl rfl rfl rfl (by rfl) (by rfl) (by rfl) rfl rfl (fun A37 => ?_)
   refine L.nil (QE.m (by kernel_rfl) ?_)
   refine LM.cut [] (by kernel_rfl) (Hq [0] rfl) ?_; refine LM.f 24 rfl (by kernel_rfl) trivial ?_
   refine L.append (j := 0) rfl rfl rfl rfl (by decide) rfl rfl rfl rfl (Src.o 1 rfl) rfl (N32_one [w4 b i]) (by omega) (by show _ * 4 ≤ _; omega) rfl (fun A38 cc38 => ?_)
   refine L.nil (QE.m (by kernel_rfl) ?_)
   refine LM.f 25 rfl (by kernel_rfl) trivial ?_; refine Lpu rfl rfl ?_
   refine L.nil (QE.m (by kernel_rfl) ?_)
   refine LM.nil (by kernel_rfl) trivial ?_; refine QE.blkN ?_; refine QE.seq (C.region ?_); refine Lpu rfl rfl ?_; refine L.step (Ev.sliceL (l := 4) rfl rfl rfl rfl rfl rfl (by omega)) rfl ?_; refine Lpu rfl rfl ?_; refine L.nil ?_; refine QE.more (r := Rd (subA S c 4 1) (U8 (l.drop 4))) (Has.dropU2 (Has.r 0 rfl) c 4 hc) ?_
   refine QE.round (i := (i, S, l, c, O, oc)) ((i + 1, subA S c 4 1, l.drop 4, c - 4, A38, cc38)) (by exact ⟨by dsimp only; rw [hl1, List.drop_drop, Nat.mul_succ], by dsimp only; omega, by dsimp only; rw [List.length_drop]; omega⟩) (by dsimp only; omega) (by exact Le.mk' (rs := [0]) (hs := [0]) ⟨(by dsimp only; rw [List.length_drop]; rfl), (by dsimp only; rw [wordsN_succ, List.length_append]; rfl), trivial⟩ ⟨rfl, trivial⟩ ⟨(congrArg some (own_eq2 (by dsimp only; rw [wordsN_succ, List.length_append]; rfl) (by dsimp only; rw [wordsN_succ, ← N32_app]; rfl))), trivial⟩ (by decide))
  ·
   replace hc11 := of_decide_eq_false hc11
   refine C.exit ?_; refine QE.tX ?_; refine QE.tX ?_; refine QE.blk ?_; refine QE.seq (C.seq (C.region ?_)); refine Lpu rfl rfl ?_; refine Lpu rfl rfl ?_; refine Lpu rfl rfl ?_; refine L.nil (QE.seq (C.ret ?_)); refine QE.ret (js := []) (hs := [0]) (vs := [_, _]) rfl ⟨rfl, rfl, trivial⟩ (by decide) ?_
   have hi4 : i = b.length / 4 := by omega
   subst hi4
   refine ⟨O, oc, ?_, rfl, ?_⟩
   · unfold wordsR wordsE
     rw [if_pos hm4, if_pos hm4]
     rfl
   · unfold wordsR
     rw [if_pos hm4]
     rfl

set_option maxHeartbeats 1000000 in
theorem bytes_c (LA : Option Addr) (l : List Nat) (lc : Nat) (hl : l.length ≤ 1000000) (hw : W32 l) :
   Ctr X 72 [.slice LA l.length lc] [Rd LA (N32 l)] [] (fun v R' H' => ∃ (A : Option Addr) (c : Nat), v = .slice A (bytesF l).length c ∧ R' = [] ∧ H' = [Own 5 1 A (bytesF l).length c (U8 (bytesF l))]) := by
 refine Ctr.of (X := X) (fn := Tryz.f72) Tryz.func72 rfl (by kernel_rfl) rfl ?_
 intro β
 refine C.seq (C.region ?_); refine Lpu rfl rfl ?_; refine L.nil (QE.seq (C.seq (C.region ?_))); refine Lpu rfl rfl ?_; refine L.nil (QE.seq (C.seq (C.seq (C.region ?_)))); refine Lpu rfl rfl ?_; refine Lpu rfl rfl ?_; refine Lpu rfl rfl ?_; refine L.nil (QE.seq (C.block ?_)); refine C.nil_own 5 1 ?_; refine C.loop (fun q : Nat × Option Addr × Nat => [(7, .slice LA l.length lc), (8, .int .i64 (l.length : Int)), (9, .int .i64 (q.1 : Int)), (3, .slice q.2.1 (bytesF (l.take q.1)).length q.2.2)]) (fun q : Nat × Option Addr × Nat => [Rd LA (N32 l)]) (fun q : Nat × Option Addr × Nat => [Own 5 1 q.2.1 (bytesF (l.take q.1)).length q.2.2 (U8 (bytesF (l.take q.1)))]) (fun q : Nat × Option Addr × Nat => q.1 ≤ l.length) (fun q : Nat × Option Addr × Nat => l.length - q.1) (0, none, 0) (Nat.zero_le _) (by exact Le.mk' (rs := [0]) (hs := [0]) ⟨rfl, rfl, rfl, rfl, trivial⟩ ⟨rfl, trivial⟩ ⟨rfl, trivial⟩ (by decide)) ?_
 rintro ⟨i, A, c⟩ hi
 dsimp only at hi ⊢
 refine C.seq (C.region ?_); refine Lpu rfl rfl ?_; refine L.nil (QE.seq (C.seq ?_))
 refine C.condB 10 rfl (fun hc10 => ?_) (fun hc10 => ?_)
 ·
  replace hc10 := of_decide_eq_true hc10
  refine C.skip (QE.seq (C.seq (C.block (C.seq (C.region ?_))))); refine L.step (Ev.idx1 (k := i) rfl rfl rfl rfl rfl rfl rfl (by omega) (Src.r 0 rfl) (by rw [N32_len]; omega)) rfl ?_; refine L.step (Ev.load rfl rfl rfl (Src.r 0 rfl) (N32_get (by omega))) rfl ?_; refine Lpu rfl rfl ?_; refine L.nil (QE.seq (C.seq (C.region ?_))); refine Lpu rfl rfl ?_; refine L.nil (QE.seq (C.block ?_))
  obtain ⟨A0, hA0⟩ : ∃ x, x = A := ⟨_, rfl⟩
  obtain ⟨c0, hc0⟩ : ∃ x, x = c := ⟨_, rfl⟩
  refine C.loop (fun q : Nat × Option Addr × Nat => [(7, .slice LA l.length lc), (8, .int .i64 (l.length : Int)), (9, .int .i64 (i : Int)), (5, .int .u32 ((l.getD i 0 : Nat) : Int)), (13, .int .i64 (q.1 : Int)), (3, .slice q.2.1 (bytesF (l.take i) ++ (b4 (l.getD i 0)).take q.1).length q.2.2)]) (fun q : Nat × Option Addr × Nat => [Rd LA (N32 l)]) (fun q : Nat × Option Addr × Nat => [Own 5 1 q.2.1 (bytesF (l.take i) ++ (b4 (l.getD i 0)).take q.1).length q.2.2 (U8 (bytesF (l.take i) ++ (b4 (l.getD i 0)).take q.1))]) (fun q : Nat × Option Addr × Nat => q.1 ≤ 4) (fun q : Nat × Option Addr × Nat => 4 - q.1) (0, A, c) (Nat.zero_le _) (by exact Le.mk' (rs := [0]) (hs := [0]) ⟨rfl, rfl, rfl, rfl, rfl, (by dsimp only; rw [List.take_zero, List.append_nil]; rfl), trivial⟩ ⟨rfl, trivial⟩ ⟨(congrArg some (by dsimp only; rw [List.take_zero, List.append_nil])), trivial⟩ (by decide)) ?_
  rintro ⟨j, A, c⟩ hj
  dsimp only at hj ⊢
  have hol : (bytesF (l.take i) ++ (b4 (l.getD i 0)).take j).length = 4 * i + j := by rw [List.length_append, bytesF_len, List.length_take, List.length_take, show (b4 (l.getD i 0)).length = 4 from rfl]; omega
  refine C.seq (C.region ?_); refine Lpu rfl rfl ?_; refine L.nil (QE.seq (C.seq ?_))
  refine C.condB 14 rfl (fun hc14 => ?_) (fun hc14 => ?_)
  ·
   replace hc14 := of_decide_eq_true hc14
   refine C.skip (QE.seq (C.seq (C.block (C.seq (C.region ?_))))); refine Lpu rfl rfl ?_; refine Lpu rfl rfl ?_; refine L.nil (QE.seq (C.region ?_)); refine Lpu rfl rfl ?_; refine Lpu rfl rfl ?_; refine Lpu rfl rfl ?_; refine L.call (js := []) (js' := [0]) (octet_c (l.getD i 0) j (hw i) (by omega)) rfl rfl rfl (by decide) trivial rfl ?_
   rintro _ _ _ ⟨rfl, rfl, rfl⟩
   refine L.norm (H' := [_]) [0] ⟨rfl, trivial⟩ (by decide) ?_; refine L.step (Ev.toU8 (q := (UInt8.ofNat (octN (l.getD i 0) j)).toNat) rfl rfl rfl rfl (by rw [oct_byte]; have := octN_lt (l.getD i 0) j; omega)) rfl ?_
   refine L.lit rfl rfl rfl rfl rfl (by rfl) (by rfl) (by rfl) rfl rfl (fun A21 => ?_)
   refine L.append (j := 0) rfl rfl rfl rfl (by decide) rfl rfl rfl rfl (Src.o 1 rfl) rfl (U8_one [UInt8.ofNat (octN (l.getD i 0) j)]) (by rw [hol]; omega) (by show _ * 1 ≤ _; omega) rfl (fun A22 cc22 => ?_)
   refine Lpu rfl rfl ?_; refine L.nil ?_; refine QE.blkN ?_; refine QE.seq (C.region ?_); refine L.step (Ev.add rfl rfl (by omega) (by omega)) rfl ?_; refine Lpu rfl rfl ?_; refine L.nil ?_
   have he : (bytesF (l.take i) ++ (b4 (l.getD i 0)).take (j + 1)) = (bytesF (l.take i) ++ (b4 (l.getD i 0)).take j) ++ [UInt8.ofNat (octN (l.getD i 0) j)] := by rw [b4_take _ (by omega), List.append_assoc]
   refine QE.round (i := (j, A, c)) ((j + 1, A22, cc22)) (by dsimp only; omega) (by dsimp only; omega) (by exact Le.mk' (rs := [0]) (hs := [0]) ⟨rfl, rfl, rfl, rfl, rfl, (by dsimp only; rw [he]; simp only [List.length_append]; rfl), trivial⟩ ⟨rfl, trivial⟩ ⟨(congrArg some (own_eq2 (by dsimp only; rw [he]; simp only [List.length_append]; rfl) (by dsimp only; rw [he]; simp only [← U8_app]; rfl))), trivial⟩ (by decide))
  ·
   replace hc14 := of_decide_eq_false hc14
   refine C.exit ?_; refine QE.tX ?_; refine QE.tX ?_; refine QE.blk ?_; refine QE.blkN ?_; refine QE.seq (C.region ?_); refine L.step (Ev.add rfl rfl (by omega) (by omega)) rfl ?_; refine Lpu rfl rfl ?_; refine L.nil ?_
   obtain rfl : j = 4 := by omega
   have he : bytesF (l.take (i + 1)) = bytesF (l.take i) ++ (b4 (l.getD i 0)).take 4 := by
     rw [take_snoc' l 0 i (by omega), bytesF_app, bytesF_one]
     rfl
   refine QE.round (i := (i, A0, c0)) ((i + 1, A, c)) (by dsimp only; omega) (by dsimp only; omega) (by exact Le.mk' (rs := [0]) (hs := [0]) ⟨rfl, rfl, rfl, (by dsimp only; rw [he]; rfl), trivial⟩ ⟨rfl, trivial⟩ ⟨(congrArg some (by dsimp only; rw [he])), trivial⟩ (by decide))
 ·
  replace hc10 := of_decide_eq_false hc10
  refine C.exit ?_; refine QE.tX ?_; refine QE.tX ?_; refine QE.blk ?_; refine QE.seq (C.seq (C.region ?_)); refine Lpu rfl rfl ?_; refine Lpu rfl rfl ?_; refine L.nil (QE.seq (C.ret ?_)); refine QE.ret (js := []) (hs := [0]) (vs := [_]) rfl ⟨rfl, trivial⟩ (by decide) ?_
  obtain rfl : i = l.length := by omega
  rw [List.take_length]
  exact ⟨A, c, rfl, rfl, rfl⟩

theorem field_c (o : Nat) :
   Ctr X 69 [.int .i64 (o : Int)] [] [] (fun v R' H' => v = .int .u32 ((2 ^ fldF o - 1 : Nat) : Int) ∧ R' = [] ∧ H' = []) := by
 refine Ctr.of (X := X) (fn := Tryz.f69) Tryz.func69 rfl (by kernel_rfl) rfl ?_
 intro β
 refine C.seq (C.region ?_); refine Lpu rfl rfl ?_; refine L.nil (QE.seq (C.seq (C.seq (C.region ?_)))); refine Lpu rfl rfl ?_; refine Lpu rfl rfl ?_; refine Lpu rfl rfl ?_
 refine L.bool 5 rfl (fun hg5 => ?_) (fun hg5 => ?_)
 ·
  replace hg5 := i_eq hg5
  refine L.no rfl rfl rfl ?_; refine L.no rfl rfl rfl ?_; refine Lpu rfl rfl ?_; refine L.nil (QE.seq ?_)
  refine C.cond rfl (fun _ => ?_) (fun h => by cases h)
  refine C.seq (C.region ?_); refine Lpu rfl rfl ?_; refine L.nil (QE.seq (C.ret (QE.tR ?_))); refine QE.ret (js := []) (hs := []) (vs := [_]) rfl ⟨rfl, trivial⟩ (by decide) ?_
  refine ⟨?_, rfl, rfl⟩
  rw [show fldF o = 24 by unfold fldF; rw [if_pos (by omega)]]
  rfl
 ·
  replace hg5 := i_ne hg5
  refine L.yes rfl ?_; refine Lpu rfl rfl ?_; refine L.yes rfl ?_; refine Lpu rfl rfl ?_; refine Lpu rfl rfl ?_; refine L.nil (QE.seq ?_)
  refine C.condB 8 rfl (fun hc8 => ?_) (fun hc8 => ?_)
  ·
   replace hc8 := i_eq hc8
   refine C.seq (C.region ?_); refine Lpu rfl rfl ?_; refine L.nil (QE.seq (C.ret (QE.tR ?_))); refine QE.ret (js := []) (hs := []) (vs := [_]) rfl ⟨rfl, trivial⟩ (by decide) ?_
   refine ⟨?_, rfl, rfl⟩
   rw [show fldF o = 24 by unfold fldF; rw [if_pos (by omega)]]
   rfl
  ·
   replace hc8 := i_ne hc8
   refine C.skip (QE.seq (C.seq (C.region ?_))); refine Lpu rfl rfl ?_; refine L.nil (QE.seq (C.ret ?_)); refine QE.ret (js := []) (hs := []) (vs := [_]) rfl ⟨rfl, trivial⟩ (by decide) ?_
   refine ⟨?_, rfl, rfl⟩
   rw [show fldF o = 16 by unfold fldF; rw [if_neg (by omega)]]
   rfl

theorem linked_c (x : Ins) (n : Int) :
   Ctr X 99 [.agg (List.toArray (in5 x)), .int .i64 n] [] [] (fun v R' H' => v = .bool (linkB x n) ∧ R' = [] ∧ H' = []) := by
 refine Ctr.of (X := X) (fn := Tryz.f99) Tryz.func99 rfl (by kernel_rfl) rfl ?_
 intro β
 refine C.seq (C.region ?_)
 refine L.boxA rfl rfl (fun A2 => ?_)
 refine Lpu rfl rfl ?_; refine L.nil (QE.seq (C.seq (C.seq ?_))); refine C.freeze 0 rfl [] (by decide) (by decide) ?_; refine C.region ?_; refine L.step (Ev.fieldAddr rfl rfl rfl rfl rfl rfl (Src.r 0 rfl) (Nat.zero_lt_succ _) rfl) rfl ?_; refine L.step (Ev.load rfl rfl rfl (Src.r 0 rfl) rfl) rfl ?_; refine L.nil (QE.seq (C.block (C.seq (C.seq (C.region ?_))))); refine Lpu rfl rfl ?_; refine Lpu rfl rfl ?_; refine L.nil (QE.seq ?_)
 refine C.condB 7 rfl (fun hc7 => ?_) (fun hc7 => ?_)
 ·
  replace hc7 := i_eq hc7
  refine C.skip (QE.seq ?_)
  refine C.cond rfl (fun _ => ?_) (fun h => by cases h)
  refine C.seq (C.region ?_); refine L.step (Ev.fieldAddr rfl rfl rfl rfl rfl rfl (Src.r 0 rfl) (Nat.zero_lt_succ _) rfl) rfl ?_; refine L.step (Ev.load rfl rfl rfl (Src.r 0 rfl) rfl) rfl ?_; refine Lpu rfl rfl ?_; refine Lpu rfl rfl ?_
  refine L.bool 15 rfl (fun hg15 => ?_) (fun hg15 => ?_)
  ·
   replace hg15 := of_decide_eq_true hg15
   refine L.yes rfl ?_; refine L.step (Ev.fieldAddr rfl rfl rfl rfl rfl rfl (Src.r 0 rfl) (Nat.zero_lt_succ _) rfl) rfl ?_; refine L.yes rfl ?_; refine L.step (Ev.load rfl rfl rfl (Src.r 0 rfl) rfl) rfl ?_; refine L.yes rfl ?_; refine Lpu rfl rfl ?_; refine L.yes rfl ?_; refine Lpu rfl rfl ?_; refine Lpu rfl rfl ?_; refine Lpu rfl rfl ?_; refine L.nil (QE.seq (C.ret (QE.bR (QE.tR ?_)))); refine QE.ret (js := []) (hs := []) (vs := [_]) rfl ⟨rfl, trivial⟩ (by decide) ?_
   refine ⟨?_, rfl, rfl⟩
   refine congrArg Value.bool ?_
   unfold linkB
   rw [Bool.eq_iff_iff]
   simp only [decide_eq_true_eq]
   omega
  ·
   replace hg15 := of_decide_eq_false hg15
   refine L.no rfl rfl rfl ?_; refine L.no rfl rfl rfl ?_; refine L.no rfl rfl rfl ?_; refine L.no rfl rfl rfl ?_; refine Lpu rfl rfl ?_; refine Lpu rfl rfl ?_; refine L.nil (QE.seq (C.ret (QE.bR (QE.tR ?_)))); refine QE.ret (js := []) (hs := []) (vs := [_]) rfl ⟨rfl, trivial⟩ (by decide) ?_
   refine ⟨?_, rfl, rfl⟩
   refine congrArg Value.bool ?_
   unfold linkB
   exact (decide_eq_false (by omega)).symm
 ·
  replace hc7 := i_ne hc7
  refine C.seq (C.region ?_); refine Lpu rfl rfl ?_; refine Lpu rfl rfl ?_; refine L.nil (QE.seq ?_)
  refine C.condB 7 rfl (fun hc7 => ?_) (fun hc7 => ?_)
  ·
   replace hc7 := i_eq hc7
   refine C.skip (QE.seq ?_)
   refine C.cond rfl (fun _ => ?_) (fun h => by cases h)
   refine C.seq (C.region ?_); refine L.step (Ev.fieldAddr rfl rfl rfl rfl rfl rfl (Src.r 0 rfl) (Nat.zero_lt_succ _) rfl) rfl ?_; refine L.step (Ev.load rfl rfl rfl (Src.r 0 rfl) rfl) rfl ?_; refine Lpu rfl rfl ?_; refine Lpu rfl rfl ?_
   refine L.bool 15 rfl (fun hg15 => ?_) (fun hg15 => ?_)
   ·
    replace hg15 := of_decide_eq_true hg15
    refine L.yes rfl ?_; refine L.step (Ev.fieldAddr rfl rfl rfl rfl rfl rfl (Src.r 0 rfl) (Nat.zero_lt_succ _) rfl) rfl ?_; refine L.yes rfl ?_; refine L.step (Ev.load rfl rfl rfl (Src.r 0 rfl) rfl) rfl ?_; refine L.yes rfl ?_; refine Lpu rfl rfl ?_; refine L.yes rfl ?_; refine Lpu rfl rfl ?_; refine Lpu rfl rfl ?_; refine Lpu rfl rfl ?_; refine L.nil (QE.seq (C.ret (QE.bR (QE.tR ?_)))); refine QE.ret (js := []) (hs := []) (vs := [_]) rfl ⟨rfl, trivial⟩ (by decide) ?_
    refine ⟨?_, rfl, rfl⟩
    refine congrArg Value.bool ?_
    unfold linkB
    rw [Bool.eq_iff_iff]
    simp only [decide_eq_true_eq]
    omega
   ·
    replace hg15 := of_decide_eq_false hg15
    refine L.no rfl rfl rfl ?_; refine L.no rfl rfl rfl ?_; refine L.no rfl rfl rfl ?_; refine L.no rfl rfl rfl ?_; refine Lpu rfl rfl ?_; refine Lpu rfl rfl ?_; refine L.nil (QE.seq (C.ret (QE.bR (QE.tR ?_)))); refine QE.ret (js := []) (hs := []) (vs := [_]) rfl ⟨rfl, trivial⟩ (by decide) ?_
    refine ⟨?_, rfl, rfl⟩
    refine congrArg Value.bool ?_
    unfold linkB
    exact (decide_eq_false (by omega)).symm
  ·
   replace hc7 := i_ne hc7
   refine C.seq (C.region ?_); refine Lpu rfl rfl ?_; refine Lpu rfl rfl ?_; refine L.nil (QE.seq ?_)
   refine C.condB 7 rfl (fun hc7 => ?_) (fun hc7 => ?_)
   ·
    replace hc7 := i_eq hc7
    refine C.skip (QE.seq ?_)
    refine C.cond rfl (fun _ => ?_) (fun h => by cases h)
    refine C.seq (C.region ?_); refine L.step (Ev.fieldAddr rfl rfl rfl rfl rfl rfl (Src.r 0 rfl) (Nat.zero_lt_succ _) rfl) rfl ?_; refine L.step (Ev.load rfl rfl rfl (Src.r 0 rfl) rfl) rfl ?_; refine Lpu rfl rfl ?_; refine Lpu rfl rfl ?_
    refine L.bool 15 rfl (fun hg15 => ?_) (fun hg15 => ?_)
    ·
     replace hg15 := of_decide_eq_true hg15
     refine L.yes rfl ?_; refine L.step (Ev.fieldAddr rfl rfl rfl rfl rfl rfl (Src.r 0 rfl) (Nat.zero_lt_succ _) rfl) rfl ?_; refine L.yes rfl ?_; refine L.step (Ev.load rfl rfl rfl (Src.r 0 rfl) rfl) rfl ?_; refine L.yes rfl ?_; refine Lpu rfl rfl ?_; refine L.yes rfl ?_; refine Lpu rfl rfl ?_; refine Lpu rfl rfl ?_; refine Lpu rfl rfl ?_; refine L.nil (QE.seq (C.ret (QE.bR (QE.tR ?_)))); refine QE.ret (js := []) (hs := []) (vs := [_]) rfl ⟨rfl, trivial⟩ (by decide) ?_
     refine ⟨?_, rfl, rfl⟩
     refine congrArg Value.bool ?_
     unfold linkB
     rw [Bool.eq_iff_iff]
     simp only [decide_eq_true_eq]
     omega
    ·
     replace hg15 := of_decide_eq_false hg15
     refine L.no rfl rfl rfl ?_; refine L.no rfl rfl rfl ?_; refine L.no rfl rfl rfl ?_; refine L.no rfl rfl rfl ?_; refine Lpu rfl rfl ?_; refine Lpu rfl rfl ?_; refine L.nil (QE.seq (C.ret (QE.bR (QE.tR ?_)))); refine QE.ret (js := []) (hs := []) (vs := [_]) rfl ⟨rfl, trivial⟩ (by decide) ?_
     refine ⟨?_, rfl, rfl⟩
     refine congrArg Value.bool ?_
     unfold linkB
     exact (decide_eq_false (by omega)).symm
   ·
    replace hc7 := i_ne hc7
    refine C.region ?_; refine Lpu rfl rfl ?_; refine Lpu rfl rfl ?_; refine L.nil (QE.seq ?_)
    refine C.condB 7 rfl (fun hc7 => ?_) (fun hc7 => ?_)
    ·
     replace hc7 := i_eq hc7
     refine C.seq (C.region ?_); refine L.step (Ev.fieldAddr rfl rfl rfl rfl rfl rfl (Src.r 0 rfl) (Nat.zero_lt_succ _) rfl) rfl ?_; refine L.step (Ev.load rfl rfl rfl (Src.r 0 rfl) rfl) rfl ?_; refine Lpu rfl rfl ?_; refine Lpu rfl rfl ?_
     refine L.bool 15 rfl (fun hg15 => ?_) (fun hg15 => ?_)
     ·
      replace hg15 := of_decide_eq_true hg15
      refine L.yes rfl ?_; refine L.step (Ev.fieldAddr rfl rfl rfl rfl rfl rfl (Src.r 0 rfl) (Nat.zero_lt_succ _) rfl) rfl ?_; refine L.yes rfl ?_; refine L.step (Ev.load rfl rfl rfl (Src.r 0 rfl) rfl) rfl ?_; refine L.yes rfl ?_; refine Lpu rfl rfl ?_; refine L.yes rfl ?_; refine Lpu rfl rfl ?_; refine Lpu rfl rfl ?_; refine Lpu rfl rfl ?_; refine L.nil (QE.seq (C.ret (QE.bR (QE.tR ?_)))); refine QE.ret (js := []) (hs := []) (vs := [_]) rfl ⟨rfl, trivial⟩ (by decide) ?_
      refine ⟨?_, rfl, rfl⟩
      refine congrArg Value.bool ?_
      unfold linkB
      rw [Bool.eq_iff_iff]
      simp only [decide_eq_true_eq]
      omega
     ·
      replace hg15 := of_decide_eq_false hg15
      refine L.no rfl rfl rfl ?_; refine L.no rfl rfl rfl ?_; refine L.no rfl rfl rfl ?_; refine L.no rfl rfl rfl ?_; refine Lpu rfl rfl ?_; refine Lpu rfl rfl ?_; refine L.nil (QE.seq (C.ret (QE.bR (QE.tR ?_)))); refine QE.ret (js := []) (hs := []) (vs := [_]) rfl ⟨rfl, trivial⟩ (by decide) ?_
      refine ⟨?_, rfl, rfl⟩
      refine congrArg Value.bool ?_
      unfold linkB
      exact (decide_eq_false (by omega)).symm
    ·
     replace hc7 := i_ne hc7
     refine C.skip ?_; refine QE.blkN ?_; refine QE.seq (C.seq (C.region ?_)); refine Lpu rfl rfl ?_; refine L.nil (QE.seq (C.ret ?_)); refine QE.ret (js := []) (hs := []) (vs := [_]) rfl ⟨rfl, trivial⟩ (by decide) ?_
     refine ⟨?_, rfl, rfl⟩
     refine congrArg Value.bool ?_
     unfold linkB
     exact (decide_eq_false (by omega)).symm

end Go.Proofs.YtbkmahjhhncfcaaGreat
