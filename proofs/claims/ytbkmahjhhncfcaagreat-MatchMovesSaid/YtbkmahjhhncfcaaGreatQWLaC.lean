/-
  How the program decodes a word.
-/
import Derived.Test.YtbkmahjhhncfcaaGreatQLaa
section
namespace Go.Proofs.YtbkmahjhhncfcaaGreat
open Go.Sl

set_option maxHeartbeats 1000000 in
theorem decode_c (w : Nat) (t : Int) (hw : w < 4294967296) (ht : -1099511627776 ≤ t ∧ t ≤ 1099511627776) :
   Ctr X 98 [.int .u32 (w : Int), .int .i64 t] [] [] (fun v R' H' => v = .agg (List.toArray (in5 (decF w t))) ∧ R' = [] ∧ H' = []) := by
 have ho0 := octN_lt w 0
 have hrg := regs_le (octN w 0)
 have hbl := bits_le (octN w 0)
 refine Ctr.of (X := X) (fn := Tryz.f98) Tryz.func98 rfl (by kernel_rfl) rfl ?_
 intro β
 refine C.seq (C.region ?_)
 refine L.alloc rfl rfl rfl (fun A4 => ?_)
 refine L.nil (QE.seq (C.seq (C.region ?_))); refine Lpu rfl rfl ?_; refine Lpu rfl rfl ?_; refine Lpu rfl rfl ?_; refine L.nil (QE.seq (C.seq (C.region ?_))); refine Lpu rfl rfl ?_; refine L.callv (js := []) (js' := [0]) (octet_c w 0 hw (by omega)) rfl rfl rfl rfl rfl (by decide) trivial rfl ?_
 rintro _ _ _ ⟨rfl, rfl, rfl⟩
 refine L.norm (H' := [_]) [0] ⟨rfl, trivial⟩ (by decide) ?_; refine Lpu rfl rfl ?_; refine L.nil (QE.seq (C.seq (C.seq (C.region ?_)))); refine Lpu rfl rfl ?_; refine Lpu rfl rfl ?_; refine Lpu rfl rfl ?_
 refine L.bool 17 rfl (fun hg17 => ?_) (fun hg17 => ?_)
 ·
  replace hg17 := i_eq hg17
  have hdd := dec_data hw (t := t) (by omega)
  refine L.no rfl rfl rfl ?_; refine L.no rfl rfl rfl ?_; refine Lpu rfl rfl ?_; refine L.nil (QE.seq ?_)
  refine C.cond rfl (fun _ => ?_) (fun h => by cases h)
  refine C.seq (C.region ?_); refine Lpu rfl rfl ?_; refine L.step (Ev.toInt rfl rfl rfl rfl (by omega) (by omega)) rfl ?_; refine L.step (Ev.build rfl rfl rfl rfl rfl rfl rfl) rfl ?_; refine L.storeA (j := 0) rfl rfl rfl rfl rfl (Nat.zero_lt_succ _) rfl rfl ?_; refine L.nil (QE.seq (C.ret (QE.tR ?_))); refine QE.ret (js := []) (hs := []) (vs := [_]) rfl ⟨⟨_, _, 0, _, rfl, rfl, Src.o 0 rfl, .inl ⟨rfl, by decide, _, rfl, rfl, rfl⟩⟩, trivial⟩ (by decide) ?_
  refine ⟨?_, rfl, rfl⟩
  rw [hdd]
  rfl
 ·
  replace hg17 := i_ne hg17
  refine L.yes rfl ?_; refine Lpu rfl rfl ?_; refine L.yes rfl ?_; refine Lpu rfl rfl ?_; refine Lpu rfl rfl ?_; refine L.nil (QE.seq ?_)
  refine C.condB 20 rfl (fun hc20 => ?_) (fun hc20 => ?_)
  ·
   replace hc20 := of_decide_eq_true hc20
   have hdd := dec_data hw (t := t) (by omega)
   refine C.seq (C.region ?_); refine Lpu rfl rfl ?_; refine L.step (Ev.toInt rfl rfl rfl rfl (by omega) (by omega)) rfl ?_; refine L.step (Ev.build rfl rfl rfl rfl rfl rfl rfl) rfl ?_; refine L.storeA (j := 0) rfl rfl rfl rfl rfl (Nat.zero_lt_succ _) rfl rfl ?_; refine L.nil (QE.seq (C.ret (QE.tR ?_))); refine QE.ret (js := []) (hs := []) (vs := [_]) rfl ⟨⟨_, _, 0, _, rfl, rfl, Src.o 0 rfl, .inl ⟨rfl, by decide, _, rfl, rfl, rfl⟩⟩, trivial⟩ (by decide) ?_
   refine ⟨?_, rfl, rfl⟩
   rw [hdd]
   rfl
  ·
   replace hc20 := of_decide_eq_false hc20
   refine C.skip (QE.seq (C.seq (C.region ?_))); refine L.callR (js := []) (js' := [0]) (kinds_c) rfl rfl rfl (by decide) trivial rfl ?_
   rintro _ _ _ ⟨s, rfl, rfl, rfl⟩
   refine L.norm (H' := [_]) [0] ⟨rfl, trivial⟩ (by decide) ?_; refine Lpu rfl rfl ?_; refine L.step (Ev.indexA (k := octN w 0) (vs := (kindV s (octN w 0))) rfl rfl rfl rfl rfl rfl rfl (by omega) (kindsV_get s (by omega))) rfl ?_
   refine L.alloc rfl rfl rfl (fun A7 => ?_)
   refine L.storeA (j := 1) rfl rfl rfl rfl rfl (Nat.zero_lt_succ _) rfl rfl ?_; refine L.nil (QE.seq (C.seq ?_)); refine C.freeze 1 rfl [0] (by decide) (by decide) ?_; refine C.norm (H' := [_]) [0] ⟨rfl, trivial⟩ (by decide) ?_; refine C.region ?_; refine Lpu rfl rfl ?_; refine L.step (Ev.build rfl rfl rfl rfl rfl rfl rfl) rfl ?_
   refine L.alloc rfl rfl rfl (fun A8 => ?_)
   refine L.storeA (j := 1) rfl rfl rfl rfl rfl (Nat.zero_lt_succ _) rfl rfl ?_; refine L.nil (QE.seq ?_); refine C.seqJ (fun u : Unit => [(0, .int .u32 (w : Int)), (1, .int .i64 t), (4, ptrOf A4 0), (5, .func (.func 105) #[.int .u32 (w : Int)] #[]), (6, .int .i64 (octN w 0 : Int)), (7, ptrOf A7 0), (8, ptrOf A8 0)]) (fun u : Unit => [Rd A7 (kindV s (octN w 0))]) (fun u : Unit => [Own 78 5 A4 1 1 [.int .i64 0, .int .i64 0, .int .i64 0, .int .i64 0, .int .i64 0], Own 78 5 A8 1 1 (regV w (regsF (octN w 0)) (octN w 0 : Int) 0)]) (fun u : Unit => ∀ j, j < (regsF (octN w 0)) → octN w (j + 1) ≤ 15) ?_ ?_
   ·
    refine C.seq (C.region ?_); refine L.step (Ev.fieldAddr rfl rfl rfl rfl rfl rfl (Src.o 1 rfl) (Nat.zero_lt_succ _) rfl) rfl ?_; refine L.step (Ev.fieldAddr rfl rfl rfl rfl rfl rfl (Src.o 1 rfl) (Nat.zero_lt_succ _) rfl) rfl ?_; refine L.step (Ev.fieldAddr rfl rfl rfl rfl rfl rfl (Src.o 1 rfl) (Nat.zero_lt_succ _) rfl) rfl ?_; refine L.step (Ev.buildArr rfl rfl rfl rfl rfl rfl rfl) rfl ?_; refine Lpu rfl rfl ?_; refine L.nil (QE.seq (C.block ?_)); refine C.loop (fun i : Nat => [(0, .int .u32 (w : Int)), (1, .int .i64 t), (4, ptrOf A4 0), (5, .func (.func 105) #[.int .u32 (w : Int)] #[]), (6, .int .i64 (octN w 0 : Int)), (7, ptrOf A7 0), (8, ptrOf A8 0), (32, .agg #[ptrOf A8 1, ptrOf A8 2, ptrOf A8 3]), (33, .int .i64 (i : Int))]) (fun i : Nat => [Rd A7 (kindV s (octN w 0))]) (fun i : Nat => [Own 78 5 A4 1 1 [.int .i64 0, .int .i64 0, .int .i64 0, .int .i64 0, .int .i64 0], Own 78 5 A8 1 1 (regV w i (octN w 0 : Int) 0)]) (fun i : Nat => i ≤ (regsF (octN w 0)) ∧ ∀ j, j < i → octN w (j + 1) ≤ 15) (fun i : Nat => 3 - i) 0 ⟨Nat.zero_le _, fun j hj => absurd hj (Nat.not_lt_zero _)⟩ (by exact Le.mk' (rs := [0]) (hs := [0, 1]) ⟨rfl, rfl, rfl, rfl, rfl, rfl, rfl, rfl, rfl, trivial⟩ ⟨rfl, trivial⟩ ⟨rfl, rfl, trivial⟩ (by decide)) ?_
    rintro i ⟨hi, hgd⟩
    refine C.seq (C.region ?_); refine Lpu rfl rfl ?_; refine L.nil (QE.seq (C.seq ?_))
    refine C.condB 34 rfl (fun hc34 => ?_) (fun hc34 => ?_)
    ·
     replace hc34 := of_decide_eq_true hc34
     refine C.skip (QE.seq (C.seq (C.block (C.seq (C.region ?_))))); refine Lpu rfl rfl ?_; refine L.step (Ev.index (k := i) rfl rfl rfl rfl rfl rfl rfl rfl (by omega) (ptrs_at A8 (by omega))) rfl ?_; refine Lpu rfl rfl ?_; refine Lpu rfl rfl ?_; refine L.nil (QE.seq (C.seq (C.seq (C.region ?_)))); refine Lpu rfl rfl ?_; refine L.step (Ev.fieldAddr rfl rfl rfl rfl rfl rfl (Src.r 0 rfl) (Nat.zero_lt_succ _) rfl) rfl ?_; refine L.step (Ev.load rfl rfl rfl (Src.r 0 rfl) rfl) rfl ?_; refine Lpu rfl rfl ?_; refine L.nil (QE.seq ?_)
     refine C.condB 40 rfl (fun hc40 => ?_) (fun hc40 => ?_)
     ·
      replace hc40 := of_decide_eq_true hc40
      refine C.exit ?_; refine QE.tX ?_; refine QE.blkX rfl ?_; refine QE.tX ?_; refine QE.tX ?_; refine QE.blk ?_
      obtain rfl : i = regsF (octN w 0) := by omega
      refine QE.join (()) (by exact hgd) (by exact Le.mk' (rs := [0]) (hs := [0, 1]) ⟨rfl, rfl, rfl, rfl, rfl, rfl, rfl, trivial⟩ ⟨rfl, trivial⟩ ⟨rfl, rfl, trivial⟩ (by decide))
     ·
      replace hc40 := of_decide_eq_false hc40
      refine C.skip (QE.seq (C.seq (C.region ?_))); refine Lpu rfl rfl ?_; refine Lpu rfl rfl ?_; refine Lpu rfl rfl ?_; refine L.step (Ev.add rfl rfl (by omega) (by omega)) rfl ?_; refine L.callv (js := []) (js' := [0, 1]) (octet_c w (i + 1) hw (by omega)) rfl rfl rfl rfl rfl (by decide) trivial rfl ?_
      rintro _ _ _ ⟨rfl, rfl, rfl⟩
      refine L.norm (H' := [_, _]) [0, 1] ⟨rfl, rfl, trivial⟩ (by decide) ?_; refine L.step (Ev.nilCheck (k := i + 1) rfl (Src.o 1 rfl) (Nat.zero_lt_succ _)) rfl ?_
      obtain ⟨m0, hm0⟩ := regV_num w i (octN w 0 : Int) 0 (by omega)
      refine L.store (j := 1) rfl rfl rfl rfl rfl rfl rfl hm0 ?_
      rw [regV_set w i _ 0 (by omega)]
      refine L.nil (QE.seq (C.seq (C.region ?_))); refine Lpu rfl rfl ?_; refine L.step (Ev.nilCheck (k := i + 1) rfl (Src.o 1 rfl) (Nat.zero_lt_succ _)) rfl ?_; refine L.step (Ev.load rfl rfl rfl (Src.o 1 rfl) (regV_at w i _ 0 (by omega))) rfl ?_; refine Lpu rfl rfl ?_; refine L.nil (QE.seq ?_)
      refine C.condB 50 rfl (fun hc50 => ?_) (fun hc50 => ?_)
      ·
       replace hc50 := of_decide_eq_true hc50
       have hdd := dec_bad hw (t := t) (i := i) (by omega) (by omega) (by omega) (by omega)
       refine C.seq (C.region ?_); refine Lpu rfl rfl ?_; refine L.step (Ev.toInt rfl rfl rfl rfl (by omega) (by omega)) rfl ?_; refine L.step (Ev.build rfl rfl rfl rfl rfl rfl rfl) rfl ?_; refine L.storeA (j := 0) rfl rfl rfl rfl rfl (Nat.zero_lt_succ _) rfl rfl ?_; refine L.nil (QE.seq (C.ret (QE.bR (QE.tR (QE.tR (QE.bR (QE.tR ?_))))))); refine QE.ret (js := []) (hs := []) (vs := [_]) rfl ⟨⟨_, _, 0, _, rfl, rfl, Src.o 0 rfl, .inl ⟨rfl, by decide, _, rfl, rfl, rfl⟩⟩, trivial⟩ (by decide) ?_
       refine ⟨?_, rfl, rfl⟩
       rw [hdd]
       rfl
      ·
       replace hc50 := of_decide_eq_false hc50
       refine C.skip ?_; refine QE.blkN ?_; refine QE.seq (C.region ?_); refine L.step (Ev.add rfl rfl (by omega) (by omega)) rfl ?_; refine Lpu rfl rfl ?_; refine L.nil ?_
       have hgd2 : ∀ j, j < i + 1 → octN w (j + 1) ≤ 15 := by
         intro j hj
         by_cases e : j < i
         · exact hgd j e
         · obtain rfl : j = i := by omega
           omega
       refine QE.round (i + 1) (by exact ⟨by omega, hgd2⟩) (by omega) (by exact Le.mk' (rs := [0]) (hs := [0, 1]) ⟨rfl, rfl, rfl, rfl, rfl, rfl, rfl, rfl, rfl, trivial⟩ ⟨rfl, trivial⟩ ⟨rfl, rfl, trivial⟩ (by decide))
    ·
     replace hc34 := of_decide_eq_false hc34
     refine C.exit ?_; refine QE.tX ?_; refine QE.tX ?_; refine QE.blk ?_
     obtain rfl : i = regsF (octN w 0) := by omega
     refine QE.join (()) (by exact hgd) (by exact Le.mk' (rs := [0]) (hs := [0, 1]) ⟨rfl, rfl, rfl, rfl, rfl, rfl, rfl, trivial⟩ ⟨rfl, trivial⟩ ⟨rfl, rfl, trivial⟩ (by decide))
   ·
    intro _ hgd
    have hdd := dec_good hw (t := t) (by omega) (by omega) hgd
    refine C.seqJ (fun u : Unit => [(0, .int .u32 (w : Int)), (1, .int .i64 t), (4, ptrOf A4 0), (5, .func (.func 105) #[.int .u32 (w : Int)] #[]), (6, .int .i64 (octN w 0 : Int)), (7, ptrOf A7 0), (8, ptrOf A8 0)]) (fun u : Unit => [Rd A7 (kindV s (octN w 0))]) (fun u : Unit => [Own 78 5 A4 1 1 [.int .i64 0, .int .i64 0, .int .i64 0, .int .i64 0, .int .i64 0], Own 78 5 A8 1 1 (regV w (regsF (octN w 0)) (octN w 0 : Int) (if 0 < bitsF (octN w 0) then lowI w (bitsF (octN w 0)) (signF (octN w 0)) else 0))]) (fun u : Unit => True) ?_ ?_
    ·
     refine C.seq (C.region ?_); refine L.step (Ev.fieldAddr rfl rfl rfl rfl rfl rfl (Src.r 0 rfl) (Nat.zero_lt_succ _) rfl) rfl ?_; refine L.step (Ev.load rfl rfl rfl (Src.r 0 rfl) rfl) rfl ?_; refine Lpu rfl rfl ?_; refine L.nil (QE.seq ?_)
     refine C.condB 57 rfl (fun hc57 => ?_) (fun hc57 => ?_)
     ·
      replace hc57 := of_decide_eq_true hc57
      have hlow := low_le w (bitsF (octN w 0)) (signF (octN w 0)) (by omega)
      refine C.region ?_; refine Lpu rfl rfl ?_; refine L.step (Ev.fieldAddr rfl rfl rfl rfl rfl rfl (Src.r 0 rfl) (Nat.zero_lt_succ _) rfl) rfl ?_; refine L.step (Ev.load rfl rfl rfl (Src.r 0 rfl) rfl) rfl ?_; refine L.step (Ev.fieldAddr rfl rfl rfl rfl rfl rfl (Src.r 0 rfl) (Nat.zero_lt_succ _) rfl) rfl ?_; refine L.step (Ev.load rfl rfl rfl (Src.r 0 rfl) rfl) rfl ?_; refine L.call (js := []) (js' := [0, 1]) (low_c w (bitsF (octN w 0)) (signF (octN w 0)) hw (by omega) (by omega)) rfl rfl rfl (by decide) trivial rfl ?_
      rintro _ _ _ ⟨rfl, rfl, rfl⟩
      refine L.norm (H' := [_, _]) [0, 1] ⟨rfl, rfl, trivial⟩ (by decide) ?_; refine L.step (Ev.fieldAddr rfl rfl rfl rfl rfl rfl (Src.o 1 rfl) (Nat.zero_lt_succ _) rfl) rfl ?_; refine L.store (j := 1) rfl rfl rfl rfl rfl rfl rfl rfl ?_; refine L.nil ?_
      refine QE.join (()) (by exact trivial) (by exact Le.mk' (rs := [0]) (hs := [0, 1]) ⟨rfl, rfl, rfl, rfl, rfl, rfl, rfl, trivial⟩ ⟨rfl, trivial⟩ ⟨rfl, (congrArg some (by rw [if_pos (by omega)]; rfl)), trivial⟩ (by decide))
     ·
      replace hc57 := of_decide_eq_false hc57
      refine C.skip ?_
      refine QE.join (()) (by exact trivial) (by exact Le.mk' (rs := [0]) (hs := [0, 1]) ⟨rfl, rfl, rfl, rfl, rfl, rfl, rfl, trivial⟩ ⟨rfl, trivial⟩ ⟨rfl, (congrArg some (by rw [if_neg (by omega)])), trivial⟩ (by decide))
    ·
     intro _ _
     have hlow : -4294967296 ≤ (if 0 < bitsF (octN w 0) then lowI w (bitsF (octN w 0)) (signF (octN w 0)) else 0) ∧ (if 0 < bitsF (octN w 0) then lowI w (bitsF (octN w 0)) (signF (octN w 0)) else 0) ≤ 4294967296 := by
       split
       · exact low_le w _ _ (by omega)
       · omega
     refine C.seqJ (fun u : Unit => [(0, .int .u32 (w : Int)), (1, .int .i64 t), (4, ptrOf A4 0), (5, .func (.func 105) #[.int .u32 (w : Int)] #[]), (6, .int .i64 (octN w 0 : Int)), (7, ptrOf A7 0), (8, ptrOf A8 0)]) (fun u : Unit => [Rd A7 (kindV s (octN w 0))]) (fun u : Unit => [Own 78 5 A4 1 1 [.int .i64 0, .int .i64 0, .int .i64 0, .int .i64 0, .int .i64 0], Own 78 5 A8 1 1 (regV w (regsF (octN w 0)) (octN w 0 : Int) (numF w (octN w 0) t))]) (fun u : Unit => True) ?_ ?_
     ·
      refine C.seq (C.region ?_); refine L.step (Ev.fieldAddr rfl rfl rfl rfl rfl rfl (Src.r 0 rfl) (Nat.zero_lt_succ _) rfl) rfl ?_; refine L.step (Ev.load rfl rfl rfl (Src.r 0 rfl) rfl) rfl ?_; refine L.nil (QE.seq ?_)
      refine C.condB 66 rfl (fun hc66 => ?_) (fun hc66 => ?_)
      ·
       refine C.region ?_; refine Lpu rfl rfl ?_; refine L.step (Ev.fieldAddr rfl rfl rfl rfl rfl rfl (Src.o 1 rfl) (Nat.zero_lt_succ _) rfl) rfl ?_; refine L.step (Ev.load rfl rfl rfl (Src.o 1 rfl) rfl) rfl ?_; refine L.step (Ev.mul rfl rfl (by omega) (by omega)) rfl ?_; refine L.step (Ev.add rfl rfl (by omega) (by omega)) rfl ?_; refine L.step (Ev.fieldAddr rfl rfl rfl rfl rfl rfl (Src.o 1 rfl) (Nat.zero_lt_succ _) rfl) rfl ?_; refine L.store (j := 1) rfl rfl rfl rfl rfl rfl rfl rfl ?_; refine L.nil ?_
       refine QE.join (()) (by exact trivial) (by exact Le.mk' (rs := [0]) (hs := [0, 1]) ⟨rfl, rfl, rfl, rfl, rfl, rfl, rfl, trivial⟩ ⟨rfl, trivial⟩ ⟨rfl, (congrArg some (by unfold numF; rw [if_pos hc66]; rfl)), trivial⟩ (by decide))
      ·
       refine C.skip ?_
       refine QE.join (()) (by exact trivial) (by exact Le.mk' (rs := [0]) (hs := [0, 1]) ⟨rfl, rfl, rfl, rfl, rfl, rfl, rfl, trivial⟩ ⟨rfl, trivial⟩ ⟨rfl, (congrArg some (by unfold numF; rw [if_neg (show ¬ targF (octN w 0) = true by rw [hc66]; decide)])), trivial⟩ (by decide))
     ·
      intro _ _
      refine C.seq (C.region ?_); refine L.step (Ev.loadA rfl rfl rfl (Src.o 1 rfl) rfl rfl (by decide)) rfl ?_; refine L.storeA (j := 0) rfl rfl rfl rfl rfl (Nat.zero_lt_succ _) rfl rfl ?_; refine L.nil (QE.seq (C.ret ?_)); refine QE.ret (js := []) (hs := []) (vs := [_]) rfl ⟨⟨_, _, 0, _, rfl, rfl, Src.o 0 rfl, .inl ⟨rfl, by decide, _, rfl, rfl, rfl⟩⟩, trivial⟩ (by decide) ?_
      refine ⟨?_, rfl, rfl⟩
      rw [hdd]
      rfl

end Go.Proofs.YtbkmahjhhncfcaaGreat
end
/-
  Words and their bytes, as plain lists.
-/
section
namespace Go.Sl

def w4 (b : List UInt8) (i : Nat) : Nat := (b.getD (4 * i) 0).toNat * 16777216 + (b.getD (4 * i + 1) 0).toNat * 65536 + (b.getD (4 * i + 2) 0).toNat * 256 + (b.getD (4 * i + 3) 0).toNat
theorem w4_lt (b : List UInt8) (i : Nat) : w4 b i < 4294967296 := by
 have h0 := UInt8.toNat_lt (b.getD (4 * i) 0)
 have h1 := UInt8.toNat_lt (b.getD (4 * i + 1) 0)
 have h2 := UInt8.toNat_lt (b.getD (4 * i + 2) 0)
 have h3 := UInt8.toNat_lt (b.getD (4 * i + 3) 0)
 unfold w4
 omega
def wordsN (b : List UInt8) (m : Nat) : List Nat := (List.range m).map (w4 b)
theorem wordsN_len (b : List UInt8) (m : Nat) : (wordsN b m).length = m := by simp [wordsN]
theorem wordsN_succ (b : List UInt8) (m : Nat) : wordsN b (m + 1) = wordsN b m ++ [w4 b m] := by simp [wordsN, List.range_succ]
theorem wordsN_get (b : List UInt8) {m i : Nat} (h : i < m) : (wordsN b m).getD i 0 = w4 b i := by
 unfold wordsN
 rw [List.getD_eq_getElem?_getD, List.getElem?_map, List.getElem?_range h]
 rfl
theorem wordsN_w32 (b : List UInt8) (m : Nat) : W32 (wordsN b m) := W32.of fun x hx => by
 obtain ⟨i, _, rfl⟩ := List.mem_map.1 hx
 exact w4_lt b i
def wordsF (b : List UInt8) : List Nat := wordsN b (b.length / 4)
theorem wordsF_len (b : List UInt8) : (wordsF b).length = b.length / 4 := wordsN_len b _
theorem wordsF_w32 (b : List UInt8) : W32 (wordsF b) := wordsN_w32 b _
/-- The words of bytes, if there are whole ones. -/
def wordsR (b : List UInt8) : List Nat := if b.length % 4 = 0 then wordsF b else []
def wordsE (b : List UInt8) : Int := if b.length % 4 = 0 then 0 else 61
theorem wordsR_w32 (b : List UInt8) : W32 (wordsR b) := by
 unfold wordsR
 split
 · exact wordsF_w32 b
 · intro i; simp
theorem wordsR_len (b : List UInt8) : 4 * (wordsR b).length ≤ b.length := by
 unfold wordsR
 split
 · rw [wordsF_len]; omega
 · simp

def b4 (w : Nat) : List UInt8 := [UInt8.ofNat (octN w 0), UInt8.ofNat (octN w 1), UInt8.ofNat (octN w 2), UInt8.ofNat (octN w 3)]
def bytesF (l : List Nat) : List UInt8 := l.flatMap b4
theorem bytesF_len (l : List Nat) : (bytesF l).length = 4 * l.length := by
 induction l with
 | nil => rfl
 | cons w l ih => rw [bytesF, List.flatMap_cons, List.length_append, ← bytesF, ih, List.length_cons]; show 4 + _ = _; omega
theorem bytesF_app (a b : List Nat) : bytesF (a ++ b) = bytesF a ++ bytesF b := by simp [bytesF]
theorem bytesF_one (w : Nat) : bytesF [w] = b4 w := by simp [bytesF]
theorem oct_byte (w i : Nat) : (UInt8.ofNat (octN w i)).toNat = octN w i := by
 rw [UInt8.toNat_ofNat']
 exact Nat.mod_eq_of_lt (octN_lt w i)
theorem b4_get (w : Nat) {j : Nat} (h : j < 4) : (b4 w).getD j 0 = UInt8.ofNat (octN w j) := by
 rcases (by omega : j = 0 ∨ j = 1 ∨ j = 2 ∨ j = 3) with rfl | rfl | rfl | rfl <;> rfl
theorem b4_take (w : Nat) {j : Nat} (h : j < 4) : (b4 w).take (j + 1) = (b4 w).take j ++ [UInt8.ofNat (octN w j)] := by
 rw [take_snoc' (b4 w) 0 j h, b4_get w h]
theorem getD_app_right {α : Type} (a b : List α) (d : α) {k j : Nat} (h : k = a.length + j) : (a ++ b).getD k d = b.getD j d := by
 subst h
 rw [List.getD_eq_getElem?_getD, List.getElem?_append_right (Nat.le_add_right _ _), Nat.add_sub_cancel_left, ← List.getD_eq_getElem?_getD]
theorem getD_app_left {α : Type} (a b : List α) (d : α) {k : Nat} (h : k < a.length) : (a ++ b).getD k d = a.getD k d := by
 rw [List.getD_eq_getElem?_getD, List.getElem?_append_left h, ← List.getD_eq_getElem?_getD]
theorem bytesF_get (l : List Nat) {i j : Nat} (hi : i < l.length) (hj : j < 4) : (bytesF l).getD (4 * i + j) 0 = UInt8.ofNat (octN (l.getD i 0) j) := by
 induction l generalizing i with
 | nil => simp at hi
 | cons w l ih =>
   rw [bytesF, List.flatMap_cons, ← bytesF]
   cases i with
   | zero => rw [getD_app_left _ _ _ (by show 4 * 0 + j < 4; omega), Nat.mul_zero, Nat.zero_add, b4_get w hj]; rfl
   | succ i =>
     rw [getD_app_right _ _ _ (show 4 * (i + 1) + j = (b4 w).length + (4 * i + j) by show _ = 4 + _; omega), ih (by simpa using hi)]
     rfl
theorem oct_sum {w : Nat} (h : w < 4294967296) : octN w 0 * 16777216 + octN w 1 * 65536 + octN w 2 * 256 + octN w 3 = w := by
 rw [oct0 w h, oct1, oct2, oct3]
 omega
theorem w4_bytesF (l : List Nat) {i : Nat} (hi : i < l.length) (h : W32 l) : w4 (bytesF l) i = l.getD i 0 := by
 unfold w4
 have h0 := bytesF_get l hi (j := 0) (by decide)
 rw [Nat.add_zero] at h0
 rw [h0, bytesF_get l hi (by decide), bytesF_get l hi (by decide), bytesF_get l hi (by decide), oct_byte, oct_byte, oct_byte, oct_byte]
 exact oct_sum (h i)
theorem wordsF_bytesF (l : List Nat) (h : W32 l) : wordsF (bytesF l) = l := by
 refine List.ext_getElem (by rw [wordsF_len, bytesF_len]; omega) fun i h1 h2 => ?_
 have h3 := wordsN_get (bytesF l) (m := (bytesF l).length / 4) (i := i) (by rw [bytesF_len]; omega)
 rw [w4_bytesF l h2 h, ← wordsF, List.getD_eq_getElem?_getD, List.getD_eq_getElem?_getD, List.getElem?_eq_getElem h1, List.getElem?_eq_getElem h2] at h3
 exact h3
theorem oct_w4 (b : List UInt8) (i : Nat) {j : Nat} (hj : j < 4) : octN (w4 b i) j = (b.getD (4 * i + j) 0).toNat := by
 have h0 := UInt8.toNat_lt (b.getD (4 * i) 0)
 have h1 := UInt8.toNat_lt (b.getD (4 * i + 1) 0)
 have h2 := UInt8.toNat_lt (b.getD (4 * i + 2) 0)
 have h3 := UInt8.toNat_lt (b.getD (4 * i + 3) 0)
 have e : w4 b i = (b.getD (4 * i) 0).toNat * 16777216 + (b.getD (4 * i + 1) 0).toNat * 65536 + (b.getD (4 * i + 2) 0).toNat * 256 + (b.getD (4 * i + 3) 0).toNat := rfl
 rcases (by omega : j = 0 ∨ j = 1 ∨ j = 2 ∨ j = 3) with rfl | rfl | rfl | rfl
 · rw [oct0 _ (w4_lt b i), Nat.add_zero]; omega
 · rw [oct1]; omega
 · rw [oct2]; omega
 · rw [oct3]; omega
theorem bytesF_wordsF (b : List UInt8) (h : b.length % 4 = 0) : bytesF (wordsF b) = b := by
 refine List.ext_getElem (by rw [bytesF_len, wordsF_len]; omega) fun k h1 h2 => ?_
 have h3 := bytesF_get (wordsF b) (i := k / 4) (j := k % 4) (by rw [wordsF_len]; omega) (Nat.mod_lt _ (by decide))
 rw [show wordsF b = wordsN b (b.length / 4) from rfl, wordsN_get b (by omega), oct_w4 b _ (Nat.mod_lt _ (by decide)), Nat.div_add_mod, UInt8.ofNat_toNat, List.getD_eq_getElem?_getD, List.getD_eq_getElem?_getD, List.getElem?_eq_getElem h2] at h3
 rw [show wordsN b (b.length / 4) = wordsF b from rfl, List.getElem?_eq_getElem h1] at h3
 exact h3
theorem getD_drop {α : Type} (l : List α) (k j : Nat) (d : α) : (l.drop k).getD j d = l.getD (k + j) d := by
 rw [List.getD_eq_getElem?_getD, List.getElem?_drop, ← List.getD_eq_getElem?_getD]
theorem w4_drop (b : List UInt8) (i : Nat) : w4 (b.drop (4 * i)) 0 = w4 b i := by
 unfold w4
 simp only [getD_drop, Nat.mul_zero, Nat.zero_add, Nat.add_zero]
theorem w4_zero {b l : List UInt8} {i : Nat} (h : l = b.drop (4 * i)) : (l.getD 0 0).toNat * 16777216 + (l.getD 1 0).toNat * 65536 + (l.getD 2 0).toNat * 256 + (l.getD 3 0).toNat = w4 b i := by
 rw [← w4_drop b i, ← h]
 rfl
end Go.Sl
end
/-
  How the program and the reference guess the word of an instruction that has a target, as plain arithmetic.
-/
section
namespace Go.Sl

/-- An instruction with a target. -/
def insT (o a : Nat) (n : Int) : Ins := ⟨(o : Int), (a : Int), 0, 0, n⟩
def guN (o : Nat) (n t : Int) : Nat := (IntKind.i64.wrap (n - t) / 4 % ((2 ^ bitsF o : Nat) : Int)).toNat
def guW (o a : Nat) (n t : Int) : Nat := if regsF o = 1 then (o * 16777216 + guN o n t) ||| (a * 65536) else o * 16777216 + guN o n t
def encR (x : Ins) (t : Int) : Nat × Int := match encF x t with
 | some w => (w, 0)
 | none => (0, 20)
/-- The bits in which an instruction has its distance. -/
def fldF (o : Nat) : Nat := if o = 5 ∨ o = 6 then 24 else 16
/-- An instruction has a target inside code of a length. -/
def linkB (x : Ins) (n : Int) : Bool := decide (5 ≤ x.op ∧ x.op ≤ 8 ∧ 0 ≤ x.n ∧ x.n < n)
theorem bits_cases {o : Nat} (h5 : 5 ≤ o) (h8 : o ≤ 8) : (o < 7 ∧ regsF o = 0 ∧ bitsF o = 24) ∨ (7 ≤ o ∧ regsF o = 1 ∧ bitsF o = 16) := by
 rcases (by omega : o = 5 ∨ o = 6 ∨ o = 7 ∨ o = 8) with rfl | rfl | rfl | rfl
 · exact .inl ⟨by decide, rfl, rfl⟩
 · exact .inl ⟨by decide, rfl, rfl⟩
 · exact .inr ⟨by decide, rfl, rfl⟩
 · exact .inr ⟨by decide, rfl, rfl⟩
theorem guN_lt (o : Nat) (n t : Int) : guN o n t < 2 ^ bitsF o := by
 have hp : 0 < 2 ^ bitsF o := Nat.pow_pos (by decide)
 unfold guN
 have h1 := Int.emod_nonneg (IntKind.i64.wrap (n - t) / 4) (show ((2 ^ bitsF o : Nat) : Int) ≠ 0 by omega)
 have h2 := Int.emod_lt_of_pos (IntKind.i64.wrap (n - t) / 4) (show (0 : Int) < ((2 ^ bitsF o : Nat) : Int) by omega)
 omega
theorem guN_lt24 {o : Nat} (h5 : 5 ≤ o) (h8 : o ≤ 8) (n t : Int) : guN o n t < 16777216 := by
 have := guN_lt o n t
 rcases bits_cases h5 h8 with ⟨_, _, e⟩ | ⟨_, _, e⟩ <;> rw [e] at this <;> omega
theorem gu1_lt {o : Nat} (h5 : 5 ≤ o) (h8 : o ≤ 8) (n t : Int) : o * 16777216 + guN o n t < 4294967296 := by
 have := guN_lt24 h5 h8 n t
 omega
theorem guW_lt {o a : Nat} (h5 : 5 ≤ o) (h8 : o ≤ 8) (ha : a < 256) (n t : Int) : guW o a n t < 4294967296 := by
 have := gu1_lt h5 h8 n t
 unfold guW
 generalize guN o n t = g at this ⊢
 split
 · have e : (2 : Nat) ^ 32 = 4294967296 := by decide
   have h1 : o * 16777216 + g < 2 ^ 32 := by rw [e]; exact this
   have h2 : a * 65536 < 2 ^ 32 := Nat.lt_of_lt_of_le (Nat.mul_lt_mul_of_pos_right ha (by decide)) (by decide)
   have h := Nat.or_lt_two_pow h1 h2
   rwa [e] at h
 · exact this
theorem guW_sum {o a : Nat} (ha : a < 256) (n t : Int) (hr : regsF o = 1) (hb : bitsF o = 16) : guW o a n t = o * 16777216 + a * 65536 + guN o n t := by
 have h1 := guN_lt o n t
 rw [hb] at h1
 unfold guW
 rw [if_pos hr]
 have e1 := or_add (k := 24) (b := guN o n t) o (by omega)
 have e2 := or_add (k := 24) (b := a * 65536 + guN o n t) o (by omega)
 have e3 := or_add (k := 16) (b := guN o n t) a (by omega)
 rw [show (2 : Nat) ^ 24 = 16777216 by decide] at e1 e2
 rw [show (2 : Nat) ^ 16 = 65536 by decide] at e3
 rw [← e1, Nat.or_assoc, Nat.or_comm (guN o n t), e3, e2]
 omega
/-- What is decoded to an instruction with a target. -/
theorem dec_target {o a v : Nat} {n t : Int} (h5 : 5 ≤ o) (h8 : o ≤ 8) (h : decF v t = insT o a n) :
   v / 16777216 = o ∧ ((o < 7 ∧ a = 0 ∧ n = t + 4 * sgn (v % 16777216) 8388608) ∨ (o = 7 ∧ a ≤ 15 ∧ v / 65536 % 256 = a ∧ n = t + 4 * sgn (v % 65536) 32768) ∨ (o = 8 ∧ a ≤ 15 ∧ v / 65536 % 256 = a ∧ n = t + 4 * ((v % 65536 : Nat) : Int))) := by
 have g := congrArg Ins.op h
 have ga := congrArg Ins.a h
 have gn := congrArg Ins.n h
 simp only [insT] at g ga gn
 unfold decF at g ga gn
 by_cases c1 : v / 16777216 = 1 ∨ v / 16777216 = 3 ∨ v / 16777216 = 4
 · simp only [if_pos c1] at g
   split at g <;> simp only [datI] at g <;> omega
 · simp only [if_neg c1] at g ga gn
   by_cases c2 : v / 16777216 = 5 ∨ v / 16777216 = 6
   · simp only [if_pos c2] at g ga gn
     exact ⟨by omega, .inl ⟨by omega, by omega, by omega⟩⟩
   · simp only [if_neg c2] at g ga gn
     by_cases c3 : v / 16777216 = 2
     · simp only [if_pos c3] at g
       split at g <;> simp only [datI] at g <;> omega
     · simp only [if_neg c3] at g ga gn
       by_cases c4 : v / 16777216 = 7
       · simp only [if_pos c4] at g ga gn
         split at g
         · rename_i c
           simp only [if_pos c] at g ga gn
           exact ⟨by omega, .inr (.inl ⟨by omega, by omega, by omega, by omega⟩)⟩
         · simp only [datI] at g
           omega
       · simp only [if_neg c4] at g ga gn
         by_cases c5 : v / 16777216 = 8
         · simp only [if_pos c5] at g ga gn
           split at g
           · rename_i c
             simp only [if_pos c] at g ga gn
             exact ⟨by omega, .inr (.inr ⟨by omega, by omega, by omega, by omega⟩)⟩
           · simp only [datI] at g
             omega
         · simp only [if_neg c5, datI] at g
           omega
theorem sgn_mod {m h : Nat} (hm : m < 2 * h) : (sgn m h % ((2 * h : Nat) : Int)).toNat = m := by
 unfold sgn
 split
 · have e : ((m : Int) - 2 * (h : Int)) % ((2 * h : Nat) : Int) = (m : Int) := by
     rw [show (m : Int) - 2 * (h : Int) = (m : Int) + ((2 * h : Nat) : Int) * (-1) by rw [Int.natCast_mul]; omega, Int.add_mul_emod_self_left]
     exact Int.emod_eq_of_lt (by omega) (by omega)
   rw [e]
   rfl
 · rw [Int.emod_eq_of_lt (by omega) (by omega)]
   rfl
theorem wrap_small {a : Int} (h : -1099511627776 ≤ a ∧ a ≤ 1099511627776) : IntKind.i64.wrap a = a := by
 rw [IntKind.wrap_i64]
 omega
theorem quarter (a : Int) : 4 * a / 4 = a := by omega
theorem sgn_le {m h : Nat} (hm : m < 2 * h) (hh : h ≤ 8388608) : -8388608 ≤ sgn m h ∧ sgn m h ≤ 16777216 := by
 unfold sgn
 split <;> omega
theorem guW_right {o a v : Nat} {n t : Int} (h5 : 5 ≤ o) (h8 : o ≤ 8) (h : decF v t = insT o a n) : guW o a n t = v := by
 obtain ⟨e0, e⟩ := dec_target h5 h8 h
 rcases bits_cases h5 h8 with ⟨hlt, hr, hb⟩ | ⟨hge, hr, hb⟩
 · rcases e with ⟨_, e1, e2⟩ | ⟨e1, _⟩ | ⟨e1, _⟩
   · have hs := sgn_le (m := v % 16777216) (h := 8388608) (by omega) (by decide)
     have hg : guN o n t = v % 16777216 := by
       unfold guN
       rw [hb, show n - t = 4 * sgn (v % 16777216) 8388608 by omega, wrap_small (by omega), quarter]
       exact sgn_mod (h := 8388608) (by omega)
     unfold guW
     rw [if_neg (by omega), hg]
     omega
   · omega
   · omega
 · have hg : guN o n t = v % 65536 := by
     unfold guN
     rcases e with ⟨e1, _⟩ | ⟨_, _, _, e2⟩ | ⟨_, _, _, e2⟩
     · omega
     · have hs := sgn_le (m := v % 65536) (h := 32768) (by omega) (by decide)
       rw [hb, show n - t = 4 * sgn (v % 65536) 32768 by omega, wrap_small (by omega), quarter]
       exact sgn_mod (h := 32768) (by omega)
     · rw [hb, show n - t = 4 * ((v % 65536 : Nat) : Int) by omega, wrap_small (by omega), quarter, show ((2 ^ 16 : Nat) : Int) = 65536 by decide]
       omega
   have ha : a < 256 := by omega
   rw [guW_sum ha n t hr hb, hg]
   omega
theorem enc_guess {o a w : Nat} {n t : Int} (hw : w < 4294967296) (hg : ∀ v, v < 4294967296 → decF v t = insT o a n → w = v) : encF (insT o a n) t = if decF w t = insT o a n then some w else none := by
 refine encF_guess hw ?_
 rintro ⟨v, hv⟩
 obtain ⟨h1, h2⟩ := encF_some hv
 rw [hg v h1 h2, ← h2]
 exact (enc_dec h1 t).symm
theorem encR_eq {x : Ins} {t : Int} {w : Nat} (h : encF x t = if decF w t = x then some w else none) (e : decF w t = x) : encR x t = (w, 0) := by
 unfold encR
 rw [h, if_pos e]
theorem encR_ne {x : Ins} {t : Int} {w : Nat} (h : encF x t = if decF w t = x then some w else none) (e : decF w t ≠ x) : encR x t = (0, 20) := by
 unfold encR
 rw [h, if_neg e]
theorem insT_regs (a : Nat) {i : Nat} (h : i < 3) : (#[.int .i64 (a : Int), .int .i64 0, .int .i64 0] : Array Value)[i]? = some (.int .i64 (if i = 0 then (a : Int) else 0)) := by
 rcases (by omega : i = 0 ∨ i = 1 ∨ i = 2) with rfl | rfl | rfl <;> rfl
theorem targ_yes {o : Nat} (h5 : 5 ≤ o) (h8 : o ≤ 8) : targF o = true := by
 rcases (by omega : o = 5 ∨ o = 6 ∨ o = 7 ∨ o = 8) with rfl | rfl | rfl | rfl <;> rfl
theorem pow_bits (o : Nat) : 2 ^ bitsF o ≤ 16777216 := Nat.le_trans (Nat.pow_le_pow_right (by decide) (bits_le o)) (by decide)
theorem guN_eq (o : Nat) (n t : Int) : IntKind.i64.wrap (n - t) / 4 % ((2 ^ bitsF o : Nat) : Int) = (guN o n t : Int) := by
 have hp : 0 < 2 ^ bitsF o := Nat.pow_pos (by decide)
 unfold guN
 exact (Int.toNat_of_nonneg (Int.emod_nonneg _ (by omega))).symm
end Go.Sl
end
