/-
  How the reference decodes a word.
-/
import Derived.Test.YtbkmahjhhncfcaaGreatQWLaN
namespace Go.Proofs.YtbkmahjhhncfcaaGreat
open Go.Sl

theorem signed_c (n k : Nat) (hk : k ≤ 23) (hn : n < 2 * 2 ^ k) :
   Ctr X 79 [.int .i64 (n : Int), .int .i64 ((k + 1 : Nat) : Int)] [] [] (fun v R' H' => v = .int .i64 (sgn n (2 ^ k)) ∧ R' = [] ∧ H' = []) := by
 have hle : 2 ^ k ≤ 2 ^ 23 := Nat.pow_le_pow_right (by decide) hk
 have h23 : (2 : Nat) ^ 23 = 8388608 := by decide
 rw [h23] at hle
 have hs : 2 ^ (k + 1) = 2 * 2 ^ k := by rw [Nat.pow_succ, Nat.mul_comm]
 obtain ⟨p, hp⟩ : ∃ p, 2 ^ k = p := ⟨_, rfl⟩
 rw [hp] at hle hn hs ⊢
 refine Ctr.of (X := X) (fn := Tryz.f79) Tryz.func79 rfl (by kernel_rfl) rfl ?_
 intro β
 refine C.seq (C.region ?_); refine Lpu rfl rfl ?_; refine L.nil (QE.seq (C.seq (C.seq (C.region ?_)))); refine Lpu rfl rfl ?_; refine Lpu rfl rfl ?_; refine L.step (Ev.cast (u := .int .i64 ((k : Nat) : Int)) (Ev.sub rfl rfl (by omega) (by omega)) (congrArg (Value.int .i64) (by omega))) rfl ?_; refine L.step (Ev.cast (u := .int .i64 ((p : Nat) : Int)) (Ev.shlI (m := 1) (k := k) rfl rfl (by omega) (by rw [hp]; omega)) (congrArg (Value.int .i64) (by rw [hp, Nat.one_mul]))) rfl ?_; refine Lpu rfl rfl ?_; refine L.nil (QE.seq ?_)
 refine C.condB 9 rfl (fun hc9 => ?_) (fun hc9 => ?_)
 ·
  replace hc9 := of_decide_eq_true hc9
  refine C.seq (C.region ?_); refine Lpu rfl rfl ?_; refine Lpu rfl rfl ?_; refine L.step (Ev.cast (u := .int .i64 ((2 * p : Nat) : Int)) (Ev.shlI (m := 1) (k := k + 1) rfl rfl (by omega) (by rw [hs]; omega)) (congrArg (Value.int .i64) (by rw [hs, Nat.one_mul]))) rfl ?_; refine L.step (Ev.sub rfl rfl (by omega) (by omega)) rfl ?_; refine Lpu rfl rfl ?_; refine L.nil (QE.seq (C.ret (QE.tR ?_))); refine QE.ret (js := []) (hs := []) (vs := [_]) rfl ⟨rfl, trivial⟩ (by decide) ?_
  refine ⟨congrArg (Value.int .i64) ?_, rfl, rfl⟩
  unfold sgn
  rw [if_pos (by omega)]
  omega
 ·
  replace hc9 := of_decide_eq_false hc9
  refine C.skip (QE.seq (C.seq (C.region ?_))); refine Lpu rfl rfl ?_; refine Lpu rfl rfl ?_; refine L.nil (QE.seq (C.ret ?_)); refine QE.ret (js := []) (hs := []) (vs := [_]) rfl ⟨rfl, trivial⟩ (by decide) ?_
  refine ⟨congrArg (Value.int .i64) ?_, rfl, rfl⟩
  unfold sgn
  rw [if_neg (by omega)]

set_option maxHeartbeats 2000000 in
theorem decode2_c (w : Nat) (t : Int) (hw : w < 4294967296) (ht : -1099511627776 ≤ t ∧ t ≤ 1099511627776) :
   Ctr X 47 [.int .u32 (w : Int), .int .i64 t] [] [] (fun v R' H' => v = .agg (List.toArray (in5 (decF w t))) ∧ R' = [] ∧ H' = []) := by
 refine Ctr.of (X := X) (fn := Tryz.f47) Tryz.func47 rfl (by kernel_rfl) rfl ?_
 intro β
 refine C.seq (C.region ?_)
 refine L.alloc rfl rfl rfl (fun A4 => ?_)
 refine L.nil (QE.seq (C.seq (C.region ?_))); refine Lpu rfl rfl ?_; refine L.step (Ev.shr32 (k := 24) (q := (w / 16777216)) rfl rfl rfl (by decide) rfl) rfl ?_; refine L.step (Ev.toInt rfl rfl rfl rfl (by omega) (by omega)) rfl ?_; refine Lpu rfl rfl ?_; refine L.step (Ev.shr32 (k := 16) (q := w / 65536) rfl rfl rfl (by decide) rfl) rfl ?_; refine L.step (Ev.low32 8 (q := (w / 65536 % 256)) rfl rfl rfl (by omega) (by decide) rfl) rfl ?_; refine L.step (Ev.toInt rfl rfl rfl rfl (by omega) (by omega)) rfl ?_; refine Lpu rfl rfl ?_; refine L.step (Ev.shr32 (k := 8) (q := w / 256) rfl rfl rfl (by decide) rfl) rfl ?_; refine L.step (Ev.low32 8 (q := (w / 256 % 256)) rfl rfl rfl (by omega) (by decide) rfl) rfl ?_; refine L.step (Ev.toInt rfl rfl rfl rfl (by omega) (by omega)) rfl ?_; refine Lpu rfl rfl ?_; refine L.step (Ev.low32 8 (q := (w % 256)) rfl rfl rfl (by omega) (by decide) rfl) rfl ?_; refine L.step (Ev.toInt rfl rfl rfl rfl (by omega) (by omega)) rfl ?_; refine Lpu rfl rfl ?_; refine Lpu rfl rfl ?_; refine Lpu rfl rfl ?_; refine Lpu rfl rfl ?_; refine L.nil (QE.seq (C.seq (C.region ?_))); refine Lpu rfl rfl ?_; refine L.step (Ev.mul rfl rfl (by omega) (by omega)) rfl ?_; refine Lpu rfl rfl ?_; refine L.step (Ev.cast (u := .int .i64 (((w % 65536) : Nat) : Int)) (Ev.add rfl rfl (by omega) (by omega)) (congrArg (Value.int .i64) (by omega))) rfl ?_; refine Lpu rfl rfl ?_; refine L.nil (QE.seq (C.seq (C.region ?_))); refine Lpu rfl rfl ?_; refine L.step (Ev.toInt rfl rfl rfl rfl (by omega) (by omega)) rfl ?_; refine L.step (Ev.build rfl rfl rfl rfl rfl rfl rfl) rfl ?_
 refine L.alloc rfl rfl rfl (fun A10 => ?_)
 refine L.storeA (j := 1) rfl rfl rfl rfl rfl (Nat.zero_lt_succ _) rfl rfl ?_; refine L.nil (QE.seq (C.seq (C.seq ?_))); refine C.freeze 1 rfl [0] (by decide) (by decide) ?_; refine C.norm (H' := [_]) [0] ⟨rfl, trivial⟩ (by decide) ?_; refine C.region ?_; refine Lpu rfl rfl ?_; refine L.nil (QE.seq (C.block ?_)); refine C.seqJ (fun u : Bool => [(0, .int .u32 (w : Int)), (1, .int .i64 t), (4, ptrOf A4 0), (5, .int .i64 ((w / 16777216) : Int)), (6, .int .i64 ((w / 65536 % 256) : Int)), (7, .int .i64 ((w / 256 % 256) : Int)), (8, .int .i64 ((w % 256) : Int)), (9, .int .i64 ((w % 65536) : Int)), (10, ptrOf A10 0), (33, .int .i64 ((w / 16777216) : Int)), (34, .bool u)]) (fun u : Bool => [Rd A10 [.int .i64 0, .int .i64 0, .int .i64 0, .int .i64 0, .int .i64 (w : Int)]]) (fun u : Bool => [Own 78 5 A4 1 1 [.int .i64 0, .int .i64 0, .int .i64 0, .int .i64 0, .int .i64 0]]) (fun u : Bool => u = decide ((w / 16777216) = 1 ∨ (w / 16777216) = 3 ∨ (w / 16777216) = 4)) ?_ ?_
 ·
  refine C.seq (C.region ?_); refine Lpu rfl rfl ?_; refine Lpu rfl rfl ?_; refine L.nil (QE.seq ?_)
  refine C.condB 34 rfl (fun hc34 => ?_) (fun hc34 => ?_)
  ·
   first | replace hc34 := i_eq hc34 | (have h34 := of_decide_eq_true (hu34.symm.trans hc34))
   refine C.skip ?_
   refine QE.join (true) (by exact (decide_eq_true (by omega)).symm) (by exact Le.mk' (rs := [0]) (hs := [0]) ⟨rfl, rfl, rfl, rfl, rfl, rfl, rfl, rfl, rfl, rfl, rfl, trivial⟩ ⟨rfl, trivial⟩ ⟨rfl, trivial⟩ (by decide))
  ·
   first | replace hc34 := i_ne hc34 | (have h34 := of_decide_eq_false (hu34.symm.trans hc34))
   refine C.seq (C.region ?_); refine Lpu rfl rfl ?_; refine Lpu rfl rfl ?_; refine L.nil (QE.seq ?_)
   refine C.condB 34 rfl (fun hc34 => ?_) (fun hc34 => ?_)
   ·
    first | replace hc34 := i_eq hc34 | (have h34 := of_decide_eq_true (hu34.symm.trans hc34))
    refine C.skip ?_
    refine QE.join (true) (by exact (decide_eq_true (by omega)).symm) (by exact Le.mk' (rs := [0]) (hs := [0]) ⟨rfl, rfl, rfl, rfl, rfl, rfl, rfl, rfl, rfl, rfl, rfl, trivial⟩ ⟨rfl, trivial⟩ ⟨rfl, trivial⟩ (by decide))
   ·
    first | replace hc34 := i_ne hc34 | (have h34 := of_decide_eq_false (hu34.symm.trans hc34))
    refine C.region ?_; refine Lpu rfl rfl ?_; refine Lpu rfl rfl ?_; refine L.nil ?_
    refine QE.join (((((w / 16777216) : Nat) : Int) == 4)) (by rw [Bool.eq_iff_iff, beq_iff_eq, decide_eq_true_iff]; omega) (by exact Le.mk' (rs := [0]) (hs := [0]) ⟨rfl, rfl, rfl, rfl, rfl, rfl, rfl, rfl, rfl, rfl, rfl, trivial⟩ ⟨rfl, trivial⟩ ⟨rfl, trivial⟩ (by decide))
 ·
  intro u hu34
  refine C.condB 34 rfl (fun hc34 => ?_) (fun hc34 => ?_)
  ·
   first | replace hc34 := i_eq hc34 | (have h34 := of_decide_eq_true (hu34.symm.trans hc34))
   refine C.seq (C.seq (C.region ?_)); refine Lpu rfl rfl ?_; refine Lpu rfl rfl ?_; refine Lpu rfl rfl ?_
   refine L.bool 40 rfl (fun hg40 => ?_) (fun hg40 => ?_)
   ·
    replace hg40 := of_decide_eq_true hg40
    refine L.no rfl rfl rfl ?_; refine L.no rfl rfl rfl ?_; refine Lpu rfl rfl ?_; refine Lpu rfl rfl ?_; refine L.no rfl rfl rfl ?_; refine L.no rfl rfl rfl ?_; refine Lpu rfl rfl ?_; refine L.nil (QE.seq ?_)
    refine C.cond rfl (fun _ => ?_) (fun h => by cases h)
    refine C.seq (C.region ?_); refine L.step (Ev.loadA rfl rfl rfl (Src.r 0 rfl) rfl rfl (by decide)) rfl ?_; refine L.storeA (j := 0) rfl rfl rfl rfl rfl (Nat.zero_lt_succ _) rfl rfl ?_; refine L.nil (QE.seq (C.ret (QE.tR (QE.bR (QE.tR ?_))))); refine QE.ret (js := []) (hs := []) (vs := [_]) rfl ⟨⟨_, _, 0, _, rfl, rfl, Src.o 0 rfl, .inl ⟨rfl, by decide, _, rfl, rfl, rfl⟩⟩, trivial⟩ (by decide) ?_
    refine ⟨?_, rfl, rfl⟩
    have hdd : decF w t = datI w := by
      unfold decF
      rw [if_pos h34, if_neg (by omega)]
    rw [hdd]
    rfl
   ·
    replace hg40 := of_decide_eq_false hg40
    refine L.yes rfl ?_; refine Lpu rfl rfl ?_; refine L.yes rfl ?_; refine Lpu rfl rfl ?_; refine Lpu rfl rfl ?_; refine Lpu rfl rfl ?_
    refine L.bool 44 rfl (fun hg44 => ?_) (fun hg44 => ?_)
    ·
     replace hg44 := of_decide_eq_true hg44
     refine L.no rfl rfl rfl ?_; refine L.no rfl rfl rfl ?_; refine Lpu rfl rfl ?_; refine L.nil (QE.seq ?_)
     refine C.cond rfl (fun _ => ?_) (fun h => by cases h)
     refine C.seq (C.region ?_); refine L.step (Ev.loadA rfl rfl rfl (Src.r 0 rfl) rfl rfl (by decide)) rfl ?_; refine L.storeA (j := 0) rfl rfl rfl rfl rfl (Nat.zero_lt_succ _) rfl rfl ?_; refine L.nil (QE.seq (C.ret (QE.tR (QE.bR (QE.tR ?_))))); refine QE.ret (js := []) (hs := []) (vs := [_]) rfl ⟨⟨_, _, 0, _, rfl, rfl, Src.o 0 rfl, .inl ⟨rfl, by decide, _, rfl, rfl, rfl⟩⟩, trivial⟩ (by decide) ?_
     refine ⟨?_, rfl, rfl⟩
     have hdd : decF w t = datI w := by
       unfold decF
       rw [if_pos h34, if_neg (by omega)]
     rw [hdd]
     rfl
    ·
     replace hg44 := of_decide_eq_false hg44
     refine L.yes rfl ?_; refine Lpu rfl rfl ?_; refine L.yes rfl ?_; refine Lpu rfl rfl ?_; refine Lpu rfl rfl ?_; refine L.nil (QE.seq ?_)
     refine C.condB 47 rfl (fun hc47 => ?_) (fun hc47 => ?_)
     ·
      replace hc47 := of_decide_eq_true hc47
      refine C.seq (C.region ?_); refine L.step (Ev.loadA rfl rfl rfl (Src.r 0 rfl) rfl rfl (by decide)) rfl ?_; refine L.storeA (j := 0) rfl rfl rfl rfl rfl (Nat.zero_lt_succ _) rfl rfl ?_; refine L.nil (QE.seq (C.ret (QE.tR (QE.bR (QE.tR ?_))))); refine QE.ret (js := []) (hs := []) (vs := [_]) rfl ⟨⟨_, _, 0, _, rfl, rfl, Src.o 0 rfl, .inl ⟨rfl, by decide, _, rfl, rfl, rfl⟩⟩, trivial⟩ (by decide) ?_
      refine ⟨?_, rfl, rfl⟩
      have hdd : decF w t = datI w := by
        unfold decF
        rw [if_pos h34, if_neg (by omega)]
      rw [hdd]
      rfl
     ·
      replace hc47 := of_decide_eq_false hc47
      refine C.skip (QE.seq (C.seq (C.region ?_))); refine Lpu rfl rfl ?_; refine Lpu rfl rfl ?_; refine Lpu rfl rfl ?_; refine Lpu rfl rfl ?_; refine L.step (Ev.build rfl rfl rfl rfl rfl rfl rfl) rfl ?_; refine L.storeA (j := 0) rfl rfl rfl rfl rfl (Nat.zero_lt_succ _) rfl rfl ?_; refine L.nil (QE.seq (C.ret (QE.bR (QE.tR ?_)))); refine QE.ret (js := []) (hs := []) (vs := [_]) rfl ⟨⟨_, _, 0, _, rfl, rfl, Src.o 0 rfl, .inl ⟨rfl, by decide, _, rfl, rfl, rfl⟩⟩, trivial⟩ (by decide) ?_
      refine ⟨?_, rfl, rfl⟩
      have hdd : decF w t = ⟨((w / 16777216) : Nat), ((w / 65536 % 256) : Nat), ((w / 256 % 256) : Nat), ((w % 256) : Nat), 0⟩ := by
        unfold decF
        rw [if_pos h34, if_pos (by omega)]
      rw [hdd]
      rfl
  ·
   first | replace hc34 := i_ne hc34 | (have h34 := of_decide_eq_false (hu34.symm.trans hc34))
   refine C.seqJ (fun u : Bool => [(0, .int .u32 (w : Int)), (1, .int .i64 t), (4, ptrOf A4 0), (5, .int .i64 ((w / 16777216) : Int)), (6, .int .i64 ((w / 65536 % 256) : Int)), (7, .int .i64 ((w / 256 % 256) : Int)), (8, .int .i64 ((w % 256) : Int)), (9, .int .i64 ((w % 65536) : Int)), (10, ptrOf A10 0), (33, .int .i64 ((w / 16777216) : Int)), (54, .bool u)]) (fun u : Bool => [Rd A10 [.int .i64 0, .int .i64 0, .int .i64 0, .int .i64 0, .int .i64 (w : Int)]]) (fun u : Bool => [Own 78 5 A4 1 1 [.int .i64 0, .int .i64 0, .int .i64 0, .int .i64 0, .int .i64 0]]) (fun u : Bool => u = decide ((w / 16777216) = 5 ∨ (w / 16777216) = 6)) ?_ ?_
   ·
    refine C.seq (C.region ?_); refine Lpu rfl rfl ?_; refine Lpu rfl rfl ?_; refine L.nil (QE.seq ?_)
    refine C.condB 54 rfl (fun hc54 => ?_) (fun hc54 => ?_)
    ·
     first | replace hc54 := i_eq hc54 | (have h54 := of_decide_eq_true (hu54.symm.trans hc54))
     refine C.skip ?_
     refine QE.join (true) (by exact (decide_eq_true (by omega)).symm) (by exact Le.mk' (rs := [0]) (hs := [0]) ⟨rfl, rfl, rfl, rfl, rfl, rfl, rfl, rfl, rfl, rfl, rfl, trivial⟩ ⟨rfl, trivial⟩ ⟨rfl, trivial⟩ (by decide))
    ·
     first | replace hc54 := i_ne hc54 | (have h54 := of_decide_eq_false (hu54.symm.trans hc54))
     refine C.region ?_; refine Lpu rfl rfl ?_; refine Lpu rfl rfl ?_; refine L.nil ?_
     refine QE.join (((((w / 16777216) : Nat) : Int) == 6)) (by rw [Bool.eq_iff_iff, beq_iff_eq, decide_eq_true_iff]; omega) (by exact Le.mk' (rs := [0]) (hs := [0]) ⟨rfl, rfl, rfl, rfl, rfl, rfl, rfl, rfl, rfl, rfl, rfl, trivial⟩ ⟨rfl, trivial⟩ ⟨rfl, trivial⟩ (by decide))
   ·
    intro u hu54
    refine C.condB 54 rfl (fun hc54 => ?_) (fun hc54 => ?_)
    ·
     first | replace hc54 := i_eq hc54 | (have h54 := of_decide_eq_true (hu54.symm.trans hc54))
     refine C.seq ?_
     have hsg := sgn_le (m := w % 16777216) (h := 8388608) (by omega) (by decide)
     rw [show 8388608 = 2 ^ 23 from rfl] at hsg
     refine C.region ?_; refine Lpu rfl rfl ?_; refine Lpu rfl rfl ?_; refine Lpu rfl rfl ?_; refine L.step (Ev.mul rfl rfl (by omega) (by omega)) rfl ?_; refine Lpu rfl rfl ?_; refine L.step (Ev.cast (u := .int .i64 ((w % 16777216 : Nat) : Int)) (Ev.add rfl rfl (by omega) (by omega)) (congrArg (Value.int .i64) (by omega))) rfl ?_; refine L.call (js := []) (js' := [0]) (signed_c (w % 16777216) 23 (by decide) (Nat.mod_lt _ (by decide))) rfl rfl rfl (by decide) trivial rfl ?_
     rintro _ _ _ ⟨rfl, rfl, rfl⟩
     refine L.norm (H' := [_]) [0] ⟨rfl, trivial⟩ (by decide) ?_; refine L.step (Ev.mul rfl rfl (by omega) (by omega)) rfl ?_; refine L.step (Ev.add rfl rfl (by omega) (by omega)) rfl ?_; refine L.step (Ev.build rfl rfl rfl rfl rfl rfl rfl) rfl ?_; refine L.storeA (j := 0) rfl rfl rfl rfl rfl (Nat.zero_lt_succ _) rfl rfl ?_; refine L.nil (QE.seq (C.ret (QE.bR (QE.tR ?_)))); refine QE.ret (js := []) (hs := []) (vs := [_]) rfl ⟨⟨_, _, 0, _, rfl, rfl, Src.o 0 rfl, .inl ⟨rfl, by decide, _, rfl, rfl, rfl⟩⟩, trivial⟩ (by decide) ?_
     refine ⟨?_, rfl, rfl⟩
     have hdd : decF w t = ⟨((w / 16777216) : Nat), 0, 0, 0, t + 4 * sgn (w % 16777216) 8388608⟩ := by
       unfold decF
       rw [if_neg h34, if_pos h54]
     rw [hdd]
     rfl
    ·
     first | replace hc54 := i_ne hc54 | (have h54 := of_decide_eq_false (hu54.symm.trans hc54))
     refine C.seqJ (fun u : Bool => [(0, .int .u32 (w : Int)), (1, .int .i64 t), (4, ptrOf A4 0), (5, .int .i64 ((w / 16777216) : Int)), (6, .int .i64 ((w / 65536 % 256) : Int)), (7, .int .i64 ((w / 256 % 256) : Int)), (8, .int .i64 ((w % 256) : Int)), (9, .int .i64 ((w % 65536) : Int)), (10, ptrOf A10 0), (33, .int .i64 ((w / 16777216) : Int)), (67, .bool u)]) (fun u : Bool => [Rd A10 [.int .i64 0, .int .i64 0, .int .i64 0, .int .i64 0, .int .i64 (w : Int)]]) (fun u : Bool => [Own 78 5 A4 1 1 [.int .i64 0, .int .i64 0, .int .i64 0, .int .i64 0, .int .i64 0]]) (fun u : Bool => u = decide ((w / 16777216) = 2 ∨ (w / 16777216) = 7 ∨ (w / 16777216) = 8)) ?_ ?_
     ·
      refine C.seq (C.region ?_); refine Lpu rfl rfl ?_; refine Lpu rfl rfl ?_; refine L.nil (QE.seq ?_)
      refine C.condB 67 rfl (fun hc67 => ?_) (fun hc67 => ?_)
      ·
       first | replace hc67 := i_eq hc67 | (have h67 := of_decide_eq_true (hu67.symm.trans hc67))
       refine C.skip ?_
       refine QE.join (true) (by exact (decide_eq_true (by omega)).symm) (by exact Le.mk' (rs := [0]) (hs := [0]) ⟨rfl, rfl, rfl, rfl, rfl, rfl, rfl, rfl, rfl, rfl, rfl, trivial⟩ ⟨rfl, trivial⟩ ⟨rfl, trivial⟩ (by decide))
      ·
       first | replace hc67 := i_ne hc67 | (have h67 := of_decide_eq_false (hu67.symm.trans hc67))
       refine C.seq (C.region ?_); refine Lpu rfl rfl ?_; refine Lpu rfl rfl ?_; refine L.nil (QE.seq ?_)
       refine C.condB 67 rfl (fun hc67 => ?_) (fun hc67 => ?_)
       ·
        first | replace hc67 := i_eq hc67 | (have h67 := of_decide_eq_true (hu67.symm.trans hc67))
        refine C.skip ?_
        refine QE.join (true) (by exact (decide_eq_true (by omega)).symm) (by exact Le.mk' (rs := [0]) (hs := [0]) ⟨rfl, rfl, rfl, rfl, rfl, rfl, rfl, rfl, rfl, rfl, rfl, trivial⟩ ⟨rfl, trivial⟩ ⟨rfl, trivial⟩ (by decide))
       ·
        first | replace hc67 := i_ne hc67 | (have h67 := of_decide_eq_false (hu67.symm.trans hc67))
        refine C.region ?_; refine Lpu rfl rfl ?_; refine Lpu rfl rfl ?_; refine L.nil ?_
        refine QE.join (((((w / 16777216) : Nat) : Int) == 8)) (by rw [Bool.eq_iff_iff, beq_iff_eq, decide_eq_true_iff]; omega) (by exact Le.mk' (rs := [0]) (hs := [0]) ⟨rfl, rfl, rfl, rfl, rfl, rfl, rfl, rfl, rfl, rfl, rfl, trivial⟩ ⟨rfl, trivial⟩ ⟨rfl, trivial⟩ (by decide))
     ·
      intro u hu67
      refine C.condB 67 rfl (fun hc67 => ?_) (fun hc67 => ?_)
      ·
       first | replace hc67 := i_eq hc67 | (have h67 := of_decide_eq_true (hu67.symm.trans hc67))
       refine C.seq (C.seq (C.region ?_)); refine Lpu rfl rfl ?_; refine Lpu rfl rfl ?_; refine L.nil (QE.seq ?_)
       refine C.condB 72 rfl (fun hc72 => ?_) (fun hc72 => ?_)
       ·
        replace hc72 := of_decide_eq_true hc72
        refine C.seq (C.region ?_); refine L.step (Ev.loadA rfl rfl rfl (Src.r 0 rfl) rfl rfl (by decide)) rfl ?_; refine L.storeA (j := 0) rfl rfl rfl rfl rfl (Nat.zero_lt_succ _) rfl rfl ?_; refine L.nil (QE.seq (C.ret (QE.tR (QE.bR (QE.tR ?_))))); refine QE.ret (js := []) (hs := []) (vs := [_]) rfl ⟨⟨_, _, 0, _, rfl, rfl, Src.o 0 rfl, .inl ⟨rfl, by decide, _, rfl, rfl, rfl⟩⟩, trivial⟩ (by decide) ?_
        refine ⟨?_, rfl, rfl⟩
        have hdd : decF w t = datI w := by
          unfold decF
          rw [if_neg h34, if_neg h54]
          rcases h67 with e | e | e
          · rw [if_pos e, if_neg (by omega)]
          · rw [if_neg (by omega), if_pos e, if_neg (by omega)]
          · rw [if_neg (by omega), if_neg (by omega), if_pos e, if_neg (by omega)]
        rw [hdd]
        rfl
       ·
        replace hc72 := of_decide_eq_false hc72
        refine C.skip (QE.seq (C.seq (C.region ?_))); refine Lpu rfl rfl ?_; refine Lpu rfl rfl ?_; refine Lpu rfl rfl ?_; refine L.step (Ev.build rfl rfl rfl rfl rfl rfl rfl) rfl ?_
        refine L.alloc rfl rfl rfl (fun A11 => ?_)
        refine L.storeA (j := 1) rfl rfl rfl rfl rfl (Nat.zero_lt_succ _) rfl rfl ?_; refine L.nil (QE.seq ?_); refine C.seqJ (fun u : Unit => [(0, .int .u32 (w : Int)), (1, .int .i64 t), (4, ptrOf A4 0), (5, .int .i64 ((w / 16777216) : Int)), (6, .int .i64 ((w / 65536 % 256) : Int)), (7, .int .i64 ((w / 256 % 256) : Int)), (8, .int .i64 ((w % 256) : Int)), (9, .int .i64 ((w % 65536) : Int)), (10, ptrOf A10 0), (33, .int .i64 ((w / 16777216) : Int)), (11, ptrOf A11 0)]) (fun u : Unit => [Rd A10 [.int .i64 0, .int .i64 0, .int .i64 0, .int .i64 0, .int .i64 (w : Int)]]) (fun u : Unit => [Own 78 5 A4 1 1 [.int .i64 0, .int .i64 0, .int .i64 0, .int .i64 0, .int .i64 0], Own 78 5 A11 1 1 [.int .i64 ((w / 16777216) : Int), .int .i64 ((w / 65536 % 256) : Int), .int .i64 0, .int .i64 0, .int .i64 (if (w / 16777216) = 7 then t + 4 * sgn (w % 65536) 32768 else ((w % 65536) : Int))]]) (fun u : Unit => True) ?_ ?_
        ·
         refine C.seq (C.region ?_); refine Lpu rfl rfl ?_; refine Lpu rfl rfl ?_; refine L.nil (QE.seq ?_)
         refine C.condB 79 rfl (fun hc79 => ?_) (fun hc79 => ?_)
         ·
          replace hc79 := i_eq hc79
          have hsg := sgn_le (m := w % 65536) (h := 32768) (by omega) (by decide)
          rw [show 32768 = 2 ^ 15 from rfl] at hsg
          refine C.region ?_; refine Lpu rfl rfl ?_; refine Lpu rfl rfl ?_; refine L.call (js := []) (js' := [0, 1]) (signed_c (w % 65536) 15 (by decide) (Nat.mod_lt _ (by decide))) rfl rfl rfl (by decide) trivial rfl ?_
          rintro _ _ _ ⟨rfl, rfl, rfl⟩
          refine L.norm (H' := [_, _]) [0, 1] ⟨rfl, rfl, trivial⟩ (by decide) ?_; refine L.step (Ev.mul rfl rfl (by omega) (by omega)) rfl ?_; refine L.step (Ev.add rfl rfl (by omega) (by omega)) rfl ?_; refine L.step (Ev.fieldAddr rfl rfl rfl rfl rfl rfl (Src.o 1 rfl) (Nat.zero_lt_succ _) rfl) rfl ?_; refine L.store (j := 1) rfl rfl rfl rfl rfl rfl rfl rfl ?_; refine L.nil ?_
          refine QE.join (()) (by exact trivial) (by exact Le.mk' (rs := [0]) (hs := [0, 1]) ⟨rfl, rfl, rfl, rfl, rfl, rfl, rfl, rfl, rfl, rfl, rfl, trivial⟩ ⟨rfl, trivial⟩ ⟨rfl, (congrArg some (own_eq2 rfl (by rw [if_pos (show w / 16777216 = 7 by omega)]; rfl))), trivial⟩ (by decide))
         ·
          replace hc79 := i_ne hc79
          refine C.skip ?_
          refine QE.join (()) (by exact trivial) (by exact Le.mk' (rs := [0]) (hs := [0, 1]) ⟨rfl, rfl, rfl, rfl, rfl, rfl, rfl, rfl, rfl, rfl, rfl, trivial⟩ ⟨rfl, trivial⟩ ⟨rfl, (congrArg some (own_eq2 rfl (by rw [if_neg (show ¬ w / 16777216 = 7 by omega)]; rfl))), trivial⟩ (by decide))
        ·
         intro _ _
         refine C.seqJ (fun u : Unit => [(0, .int .u32 (w : Int)), (1, .int .i64 t), (4, ptrOf A4 0), (5, .int .i64 ((w / 16777216) : Int)), (6, .int .i64 ((w / 65536 % 256) : Int)), (7, .int .i64 ((w / 256 % 256) : Int)), (8, .int .i64 ((w % 256) : Int)), (9, .int .i64 ((w % 65536) : Int)), (10, ptrOf A10 0), (33, .int .i64 ((w / 16777216) : Int)), (11, ptrOf A11 0)]) (fun u : Unit => [Rd A10 [.int .i64 0, .int .i64 0, .int .i64 0, .int .i64 0, .int .i64 (w : Int)]]) (fun u : Unit => [Own 78 5 A4 1 1 [.int .i64 0, .int .i64 0, .int .i64 0, .int .i64 0, .int .i64 0], Own 78 5 A11 1 1 [.int .i64 ((w / 16777216) : Int), .int .i64 ((w / 65536 % 256) : Int), .int .i64 0, .int .i64 0, .int .i64 (if (w / 16777216) = 8 then t + 4 * ((w % 65536) : Int) else (if (w / 16777216) = 7 then t + 4 * sgn (w % 65536) 32768 else ((w % 65536) : Int)))]]) (fun u : Unit => True) ?_ ?_
         ·
          refine C.seq (C.region ?_); refine Lpu rfl rfl ?_; refine Lpu rfl rfl ?_; refine L.nil (QE.seq ?_)
          refine C.condB 87 rfl (fun hc87 => ?_) (fun hc87 => ?_)
          ·
           replace hc87 := i_eq hc87
           refine C.region ?_; refine Lpu rfl rfl ?_; refine Lpu rfl rfl ?_; refine L.step (Ev.mul rfl rfl (by omega) (by omega)) rfl ?_; refine L.step (Ev.add rfl rfl (by omega) (by omega)) rfl ?_; refine L.step (Ev.fieldAddr rfl rfl rfl rfl rfl rfl (Src.o 1 rfl) (Nat.zero_lt_succ _) rfl) rfl ?_; refine L.store (j := 1) rfl rfl rfl rfl rfl rfl rfl rfl ?_; refine L.nil ?_
           refine QE.join (()) (by exact trivial) (by exact Le.mk' (rs := [0]) (hs := [0, 1]) ⟨rfl, rfl, rfl, rfl, rfl, rfl, rfl, rfl, rfl, rfl, rfl, trivial⟩ ⟨rfl, trivial⟩ ⟨rfl, (congrArg some (own_eq2 rfl (by rw [if_pos (show w / 16777216 = 8 by omega)]; rfl))), trivial⟩ (by decide))
          ·
           replace hc87 := i_ne hc87
           refine C.skip ?_
           refine QE.join (()) (by exact trivial) (by exact Le.mk' (rs := [0]) (hs := [0, 1]) ⟨rfl, rfl, rfl, rfl, rfl, rfl, rfl, rfl, rfl, rfl, rfl, trivial⟩ ⟨rfl, trivial⟩ ⟨rfl, (congrArg some (own_eq2 rfl (by rw [if_neg (show ¬ w / 16777216 = 8 by omega)]))), trivial⟩ (by decide))
         ·
          intro _ _
          refine C.seq (C.region ?_); refine L.step (Ev.loadA rfl rfl rfl (Src.o 1 rfl) rfl rfl (by decide)) rfl ?_; refine L.storeA (j := 0) rfl rfl rfl rfl rfl (Nat.zero_lt_succ _) rfl rfl ?_; refine L.nil (QE.seq (C.ret (QE.bR (QE.tR ?_)))); refine QE.ret (js := []) (hs := []) (vs := [_]) rfl ⟨⟨_, _, 0, _, rfl, rfl, Src.o 0 rfl, .inl ⟨rfl, by decide, _, rfl, rfl, rfl⟩⟩, trivial⟩ (by decide) ?_
          refine ⟨?_, rfl, rfl⟩
          have hdd : decF w t = ⟨((w / 16777216) : Nat), ((w / 65536 % 256) : Nat), 0, 0, (if (w / 16777216) = 8 then t + 4 * ((w % 65536) : Int) else (if (w / 16777216) = 7 then t + 4 * sgn (w % 65536) 32768 else ((w % 65536) : Int)))⟩ := by
            unfold decF
            rw [if_neg h34, if_neg h54]
            rcases h67 with e | e | e
            · rw [if_pos e, if_pos (by omega), if_neg (show ¬ w / 16777216 = 8 by omega), if_neg (show ¬ w / 16777216 = 7 by omega)]
              exact Ins.ext' (by dsimp only; omega) rfl rfl rfl rfl
            · rw [if_neg (show ¬ w / 16777216 = 2 by omega), if_pos e, if_pos (by omega), if_neg (show ¬ w / 16777216 = 8 by omega), if_pos e]
              exact Ins.ext' (by dsimp only; omega) rfl rfl rfl rfl
            · rw [if_neg (show ¬ w / 16777216 = 2 by omega), if_neg (show ¬ w / 16777216 = 7 by omega), if_pos e, if_pos (by omega), if_pos e]
              exact Ins.ext' (by dsimp only; omega) rfl rfl rfl rfl
          rw [hdd]
          rfl
      ·
       first | replace hc67 := i_ne hc67 | (have h67 := of_decide_eq_false (hu67.symm.trans hc67))
       refine C.skip ?_; refine QE.blkN ?_; refine QE.seq (C.seq (C.region ?_)); refine L.step (Ev.loadA rfl rfl rfl (Src.r 0 rfl) rfl rfl (by decide)) rfl ?_; refine L.storeA (j := 0) rfl rfl rfl rfl rfl (Nat.zero_lt_succ _) rfl rfl ?_; refine L.nil (QE.seq (C.ret ?_)); refine QE.ret (js := []) (hs := []) (vs := [_]) rfl ⟨⟨_, _, 0, _, rfl, rfl, Src.o 0 rfl, .inl ⟨rfl, by decide, _, rfl, rfl, rfl⟩⟩, trivial⟩ (by decide) ?_
       refine ⟨?_, rfl, rfl⟩
       have hdd : decF w t = datI w := by
         unfold decF
         rw [if_neg h34, if_neg h54, if_neg (by omega), if_neg (by omega), if_neg (by omega)]
       rw [hdd]
       rfl

end Go.Proofs.YtbkmahjhhncfcaaGreat
