/-
  How the reference encodes, and takes words for bytes.
-/
import Derived.Test.YtbkmahjhhncfcaaGreatQWLaO
import Derived.Test.YtbkmahjhhncfcaaGreatQOg
import Derived.Test.YtbkmahjhhncfcaaGreatQSlT
namespace Go.Proofs.YtbkmahjhhncfcaaGreat
open Go.Sl

theorem word_c (o : Nat) (m : Int) (ho : o ≤ 255) :
   Ctr X 96 [.int .i64 (o : Int), .int .i64 m] [] [] (fun v R' H' => v = .int .u32 ((o * 16777216 + (m % 16777216).toNat : Nat) : Int) ∧ R' = [] ∧ H' = []) := by
 obtain ⟨r, hr⟩ : ∃ r, (m % 16777216).toNat = r := ⟨_, rfl⟩
 have hr1 : m % 16777216 = (r : Int) := by omega
 have hr2 : r < 16777216 := by omega
 rw [hr]
 refine Ctr.of (X := X) (fn := Tryz.f96) Tryz.func96 rfl (by kernel_rfl) rfl ?_
 intro β
 refine C.seq (C.region ?_); refine Lpu rfl rfl ?_; refine L.nil (QE.seq (C.seq (C.region ?_))); refine Lpu rfl rfl ?_; refine L.step (Ev.toU32 (q := o) rfl rfl rfl rfl (by omega)) rfl ?_; refine L.step (Ev.shl32 (k := 24) (q := o * 16777216) rfl rfl rfl (by decide) rfl (by omega)) rfl ?_; refine Lpu rfl rfl ?_; refine L.step (Ev.maskI (q := (r : Int)) 24 rfl rfl rfl (by decide) hr1) rfl ?_; refine L.step (Ev.toU32 (q := r) rfl rfl rfl rfl (by omega)) rfl ?_; refine L.step (Ev.beside32 24 (p := 16777216) rfl (c := o) (q := o * 16777216 + r) rfl rfl rfl (by omega) (by omega) (by omega) rfl) rfl ?_; refine Lpu rfl rfl ?_; refine L.nil (QE.seq (C.ret ?_)); refine QE.ret (js := []) (hs := []) (vs := [_]) rfl ⟨rfl, trivial⟩ (by decide) ?_
 exact ⟨rfl, rfl, rfl⟩

set_option maxHeartbeats 1000000 in
theorem guess_c (o a : Nat) (n t : Int) (h5 : 5 ≤ o) (h8 : o ≤ 8) (ha : a < 256) :
   Ctr X 62 [.agg (List.toArray [.int .i64 (o : Int), .int .i64 (a : Int), .int .i64 0, .int .i64 0, .int .i64 n]), .int .i64 t] [] [] (fun v R' H' => v = .int .u32 ((guR o a n t : Nat) : Int) ∧ R' = [] ∧ H' = []) := by
 have hq := guL_lt n t (k := 65536) (by decide)
 have hqe := guL_eq n t (k := 65536) (by decide)
 obtain ⟨q, hqd⟩ : ∃ q, guL n t 65536 = q := ⟨_, rfl⟩
 rw [hqd] at hq hqe
 refine Ctr.of (X := X) (fn := Tryz.f62) Tryz.func62 rfl (by kernel_rfl) rfl ?_
 intro β
 refine C.seq (C.region ?_)
 refine L.boxA rfl rfl (fun A2 => ?_)
 refine Lpu rfl rfl ?_; refine L.nil (QE.seq (C.seq ?_)); refine C.freeze 0 rfl [] (by decide) (by decide) ?_; refine C.region ?_; refine L.step (Ev.fieldAddr rfl rfl rfl rfl rfl rfl (Src.r 0 rfl) (Nat.zero_lt_succ _) rfl) rfl ?_; refine L.step (Ev.load rfl rfl rfl (Src.r 0 rfl) rfl) rfl ?_; refine Lpu rfl rfl ?_; refine L.step (Ev.subW rfl rfl) rfl ?_; refine L.step (Ev.cast (u := .int .i64 (guD n t)) (Ev.quoT rfl rfl rfl (wrap_range _).1 (wrap_range _).2) rfl) rfl ?_; refine Lpu rfl rfl ?_; refine L.nil (QE.seq (C.seq (C.seq (C.region ?_)))); refine L.step (Ev.fieldAddr rfl rfl rfl rfl rfl rfl (Src.r 0 rfl) (Nat.zero_lt_succ _) rfl) rfl ?_; refine L.step (Ev.load rfl rfl rfl (Src.r 0 rfl) rfl) rfl ?_; refine L.nil (QE.seq (C.block (C.seq (C.seq (C.region ?_))))); refine Lpu rfl rfl ?_; refine Lpu rfl rfl ?_; refine L.nil (QE.seq ?_)
 refine C.condB 13 rfl (fun hc13 => ?_) (fun hc13 => ?_)
 ·
  replace hc13 := i_eq hc13
  omega
 ·
  replace hc13 := i_ne hc13
  refine C.seq (C.region ?_); refine Lpu rfl rfl ?_; refine Lpu rfl rfl ?_; refine L.nil (QE.seq ?_)
  refine C.condB 13 rfl (fun hc13 => ?_) (fun hc13 => ?_)
  ·
   replace hc13 := i_eq hc13
   omega
  ·
   replace hc13 := i_ne hc13
   refine C.region ?_; refine Lpu rfl rfl ?_; refine Lpu rfl rfl ?_; refine L.nil (QE.seq ?_)
   refine C.condB 13 rfl (fun hc13 => ?_) (fun hc13 => ?_)
   ·
    replace hc13 := i_eq hc13
    omega
   ·
    replace hc13 := i_ne hc13
    refine C.seq (C.region ?_); refine Lpu rfl rfl ?_; refine Lpu rfl rfl ?_; refine L.nil (QE.seq ?_)
    refine C.condB 30 rfl (fun hc30 => ?_) (fun hc30 => ?_)
    ·
     replace hc30 := i_eq hc30
     omega
    ·
     replace hc30 := i_ne hc30
     refine C.seq (C.seq (C.region ?_)); refine Lpu rfl rfl ?_; refine Lpu rfl rfl ?_; refine L.nil (QE.seq ?_)
     refine C.condB 42 rfl (fun hc42 => ?_) (fun hc42 => ?_)
     ·
      replace hc42 := i_eq hc42
      refine C.skip (QE.seq ?_)
      refine C.cond rfl (fun _ => ?_) (fun h => by cases h)
      refine C.seq (C.region ?_); refine L.step (Ev.fieldAddr rfl rfl rfl rfl rfl rfl (Src.r 0 rfl) (Nat.zero_lt_succ _) rfl) rfl ?_; refine L.step (Ev.load rfl rfl rfl (Src.r 0 rfl) rfl) rfl ?_; refine Lpu rfl rfl ?_; refine L.call (js := []) (js' := []) (word_c o (guD n t) (by omega)) rfl rfl rfl (by decide) trivial rfl ?_
      rintro _ _ _ ⟨rfl, rfl, rfl⟩
      refine Lpu rfl rfl ?_; refine L.nil (QE.seq (C.ret (QE.bR (QE.tR ?_)))); refine QE.ret (js := []) (hs := []) (vs := [_]) rfl ⟨rfl, trivial⟩ (by decide) ?_
      refine ⟨?_, rfl, rfl⟩
      unfold guR guV
      rw [if_pos (by omega)]
      rfl
     ·
      replace hc42 := i_ne hc42
      refine C.region ?_; refine Lpu rfl rfl ?_; refine Lpu rfl rfl ?_; refine L.nil (QE.seq ?_)
      refine C.condB 42 rfl (fun hc42 => ?_) (fun hc42 => ?_)
      ·
       replace hc42 := i_eq hc42
       refine C.seq (C.region ?_); refine L.step (Ev.fieldAddr rfl rfl rfl rfl rfl rfl (Src.r 0 rfl) (Nat.zero_lt_succ _) rfl) rfl ?_; refine L.step (Ev.load rfl rfl rfl (Src.r 0 rfl) rfl) rfl ?_; refine Lpu rfl rfl ?_; refine L.call (js := []) (js' := []) (word_c o (guD n t) (by omega)) rfl rfl rfl (by decide) trivial rfl ?_
       rintro _ _ _ ⟨rfl, rfl, rfl⟩
       refine Lpu rfl rfl ?_; refine L.nil (QE.seq (C.ret (QE.bR (QE.tR ?_)))); refine QE.ret (js := []) (hs := []) (vs := [_]) rfl ⟨rfl, trivial⟩ (by decide) ?_
       refine ⟨?_, rfl, rfl⟩
       unfold guR guV
       rw [if_pos (by omega)]
       rfl
      ·
       replace hc42 := i_ne hc42
       refine C.seq (C.seq (C.region ?_)); refine Lpu rfl rfl ?_; refine Lpu rfl rfl ?_; refine L.nil (QE.seq ?_)
       refine C.condB 49 rfl (fun hc49 => ?_) (fun hc49 => ?_)
       ·
        replace hc49 := i_eq hc49
        refine C.skip (QE.seq ?_)
        refine C.cond rfl (fun _ => ?_) (fun h => by cases h)
        refine C.seq (C.region ?_); refine L.step (Ev.fieldAddr rfl rfl rfl rfl rfl rfl (Src.r 0 rfl) (Nat.zero_lt_succ _) rfl) rfl ?_; refine L.step (Ev.load rfl rfl rfl (Src.r 0 rfl) rfl) rfl ?_; refine L.step (Ev.fieldAddr rfl rfl rfl rfl rfl rfl (Src.r 0 rfl) (Nat.zero_lt_succ _) rfl) rfl ?_; refine L.step (Ev.load rfl rfl rfl (Src.r 0 rfl) rfl) rfl ?_; refine L.step (Ev.shlI (m := a) (k := 16) rfl rfl (by decide) (by omega)) rfl ?_; refine Lpu rfl rfl ?_; refine L.step (Ev.maskI (q := (q : Int)) 16 rfl rfl rfl (by decide) hqe) rfl ?_; refine L.step (Ev.cast (u := .int .i64 ((a * 65536 + q : Nat) : Int)) (Ev.orI rfl rfl (by omega) (by omega)) (congrArg (Value.int .i64) (congrArg Int.ofNat (or_add (k := 16) a hq)))) rfl ?_; refine L.call (js := []) (js' := []) (word_c o (((a * 65536 + q : Nat) : Int)) (by omega)) rfl rfl rfl (by decide) trivial rfl ?_
        rintro _ _ _ ⟨rfl, rfl, rfl⟩
        refine Lpu rfl rfl ?_; refine L.nil (QE.seq (C.ret (QE.bR (QE.tR ?_)))); refine QE.ret (js := []) (hs := []) (vs := [_]) rfl ⟨rfl, trivial⟩ (by decide) ?_
        refine ⟨?_, rfl, rfl⟩
        unfold guR guV
        rw [if_neg (by omega), hqd]
        refine congrArg (fun z : Nat => Value.int .u32 ((o * 16777216 + z : Nat) : Int)) ?_
        omega
       ·
        replace hc49 := i_ne hc49
        refine C.region ?_; refine Lpu rfl rfl ?_; refine Lpu rfl rfl ?_; refine L.nil (QE.seq ?_)
        refine C.condB 49 rfl (fun hc49 => ?_) (fun hc49 => ?_)
        ·
         replace hc49 := i_eq hc49
         refine C.seq (C.region ?_); refine L.step (Ev.fieldAddr rfl rfl rfl rfl rfl rfl (Src.r 0 rfl) (Nat.zero_lt_succ _) rfl) rfl ?_; refine L.step (Ev.load rfl rfl rfl (Src.r 0 rfl) rfl) rfl ?_; refine L.step (Ev.fieldAddr rfl rfl rfl rfl rfl rfl (Src.r 0 rfl) (Nat.zero_lt_succ _) rfl) rfl ?_; refine L.step (Ev.load rfl rfl rfl (Src.r 0 rfl) rfl) rfl ?_; refine L.step (Ev.shlI (m := a) (k := 16) rfl rfl (by decide) (by omega)) rfl ?_; refine Lpu rfl rfl ?_; refine L.step (Ev.maskI (q := (q : Int)) 16 rfl rfl rfl (by decide) hqe) rfl ?_; refine L.step (Ev.cast (u := .int .i64 ((a * 65536 + q : Nat) : Int)) (Ev.orI rfl rfl (by omega) (by omega)) (congrArg (Value.int .i64) (congrArg Int.ofNat (or_add (k := 16) a hq)))) rfl ?_; refine L.call (js := []) (js' := []) (word_c o (((a * 65536 + q : Nat) : Int)) (by omega)) rfl rfl rfl (by decide) trivial rfl ?_
         rintro _ _ _ ⟨rfl, rfl, rfl⟩
         refine Lpu rfl rfl ?_; refine L.nil (QE.seq (C.ret (QE.bR (QE.tR ?_)))); refine QE.ret (js := []) (hs := []) (vs := [_]) rfl ⟨rfl, trivial⟩ (by decide) ?_
         refine ⟨?_, rfl, rfl⟩
         unfold guR guV
         rw [if_neg (by omega), hqd]
         refine congrArg (fun z : Nat => Value.int .u32 ((o * 16777216 + z : Nat) : Int)) ?_
         omega
        ·
         replace hc49 := i_ne hc49
         omega

theorem encode2_c (o a : Nat) (n t : Int) (h5 : 5 ≤ o) (h8 : o ≤ 8) (ha : a < 256) (ht : -1099511627776 ≤ t ∧ t ≤ 1099511627776) :
   Ctr X 32 [.agg (List.toArray [.int .i64 (o : Int), .int .i64 (a : Int), .int .i64 0, .int .i64 0, .int .i64 n]), .int .i64 t] [] [] (fun v R' H' => v = .tuple #[.int .u32 ((encR (insT o a n) t).1 : Int), .int .i64 (encR (insT o a n) t).2] ∧ R' = [] ∧ H' = []) := by
 have hgw : guR o a n t < 4294967296 := by have := guV_lt (o := o) ha n t; unfold guR; omega
 obtain ⟨W, hW⟩ : ∃ W, guR o a n t = W := ⟨_, rfl⟩
 rw [hW] at hgw
 refine Ctr.of (X := X) (fn := Tryz.f32) Tryz.func32 rfl (by kernel_rfl) rfl ?_
 intro β
 refine C.seq (C.region ?_)
 refine L.boxA rfl rfl (fun A2 => ?_)
 refine Lpu rfl rfl ?_; refine Lpu rfl rfl ?_; refine L.nil (QE.seq (C.seq ?_)); refine C.freeze 0 rfl [] (by decide) (by decide) ?_; refine C.region ?_; refine L.step (Ev.loadA (vs := [.int .i64 (o : Int), .int .i64 (a : Int), .int .i64 0, .int .i64 0, .int .i64 n]) rfl rfl rfl (Src.r 0 rfl) rfl rfl (by decide)) rfl ?_; refine Lpu rfl rfl ?_; refine L.call (js := []) (js' := []) (guess_c o a n t h5 h8 ha) rfl rfl rfl (by decide) trivial rfl ?_
 rintro _ _ _ ⟨rfl, rfl, rfl⟩
 rw [hW]
 refine Lpu rfl rfl ?_; refine L.nil (QE.seq (C.seq (C.seq ?_))); refine C.regionQ (by kernel_rfl) ?_; refine LQ.step (Ev.pure rfl) rfl ?_; refine LQ.step (Ev.pure rfl) rfl ?_; refine LQ.call (.agg (List.toArray (in5 (decF W t)))) (decode2_c W t hgw ht) (fun _ _ _ h => h.1) rfl trivial rfl ?_; refine LQ.step (Ev.loadA (vs := [.int .i64 (o : Int), .int .i64 (a : Int), .int .i64 0, .int .i64 0, .int .i64 n]) rfl rfl rfl (Src.r 0 rfl) rfl rfl (by decide)) rfl ?_; refine LQ.step (Ev.neSt (xs := (decF W t).l) (ys := (insT o a n).l) rfl rfl (by kernel_rfl) (by kernel_rfl) rfl rfl rfl rfl rfl) rfl ?_; refine LQ.nil ?_; refine QE.seq ?_
 refine C.condB 14 rfl (fun hc14 => ?_) (fun hc14 => ?_)
 ·
  have hne : decF W t ≠ insT o a n := fun e => by rw [e] at hc14; exact absurd hc14 (by simp)
  refine C.seq (C.region ?_); refine Lpu rfl rfl ?_; refine Lpu rfl rfl ?_; refine L.nil (QE.seq (C.ret (QE.tR ?_))); refine QE.ret (js := []) (hs := []) (vs := [_, _]) rfl ⟨rfl, rfl, trivial⟩ (by decide) ?_
  rw [encR_ne (enc_guess hgw (fun v _ e => hW ▸ guR_right h5 h8 e)) hne]
  exact ⟨rfl, rfl, rfl⟩
 ·
  have heq : decF W t = insT o a n := by
    have := bne_eq_false_iff_eq.1 hc14
    rw [← beq_iff_eq, Ins.l_inj, decide_eq_true_eq] at this
    exact this
  refine C.skip (QE.seq (C.seq (C.region ?_))); refine Lpu rfl rfl ?_; refine Lpu rfl rfl ?_; refine Lpu rfl rfl ?_; refine L.nil (QE.seq (C.ret ?_)); refine QE.ret (js := []) (hs := []) (vs := [_, _]) rfl ⟨rfl, rfl, trivial⟩ (by decide) ?_
  rw [encR_eq (enc_guess hgw (fun v _ e => hW ▸ guR_right h5 h8 e)) heq]
  exact ⟨rfl, rfl, rfl⟩

set_option maxHeartbeats 1000000 in
theorem bytes2_c (LA : Option Addr) (l : List Nat) (lc : Nat) (hl : l.length ≤ 1000000) (hw : W32 l) :
   Ctr X 33 [.slice LA l.length lc] [Rd LA (N32 l)] [] (fun v R' H' => ∃ (A : Option Addr) (c : Nat), v = .slice A (bytesF l).length c ∧ R' = [] ∧ H' = [Own 5 1 A (bytesF l).length c (U8 (bytesF l))]) := by
 refine Ctr.of (X := X) (fn := Tryz.f33) Tryz.func33 rfl (by kernel_rfl) rfl ?_
 intro β
 refine C.seq (C.region ?_); refine Lpu rfl rfl ?_; refine L.nil (QE.seq (C.seq (C.region ?_)))
 refine L.lit0S rfl rfl rfl rfl (fun A5 => ?_)
 refine Lpu rfl rfl ?_; refine L.nil (QE.seq (C.seq (C.seq (C.region ?_)))); refine Lpu rfl rfl ?_; refine L.nil (QE.seq (C.block ?_)); refine C.loop (fun q : Nat × Option Addr × Nat => [(0, .slice LA l.length lc), (4, .int .i64 (q.1 : Int)), (3, .slice q.2.1 (bytesF (l.take q.1)).length q.2.2)]) (fun q : Nat × Option Addr × Nat => [Rd LA (N32 l)]) (fun q : Nat × Option Addr × Nat => [Own 5 1 q.2.1 (bytesF (l.take q.1)).length q.2.2 (U8 (bytesF (l.take q.1)))]) (fun q : Nat × Option Addr × Nat => q.1 ≤ l.length) (fun q : Nat × Option Addr × Nat => l.length - q.1) (0, A5, 0) (Nat.zero_le _) (by exact Le.mk' (rs := [0]) (hs := [0]) ⟨rfl, rfl, rfl, trivial⟩ ⟨rfl, trivial⟩ ⟨rfl, trivial⟩ (by decide)) ?_
 rintro ⟨i, A, c⟩ hi
 dsimp only at hi ⊢
 have hol : (bytesF (l.take i)).length = 4 * i := by rw [bytesF_len, List.length_take]; omega
 refine C.seq (C.seq (C.region ?_)); refine Lpu rfl rfl ?_; refine Lpu rfl rfl ?_; refine Lpu rfl rfl ?_; refine Lpu rfl rfl ?_; refine L.nil (QE.seq ?_)
 refine C.condB 9 rfl (fun hc9 => ?_) (fun hc9 => ?_)
 ·
  replace hc9 := of_decide_eq_true hc9
  have hwi := hw i
  refine C.skip (QE.seq (C.seq (C.block ?_))); refine C.regionM [Rd LA (N32 l)] (Hq [0] rfl) ?_; refine LM.q 0 rfl (by kernel_rfl) (Ev.pure rfl) rfl (Hq [0] rfl) ?_; refine LM.q 1 rfl (by kernel_rfl) (Ev.pure rfl) rfl (Hq [0] rfl) ?_; refine LM.q 2 rfl (by kernel_rfl) (Ev.pure rfl) rfl (Hq [0] rfl) ?_; refine LM.q 3 rfl (by kernel_rfl) (Ev.idx1 (k := i) rfl rfl rfl rfl rfl rfl rfl (by omega) (Src.r 0 rfl) (by rw [N32_len]; omega)) rfl (Hq [0] rfl) ?_; refine LM.q 4 rfl (by kernel_rfl) (Ev.load rfl rfl rfl (Src.r 0 rfl) (N32_get (by omega))) rfl (Hq [0] rfl) ?_; refine LM.q 5 rfl (by kernel_rfl) (Ev.shr32 (k := 24) (q := (l.getD i 0) / 16777216) rfl rfl rfl (by decide) rfl) rfl (Hq [0] rfl) ?_; refine LM.q 6 rfl (by kernel_rfl) (Ev.toU8 (q := (UInt8.ofNat (octN (l.getD i 0) 0)).toNat) rfl rfl rfl rfl (by rw [oct_byte, oct0 _ (hw i)]; omega)) rfl (Hq [0] rfl) ?_; refine LM.q 7 rfl (by kernel_rfl) (Ev.pure rfl) rfl (Hq [0] rfl) ?_; refine LM.q 8 rfl (by kernel_rfl) (Ev.pure rfl) rfl (Hq [0] rfl) ?_; refine LM.q 9 rfl (by kernel_rfl) (Ev.idx1 (k := i) rfl rfl rfl rfl rfl rfl rfl (by omega) (Src.r 0 rfl) (by rw [N32_len]; omega)) rfl (Hq [0] rfl) ?_; refine LM.q 10 rfl (by kernel_rfl) (Ev.load rfl rfl rfl (Src.r 0 rfl) (N32_get (by omega))) rfl (Hq [0] rfl) ?_; refine LM.q 11 rfl (by kernel_rfl) (Ev.shr32 (k := 16) (q := (l.getD i 0) / 65536) rfl rfl rfl (by decide) rfl) rfl (Hq [0] rfl) ?_; refine LM.q 12 rfl (by kernel_rfl) (Ev.toU8 (q := (UInt8.ofNat (octN (l.getD i 0) 1)).toNat) rfl rfl rfl rfl (by rw [oct_byte, oct1]; omega)) rfl (Hq [0] rfl) ?_; refine LM.q 13 rfl (by kernel_rfl) (Ev.pure rfl) rfl (Hq [0] rfl) ?_; refine LM.q 14 rfl (by kernel_rfl) (Ev.pure rfl) rfl (Hq [0] rfl) ?_; refine LM.q 15 rfl (by kernel_rfl) (Ev.idx1 (k := i) rfl rfl rfl rfl rfl rfl rfl (by omega) (Src.r 0 rfl) (by rw [N32_len]; omega)) rfl (Hq [0] rfl) ?_; refine LM.q 16 rfl (by kernel_rfl) (Ev.load rfl rfl rfl (Src.r 0 rfl) (N32_get (by omega))) rfl (Hq [0] rfl) ?_; refine LM.q 17 rfl (by kernel_rfl) (Ev.shr32 (k := 8) (q := (l.getD i 0) / 256) rfl rfl rfl (by decide) rfl) rfl (Hq [0] rfl) ?_; refine LM.q 18 rfl (by kernel_rfl) (Ev.toU8 (q := (UInt8.ofNat (octN (l.getD i 0) 2)).toNat) rfl rfl rfl rfl (by rw [oct_byte, oct2]; omega)) rfl (Hq [0] rfl) ?_; refine LM.q 19 rfl (by kernel_rfl) (Ev.pure rfl) rfl (Hq [0] rfl) ?_; refine LM.f 20 rfl (by kernel_rfl) (Hq [0] rfl) ?_; refine Lpu rfl rfl ?_
  refine L.nil (QE.m (by kernel_rfl) ?_)
  refine LM.f 21 rfl (by kernel_rfl) (Hq [0] rfl) ?_; refine L.step (Ev.idx1 (k := i) rfl rfl rfl rfl rfl rfl rfl (by omega) (Src.r 0 rfl) (by rw [N32_len]; omega)) rfl ?_
  refine L.nil (QE.m (by kernel_rfl) ?_)
  refine LM.f 22 rfl (by kernel_rfl) (Hq [0] rfl) ?_; refine L.step (Ev.load rfl rfl rfl (Src.r 0 rfl) (N32_get (by omega))) rfl ?_
  refine L.nil (QE.m (by kernel_rfl) ?_)
  refine LM.f 23 rfl (by kernel_rfl) (Hq [0] rfl) ?_; refine L.step (Ev.toU8 (q := (UInt8.ofNat (octN (l.getD i 0) 3)).toNat) rfl rfl rfl rfl (by rw [oct_byte, oct3]; omega)) rfl ?_
  refine L.nil (QE.m (by kernel_rfl) ?_)
  refine LM.f 24 rfl (by kernel_rfl) (Hq [0] rfl) ?_
  refine L.lit rfl rfl rfl rfl rfl (by rfl) (by rfl) (by rfl) rfl rfl (fun A36 => ?_)
  refine L.nil (QE.m (by kernel_rfl) ?_)
  refine LM.cut [] (by kernel_rfl) (Hq [0] rfl) ?_; refine LM.f 25 rfl (by kernel_rfl) trivial ?_
  refine L.append (j := 0) rfl rfl rfl rfl (by decide) rfl rfl rfl rfl (Src.o 1 rfl) rfl (U8_one (b4 (l.getD i 0))) (by rw [hol]; omega) (by show _ * 1 ≤ _; omega) rfl (fun A37 cc37 => ?_)
  refine L.nil (QE.m (by kernel_rfl) ?_)
  refine LM.f 26 rfl (by kernel_rfl) trivial ?_; refine Lpu rfl rfl ?_
  refine L.nil (QE.m (by kernel_rfl) ?_)
  refine LM.nil (by kernel_rfl) trivial ?_; refine QE.blkN ?_; refine QE.seq (C.region ?_); refine Lpu rfl rfl ?_; refine L.step (Ev.add rfl rfl (by omega) (by omega)) rfl ?_; refine Lpu rfl rfl ?_; refine L.nil ?_
  have he : bytesF (l.take (i + 1)) = bytesF (l.take i) ++ b4 (l.getD i 0) := by rw [take_snoc' l 0 i (by omega), bytesF_app, bytesF_one]
  refine QE.round (i := (i, A, c)) ((i + 1, A37, cc37)) (by dsimp only; omega) (by dsimp only; omega) (by exact Le.mk' (rs := [0]) (hs := [0]) ⟨rfl, rfl, (by dsimp only; rw [he]; simp only [List.length_append]; rfl), trivial⟩ ⟨rfl, trivial⟩ ⟨(congrArg some (own_eq2 (by dsimp only; rw [he]; simp only [List.length_append]; rfl) (by dsimp only; rw [he]; simp only [← U8_app]; rfl))), trivial⟩ (by decide))
 ·
  replace hc9 := of_decide_eq_false hc9
  refine C.exit ?_; refine QE.tX ?_; refine QE.tX ?_; refine QE.blk ?_; refine QE.seq (C.seq (C.region ?_)); refine Lpu rfl rfl ?_; refine Lpu rfl rfl ?_; refine L.nil (QE.seq (C.ret ?_)); refine QE.ret (js := []) (hs := [0]) (vs := [_]) rfl ⟨rfl, trivial⟩ (by decide) ?_
  obtain rfl : i = l.length := by omega
  rw [List.take_length]
  exact ⟨A, c, rfl, rfl, rfl⟩

end Go.Proofs.YtbkmahjhhncfcaaGreat
