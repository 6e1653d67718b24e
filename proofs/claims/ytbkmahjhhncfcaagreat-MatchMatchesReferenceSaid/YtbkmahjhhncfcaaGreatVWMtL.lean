/-
  The reference: equal, longest, Least.
-/
import Derived.Test.YtbkmahjhhncfcaaGreatVWMtI
import Derived.Test.YtbkmahjhhncfcaaGreatVMo
namespace Go.Proofs.YtbkmahjhhncfcaaGreat
open Go.Sl

theorem equal7_c (S : Option Addr) (s : List UInt8) (sc : Nat) (hs : s.length ≤ 1000000) :
   Ctr X 30 [.slice S s.length sc] [Rd S (U8 s)] [] (fun v R' H' => v = .int .i64 ((eqlF s : Nat) : Int) ∧ R' = [] ∧ H' = []) := by
 refine Ctr.of (X := X) (fn := Tryz.f30) Tryz.func30 rfl (by kernel_rfl) rfl ?_
 intro β
 refine C.seq (C.region ?_); refine Lpu rfl rfl ?_; refine L.nil (QE.seq (C.seq (C.region ?_))); refine Lpu rfl rfl ?_; refine L.nil (QE.seq (C.seq (C.block ?_))); refine C.loop (fun m : Nat => [(0, .slice S s.length sc), (3, .int .i64 (m : Int))]) (fun m : Nat => [Rd S (U8 s)]) (fun m : Nat => []) (fun m : Nat => m ≤ s.length ∧ m ≤ eqlF s) (fun m : Nat => s.length - m) 0 ⟨Nat.zero_le _, Nat.zero_le _⟩ (by exact Le.mk' (rs := [0]) (hs := []) ⟨rfl, rfl, trivial⟩ ⟨rfl, trivial⟩ trivial (by decide)) ?_
 rintro m ⟨hm, hme⟩
 refine C.seq (C.seq ?_); refine C.regionQ (by kernel_rfl) ?_; refine LQ.step (Ev.pure rfl) rfl ?_; refine LQ.step (Ev.pure rfl) rfl ?_; refine LQ.step (Ev.pure rfl) rfl ?_; refine LQ.step (Ev.pure rfl) rfl ?_; refine LQ.step (Ev.pure rfl) rfl ?_
 refine LQ.bool 8 rfl (fun hg8 => ?_) (fun hg8 => ?_)
 ·
  replace hg8 := of_decide_eq_true hg8
  refine LQ.yes rfl ?_; refine LQ.step (Ev.pure rfl) rfl ?_; refine LQ.yes rfl ?_; refine LQ.step (Ev.pure rfl) rfl ?_; refine LQ.yes rfl ?_; refine LQ.step (Ev.idx1 (k := m) rfl rfl rfl rfl rfl rfl rfl (by omega) (Src.r 0 rfl) (by rw [U8_len]; omega)) rfl ?_; refine LQ.yes rfl ?_; refine LQ.step (Ev.load rfl rfl rfl (Src.r 0 rfl) (U8_get (by omega))) rfl ?_; refine LQ.yes rfl ?_; refine LQ.step (Ev.pure rfl) rfl ?_; refine LQ.yes rfl ?_; refine LQ.step (Ev.idx1 (k := 0) rfl rfl rfl rfl rfl rfl rfl (by omega) (Src.r 0 rfl) (by rw [U8_len]; omega)) rfl ?_; refine LQ.yes rfl ?_; refine LQ.step (Ev.load rfl rfl rfl (Src.r 0 rfl) (U8_get (by omega))) rfl ?_; refine LQ.yes rfl ?_; refine LQ.step (Ev.pure rfl) rfl ?_; refine LQ.step (Ev.pure rfl) rfl ?_; refine LQ.nil ?_; refine QE.seq ?_
  refine C.condB 17 rfl (fun hc17 => ?_) (fun hc17 => ?_)
  ·
   replace hc17 := i_eq hc17
   refine C.skip (QE.seq (C.block (C.region ?_))); refine Lpu rfl rfl ?_; refine L.step (Ev.add rfl rfl (by omega) (by omega)) rfl ?_; refine Lpu rfl rfl ?_; refine L.nil ?_; refine QE.blkN ?_
   refine QE.round (m + 1) (by exact ⟨by omega, eql_step hme (by omega) hc17⟩) (by omega) (by exact Le.mk' (rs := [0]) (hs := []) ⟨rfl, rfl, trivial⟩ ⟨rfl, trivial⟩ trivial (by decide))
  ·
   replace hc17 := i_ne hc17
   refine C.exit ?_; refine QE.tX ?_; refine QE.tX ?_; refine QE.blk ?_; refine QE.seq (C.seq (C.region ?_)); refine Lpu rfl rfl ?_; refine Lpu rfl rfl ?_; refine L.nil (QE.seq (C.ret ?_)); refine QE.ret (js := []) (hs := []) (vs := [_]) rfl ⟨rfl, trivial⟩ (by decide) ?_
   exact ⟨by rw [eql_stop hme (by omega) hc17]; rfl, rfl, rfl⟩
 ·
  replace hg8 := of_decide_eq_false hg8
  refine LQ.no rfl rfl rfl ?_; refine LQ.no rfl rfl rfl ?_; refine LQ.no rfl rfl rfl ?_; refine LQ.no rfl rfl rfl ?_; refine LQ.no rfl rfl rfl ?_; refine LQ.no rfl rfl rfl ?_; refine LQ.no rfl rfl rfl ?_; refine LQ.no rfl rfl rfl ?_; refine LQ.step (Ev.pure rfl) rfl ?_; refine LQ.nil ?_; refine QE.seq ?_
  refine C.cond rfl (fun h => by cases h) (fun _ => ?_)
  refine C.exit ?_; refine QE.tX ?_; refine QE.tX ?_; refine QE.blk ?_; refine QE.seq (C.seq (C.region ?_)); refine Lpu rfl rfl ?_; refine Lpu rfl rfl ?_; refine L.nil (QE.seq (C.ret ?_)); refine QE.ret (js := []) (hs := []) (vs := [_]) rfl ⟨rfl, trivial⟩ (by decide) ?_
  exact ⟨by rw [eql_end hme (by omega)]; rfl, rfl, rfl⟩

theorem longest_c (B S : Option Addr) (b s : List UInt8) (bc sc : Nat) (hb : b.length ≤ 1000000) (hs : s.length ≤ 1000000) :
   Ctr X 29 [.slice B b.length bc, .slice S s.length sc] [Rd B (U8 b), Rd S (U8 s)] [] (fun v R' H' => v = .int .i64 ((lngF b s b.length : Nat) : Int) ∧ R' = [] ∧ H' = []) := by
 refine Ctr.of (X := X) (fn := Tryz.f29) Tryz.func29 rfl (by kernel_rfl) rfl ?_
 intro β
 refine C.seq (C.region ?_); refine Lpu rfl rfl ?_; refine L.nil (QE.seq (C.seq (C.region ?_))); refine Lpu rfl rfl ?_; refine L.nil (QE.seq (C.seq (C.seq (C.region ?_)))); refine Lpu rfl rfl ?_; refine L.nil (QE.seq (C.block ?_)); refine C.loop (fun i : Nat => [(0, .slice B b.length bc), (1, .slice S s.length sc), (6, .int .i64 (i : Int)), (5, .int .i64 ((lngF b s i : Nat) : Int))]) (fun i : Nat => [Rd B (U8 b), Rd S (U8 s)]) (fun i : Nat => []) (fun i : Nat => i ≤ b.length) (fun i : Nat => b.length - i) 0 (Nat.zero_le _) (by exact Le.mk' (rs := [0, 1]) (hs := []) ⟨rfl, rfl, rfl, rfl, trivial⟩ ⟨rfl, rfl, trivial⟩ trivial (by decide)) ?_
 rintro i hi
 refine C.seq (C.seq (C.region ?_)); refine Lpu rfl rfl ?_; refine Lpu rfl rfl ?_; refine Lpu rfl rfl ?_; refine Lpu rfl rfl ?_; refine L.nil (QE.seq ?_)
 refine C.condB 11 rfl (fun hc11 => ?_) (fun hc11 => ?_)
 ·
  replace hc11 := of_decide_eq_true hc11
  refine C.skip (QE.seq (C.seq (C.block (C.seq (C.region ?_))))); refine Lpu rfl rfl ?_; refine L.nil (QE.seq ?_); refine C.seqJ (fun m : Nat => [(0, .slice B b.length bc), (1, .slice S s.length sc), (6, .int .i64 (i : Int)), (5, .int .i64 ((lngF b s i : Nat) : Int)), (7, .int .i64 (m : Int))]) (fun m : Nat => [Rd B (U8 b), Rd S (U8 s)]) (fun m : Nat => []) (fun m : Nat => m = cpl (b.drop i) s) ?_ ?_
  ·
   refine C.block ?_; refine C.loop (fun m : Nat => [(0, .slice B b.length bc), (1, .slice S s.length sc), (6, .int .i64 (i : Int)), (5, .int .i64 ((lngF b s i : Nat) : Int)), (7, .int .i64 (m : Int))]) (fun m : Nat => [Rd B (U8 b), Rd S (U8 s)]) (fun m : Nat => []) (fun m : Nat => m ≤ s.length ∧ m ≤ cpl (b.drop i) s) (fun m : Nat => s.length - m) 0 ⟨Nat.zero_le _, Nat.zero_le _⟩ (by exact Le.mk' (rs := [0, 1]) (hs := []) ⟨rfl, rfl, rfl, rfl, rfl, trivial⟩ ⟨rfl, rfl, trivial⟩ trivial (by decide)) ?_
   rintro m ⟨hm, hmc⟩
   refine C.seq (C.seq ?_); refine C.regionQ (by kernel_rfl) ?_; refine LQ.step (Ev.pure rfl) rfl ?_; refine LQ.step (Ev.pure rfl) rfl ?_; refine LQ.step (Ev.pure rfl) rfl ?_; refine LQ.step (Ev.pure rfl) rfl ?_; refine LQ.step (Ev.pure rfl) rfl ?_
   refine LQ.bool 18 rfl (fun hg18 => ?_) (fun hg18 => ?_)
   ·
    replace hg18 := of_decide_eq_true hg18
    refine LQ.yes rfl ?_; refine LQ.step (Ev.pure rfl) rfl ?_; refine LQ.yes rfl ?_; refine LQ.step (Ev.pure rfl) rfl ?_; refine LQ.yes rfl ?_; refine LQ.step (Ev.add rfl rfl (by omega) (by omega)) rfl ?_; refine LQ.yes rfl ?_; refine LQ.step (Ev.pure rfl) rfl ?_; refine LQ.yes rfl ?_; refine LQ.step (Ev.pure rfl) rfl ?_; refine LQ.yes rfl ?_; refine LQ.step (Ev.pure rfl) rfl ?_; refine LQ.step (Ev.pure rfl) rfl ?_; refine LQ.step (Ev.pure rfl) rfl ?_
    refine LQ.bool 26 rfl (fun hg26 => ?_) (fun hg26 => ?_)
    ·
     replace hg26 := of_decide_eq_true hg26
     refine LQ.yes rfl ?_; refine LQ.step (Ev.pure rfl) rfl ?_; refine LQ.yes rfl ?_; refine LQ.step (Ev.pure rfl) rfl ?_; refine LQ.yes rfl ?_; refine LQ.step (Ev.pure rfl) rfl ?_; refine LQ.yes rfl ?_; refine LQ.step (Ev.add rfl rfl (by omega) (by omega)) rfl ?_; refine LQ.yes rfl ?_; refine LQ.step (Ev.idx1 (k := i + m) rfl rfl rfl rfl rfl rfl rfl (by omega) (Src.r 0 rfl) (by rw [U8_len]; omega)) rfl ?_; refine LQ.yes rfl ?_; refine LQ.step (Ev.load rfl rfl rfl (Src.r 0 rfl) (U8_get (by omega))) rfl ?_; refine LQ.yes rfl ?_; refine LQ.step (Ev.pure rfl) rfl ?_; refine LQ.yes rfl ?_; refine LQ.step (Ev.pure rfl) rfl ?_; refine LQ.yes rfl ?_; refine LQ.step (Ev.idx1 (k := m) rfl rfl rfl rfl rfl rfl rfl (by omega) (Src.r 1 rfl) (by rw [U8_len]; omega)) rfl ?_; refine LQ.yes rfl ?_; refine LQ.step (Ev.load rfl rfl rfl (Src.r 1 rfl) (U8_get (by omega))) rfl ?_; refine LQ.yes rfl ?_; refine LQ.step (Ev.pure rfl) rfl ?_; refine LQ.step (Ev.pure rfl) rfl ?_; refine LQ.nil ?_; refine QE.seq ?_
     refine C.condB 38 rfl (fun hc38 => ?_) (fun hc38 => ?_)
     ·
      replace hc38 := i_eq hc38
      refine C.skip (QE.seq (C.block (C.region ?_))); refine Lpu rfl rfl ?_; refine L.step (Ev.add rfl rfl (by omega) (by omega)) rfl ?_; refine Lpu rfl rfl ?_; refine L.nil ?_; refine QE.blkN ?_
      refine QE.round (m + 1) (by exact ⟨by omega, lng_step hmc (by omega) (by omega) hc38⟩) (by omega) (by exact Le.mk' (rs := [0, 1]) (hs := []) ⟨rfl, rfl, rfl, rfl, rfl, trivial⟩ ⟨rfl, rfl, trivial⟩ trivial (by decide))
     ·
      replace hc38 := i_ne hc38
      refine C.exit ?_; refine QE.tX ?_; refine QE.tX ?_; refine QE.blk ?_
      refine QE.join (m) (by exact (lng_stop hmc hc38)) (by exact Le.mk' (rs := [0, 1]) (hs := []) ⟨rfl, rfl, rfl, rfl, rfl, trivial⟩ ⟨rfl, rfl, trivial⟩ trivial (by decide))
    ·
     replace hg26 := of_decide_eq_false hg26
     refine LQ.no rfl rfl rfl ?_; refine LQ.no rfl rfl rfl ?_; refine LQ.no rfl rfl rfl ?_; refine LQ.no rfl rfl rfl ?_; refine LQ.no rfl rfl rfl ?_; refine LQ.no rfl rfl rfl ?_; refine LQ.no rfl rfl rfl ?_; refine LQ.no rfl rfl rfl ?_; refine LQ.no rfl rfl rfl ?_; refine LQ.no rfl rfl rfl ?_; refine LQ.no rfl rfl rfl ?_; refine LQ.step (Ev.pure rfl) rfl ?_; refine LQ.nil ?_; refine QE.seq ?_
     refine C.cond rfl (fun h => by cases h) (fun _ => ?_)
     refine C.exit ?_; refine QE.tX ?_; refine QE.tX ?_; refine QE.blk ?_
     refine QE.join (m) (by exact (lng_end hmc (by omega))) (by exact Le.mk' (rs := [0, 1]) (hs := []) ⟨rfl, rfl, rfl, rfl, rfl, trivial⟩ ⟨rfl, rfl, trivial⟩ trivial (by decide))
   ·
    replace hg18 := of_decide_eq_false hg18
    refine LQ.no rfl rfl rfl ?_; refine LQ.no rfl rfl rfl ?_; refine LQ.no rfl rfl rfl ?_; refine LQ.no rfl rfl rfl ?_; refine LQ.no rfl rfl rfl ?_; refine LQ.no rfl rfl rfl ?_; refine LQ.step (Ev.pure rfl) rfl ?_; refine LQ.step (Ev.pure rfl) rfl ?_; refine LQ.no rfl rfl rfl ?_; refine LQ.no rfl rfl rfl ?_; refine LQ.no rfl rfl rfl ?_; refine LQ.no rfl rfl rfl ?_; refine LQ.no rfl rfl rfl ?_; refine LQ.no rfl rfl rfl ?_; refine LQ.no rfl rfl rfl ?_; refine LQ.no rfl rfl rfl ?_; refine LQ.no rfl rfl rfl ?_; refine LQ.no rfl rfl rfl ?_; refine LQ.no rfl rfl rfl ?_; refine LQ.step (Ev.pure rfl) rfl ?_; refine LQ.nil ?_; refine QE.seq ?_
    refine C.cond rfl (fun h => by cases h) (fun _ => ?_)
    refine C.exit ?_; refine QE.tX ?_; refine QE.tX ?_; refine QE.blk ?_
    refine QE.join (m) (by exact (lng_end hmc (by omega))) (by exact Le.mk' (rs := [0, 1]) (hs := []) ⟨rfl, rfl, rfl, rfl, rfl, trivial⟩ ⟨rfl, rfl, trivial⟩ trivial (by decide))
  ·
   intro m hm
   refine C.region ?_; refine Lpu rfl rfl ?_; refine Lpu rfl rfl ?_; refine L.step (Ev.cast (u := .int .i64 (((lngF b s (i + 1)) : Nat) : Int)) (Ev.pure rfl) (congrArg (Value.int .i64) (by rw [lngF_succ]; simp only [if_true]; split <;> omega))) rfl ?_; refine Lpu rfl rfl ?_; refine L.nil ?_; refine QE.blkN ?_; refine QE.seq (C.region ?_); refine Lpu rfl rfl ?_; refine L.step (Ev.add rfl rfl (by omega) (by omega)) rfl ?_; refine Lpu rfl rfl ?_; refine L.nil ?_
   refine QE.round (i + 1) (by omega) (by omega) (by exact Le.mk' (rs := [0, 1]) (hs := []) ⟨rfl, rfl, rfl, rfl, trivial⟩ ⟨rfl, rfl, trivial⟩ trivial (by decide))
 ·
  replace hc11 := of_decide_eq_false hc11
  refine C.exit ?_; refine QE.tX ?_; refine QE.tX ?_; refine QE.blk ?_; refine QE.seq (C.seq (C.region ?_)); refine Lpu rfl rfl ?_; refine Lpu rfl rfl ?_; refine L.nil (QE.seq (C.ret ?_)); refine QE.ret (js := []) (hs := []) (vs := [_]) rfl ⟨rfl, trivial⟩ (by decide) ?_
  obtain rfl : i = b.length := by omega
  exact ⟨rfl, rfl, rfl⟩

theorem equal_m (S : Option Addr) (s : List UInt8) (sc : Nat) (hs : s.length ≤ 1000000) (m : Nat) (hm : s.length = m) : Ctr X 30 [.slice S m sc] [Rd S (U8 s)] [] (fun v R' H' => v = .int .i64 ((eqlF s : Nat) : Int) ∧ R' = [] ∧ H' = []) := by
 subst hm
 exact equal7_c S s sc hs
theorem longest_m (B S : Option Addr) (b s : List UInt8) (bc sc : Nat) (hb : b.length ≤ 1000000) (hs : s.length ≤ 1000000) (m : Nat) (hm : s.length = m) : Ctr X 29 [.slice B b.length bc, .slice S m sc] [Rd B (U8 b), Rd S (U8 s)] [] (fun v R' H' => v = .int .i64 ((lngF b s b.length : Nat) : Int) ∧ R' = [] ∧ H' = []) := by
 subst hm
 exact longest_c B S b s bc sc hb hs
set_option maxHeartbeats 2000000 in
theorem least7_c (OB NB : Option Addr) (old new : List UInt8) (oc nc : Nat) (ho : old.length ≤ 65536) (hn : new.length ≤ 65536) (hnc : new.length ≤ nc) :
   Ctr X 11 [.slice OB old.length oc, .slice NB new.length nc] [Rd OB (U8 old), Rd NB (U8 new)] [] (fun v R' H' => v = .int .i64 (refL old new : Int) ∧ R' = [] ∧ H' = []) := by
 refine Ctr.of (X := X) (fn := Tryz.f11) Tryz.func11 rfl (by kernel_rfl) rfl ?_
 intro β
 refine C.seq (C.region ?_); refine Lpu rfl rfl ?_; refine L.nil (QE.seq (C.seq (C.region ?_)))
 refine L.lit rfl rfl rfl rfl rfl (by rfl) (by rfl) (by rfl) rfl rfl (fun A10 => ?_)
 refine Lpu rfl rfl ?_; refine L.nil (QE.seq (C.seq (C.seq (C.region ?_)))); refine Lpu rfl rfl ?_; refine L.nil (QE.seq (C.block ?_)); refine C.loop (fun s : Nat × Option Addr × Nat => [(0, .slice OB old.length oc), (1, .slice NB new.length nc), (6, .int .i64 ((s.1 + 1 : Nat) : Int)), (5, .slice s.2.1 (s.1 + 1) s.2.2)]) (fun s : Nat × Option Addr × Nat => [Rd OB (U8 old), Rd NB (U8 new)]) (fun s : Nat × Option Addr × Nat => [Own 3 1 s.2.1 (s.1 + 1) s.2.2 (Ni (cs0 s.1))]) (fun s : Nat × Option Addr × Nat => s.1 ≤ new.length) (fun s : Nat × Option Addr × Nat => new.length - s.1) (0, A10, 1) (Nat.zero_le _) (by exact Le.mk' (rs := [0, 1]) (hs := [0]) ⟨rfl, rfl, rfl, rfl, trivial⟩ ⟨rfl, rfl, trivial⟩ ⟨rfl, trivial⟩ (by decide)) ?_
 rintro ⟨q, A, c⟩ hq
 dsimp only at hq ⊢
 have hcl := cs0_len q
 refine C.seq (C.seq (C.region ?_)); refine Lpu rfl rfl ?_; refine Lpu rfl rfl ?_; refine Lpu rfl rfl ?_; refine Lpu rfl rfl ?_; refine L.nil (QE.seq ?_)
 refine C.condB 14 rfl (fun hc14 => ?_) (fun hc14 => ?_)
 ·
  replace hc14 := of_decide_eq_true hc14
  refine C.skip (QE.seq (C.seq (C.block (C.region ?_)))); refine Lpu rfl rfl ?_; refine Lpu rfl rfl ?_; refine L.step (Ev.cast (u := .int .i64 (((2 + (q + 1)) : Nat) : Int)) (Ev.add rfl rfl (by omega) (by omega)) (congrArg (Value.int .i64) (by omega))) rfl ?_
  refine L.lit rfl rfl rfl rfl rfl (by rfl) (by rfl) (by rfl) rfl rfl (fun A20 => ?_)
  refine L.append (j := 0) rfl rfl rfl rfl (by decide) rfl rfl rfl rfl (Src.o 1 rfl) rfl (allOne rfl) (by omega) (by show _ * 8 ≤ _; omega) rfl (fun A21 cc21 => ?_)
  refine Lpu rfl rfl ?_; refine L.nil ?_; refine QE.blkN ?_; refine QE.seq (C.region ?_); refine Lpu rfl rfl ?_; refine L.step (Ev.add rfl rfl (by omega) (by omega)) rfl ?_; refine Lpu rfl rfl ?_; refine L.nil ?_
  refine QE.round (i := (q, A, c)) ((q + 1, A21, cc21)) (by dsimp only; omega) (by dsimp only; omega) (by exact Le.mk' (rs := [0, 1]) (hs := [0]) ⟨rfl, rfl, rfl, rfl, trivial⟩ ⟨rfl, rfl, trivial⟩ ⟨(by dsimp only; rw [cs0_succ, ← Ni_app]; rfl), trivial⟩ (by decide))
 ·
  replace hc14 := of_decide_eq_false hc14
  refine C.exit ?_; refine QE.tX ?_; refine QE.tX ?_; refine QE.blk ?_; refine QE.seq (C.seq (C.seq ?_))
  obtain rfl : q = new.length := by omega
  refine C.region ?_; refine Lpu rfl rfl ?_; refine L.nil (QE.seq (C.block ?_)); refine C.loop (fun i : Nat => [(0, .slice OB old.length oc), (1, .slice NB new.length nc), (5, .slice A (new.length + 1) c), (7, .int .i64 (i : Int))]) (fun i : Nat => [Rd OB (U8 old), Rd NB (U8 new)]) (fun i : Nat => [Own 3 1 A (new.length + 1) c (Ni (outL old new i))]) (fun i : Nat => i ≤ new.length) (fun i : Nat => new.length - i) 0 (Nat.zero_le _) (by exact Le.mk' (rs := [0, 1]) (hs := [0]) ⟨rfl, rfl, rfl, rfl, trivial⟩ ⟨rfl, rfl, trivial⟩ ⟨rfl, trivial⟩ (by decide)) ?_
  intro i hi
  have holen := outL_len old new i
  refine C.seq (C.seq (C.region ?_)); refine Lpu rfl rfl ?_; refine Lpu rfl rfl ?_; refine Lpu rfl rfl ?_; refine Lpu rfl rfl ?_; refine L.nil (QE.seq ?_)
  refine C.condB 25 rfl (fun hc25 => ?_) (fun hc25 => ?_)
  ·
   replace hc25 := of_decide_eq_true hc25
   refine C.skip (QE.seq (C.seq (C.block (C.seq ?_)))); refine C.more (r := Rd (subA NB nc i 1) (U8 (new.drop i))) (Has.cast (Has.part (Has.r 1 rfl) nc i (new.length - i) (by omega)) (by unfold U8; rw [← List.map_drop, List.take_of_length_le (by rw [List.length_map, List.length_drop]; exact Nat.le_refl _)])) ?_; refine C.regionQ (by kernel_rfl) ?_; refine LQ.step (Ev.pure rfl) rfl ?_; refine LQ.step (Ev.pure rfl) rfl ?_; refine LQ.step (Ev.pure rfl) rfl ?_; refine LQ.step (Ev.sliceL (l := i) rfl rfl rfl rfl rfl rfl (by omega)) rfl ?_; refine LQ.call (.int .i64 ((lngF old (new.drop i) old.length : Nat) : Int)) (longest_m OB (subA NB nc i 1) old (new.drop i) oc (nc - i) (by omega) (by rw [List.length_drop]; omega) (new.length - i) (by rw [List.length_drop])) (fun _ _ _ h => h.1) rfl (Hq [1, 0] rfl) rfl ?_; refine LQ.step (Ev.pure rfl) rfl ?_; refine LQ.step (Ev.pure rfl) rfl ?_; refine LQ.step (Ev.sliceL (l := i) rfl rfl rfl rfl rfl rfl (by omega)) rfl ?_; refine LQ.call (.int .i64 ((eqlF (new.drop i) : Nat) : Int)) (equal_m (subA NB nc i 1) (new.drop i) (nc - i) (by rw [List.length_drop]; omega) (new.length - i) (by rw [List.length_drop])) (fun _ _ _ h => h.1) rfl (Hq [0] rfl) rfl ?_; refine LQ.step (Ev.cast (u := .int .i64 (((farF old (new.drop i)) : Nat) : Int)) (Ev.pure rfl) (congrArg (Value.int .i64) (by unfold farF; simp only [if_true]; split <;> omega))) rfl ?_; refine LQ.step (Ev.pure rfl) rfl ?_; refine LQ.nil ?_; refine QE.seq (C.seq ?_)
   have hfl := farF_le old (new.drop i)
   rw [List.length_drop] at hfl
   refine C.region ?_; refine Lpu rfl rfl ?_; refine L.step (Ev.add rfl rfl (by omega) (by omega)) rfl ?_; refine Lpu rfl rfl ?_; refine L.nil (QE.seq (C.block ?_)); refine C.loop (fun j : Nat => [(0, .slice OB old.length oc), (1, .slice NB new.length nc), (5, .slice A (new.length + 1) c), (7, .int .i64 (i : Int)), (8, .int .i64 (((farF old (new.drop i)) : Nat) : Int)), (9, .int .i64 (((i + 1 + j) : Nat) : Int))]) (fun j : Nat => [Rd OB (U8 old), Rd NB (U8 new)]) (fun j : Nat => [Own 3 1 A (new.length + 1) c (Ni (inL (outL old new i) i (farF old (new.drop i)) j))]) (fun j : Nat => j ≤ new.length - i) (fun j : Nat => new.length - i - j) 0 (Nat.zero_le _) (by exact Le.mk' (rs := [1, 2]) (hs := [0]) ⟨rfl, rfl, rfl, rfl, rfl, rfl, trivial⟩ ⟨rfl, rfl, trivial⟩ ⟨rfl, trivial⟩ (by decide)) ?_
   intro j hj
   have hil : (inL (outL old new i) i (farF old (new.drop i)) j).length = new.length + 1 := by rw [inL_len, holen]
   refine C.seq (C.seq (C.region ?_)); refine Lpu rfl rfl ?_; refine Lpu rfl rfl ?_; refine Lpu rfl rfl ?_; refine Lpu rfl rfl ?_; refine L.nil (QE.seq ?_)
   refine C.condB 43 rfl (fun hc43 => ?_) (fun hc43 => ?_)
   ·
    replace hc43 := of_decide_eq_true hc43
    refine C.skip (QE.seq (C.seq (C.block (C.seq ?_))))
    have hv1 := inL_le old new (i := i) (k := (i + 1 + j)) (j := j) (by omega) hj (by omega)
    have hv2 := inL_le old new (i := i) (k := i) (j := j) (by omega) hj (by omega)
    have hm1 : (m1 (inL (outL old new i) i (farF old (new.drop i)) j) i (i + 1 + j)) ≤ 65540 * 2 := by unfold m1; omega
    refine C.regionM [Rd A (Ni (inL (outL old new i) i (farF old (new.drop i)) j))] ⟨Has.o 0 rfl, trivial⟩ ?_; refine LM.q 0 rfl (by kernel_rfl) (Ev.pure rfl) rfl ⟨Has.o 0 rfl, trivial⟩ ?_; refine LM.q 1 rfl (by kernel_rfl) (Ev.pure rfl) rfl ⟨Has.o 0 rfl, trivial⟩ ?_; refine LM.q 2 rfl (by kernel_rfl) (Ev.pure rfl) rfl ⟨Has.o 0 rfl, trivial⟩ ?_; refine LM.q 3 rfl (by kernel_rfl) (Ev.pure rfl) rfl ⟨Has.o 0 rfl, trivial⟩ ?_; refine LM.q 4 rfl (by kernel_rfl) (Ev.idx1 (k := (i + 1 + j)) rfl rfl rfl rfl rfl rfl rfl (by omega) (Src.r 0 rfl) (by rw [Ni_len]; omega)) rfl ⟨Has.o 0 rfl, trivial⟩ ?_; refine LM.q 5 rfl (by kernel_rfl) (Ev.load rfl rfl rfl (Src.r 0 rfl) (Ni_get (by omega))) rfl ⟨Has.o 0 rfl, trivial⟩ ?_; refine LM.q 6 rfl (by kernel_rfl) (Ev.pure rfl) rfl ⟨Has.o 0 rfl, trivial⟩ ?_; refine LM.q 7 rfl (by kernel_rfl) (Ev.pure rfl) rfl ⟨Has.o 0 rfl, trivial⟩ ?_; refine LM.q 8 rfl (by kernel_rfl) (Ev.idx1 (k := i) rfl rfl rfl rfl rfl rfl rfl (by omega) (Src.r 0 rfl) (by rw [Ni_len]; omega)) rfl ⟨Has.o 0 rfl, trivial⟩ ?_; refine LM.q 9 rfl (by kernel_rfl) (Ev.load rfl rfl rfl (Src.r 0 rfl) (Ni_get (by omega))) rfl ⟨Has.o 0 rfl, trivial⟩ ?_; refine LM.q 10 rfl (by kernel_rfl) (Ev.add rfl rfl (by omega) (by omega)) rfl ⟨Has.o 0 rfl, trivial⟩ ?_; refine LM.q 11 rfl (by kernel_rfl) (Ev.pure rfl) rfl ⟨Has.o 0 rfl, trivial⟩ ?_; refine LM.q 12 rfl (by kernel_rfl) (Ev.add rfl rfl (by omega) (by omega)) rfl ⟨Has.o 0 rfl, trivial⟩ ?_; refine LM.f 13 rfl (by kernel_rfl) ⟨Has.o 0 rfl, trivial⟩ ?_; refine Lpu rfl rfl ?_
    refine L.nil (QE.m (by kernel_rfl) ?_)
    refine LM.f 14 rfl (by kernel_rfl) ⟨Has.o 0 rfl, trivial⟩ ?_; refine L.step (Ev.sub rfl rfl (by omega) (by omega)) rfl ?_
    refine L.nil (QE.m (by kernel_rfl) ?_)
    refine LM.f 15 rfl (by kernel_rfl) ⟨Has.o 0 rfl, trivial⟩ ?_; refine L.step (Ev.cast (u := .int .i64 (((m1 (inL (outL old new i) i (farF old (new.drop i)) j) i (i + 1 + j)) : Nat) : Int)) (Ev.pure rfl) (congrArg (Value.int .i64) (by unfold m1; simp only [Bool.false_eq_true, if_false]; split <;> omega))) rfl ?_
    refine L.nil (QE.m (by kernel_rfl) ?_)
    refine LM.cut [] (by kernel_rfl) ⟨Has.o 0 rfl, trivial⟩ ?_; refine LM.f 16 rfl (by kernel_rfl) trivial ?_; refine L.step (Ev.idx1 (k := (i + 1 + j)) rfl rfl rfl rfl rfl rfl rfl (by omega) (Src.o 0 rfl) (by rw [Ni_len]; omega)) rfl ?_
    refine L.nil (QE.m (by kernel_rfl) ?_)
    refine LM.f 17 rfl (by kernel_rfl) trivial ?_; refine L.store (j := 0) rfl rfl rfl rfl rfl rfl rfl (Ni_get (by omega)) ?_
    refine L.nil (QE.m (by kernel_rfl) ?_)
    refine LM.nil (by kernel_rfl) trivial ?_; refine QE.seq (C.seq ?_)
    rw [Ni_set']
    refine C.region ?_; refine Lpu rfl rfl ?_; refine Lpu rfl rfl ?_; refine Lpu rfl rfl ?_; refine L.step (Ev.cast (u := .int .i64 (((i + (farF old (new.drop i))) : Nat) : Int)) (Ev.add rfl rfl (by omega) (by omega)) (congrArg (Value.int .i64) (by omega))) rfl ?_; refine Lpu rfl rfl ?_; refine L.nil (QE.seq ?_)
    refine C.condB 67 rfl (fun hc67 => ?_) (fun hc67 => ?_)
    ·
     replace hc67 := of_decide_eq_true hc67
     have hml : ((inL (outL old new i) i (farF old (new.drop i)) j).set (i + 1 + j) (m1 (inL (outL old new i) i (farF old (new.drop i)) j) i (i + 1 + j))).length = new.length + 1 := by rw [List.length_set, hil]
     refine C.regionM [Rd A (Ni ((inL (outL old new i) i (farF old (new.drop i)) j).set (i + 1 + j) (m1 (inL (outL old new i) i (farF old (new.drop i)) j) i (i + 1 + j))))] ⟨Has.o 0 rfl, trivial⟩ ?_; refine LM.q 0 rfl (by kernel_rfl) (Ev.pure rfl) rfl ⟨Has.o 0 rfl, trivial⟩ ?_; refine LM.q 1 rfl (by kernel_rfl) (Ev.pure rfl) rfl ⟨Has.o 0 rfl, trivial⟩ ?_; refine LM.q 2 rfl (by kernel_rfl) (Ev.pure rfl) rfl ⟨Has.o 0 rfl, trivial⟩ ?_; refine LM.q 3 rfl (by kernel_rfl) (Ev.pure rfl) rfl ⟨Has.o 0 rfl, trivial⟩ ?_; refine LM.q 4 rfl (by kernel_rfl) (Ev.idx1 (k := (i + 1 + j)) rfl rfl rfl rfl rfl rfl rfl (by omega) (Src.r 0 rfl) (by rw [Ni_len, List.length_set]; omega)) rfl ⟨Has.o 0 rfl, trivial⟩ ?_; refine LM.q 5 rfl (by kernel_rfl) (Ev.cast (u := .int .i64 (((m1 (inL (outL old new i) i (farF old (new.drop i)) j) i (i + 1 + j)) : Nat) : Int)) (Ev.load rfl rfl rfl (Src.r 0 rfl) (Ni_get (k := (i + 1 + j)) (by rw [List.length_set]; omega))) (congrArg (fun q : Nat => Value.int .i64 (q : Int)) (set_same (by omega)))) rfl ⟨Has.o 0 rfl, trivial⟩ ?_; refine LM.q 6 rfl (by kernel_rfl) (Ev.pure rfl) rfl ⟨Has.o 0 rfl, trivial⟩ ?_; refine LM.f 7 rfl (by kernel_rfl) ⟨Has.o 0 rfl, trivial⟩ ?_; refine Lpu rfl rfl ?_
     refine L.nil (QE.m (by kernel_rfl) ?_)
     refine LM.f 8 rfl (by kernel_rfl) ⟨Has.o 0 rfl, trivial⟩ ?_; refine L.step (Ev.idx1 (k := i) rfl rfl rfl rfl rfl rfl rfl (by omega) (Src.o 0 rfl) (by rw [Ni_len, List.length_set]; omega)) rfl ?_
     refine L.nil (QE.m (by kernel_rfl) ?_)
     refine LM.f 9 rfl (by kernel_rfl) ⟨Has.o 0 rfl, trivial⟩ ?_; refine L.step (Ev.cast (u := .int .i64 ((((inL (outL old new i) i (farF old (new.drop i)) j).getD i 0) : Nat) : Int)) (Ev.load rfl rfl rfl (Src.o 0 rfl) (Ni_get (k := i) (by rw [List.length_set]; omega))) (congrArg (fun q : Nat => Value.int .i64 (q : Int)) (set_diff (by omega)))) rfl ?_
     refine L.nil (QE.m (by kernel_rfl) ?_)
     refine LM.f 10 rfl (by kernel_rfl) ⟨Has.o 0 rfl, trivial⟩ ?_; refine L.step (Ev.add rfl rfl (by omega) (by omega)) rfl ?_
     refine L.nil (QE.m (by kernel_rfl) ?_)
     refine LM.f 11 rfl (by kernel_rfl) ⟨Has.o 0 rfl, trivial⟩ ?_; refine L.step (Ev.cast (u := .int .i64 (((m2 (inL (outL old new i) i (farF old (new.drop i)) j) i (i + 1 + j)) : Nat) : Int)) (Ev.pure rfl) (congrArg (Value.int .i64) (by unfold m2; simp only [Bool.false_eq_true, if_false]; split <;> omega))) rfl ?_
     refine L.nil (QE.m (by kernel_rfl) ?_)
     refine LM.cut [] (by kernel_rfl) ⟨Has.o 0 rfl, trivial⟩ ?_; refine LM.f 12 rfl (by kernel_rfl) trivial ?_; refine L.step (Ev.idx1 (k := (i + 1 + j)) rfl rfl rfl rfl rfl rfl rfl (by omega) (Src.o 0 rfl) (by rw [Ni_len, List.length_set]; omega)) rfl ?_
     refine L.nil (QE.m (by kernel_rfl) ?_)
     refine LM.f 13 rfl (by kernel_rfl) trivial ?_; refine L.store (j := 0) rfl rfl rfl rfl rfl rfl rfl (Ni_get (by rw [List.length_set]; omega)) ?_
     refine L.nil (QE.m (by kernel_rfl) ?_)
     refine LM.nil (by kernel_rfl) trivial ?_; refine QE.blkN ?_; refine QE.seq (C.region ?_); refine Lpu rfl rfl ?_; refine L.step (Ev.add rfl rfl (by omega) (by omega)) rfl ?_; refine Lpu rfl rfl ?_; refine L.nil ?_
     have hin := inL_yes (cs := (outL old new i)) (i := i) (far := (farF old (new.drop i))) (j := j) (by omega)
     refine QE.round (i := j) (j + 1) (by omega) (by omega) (by exact Le.mk' (rs := [0, 1]) (hs := [0]) ⟨rfl, rfl, rfl, rfl, rfl, rfl, trivial⟩ ⟨rfl, rfl, trivial⟩ ⟨(by rw [hin, Ni_set']; rfl), trivial⟩ (by decide))
    ·
     replace hc67 := of_decide_eq_false hc67
     refine C.skip ?_; refine QE.blkN ?_; refine QE.seq (C.region ?_); refine Lpu rfl rfl ?_; refine L.step (Ev.add rfl rfl (by omega) (by omega)) rfl ?_; refine Lpu rfl rfl ?_; refine L.nil ?_
     have hin := inL_no (cs := (outL old new i)) (i := i) (far := (farF old (new.drop i))) (j := j) (by omega)
     refine QE.round (i := j) (j + 1) (by omega) (by omega) (by exact Le.mk' (rs := [0, 1]) (hs := [0]) ⟨rfl, rfl, rfl, rfl, rfl, rfl, trivial⟩ ⟨rfl, rfl, trivial⟩ ⟨(by rw [hin]; rfl), trivial⟩ (by decide))
   ·
    replace hc43 := of_decide_eq_false hc43
    refine C.exit ?_; refine QE.tX ?_; refine QE.tX ?_; refine QE.blk ?_; refine QE.blkN ?_; refine QE.seq (C.region ?_); refine Lpu rfl rfl ?_; refine L.step (Ev.add rfl rfl (by omega) (by omega)) rfl ?_; refine Lpu rfl rfl ?_; refine L.nil ?_
    obtain rfl : j = new.length - i := by omega
    refine QE.round (i + 1) (by omega) (by omega) (by exact Le.mk' (rs := [0, 1]) (hs := [0]) ⟨rfl, rfl, rfl, rfl, trivial⟩ ⟨rfl, rfl, trivial⟩ ⟨(by rw [outL]; rfl), trivial⟩ (by decide))
  ·
   replace hc25 := of_decide_eq_false hc25
   refine C.exit ?_; refine QE.tX ?_; refine QE.tX ?_; refine QE.blk ?_; refine QE.seq (C.seq ?_)
   obtain rfl : i = new.length := by omega
   refine C.region ?_; refine Lpu rfl rfl ?_; refine Lpu rfl rfl ?_; refine Lpu rfl rfl ?_; refine L.step (Ev.idx1 (k := new.length) rfl rfl rfl rfl rfl rfl rfl (by omega) (Src.o 0 rfl) (by rw [Ni_len]; omega)) rfl ?_; refine L.step (Ev.load rfl rfl rfl (Src.o 0 rfl) (Ni_get (by omega))) rfl ?_; refine Lpu rfl rfl ?_; refine L.nil (QE.seq (C.ret ?_)); refine QE.ret (js := []) (hs := []) (vs := [_]) rfl ⟨rfl, trivial⟩ (by decide) ?_
   exact ⟨rfl, rfl, rfl⟩

end Go.Proofs.YtbkmahjhhncfcaaGreat
