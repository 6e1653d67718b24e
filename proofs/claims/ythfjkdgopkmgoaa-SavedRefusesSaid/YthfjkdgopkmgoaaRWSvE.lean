/-
  The ranges of a record by its places, and restoring, of the reference and of the program.
-/
import Derived.Test.YthfjkdgopkmgoaaRWSvD
import Derived.Test.YthfjkdgopkmgoaaRWFlG
namespace Go.Proofs.Ythfjkdgopkmgoaa
open Go.Sl

theorem eq8_c (A B : Option Addr) (c d : Nat) (xs ys : List UInt8) (hx : xs.length ≤ 9223372036854775806) :
    Ctr X 76 [.slice A xs.length c, .slice B ys.length d] [Rd A (U8 xs), Rd B (U8 ys)] [] (fun v R' H' => v = .bool (xs == ys) ∧ R' = [] ∧ H' = []) := by
  refine Ctr.of (X := X) (fn := Try.f76) Try.func76 rfl (by kernel_rfl) rfl ?_
  intro β
  refine C.seq ?_
  refine C.region ?_
  refine L.step (Ev.pure rfl) rfl ?_
  refine L.nil ?_
  refine QE.seq ?_
  refine C.seq ?_
  refine C.seq ?_
  refine C.region ?_
  refine L.step (Ev.pure rfl) rfl ?_
  refine L.step (Ev.pure rfl) rfl ?_
  refine L.step (Ev.pure rfl) rfl ?_
  refine L.step (Ev.pure rfl) rfl ?_
  refine L.step (Ev.pure rfl) rfl ?_
  refine L.nil ?_
  refine QE.seq ?_
  refine C.condB 10 rfl (fun hc10 => ?_) (fun hc10 => ?_)
  · skip
    replace hc10 := b_ne hc10
    refine C.seq ?_
    refine C.region ?_
    refine L.step (Ev.pure rfl) rfl ?_
    refine L.nil ?_
    refine QE.seq ?_
    refine C.ret ?_
    refine QE.tR ?_
    refine QE.ret (js := []) (hs := []) (vs := [_]) rfl ⟨rfl, trivial⟩ (by decide) ?_
    refine ⟨congrArg Value.bool ?_, rfl, rfl⟩
    rw [eq_comm, beq_eq_false_iff_ne]
    intro h
    subst h
    exact hc10 rfl
  · skip
    replace hc10 := b_eq hc10
    refine C.skip ?_
    refine QE.seq ?_
    refine C.seq ?_
    refine C.seq ?_
    refine C.region ?_
    refine L.step (Ev.pure rfl) rfl ?_
    refine L.step (Ev.pure rfl) rfl ?_
    refine L.step (Ev.pure rfl) rfl ?_
    refine L.nil ?_
    refine QE.seq ?_
    refine C.block ?_
    refine C.loop (fun k : Nat => [(0, .slice A xs.length c), (1, .slice B ys.length d), (12, .int .i64 (xs.length : Int)), (13, .int .i64 (k : Int))]) (fun k : Nat => [Rd A (U8 xs), Rd B (U8 ys)]) (fun k : Nat => []) (fun k : Nat => k ≤ xs.length ∧ xs.take k = ys.take k) (fun k : Nat => xs.length - k) 0 ⟨by omega, by simp⟩ (by exact Le.mk' (rs := [0, 1]) (hs := []) ⟨rfl, rfl, rfl, rfl, trivial⟩ ⟨rfl, rfl, trivial⟩ trivial (by decide)) ?_
    rintro k ⟨hk, htk⟩
    refine C.seq ?_
    refine C.region ?_
    refine L.step (Ev.pure rfl) rfl ?_
    refine L.nil ?_
    refine QE.seq ?_
    refine C.seq ?_
    refine C.condB 14 rfl (fun hc14 => ?_) (fun hc14 => ?_)
    · skip
      replace hc14 := of_decide_eq_true hc14
      refine C.skip ?_
      refine QE.seq ?_
      refine C.seq ?_
      refine C.block ?_
      refine C.seq ?_
      refine C.region ?_
      refine L.step (Ev.pure rfl) rfl ?_
      refine L.step (Ev.pure rfl) rfl ?_
      refine L.nil ?_
      refine QE.seq ?_
      refine C.seq ?_
      refine C.regionQ (by kernel_rfl) ?_
      refine LQ.step (Ev.pure rfl) rfl ?_
      refine LQ.step (Ev.pure rfl) rfl ?_
      refine LQ.step (Ev.idx1 (k := k) rfl rfl rfl rfl rfl rfl rfl (by omega) (Src.r 0 rfl) (by rw [U8_len]; omega)) rfl ?_
      refine LQ.step (Ev.load rfl rfl rfl (Src.r 0 rfl) (U8_get (by omega))) rfl ?_
      refine LQ.step (Ev.pure rfl) rfl ?_
      refine LQ.step (Ev.pure rfl) rfl ?_
      refine LQ.step (Ev.idx1 (k := k) rfl rfl rfl rfl rfl rfl rfl (by omega) (Src.r 1 rfl) (by rw [U8_len]; omega)) rfl ?_
      refine LQ.step (Ev.load rfl rfl rfl (Src.r 1 rfl) (U8_get (by omega))) rfl ?_
      refine LQ.step (Ev.pure rfl) rfl ?_
      refine LQ.nil ?_
      refine QE.seq ?_
      refine C.condB 24 rfl (fun hc24 => ?_) (fun hc24 => ?_)
      · skip
        replace hc24 := b_ne hc24
        refine C.seq ?_
        refine C.region ?_
        refine L.step (Ev.pure rfl) rfl ?_
        refine L.nil ?_
        refine QE.seq ?_
        refine C.ret ?_
        refine QE.bR ?_
        refine QE.tR ?_
        refine QE.tR ?_
        refine QE.bR ?_
        refine QE.tR ?_
        refine QE.ret (js := []) (hs := []) (vs := [_]) rfl ⟨rfl, trivial⟩ (by decide) ?_
        refine ⟨congrArg Value.bool ?_, rfl, rfl⟩
        rw [eq_comm, beq_eq_false_iff_ne]
        intro h
        subst h
        exact hc24 rfl
      · skip
        replace hc24 := b_eq hc24
        refine C.skip ?_
        refine QE.blkN ?_
        refine QE.seq ?_
        refine C.region ?_
        refine L.step (Ev.add rfl rfl (by omega) (by omega)) rfl ?_
        refine L.step (Ev.pure rfl) rfl ?_
        refine L.nil ?_
        refine QE.round (k + 1) ?_ (by omega) (by exact Le.mk' (rs := [0, 1]) (hs := []) ⟨rfl, rfl, rfl, rfl, trivial⟩ ⟨rfl, rfl, trivial⟩ trivial (by decide))
        · refine ⟨by omega, ?_⟩
          rw [take_snoc' xs 0 k (by omega), take_snoc' ys 0 k (by omega), htk, u8_eq.1 hc24]
    · skip
      replace hc14 := of_decide_eq_false hc14
      refine C.exit ?_
      refine QE.tX ?_
      refine QE.tX ?_
      refine QE.blk ?_
      refine QE.seq ?_
      refine C.seq ?_
      refine C.region ?_
      refine L.step (Ev.pure rfl) rfl ?_
      refine L.nil ?_
      refine QE.seq ?_
      refine C.ret ?_
      refine QE.ret (js := []) (hs := []) (vs := [_]) rfl ⟨rfl, trivial⟩ (by decide) ?_
      refine ⟨congrArg Value.bool ?_, rfl, rfl⟩
      obtain rfl : k = xs.length := by omega
      rw [List.take_of_length_le (Nat.le_refl _), List.take_of_length_le (by omega)] at htk
      rw [eq_comm, beq_iff_eq]
      exact htk

set_option maxHeartbeats 1000000 in
theorem ranges_c (RB : Option Addr) (b : List UInt8) (bc : Nat) (n : Int) (hbl : b.length ≤ 900000) :
    Ctr X 59 [.slice RB b.length bc, .int .i64 n] [Rd RB (U8 b)] [] (fun v R' H' => ∃ (rs : List (Nat × Nat)) (O : Option Addr) (c : Nat), v = .tuple #[.slice O rs.length c, .bool (parseS b n).isSome] ∧ R' = [] ∧ H' = [Own 102 2 O rs.length c (rangesV rs)] ∧ ∀ ps, parseS b n = some ps → rs = ps.map prg) := by
  refine Ctr.of (X := X) (fn := Try.f59) Try.func59 rfl (by kernel_rfl) rfl ?_
  intro β
  refine C.seq ?_
  refine C.region ?_
  refine L.step (Ev.pure rfl) rfl ?_
  refine L.step (Ev.pure rfl) rfl ?_
  refine L.nil ?_
  refine QE.seq ?_
  refine C.seq ?_
  refine C.seq ?_
  refine C.region ?_
  refine L.step (Ev.pure rfl) rfl ?_
  refine L.step (Ev.pure rfl) rfl ?_
  refine L.step (Ev.pure rfl) rfl ?_
  refine L.step (Ev.pure rfl) rfl ?_
  refine L.bool 15 rfl (fun hg15 => ?_) (fun hg15 => ?_)
  · skip
    replace hg15 := of_decide_eq_true hg15
    refine L.no rfl rfl rfl ?_
    refine L.no rfl rfl rfl ?_
    refine L.no rfl rfl rfl ?_
    refine L.no rfl rfl rfl ?_
    refine L.no rfl rfl rfl ?_
    refine L.step (Ev.pure rfl) rfl ?_
    refine L.step (Ev.pure rfl) rfl ?_
    refine L.no rfl rfl rfl ?_
    refine L.no rfl rfl rfl ?_
    refine L.no rfl rfl rfl ?_
    refine L.no rfl rfl rfl ?_
    refine L.no rfl rfl rfl ?_
    refine L.no rfl rfl rfl ?_
    refine L.no rfl rfl rfl ?_
    refine L.no rfl rfl rfl ?_
    refine L.step (Ev.pure rfl) rfl ?_
    refine L.nil ?_
    refine QE.seq ?_
    refine C.cond rfl (fun _ => ?_) (fun h => by cases h)
    refine C.seq ?_
    refine C.region ?_
    refine L.step (Ev.pure rfl) rfl ?_
    refine L.step (Ev.pure rfl) rfl ?_
    refine L.nil ?_
    refine QE.seq ?_
    refine C.ret ?_
    refine QE.tR ?_
    refine QE.nil_own 102 2 ?_
    refine QE.ret (js := []) (hs := [0]) (vs := [_, _]) rfl ⟨rfl, rfl, trivial⟩ (by decide) ?_
    have hN : parseS b n = none := parseS_1 (.inl (by omega))
    exact ⟨[], none, 0, by rw [hN]; rfl, rfl, rfl, fun ps h => by rw [hN] at h; cases h⟩
  · skip
    replace hg15 := of_decide_eq_false hg15
    refine L.yes rfl ?_
    refine L.step (Ev.pure rfl) rfl ?_
    refine L.yes rfl ?_
    refine L.step (Ev.idx1 (k := 0) rfl rfl rfl rfl rfl rfl rfl (by omega) (Src.r 0 rfl) (by rw [U8_len]; omega)) rfl ?_
    refine L.yes rfl ?_
    refine L.step (Ev.load rfl rfl rfl (Src.r 0 rfl) (U8_get (by omega))) rfl ?_
    refine L.yes rfl ?_
    first | refine L.step (Ev.byteInt rfl rfl rfl rfl) rfl ?_ | refine L.step (Ev.toInt rfl rfl rfl rfl (by omega) (by omega)) rfl ?_
    refine L.yes rfl ?_
    refine L.step (Ev.pure rfl) rfl ?_
    refine L.step (Ev.pure rfl) rfl ?_
    refine L.step (Ev.pure rfl) rfl ?_
    refine L.bool 22 rfl (fun hg22 => ?_) (fun hg22 => ?_)
    · skip
      replace hg22 := of_decide_eq_true hg22
      refine L.no rfl rfl rfl ?_
      refine L.no rfl rfl rfl ?_
      refine L.no rfl rfl rfl ?_
      refine L.no rfl rfl rfl ?_
      refine L.no rfl rfl rfl ?_
      refine L.no rfl rfl rfl ?_
      refine L.no rfl rfl rfl ?_
      refine L.no rfl rfl rfl ?_
      refine L.step (Ev.pure rfl) rfl ?_
      refine L.nil ?_
      refine QE.seq ?_
      refine C.cond rfl (fun _ => ?_) (fun h => by cases h)
      refine C.seq ?_
      refine C.region ?_
      refine L.step (Ev.pure rfl) rfl ?_
      refine L.step (Ev.pure rfl) rfl ?_
      refine L.nil ?_
      refine QE.seq ?_
      refine C.ret ?_
      refine QE.tR ?_
      refine QE.nil_own 102 2 ?_
      refine QE.ret (js := []) (hs := [0]) (vs := [_, _]) rfl ⟨rfl, rfl, trivial⟩ (by decide) ?_
      have hN : parseS b n = none := parseS_1 (.inr (by omega))
      exact ⟨[], none, 0, by rw [hN]; rfl, rfl, rfl, fun ps h => by rw [hN] at h; cases h⟩
    · skip
      replace hg22 := of_decide_eq_false hg22
      refine L.yes rfl ?_
      refine L.step (Ev.pure rfl) rfl ?_
      refine L.yes rfl ?_
      refine L.step (Ev.pure rfl) rfl ?_
      refine L.yes rfl ?_
      refine L.step (Ev.pure rfl) rfl ?_
      refine L.yes rfl ?_
      refine L.step (Ev.cast (u := .int .i64 ((b.length - 2 : Nat) : Int)) (Ev.sub rfl rfl (by omega) (by omega)) (congrArg (Value.int .i64) (by omega))) rfl ?_
      refine L.yes rfl ?_
      refine L.call (js := []) (js' := []) (num21_c RB b bc (b.length - 2) (by omega) (by omega)) rfl rfl rfl (by decide) ⟨(Has.r 0 rfl), trivial⟩ rfl ?_
      rintro _ _ _ ⟨rfl, rfl, rfl⟩
      refine L.yes rfl ?_
      refine L.step (Ev.pure rfl) rfl ?_
      refine L.yes rfl ?_
      refine L.step (Ev.pure rfl) rfl ?_
      refine L.yes rfl ?_
      refine L.step (Ev.pure rfl) rfl ?_
      refine L.step (Ev.pure rfl) rfl ?_
      refine L.nil ?_
      refine QE.seq ?_
      refine C.condB 31 rfl (fun hc31 => ?_) (fun hc31 => ?_)
      · skip
        replace hc31 := b_ne hc31
        refine C.seq ?_
        refine C.region ?_
        refine L.step (Ev.pure rfl) rfl ?_
        refine L.step (Ev.pure rfl) rfl ?_
        refine L.nil ?_
        refine QE.seq ?_
        refine C.ret ?_
        refine QE.tR ?_
        refine QE.nil_own 102 2 ?_
        refine QE.ret (js := []) (hs := [0]) (vs := [_, _]) rfl ⟨rfl, rfl, trivial⟩ (by decide) ?_
        have hN : parseS b n = none := parse_last (by omega) hc31
        exact ⟨[], none, 0, by rw [hN]; rfl, rfl, rfl, fun ps h => by rw [hN] at h; cases h⟩
      · skip
        replace hc31 := b_eq hc31
        refine C.skip ?_
        refine QE.seq ?_
        refine C.seq ?_
        refine C.region ?_
        refine L.lit0A rfl rfl rfl rfl (fun A32 => ?_)
        refine L.step (Ev.pure rfl) rfl ?_
        refine L.step (Ev.pure rfl) rfl ?_
        refine L.step (Ev.pure rfl) rfl ?_
        refine L.nil ?_
        refine QE.seq ?_
        refine C.seq ?_
        refine C.seq ?_
        refine C.region ?_
        refine L.step (Ev.pure rfl) rfl ?_
        refine L.nil ?_
        refine QE.seq ?_
        refine C.block ?_
        refine C.loop (fun q : Nat × Nat × Nat × List Pc × Option Addr × Nat => [(0, .slice RB b.length bc), (1, .int .i64 n), (6, .slice q.2.2.2.2.1 (q.2.2.2.1.map prg).length q.2.2.2.2.2), (7, .int .i64 (q.2.1 : Int)), (8, .int .i64 (q.2.2.1 : Int)), (9, .int .i64 (q.1 : Int))]) (fun q : Nat × Nat × Nat × List Pc × Option Addr × Nat => [Rd RB (U8 b)]) (fun q : Nat × Nat × Nat × List Pc × Option Addr × Nat => [Own 102 2 q.2.2.2.2.1 (q.2.2.2.1.map prg).length q.2.2.2.2.2 (rangesV (q.2.2.2.1.map prg))]) (fun q : Nat × Nat × Nat × List Pc × Option Addr × Nat => q.1 ≤ (be2 (b.drop 1)) ∧ q.2.1 + 2 ≤ b.length ∧ q.2.2.2.1.length = q.1 ∧ Half (be2 (b.drop 1)) n ((b.drop 1).drop 2) ((be2 (b.drop 1)) - q.1) (b.drop q.2.1) (q.2.2.1 : Int) q.2.2.2.1) (fun q : Nat × Nat × Nat × List Pc × Option Addr × Nat => (be2 (b.drop 1)) - q.1) (0, 3, 0, [], A32, 0) ⟨Nat.zero_le _, by dsimp only; omega, rfl, by dsimp only; rw [show b.drop 3 = (b.drop 1).drop 2 from by rw [List.drop_drop]]; exact Half.start _ _ _⟩ (by exact Le.mk' (rs := [0]) (hs := [0]) ⟨rfl, rfl, rfl, rfl, rfl, rfl, trivial⟩ ⟨rfl, trivial⟩ ⟨rfl, trivial⟩ (by decide)) ?_
        rintro ⟨k, at_, last, ps, O, c⟩ ⟨hk, hat, hpl, hh⟩
        dsimp only at hk hat hpl hh ⊢
        refine C.seq ?_
        refine C.seq ?_
        refine C.region ?_
        refine L.step (Ev.pure rfl) rfl ?_
        refine L.step (Ev.pure rfl) rfl ?_
        refine L.call (js := []) (js' := [0]) (num21_c RB b bc (1) (by omega) (by omega)) rfl rfl rfl (by decide) ⟨(Has.r 0 rfl), trivial⟩ rfl ?_
        rintro _ _ _ ⟨rfl, rfl, rfl⟩
        refine L.step (Ev.pure rfl) rfl ?_
        refine L.nil ?_
        refine QE.seq ?_
        refine C.condB 36 rfl (fun hc36 => ?_) (fun hc36 => ?_)
        · skip
          replace hc36 := of_decide_eq_true hc36
          have hn1 := num21_in (l := b) (at_ := 1) (by omega)
          have hkn : k < (be2 (b.drop 1)) := by omega
          refine C.skip ?_
          refine QE.seq ?_
          refine C.seq ?_
          refine C.block ?_
          refine C.seq ?_
          have hu := num21_lt b at_
          have hv := num21_lt b (at_ + 2)
          refine C.region ?_
          refine L.step (Ev.pure rfl) rfl ?_
          refine L.step (Ev.pure rfl) rfl ?_
          refine L.call (js := []) (js' := [0]) (num21_c RB b bc (at_) (by omega) (by omega)) rfl rfl rfl (by decide) ⟨(Has.r 0 rfl), trivial⟩ rfl ?_
          rintro _ _ _ ⟨rfl, rfl, rfl⟩
          refine L.step (Ev.pure rfl) rfl ?_
          refine L.step (Ev.pure rfl) rfl ?_
          refine L.step (Ev.add rfl rfl (by omega) (by omega)) rfl ?_
          refine L.call (js := []) (js' := [0]) (num21_c RB b bc (at_ + 2) (by omega) (by omega)) rfl rfl rfl (by decide) ⟨(Has.r 0 rfl), trivial⟩ rfl ?_
          rintro _ _ _ ⟨rfl, rfl, rfl⟩
          refine L.step (Ev.pure rfl) rfl ?_
          refine L.step (Ev.pure rfl) rfl ?_
          refine L.nil ?_
          refine QE.seq ?_
          refine C.seq ?_
          refine C.seq ?_
          refine C.region ?_
          refine L.step (Ev.pure rfl) rfl ?_
          refine L.step (Ev.pure rfl) rfl ?_
          refine L.step (Ev.pure rfl) rfl ?_
          refine L.step (Ev.pure rfl) rfl ?_
          refine L.bool 49 rfl (fun hg49 => ?_) (fun hg49 => ?_)
          · skip
            replace hg49 := of_decide_eq_true hg49
            refine L.no rfl rfl rfl ?_
            refine L.no rfl rfl rfl ?_
            refine L.step (Ev.pure rfl) rfl ?_
            refine L.step (Ev.pure rfl) rfl ?_
            refine L.no rfl rfl rfl ?_
            refine L.no rfl rfl rfl ?_
            refine L.no rfl rfl rfl ?_
            refine L.no rfl rfl rfl ?_
            refine L.no rfl rfl rfl ?_
            refine L.step (Ev.pure rfl) rfl ?_
            refine L.step (Ev.pure rfl) rfl ?_
            refine L.no rfl rfl rfl ?_
            refine L.no rfl rfl rfl ?_
            refine L.no rfl rfl rfl ?_
            refine L.no rfl rfl rfl ?_
            refine L.no rfl rfl rfl ?_
            refine L.no rfl rfl rfl ?_
            refine L.no rfl rfl rfl ?_
            refine L.no rfl rfl rfl ?_
            refine L.step (Ev.pure rfl) rfl ?_
            refine L.nil ?_
            refine QE.seq ?_
            refine C.cond rfl (fun _ => ?_) (fun h => by cases h)
            refine C.seq ?_
            refine C.region ?_
            refine L.step (Ev.pure rfl) rfl ?_
            refine L.step (Ev.pure rfl) rfl ?_
            refine L.nil ?_
            refine QE.seq ?_
            refine C.ret ?_
            refine QE.tR ?_
            refine QE.bR ?_
            refine QE.tR ?_
            refine QE.tR ?_
            refine QE.bR ?_
            refine QE.tR ?_
            refine QE.nil_own 102 2 ?_
            refine QE.ret (js := []) (hs := [1]) (vs := [_, _]) rfl ⟨rfl, rfl, trivial⟩ (by decide) ?_
            have hN : parseS b n = none := ref_no (k := (be2 (b.drop 1)) - (k + 1)) rfl hat (by rw [show be2 (b.drop 1) - (k + 1) + 1 = be2 (b.drop 1) - k from by omega]; exact hh) (.inl hg49)
            exact ⟨[], none, 0, by rw [hN]; rfl, rfl, rfl, fun ps h => by rw [hN] at h; cases h⟩
          · skip
            replace hg49 := of_decide_eq_false hg49
            refine L.yes rfl ?_
            refine L.step (Ev.pure rfl) rfl ?_
            refine L.yes rfl ?_
            refine L.step (Ev.pure rfl) rfl ?_
            refine L.step (Ev.pure rfl) rfl ?_
            refine L.step (Ev.pure rfl) rfl ?_
            refine L.bool 53 rfl (fun hg53 => ?_) (fun hg53 => ?_)
            · skip
              replace hg53 := of_decide_eq_true hg53
              refine L.no rfl rfl rfl ?_
              refine L.no rfl rfl rfl ?_
              refine L.no rfl rfl rfl ?_
              refine L.no rfl rfl rfl ?_
              refine L.no rfl rfl rfl ?_
              refine L.step (Ev.pure rfl) rfl ?_
              refine L.step (Ev.pure rfl) rfl ?_
              refine L.no rfl rfl rfl ?_
              refine L.no rfl rfl rfl ?_
              refine L.no rfl rfl rfl ?_
              refine L.no rfl rfl rfl ?_
              refine L.no rfl rfl rfl ?_
              refine L.no rfl rfl rfl ?_
              refine L.no rfl rfl rfl ?_
              refine L.no rfl rfl rfl ?_
              refine L.step (Ev.pure rfl) rfl ?_
              refine L.nil ?_
              refine QE.seq ?_
              refine C.cond rfl (fun _ => ?_) (fun h => by cases h)
              refine C.seq ?_
              refine C.region ?_
              refine L.step (Ev.pure rfl) rfl ?_
              refine L.step (Ev.pure rfl) rfl ?_
              refine L.nil ?_
              refine QE.seq ?_
              refine C.ret ?_
              refine QE.tR ?_
              refine QE.bR ?_
              refine QE.tR ?_
              refine QE.tR ?_
              refine QE.bR ?_
              refine QE.tR ?_
              refine QE.nil_own 102 2 ?_
              refine QE.ret (js := []) (hs := [1]) (vs := [_, _]) rfl ⟨rfl, rfl, trivial⟩ (by decide) ?_
              have hN : parseS b n = none := ref_no (k := (be2 (b.drop 1)) - (k + 1)) rfl hat (by rw [show be2 (b.drop 1) - (k + 1) + 1 = be2 (b.drop 1) - k from by omega]; exact hh) (.inr (.inl hg53))
              exact ⟨[], none, 0, by rw [hN]; rfl, rfl, rfl, fun ps h => by rw [hN] at h; cases h⟩
            · skip
              replace hg53 := of_decide_eq_false hg53
              refine L.yes rfl ?_
              refine L.step (Ev.pure rfl) rfl ?_
              refine L.yes rfl ?_
              refine L.step (Ev.pure rfl) rfl ?_
              refine L.yes rfl ?_
              refine L.step (Ev.add rfl rfl (by omega) (by omega)) rfl ?_
              refine L.yes rfl ?_
              refine L.step (Ev.pure rfl) rfl ?_
              refine L.yes rfl ?_
              refine L.step (Ev.pure rfl) rfl ?_
              refine L.step (Ev.pure rfl) rfl ?_
              refine L.step (Ev.pure rfl) rfl ?_
              refine L.bool 60 rfl (fun hg60 => ?_) (fun hg60 => ?_)
              · skip
                replace hg60 := of_decide_eq_true hg60
                refine L.no rfl rfl rfl ?_
                refine L.no rfl rfl rfl ?_
                refine L.no rfl rfl rfl ?_
                refine L.no rfl rfl rfl ?_
                refine L.no rfl rfl rfl ?_
                refine L.no rfl rfl rfl ?_
                refine L.no rfl rfl rfl ?_
                refine L.no rfl rfl rfl ?_
                refine L.step (Ev.pure rfl) rfl ?_
                refine L.nil ?_
                refine QE.seq ?_
                refine C.cond rfl (fun _ => ?_) (fun h => by cases h)
                refine C.seq ?_
                refine C.region ?_
                refine L.step (Ev.pure rfl) rfl ?_
                refine L.step (Ev.pure rfl) rfl ?_
                refine L.nil ?_
                refine QE.seq ?_
                refine C.ret ?_
                refine QE.tR ?_
                refine QE.bR ?_
                refine QE.tR ?_
                refine QE.tR ?_
                refine QE.bR ?_
                refine QE.tR ?_
                refine QE.nil_own 102 2 ?_
                refine QE.ret (js := []) (hs := [1]) (vs := [_, _]) rfl ⟨rfl, rfl, trivial⟩ (by decide) ?_
                have hN : parseS b n = none := ref_no (k := (be2 (b.drop 1)) - (k + 1)) rfl hat (by rw [show be2 (b.drop 1) - (k + 1) + 1 = be2 (b.drop 1) - k from by omega]; exact hh) (.inr (.inr (.inl hg60)))
                exact ⟨[], none, 0, by rw [hN]; rfl, rfl, rfl, fun ps h => by rw [hN] at h; cases h⟩
              · skip
                replace hg60 := of_decide_eq_false hg60
                refine L.yes rfl ?_
                refine L.step (Ev.pure rfl) rfl ?_
                refine L.yes rfl ?_
                refine L.step (Ev.add rfl rfl (by omega) (by omega)) rfl ?_
                refine L.yes rfl ?_
                refine L.step (Ev.pure rfl) rfl ?_
                refine L.yes rfl ?_
                refine L.step (Ev.add rfl rfl (by omega) (by omega)) rfl ?_
                refine L.yes rfl ?_
                refine L.step (Ev.pure rfl) rfl ?_
                refine L.yes rfl ?_
                refine L.step (Ev.pure rfl) rfl ?_
                refine L.yes rfl ?_
                refine L.step (Ev.sub rfl rfl (by omega) (by omega)) rfl ?_
                refine L.yes rfl ?_
                refine L.step (Ev.pure rfl) rfl ?_
                refine L.step (Ev.pure rfl) rfl ?_
                refine L.nil ?_
                refine QE.seq ?_
                refine C.condB 69 rfl (fun hc69 => ?_) (fun hc69 => ?_)
                · skip
                  replace hc69 := of_decide_eq_true hc69
                  refine C.seq ?_
                  refine C.region ?_
                  refine L.step (Ev.pure rfl) rfl ?_
                  refine L.step (Ev.pure rfl) rfl ?_
                  refine L.nil ?_
                  refine QE.seq ?_
                  refine C.ret ?_
                  refine QE.tR ?_
                  refine QE.bR ?_
                  refine QE.tR ?_
                  refine QE.tR ?_
                  refine QE.bR ?_
                  refine QE.tR ?_
                  refine QE.nil_own 102 2 ?_
                  refine QE.ret (js := []) (hs := [1]) (vs := [_, _]) rfl ⟨rfl, rfl, trivial⟩ (by decide) ?_
                  have hN : parseS b n = none := ref_no (k := (be2 (b.drop 1)) - (k + 1)) rfl hat (by rw [show be2 (b.drop 1) - (k + 1) + 1 = be2 (b.drop 1) - k from by omega]; exact hh) (.inr (.inr (.inr hc69)))
                  exact ⟨[], none, 0, by rw [hN]; rfl, rfl, rfl, fun ps h => by rw [hN] at h; cases h⟩
                · skip
                  replace hc69 := of_decide_eq_false hc69
                  refine C.skip ?_
                  refine QE.seq ?_
                  refine C.seq ?_
                  obtain ⟨e1, e2, hp, hfit⟩ := ref_ok hat hg49 hg53 hg60 hc69
                  have hbn := be2_lt (b.drop 1)
                  have hml : (ps.map prg).length = ps.length := List.length_map ..
                  refine C.region ?_
                  refine L.step (Ev.pure rfl) rfl ?_
                  refine L.step (Ev.pure rfl) rfl ?_
                  refine L.step (Ev.pure rfl) rfl ?_
                  refine L.step (Ev.pure rfl) rfl ?_
                  refine L.step (Ev.add rfl rfl (by omega) (by omega)) rfl ?_
                  refine L.step (Ev.build rfl rfl rfl rfl rfl rfl rfl) rfl ?_
                  refine L.lit1A (cs := [.int .i64 (num21 b at_), .int .i64 (num21 b at_ + num21 b (at_ + 2))]) rfl rfl rfl rfl (Nat.zero_lt_succ _) rfl rfl rfl (fun A76 => ?_)
                  refine L.append (j := 0) rfl rfl rfl rfl (by decide) rfl rfl rfl rfl (Src.o 1 rfl) rfl (allOne rfl) (by omega) (by show _ * 16 ≤ _; omega) rfl (fun A77 cc77 => ?_)
                  refine L.step (Ev.pure rfl) rfl ?_
                  refine L.nil ?_
                  refine QE.seq ?_
                  refine C.seq ?_
                  refine C.region ?_
                  refine L.step (Ev.pure rfl) rfl ?_
                  refine L.step (Ev.pure rfl) rfl ?_
                  refine L.step (Ev.add rfl rfl (by omega) (by omega)) rfl ?_
                  refine L.step (Ev.pure rfl) rfl ?_
                  refine L.nil ?_
                  refine QE.seq ?_
                  refine C.region ?_
                  refine L.step (Ev.pure rfl) rfl ?_
                  refine L.step (Ev.pure rfl) rfl ?_
                  refine L.step (Ev.add rfl rfl (by omega) (by omega)) rfl ?_
                  refine L.step (Ev.add rfl rfl (by omega) (by omega)) rfl ?_
                  refine L.step (Ev.pure rfl) rfl ?_
                  refine L.nil ?_
                  refine QE.blkN ?_
                  refine QE.seq ?_
                  refine C.region ?_
                  refine L.step (Ev.pure rfl) rfl ?_
                  refine L.step (Ev.add rfl rfl (by omega) (by omega)) rfl ?_
                  refine L.step (Ev.pure rfl) rfl ?_
                  refine L.nil ?_
                  refine QE.round (i := (k, at_, last, ps, O, c)) ((k + 1, at_ + (4 + be2 ((b.drop at_).drop 2)), be2 (b.drop at_) + be2 ((b.drop at_).drop 2), ps ++ [(be2 (b.drop at_), (((b.drop at_).drop 2).drop 2).take (be2 ((b.drop at_).drop 2)))], A77, cc77)) (by exact ⟨by dsimp only; omega, by dsimp only; omega, by simp [hpl], ref_next (by rw [show be2 (b.drop 1) - (k + 1) + 1 = be2 (b.drop 1) - k from by omega]; exact hh) hp⟩) (by dsimp only; omega) (by exact Le.mk' (rs := [0]) (hs := [0]) ⟨rfl, rfl, (by simp only [List.map_append, List.length_append]; rfl), (by dsimp only; rw [e2]; exact congrArg some (congrArg (Value.int .i64) (by omega))), (by dsimp only; rw [e1, e2]; rfl), rfl, trivial⟩ ⟨rfl, trivial⟩ ⟨(congrArg some (own_eq (by simp) (rg_snoc e1 e2 hfit))), trivial⟩ (by decide))
        · skip
          replace hc36 := of_decide_eq_false hc36
          have hn1 := num21_in (l := b) (at_ := 1) (by omega)
          obtain rfl : k = (be2 (b.drop 1)) := by omega
          refine C.exit ?_
          refine QE.tX ?_
          refine QE.tX ?_
          refine QE.blk ?_
          refine QE.seq ?_
          refine C.seq ?_
          refine C.region ?_
          refine L.step (Ev.pure rfl) rfl ?_
          refine L.step (Ev.pure rfl) rfl ?_
          refine L.step (Ev.pure rfl) rfl ?_
          refine L.step (Ev.pure rfl) rfl ?_
          refine L.step (Ev.sub rfl rfl (by omega) (by omega)) rfl ?_
          refine L.step (Ev.pure rfl) rfl ?_
          refine L.step (Ev.pure rfl) rfl ?_
          refine L.step (Ev.pure rfl) rfl ?_
          refine L.nil ?_
          refine QE.seq ?_
          refine C.ret ?_
          refine QE.ret (js := []) (hs := [0]) (vs := [_, _]) rfl ⟨rfl, rfl, trivial⟩ (by decide) ?_
          rw [Nat.sub_self] at hh
          obtain ⟨he, hq⟩ := ref_end rfl (by omega) hat hc31 hh
          exact ⟨_, O, c, by rw [← he]; rfl, rfl, rfl, fun qs h => by rw [hq qs h]⟩

set_option maxHeartbeats 1000000 in
theorem restore21_c (SA RB : Option Addr) (b rec : List UInt8) (ca rc : Nat) (hbl : b.length ≤ 900000) (hrl : rec.length ≤ 900000) :
    Ctr X 24 [.slice SA b.length ca, .slice RB rec.length rc] [Rd SA (U8 b), Rd RB (U8 rec)] [] (fun v R' H' => ∃ (A : Option Addr) (c : Nat), v = .tuple #[.slice A (resS b rec).length c, .int .i64 (resE b rec)] ∧ R' = [] ∧ H' = [Own 5 1 A (resS b rec).length c (U8 (resS b rec))]) := by
  refine Ctr.of (X := X) (fn := Try.f24) Try.func24 rfl (by kernel_rfl) rfl ?_
  intro β
  refine C.seq ?_
  refine C.region ?_
  refine L.step (Ev.pure rfl) rfl ?_
  refine L.step (Ev.pure rfl) rfl ?_
  refine L.nil ?_
  refine QE.seq ?_
  refine C.seq ?_
  refine C.region ?_
  refine L.step (Ev.pure rfl) rfl ?_
  refine L.step (Ev.pure rfl) rfl ?_
  refine L.step (Ev.pure rfl) rfl ?_
  refine L.call (js := []) (js' := []) (ranges_c RB rec rc (b.length : Int) hrl) rfl rfl rfl (by decide) ⟨(Has.r 1 rfl), trivial⟩ rfl ?_
  rintro _ _ _ ⟨rs, O, oc, rfl, rfl, rfl, hrs⟩
  refine L.step (Ev.pure rfl) rfl ?_
  refine L.step (Ev.pure rfl) rfl ?_
  refine L.step (Ev.pure rfl) rfl ?_
  refine L.step (Ev.pure rfl) rfl ?_
  refine L.step (Ev.pure rfl) rfl ?_
  refine L.nil ?_
  refine QE.seq ?_
  refine C.seq ?_
  refine C.seq ?_
  refine C.region ?_
  refine L.step (Ev.pure rfl) rfl ?_
  refine L.step (Ev.pure rfl) rfl ?_
  refine L.step (Ev.pure rfl) rfl ?_
  refine L.bool 21 rfl (fun hg21 => ?_) (fun hg21 => ?_)
  · skip
    have hN : parseS rec (b.length : Int) = none := by simpa using hg21
    refine L.no rfl rfl rfl ?_
    refine L.no rfl rfl rfl ?_
    refine L.no rfl rfl rfl ?_
    refine L.step (Ev.pure rfl) rfl ?_
    refine L.step (Ev.pure rfl) rfl ?_
    refine L.no rfl rfl rfl ?_
    refine L.no rfl rfl rfl ?_
    refine L.no rfl rfl rfl ?_
    refine L.step (Ev.pure rfl) rfl ?_
    refine L.nil ?_
    refine QE.seq ?_
    refine C.cond rfl (fun _ => ?_) (fun h => by cases h)
    refine C.seq ?_
    refine C.region ?_
    refine L.step (Ev.pure rfl) rfl ?_
    refine L.step (Ev.pure rfl) rfl ?_
    refine L.nil ?_
    refine QE.seq ?_
    refine C.ret ?_
    refine QE.tR ?_
    refine QE.nil_own 5 1 ?_
    refine QE.ret (js := []) (hs := [1]) (vs := [_, _]) rfl ⟨rfl, rfl, trivial⟩ (by decide) ?_
    have hB : ResBad b rec := .inl hN
    refine ⟨none, 0, by rw [resE_bad hB, resS_bad hB]; rfl, rfl, by rw [resS_bad hB]; rfl⟩
  · skip
    obtain ⟨ps, hps⟩ : ∃ ps, parseS rec (b.length : Int) = some ps := Option.isSome_iff_exists.1 (by simpa using hg21)
    obtain rfl := hrs ps hps
    have hcnt := parse_count hps
    refine L.yes rfl ?_
    refine L.step (Ev.pure rfl) rfl ?_
    refine L.yes rfl ?_
    refine L.step (Ev.pure rfl) rfl ?_
    refine L.yes rfl ?_
    refine L.step (Ev.pure rfl) rfl ?_
    refine L.step (Ev.pure rfl) rfl ?_
    refine L.step (Ev.pure rfl) rfl ?_
    refine L.bool 26 rfl (fun hg26 => ?_) (fun hg26 => ?_)
    · skip
      replace hg26 := of_decide_eq_true hg26
      refine L.no rfl rfl rfl ?_
      refine L.no rfl rfl rfl ?_
      refine L.no rfl rfl rfl ?_
      refine L.step (Ev.pure rfl) rfl ?_
      refine L.nil ?_
      refine QE.seq ?_
      refine C.cond rfl (fun _ => ?_) (fun h => by cases h)
      refine C.seq ?_
      refine C.region ?_
      refine L.step (Ev.pure rfl) rfl ?_
      refine L.step (Ev.pure rfl) rfl ?_
      refine L.nil ?_
      refine QE.seq ?_
      refine C.ret ?_
      refine QE.tR ?_
      refine QE.nil_own 5 1 ?_
      refine QE.ret (js := []) (hs := [1]) (vs := [_, _]) rfl ⟨rfl, rfl, trivial⟩ (by decide) ?_
      have hB : ResBad b rec := .inr (.inl (by omega))
      refine ⟨none, 0, by rw [resE_bad hB, resS_bad hB]; rfl, rfl, by rw [resS_bad hB]; rfl⟩
    · skip
      replace hg26 := of_decide_eq_false hg26
      refine L.yes rfl ?_
      refine L.step (Ev.pure rfl) rfl ?_
      refine L.yes rfl ?_
      refine L.step (Ev.pure rfl) rfl ?_
      refine L.yes rfl ?_
      refine L.step (Ev.pure rfl) rfl ?_
      refine L.step (Ev.pure rfl) rfl ?_
      refine L.nil ?_
      refine QE.seq ?_
      refine C.condB 30 rfl (fun hc30 => ?_) (fun hc30 => ?_)
      · skip
        replace hc30 := of_decide_eq_true hc30
        refine C.seq ?_
        refine C.region ?_
        refine L.step (Ev.pure rfl) rfl ?_
        refine L.step (Ev.pure rfl) rfl ?_
        refine L.nil ?_
        refine QE.seq ?_
        refine C.ret ?_
        refine QE.tR ?_
        refine QE.nil_own 5 1 ?_
        refine QE.ret (js := []) (hs := [1]) (vs := [_, _]) rfl ⟨rfl, rfl, trivial⟩ (by decide) ?_
        have hB : ResBad b rec := .inr (.inr (by omega))
        refine ⟨none, 0, by rw [resE_bad hB, resS_bad hB]; rfl, rfl, by rw [resS_bad hB]; rfl⟩
      · skip
        replace hc30 := of_decide_eq_false hc30
        refine C.skip ?_
        refine QE.seq ?_
        refine C.seq ?_
        refine C.freeze 0 rfl [] (by decide) (by decide) ?_
        refine C.region ?_
        refine L.lit rfl rfl rfl rfl rfl (by rfl) (by rfl) (by rfl) rfl rfl (fun A31 => ?_)
        refine L.step (Ev.pure rfl) rfl ?_
        refine L.append (j := 0) rfl rfl rfl rfl (by decide) rfl rfl rfl rfl (Src.r 1 rfl) (by rw [U8_len]; exact (Nat.mul_one _).symm) (U8_one _) (by omega) (by show _ * 1 ≤ _; omega) rfl (fun A33 cc33 => ?_)
        refine L.step (Ev.pure rfl) rfl ?_
        refine L.step (Ev.pure rfl) rfl ?_
        refine L.nil ?_
        refine QE.seq ?_
        refine C.seq ?_
        refine C.seq ?_
        refine C.region ?_
        refine L.step (Ev.pure rfl) rfl ?_
        refine L.nil ?_
        refine QE.seq ?_
        refine C.block ?_
        refine C.loop (fun i : Nat => [(1, .slice RB rec.length rc), (6, .slice O (ps.map prg).length oc), (8, .slice A33 b.length cc33), (10, .int .i64 (i : Int)), (9, .int .i64 ((3 + lenP (ps.take i) : Nat) : Int))]) (fun i : Nat => [Rd O (rangesV (ps.map prg)), Rd SA (U8 b), Rd RB (U8 rec)]) (fun i : Nat => [Own 5 1 A33 b.length cc33 (U8 (applyP b (ps.take i)))]) (fun i : Nat => i ≤ ps.length) (fun i : Nat => ps.length - i) 0 (Nat.zero_le _) (by exact Le.mk' (rs := [0, 1, 2]) (hs := [0]) ⟨rfl, rfl, (by simp only [Nat.zero_add]; rfl), rfl, rfl, trivial⟩ ⟨rfl, rfl, rfl, trivial⟩ ⟨(by simp only [Nat.zero_add]; rfl), trivial⟩ (by decide)) ?_
        intro i hi
        refine C.seq ?_
        refine C.seq ?_
        refine C.region ?_
        refine L.step (Ev.pure rfl) rfl ?_
        refine L.step (Ev.pure rfl) rfl ?_
        refine L.step (Ev.pure rfl) rfl ?_
        refine L.step (Ev.pure rfl) rfl ?_
        refine L.nil ?_
        refine QE.seq ?_
        refine C.condB 37 rfl (fun hc37 => ?_) (fun hc37 => ?_)
        · skip
          replace hc37 := of_decide_eq_true hc37
          have hi2 : i < ps.length := by rw [List.length_map] at hc37; omega
          have hpa := parse_at hps hi2
          have hol := applyP_len hps i (by omega)
          refine C.skip ?_
          refine QE.seq ?_
          refine C.seq ?_
          refine C.block ?_
          refine C.seq ?_
          refine C.region ?_
          refine L.step (Ev.pure rfl) rfl ?_
          refine L.step (Ev.add rfl rfl (by omega) (by omega)) rfl ?_
          refine L.step (Ev.pure rfl) rfl ?_
          refine L.nil ?_
          refine QE.seq ?_
          refine C.seq ?_
          refine C.region ?_
          refine L.step (Ev.pure rfl) rfl ?_
          refine L.step (Ev.pure rfl) rfl ?_
          refine L.step (Ev.idx (k := i) (m := i * 2) rfl rfl rfl rfl rfl rfl (by rw [List.length_map]; omega) (Src.r 0 rfl) (ranges_pos (k := i) (by rw [List.length_map]; omega)) rfl) rfl ?_
          refine L.step (Ev.fieldAddr rfl rfl rfl rfl rfl rfl (Src.r 0 rfl) (ranges_pos (k := i) (by rw [List.length_map]; omega)) rfl) rfl ?_
          refine L.step (Ev.load rfl rfl rfl (Src.r 0 rfl) (rg_get1 hi2)) rfl ?_
          refine L.step (Ev.pure rfl) rfl ?_
          refine L.nil ?_
          refine QE.seq ?_
          refine C.block ?_
          refine C.loop (fun j : Nat => [(1, .slice RB rec.length rc), (6, .slice O (ps.map prg).length oc), (8, .slice A33 b.length cc33), (10, .int .i64 (i : Int)), (9, .int .i64 ((3 + lenP (ps.take i) + 4 + j : Nat) : Int)), (11, .int .i64 (((ps.getD i Pc0).1 + j : Nat) : Int))]) (fun j : Nat => [Rd O (rangesV (ps.map prg)), Rd SA (U8 b), Rd RB (U8 rec)]) (fun j : Nat => [Own 5 1 A33 b.length cc33 (U8 (putB (applyP b (ps.take i)) (ps.getD i Pc0).1 ((ps.getD i Pc0).2.take j)))]) (fun j : Nat => j ≤ (ps.getD i Pc0).2.length) (fun j : Nat => (ps.getD i Pc0).2.length - j) 0 (Nat.zero_le _) (by exact Le.mk' (rs := [0, 1, 2]) (hs := [0]) ⟨rfl, rfl, rfl, rfl, rfl, rfl, trivial⟩ ⟨rfl, rfl, rfl, trivial⟩ ⟨(by rw [List.take_zero, putB_nil]; rfl), trivial⟩ (by decide)) ?_
          intro j hj
          refine C.seq ?_
          refine C.seq ?_
          refine C.region ?_
          refine L.step (Ev.pure rfl) rfl ?_
          refine L.step (Ev.pure rfl) rfl ?_
          refine L.step (Ev.pure rfl) rfl ?_
          refine L.step (Ev.idx (k := i) (m := i * 2) rfl rfl rfl rfl rfl rfl (by rw [List.length_map]; omega) (Src.r 0 rfl) (ranges_pos (k := i) (by rw [List.length_map]; omega)) rfl) rfl ?_
          refine L.step (Ev.fieldAddr rfl rfl rfl rfl rfl rfl (Src.r 0 rfl) (ranges_pos (k := i) (by rw [List.length_map]; omega)) rfl) rfl ?_
          refine L.step (Ev.load rfl rfl rfl (Src.r 0 rfl) (rg_get2 hi2)) rfl ?_
          refine L.step (Ev.pure rfl) rfl ?_
          refine L.nil ?_
          refine QE.seq ?_
          refine C.condB 53 rfl (fun hc53 => ?_) (fun hc53 => ?_)
          · skip
            replace hc53 := of_decide_eq_true hc53
            have hj2 : j < (ps.getD i Pc0).2.length := by omega
            have hpl := putB_len (out := (applyP b (ps.take i))) (p := (ps.getD i Pc0).1) (b := (ps.getD i Pc0).2.take j) (by rw [List.length_take]; omega)
            rw [hol] at hpl
            refine C.skip ?_
            refine QE.seq ?_
            refine C.seq ?_
            refine C.block ?_
            refine C.seq ?_
            refine C.region ?_
            refine L.step (Ev.pure rfl) rfl ?_
            refine L.step (Ev.pure rfl) rfl ?_
            refine L.step (Ev.pure rfl) rfl ?_
            refine L.step (Ev.pure rfl) rfl ?_
            refine L.step (Ev.idx1 (k := 3 + lenP (ps.take i) + 4 + j) rfl rfl rfl rfl rfl rfl rfl (by omega) (Src.r 2 rfl) (by rw [U8_len]; omega)) rfl ?_
            refine L.step (Ev.load rfl rfl rfl (Src.r 2 rfl) ((U8_get (by omega)).trans (by rw [putB_all hpa.2.1 hj2]))) rfl ?_
            refine L.step (Ev.idx1 (k := (ps.getD i Pc0).1 + j) rfl rfl rfl rfl rfl rfl rfl (by omega) (Src.o 0 rfl) (by rw [U8_len, hpl]; omega)) rfl ?_
            refine L.store (j := 0) rfl rfl rfl rfl rfl rfl rfl (by exact U8_get (by rw [hpl]; omega)) ?_
            refine L.nil ?_
            refine QE.seq ?_
            refine C.region ?_
            refine L.step (Ev.pure rfl) rfl ?_
            refine L.step (Ev.add rfl rfl (by omega) (by omega)) rfl ?_
            refine L.step (Ev.pure rfl) rfl ?_
            refine L.nil ?_
            refine QE.blkN ?_
            refine QE.seq ?_
            refine C.region ?_
            refine L.step (Ev.pure rfl) rfl ?_
            refine L.step (Ev.add rfl rfl (by omega) (by omega)) rfl ?_
            refine L.step (Ev.pure rfl) rfl ?_
            refine L.nil ?_
            refine QE.round (j + 1) (by omega) (by omega) (by exact Le.mk' (rs := [0, 1, 2]) (hs := [0]) ⟨rfl, rfl, rfl, rfl, rfl, rfl, trivial⟩ ⟨rfl, rfl, rfl, trivial⟩ ⟨(by simp only [List.set_cons_zero, List.getElem?_cons_zero]; rw [U8_set, putB_step (by omega) hj2]), trivial⟩ (by decide))
          · skip
            replace hc53 := of_decide_eq_false hc53
            refine C.exit ?_
            refine QE.tX ?_
            refine QE.tX ?_
            refine QE.blk ?_
            refine QE.blkN ?_
            refine QE.seq ?_
            refine C.region ?_
            refine L.step (Ev.pure rfl) rfl ?_
            refine L.step (Ev.add rfl rfl (by omega) (by omega)) rfl ?_
            refine L.step (Ev.pure rfl) rfl ?_
            refine L.nil ?_
            obtain rfl : j = (ps.getD i Pc0).2.length := by omega
            have e1 : lenP (ps.take (i + 1)) = lenP (ps.take i) + (4 + (ps.getD i Pc0).2.length) := by rw [take_snoc' ps Pc0 i hi2, lenP_snoc]
            have e2 : applyP b (ps.take (i + 1)) = putB (applyP b (ps.take i)) (ps.getD i Pc0).1 ((ps.getD i Pc0).2.take (ps.getD i Pc0).2.length) := by rw [take_snoc' ps Pc0 i hi2, applyP_snoc, List.take_length]
            refine QE.round (i + 1) (by omega) (by omega) (by exact Le.mk' (rs := [0, 1, 2]) (hs := [0]) ⟨rfl, rfl, rfl, rfl, (by rw [e1]; exact congrArg some (congrArg (Value.int .i64) (by omega))), trivial⟩ ⟨rfl, rfl, rfl, trivial⟩ ⟨(by rw [e2]; rfl), trivial⟩ (by decide))
        · skip
          replace hc37 := of_decide_eq_false hc37
          refine C.exit ?_
          refine QE.tX ?_
          refine QE.tX ?_
          refine QE.blk ?_
          refine QE.seq ?_
          refine C.seq ?_
          refine C.region ?_
          refine L.step (Ev.pure rfl) rfl ?_
          refine L.step (Ev.pure rfl) rfl ?_
          refine L.step (Ev.pure rfl) rfl ?_
          refine L.nil ?_
          refine QE.seq ?_
          refine C.ret ?_
          refine QE.ret (js := []) (hs := [0]) (vs := [_, _]) rfl ⟨rfl, rfl, trivial⟩ (by decide) ?_
          obtain rfl : i = ps.length := by rw [List.length_map] at hc37; omega
          have hol := applyP_len hps ps.length (Nat.le_refl _)
          rw [List.take_length] at hol ⊢
          refine ⟨A33, cc33, ?_, rfl, ?_⟩
          · rw [resE_ok hps (by omega) (by omega), resS_ok hps (by omega) (by omega), hol]; rfl
          · rw [resS_ok hps (by omega) (by omega), hol]; rfl

set_option maxHeartbeats 1000000 in
theorem restore_c (SA RB : Option Addr) (b rec : List UInt8) (ca rc : Nat) (hbl : b.length ≤ 900000) (hrl : rec.length ≤ 900000) (hrc : rec.length ≤ rc) :
    Ctr X 23 [.slice SA b.length ca, .slice RB rec.length rc] [Rd SA (U8 b), Rd RB (U8 rec)] [] (fun v R' H' => ∃ (A : Option Addr) (c : Nat), v = .tuple #[.slice A (resS b rec).length c, .int .i64 (resE b rec)] ∧ R' = [] ∧ H' = [Own 5 1 A (resS b rec).length c (U8 (resS b rec))]) := by
  refine Ctr.of (X := X) (fn := Try.f23) Try.func23 rfl (by kernel_rfl) rfl ?_
  intro β
  refine C.seq ?_
  refine C.region ?_
  refine L.step (Ev.pure rfl) rfl ?_
  refine L.step (Ev.pure rfl) rfl ?_
  refine L.nil ?_
  refine QE.seq ?_
  refine C.seq ?_
  refine C.region ?_
  refine L.step (Ev.pure rfl) rfl ?_
  refine L.call (js := []) (js' := []) (clone8_c SA b.length ca (U8 b) (U8_one _) (U8_len _) (by omega)) rfl rfl rfl (by decide) ⟨(Has.r 0 rfl), trivial⟩ rfl ?_
  rintro _ _ _ ⟨A9, c9, rfl, rfl, rfl⟩
  refine L.alloc rfl rfl rfl (fun A6 => ?_)
  refine L.store (j := 1) rfl rfl rfl rfl rfl rfl rfl rfl ?_
  refine L.nil ?_
  refine QE.seq ?_
  refine C.seq ?_
  refine C.cap 0 rfl (fun h9 => ?_)
  refine C.region ?_
  refine L.step (Ev.pure rfl) rfl ?_
  refine L.step (Ev.pure rfl) rfl ?_
  refine L.step (Ev.pure rfl) rfl ?_
  refine L.step (Ev.pure rfl) rfl ?_
  refine L.bool 13 rfl (fun hg13 => ?_) (fun hg13 => ?_)
  · skip
    replace hg13 := of_decide_eq_true hg13
    refine L.yes rfl ?_
    refine L.step (Ev.pure rfl) rfl ?_
    refine L.yes rfl ?_
    refine L.step (Ev.pure rfl) rfl ?_
    refine L.yes rfl ?_
    refine L.step (Ev.pure rfl) rfl ?_
    refine L.step (Ev.pure rfl) rfl ?_
    refine L.step (Ev.pure rfl) rfl ?_
    refine L.bool 18 rfl (fun hg18 => ?_) (fun hg18 => ?_)
    · skip
      replace hg18 := of_decide_eq_true hg18
      refine L.yes rfl ?_
      refine L.step (Ev.pure rfl) rfl ?_
      refine L.yes rfl ?_
      refine L.step (Ev.pure rfl) rfl ?_
      refine L.yes rfl ?_
      refine L.step (Ev.pure rfl) rfl ?_
      refine L.yes rfl ?_
      refine L.step (Ev.pure rfl) rfl ?_
      refine L.yes rfl ?_
      refine L.call (js := [1, 0]) (js' := []) (readR_c RB rec rc (b.length : Int) hrc (by omega) A6 A9 b c9 h9 rfl) rfl rfl rfl (by decide) ⟨(Has.r 1 rfl), trivial⟩ rfl ?_
      rintro _ _ _ ⟨rfl, rfl, out, hol, hap, rfl⟩
      refine L.step (Ev.pure rfl) rfl ?_
      refine L.step (Ev.pure rfl) rfl ?_
      refine L.nil ?_
      refine QE.seq ?_
      refine C.seq ?_
      refine C.seq ?_
      refine C.region ?_
      refine L.step (Ev.pure rfl) rfl ?_
      refine L.step (Ev.pure rfl) rfl ?_
      refine L.nil ?_
      refine QE.seq ?_
      refine C.condB 26 rfl (fun hc26 => ?_) (fun hc26 => ?_)
      · skip
        have hN : parseS rec (b.length : Int) = none := by simpa using hc26
        refine C.seq ?_
        refine C.region ?_
        refine L.step (Ev.pure rfl) rfl ?_
        refine L.step (Ev.pure rfl) rfl ?_
        refine L.nil ?_
        refine QE.seq ?_
        refine C.ret ?_
        refine QE.tR ?_
        refine QE.nil_own 5 1 ?_
        refine QE.ret (js := []) (hs := [2]) (vs := [_, _]) rfl ⟨rfl, rfl, trivial⟩ (by decide) ?_
        have hB : ResBad b rec := .inl hN
        refine ⟨none, 0, by rw [resE_bad hB, resS_bad hB]; rfl, rfl, by rw [resS_bad hB]; rfl⟩
      · skip
        obtain ⟨ps, hps⟩ : ∃ ps, parseS rec (b.length : Int) = some ps := Option.isSome_iff_exists.1 (by simpa using hc26)
        obtain rfl := hap ps hps
        refine C.skip ?_
        refine QE.seq ?_
        refine C.seq ?_
        refine C.region ?_
        refine L.step (Ev.load rfl rfl rfl (Src.o 0 rfl) rfl) rfl ?_
        refine L.step (Ev.pure rfl) rfl ?_
        refine L.step (Ev.pure rfl) rfl ?_
        refine L.nil ?_
        refine QE.seq ?_
        refine C.ret ?_
        refine QE.ret (js := []) (hs := [1]) (vs := [_, _]) rfl ⟨rfl, rfl, trivial⟩ (by decide) ?_
        refine ⟨A9, c9, ?_, rfl, ?_⟩
        · rw [resE_ok hps (by omega) (by omega), resS_ok hps (by omega) (by omega), hol]; rfl
        · rw [resS_ok hps (by omega) (by omega), hol]; rfl
    · skip
      replace hg18 := of_decide_eq_false hg18
      refine L.no rfl rfl rfl ?_
      refine L.no rfl rfl rfl ?_
      refine L.no rfl rfl rfl ?_
      refine L.no rfl rfl rfl ?_
      refine L.no rfl rfl rfl ?_
      refine L.step (Ev.pure rfl) rfl ?_
      refine L.step (Ev.pure rfl) rfl ?_
      refine L.nil ?_
      refine QE.seq ?_
      refine C.seq ?_
      refine C.seq ?_
      refine C.region ?_
      refine L.step (Ev.pure rfl) rfl ?_
      refine L.step (Ev.pure rfl) rfl ?_
      refine L.nil ?_
      refine QE.seq ?_
      refine C.cond rfl (fun _ => ?_) (fun h => by cases h)
      refine C.seq ?_
      refine C.region ?_
      refine L.step (Ev.pure rfl) rfl ?_
      refine L.step (Ev.pure rfl) rfl ?_
      refine L.nil ?_
      refine QE.seq ?_
      refine C.ret ?_
      refine QE.tR ?_
      refine QE.nil_own 5 1 ?_
      refine QE.ret (js := []) (hs := [2]) (vs := [_, _]) rfl ⟨rfl, rfl, trivial⟩ (by decide) ?_
      have hB : ResBad b rec := .inr (.inr (by omega))
      refine ⟨none, 0, by rw [resE_bad hB, resS_bad hB]; rfl, rfl, by rw [resS_bad hB]; rfl⟩
  · skip
    replace hg13 := of_decide_eq_false hg13
    refine L.no rfl rfl rfl ?_
    refine L.no rfl rfl rfl ?_
    refine L.no rfl rfl rfl ?_
    refine L.step (Ev.pure rfl) rfl ?_
    refine L.step (Ev.pure rfl) rfl ?_
    refine L.no rfl rfl rfl ?_
    refine L.no rfl rfl rfl ?_
    refine L.no rfl rfl rfl ?_
    refine L.no rfl rfl rfl ?_
    refine L.no rfl rfl rfl ?_
    refine L.step (Ev.pure rfl) rfl ?_
    refine L.step (Ev.pure rfl) rfl ?_
    refine L.nil ?_
    refine QE.seq ?_
    refine C.seq ?_
    refine C.seq ?_
    refine C.region ?_
    refine L.step (Ev.pure rfl) rfl ?_
    refine L.step (Ev.pure rfl) rfl ?_
    refine L.nil ?_
    refine QE.seq ?_
    refine C.cond rfl (fun _ => ?_) (fun h => by cases h)
    refine C.seq ?_
    refine C.region ?_
    refine L.step (Ev.pure rfl) rfl ?_
    refine L.step (Ev.pure rfl) rfl ?_
    refine L.nil ?_
    refine QE.seq ?_
    refine C.ret ?_
    refine QE.tR ?_
    refine QE.nil_own 5 1 ?_
    refine QE.ret (js := []) (hs := [2]) (vs := [_, _]) rfl ⟨rfl, rfl, trivial⟩ (by decide) ?_
    have hB : ResBad b rec := .inr (.inl (by omega))
    refine ⟨none, 0, by rw [resE_bad hB, resS_bad hB]; rfl, rfl, by rw [resS_bad hB]; rfl⟩

end Go.Proofs.Ythfjkdgopkmgoaa
