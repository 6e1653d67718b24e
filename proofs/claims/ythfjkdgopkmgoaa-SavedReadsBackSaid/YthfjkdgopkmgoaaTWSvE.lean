/-
  The ranges of a record by its places, and restoring, of the reference and of the program.
-/
import Derived.Test.YthfjkdgopkmgoaaTWSvD
import Derived.Test.YthfjkdgopkmgoaaTWFlG
namespace Go.Proofs.Ythfjkdgopkmgoaa
open Go.Sl

theorem eq8_c (A B : Option Addr) (c d : Nat) (xs ys : List UInt8) (hx : xs.length ≤ 9223372036854775806) :
    Ctr X 76 [.slice A xs.length c, .slice B ys.length d] [Rd A (U8 xs), Rd B (U8 ys)] [] (fun v R' H' => v = .bool (xs == ys) ∧ R' = [] ∧ H' = []) := by
  refine Ctr.of (X := X) (fn := Try.f76) Try.func76 rfl (by kernel_rfl) rfl ?_
  intro β
  refine C.seq ?_
  refine C.region ?_
  refine L.step (Ev.pure rfl) rfl ?_
  refine L.nil ?_
  refine QE.seq ?_
  refine C.seq ?_
  refine C.seq ?_
  refine C.region ?_
  refine L.step (Ev.pure rfl) rfl ?_
  refine L.step (Ev.pure rfl) rfl ?_
  refine L.step (Ev.pure rfl) rfl ?_
  refine L.step (Ev.pure rfl) rfl ?_
  refine L.step (Ev.pure rfl) rfl ?_
  refine L.nil ?_
  refine QE.seq ?_
  refine C.condB 10 rfl (fun hc10 => ?_) (fun hc10 => ?_)
  · skip
    replace hc10 := b_ne hc10
    refine C.seq ?_
    refine C.region ?_
    refine L.step (Ev.pure rfl) rfl ?_
    refine L.nil ?_
    refine QE.seq ?_
    refine C.ret ?_
    refine QE.tR ?_
    refine QE.ret (js := []) (hs := []) (vs := [_]) rfl ⟨rfl, trivial⟩ (by decide) ?_
    refine ⟨congrArg Value.bool ?_, rfl, rfl⟩
    rw [eq_comm, beq_eq_false_iff_ne]
    intro h
    subst h
    exact hc10 rfl
  · skip
    replace hc10 := b_eq hc10
    refine C.skip ?_
    refine QE.seq ?_
    refine C.seq ?_
    refine C.seq ?_
    refine C.region ?_
    refine L.step (Ev.pure rfl) rfl ?_
    refine L.step (Ev.pure rfl) rfl ?_
    refine L.step (Ev.pure rfl) rfl ?_
    refine L.nil ?_
    refine QE.seq ?_
    refine C.block ?_
    refine C.loop (fun k : Nat => [(0, .slice A xs.length c), (1, .slice B ys.length d), (12, .int .i64 (xs.length : Int)), (13, .int .i64 (k : Int))]) (fun k : Nat => [Rd A (U8 xs), Rd B (U8 ys)]) (fun k : Nat => []) (fun k : Nat => k ≤ xs.length ∧ xs.take k = ys.take k) (fun k : Nat => xs.length - k) 0 ⟨by omega, by simp⟩ (by exact Le.mk' (rs := [0, 1]) (hs := []) ⟨rfl, rfl, rfl, rfl, trivial⟩ ⟨rfl, rfl, trivial⟩ trivial (by decide)) ?_
    rintro k ⟨hk, htk⟩
    refine C.seq ?_
    refine C.region ?_
    refine L.step (Ev.pure rfl) rfl ?_
    refine L.nil ?_
    refine QE.seq ?_
    refine C.seq ?_
    refine C.condB 14 rfl (fun hc14 => ?_) (fun hc14 => ?_)
    · skip
      replace hc14 := of_decide_eq_true hc14
      refine C.skip ?_
      refine QE.seq ?_
      refine C.seq ?_
      refine C.block ?_
      refine C.seq ?_
      refine C.region ?_
      refine L.step (Ev.pure rfl) rfl ?_
      refine L.step (Ev.pure rfl) rfl ?_
      refine L.nil ?_
      refine QE.seq ?_
      refine C.seq ?_
      refine C.regionQ (by kernel_rfl) ?_
      refine LQ.step (Ev.pure rfl) rfl ?_
      refine LQ.step (Ev.pure rfl) rfl ?_
      refine LQ.step (Ev.idx1 (k := k) rfl rfl rfl rfl rfl rfl rfl (by omega) (Src.r 0 rfl) (by rw [U8_len]; omega)) rfl ?_
      refine LQ.step (Ev.load rfl rfl rfl (Src.r 0 rfl) (U8_get (by omega))) rfl ?_
      refine LQ.step (Ev.pure rfl) rfl ?_
      refine LQ.step (Ev.pure rfl) rfl ?_
      refine LQ.step (Ev.idx1 (k := k) rfl rfl rfl rfl rfl rfl rfl (by omega) (Src.r 1 rfl) (by rw [U8_len]; omega)) rfl ?_
      refine LQ.step (Ev.load rfl rfl rfl (Src.r 1 rfl) (U8_get (by omega))) rfl ?_
      refine LQ.step (Ev.pure rfl) rfl ?_
      refine LQ.nil ?_
      refine QE.seq ?_
      refine C.condB 24 rfl (fun hc24 => ?_) (fun hc24 => ?_)
      · skip
        replace hc24 := b_ne hc24
        refine C.seq ?_
        refine C.region ?_
        refine L.step (Ev.pure rfl) rfl ?_
        refine L.nil ?_
        refine QE.seq ?_
        refine C.ret ?_
        refine QE.bR ?_
        refine QE.tR ?_
        refine QE.tR ?_
        refine QE.bR ?_
        refine QE.tR ?_
        refine QE.ret (js := []) (hs := []) (vs := [_]) rfl ⟨rfl, trivial⟩ (by decide) ?_
        refine ⟨congrArg Value.bool ?_, rfl, rfl⟩
        rw [eq_comm, beq_eq_false_iff_ne]
        intro h
        subst h
        exact hc24 rfl
      · skip
        replace hc24 := b_eq hc24
        refine C.skip ?_
        refine QE.blkN ?_
        refine QE.seq ?_
        refine C.region ?_
        refine L.step (Ev.add rfl rfl (by omega) (by omega)) rfl ?_
        refine L.step (Ev.pure rfl) rfl ?_
        refine L.nil ?_
        refine QE.round (k + 1) ?_ (by omega) (by exact Le.mk' (rs := [0, 1]) (hs := []) ⟨rfl, rfl, rfl, rfl, trivial⟩ ⟨rfl, rfl, trivial⟩ trivial (by decide))
        · refine ⟨by omega, ?_⟩
          rw [take_snoc' xs 0 k (by omega), take_snoc' ys 0 k (by omega), htk, u8_eq.1 hc24]
    · skip
      replace hc14 := of_decide_eq_false hc14
      refine C.exit ?_
      refine QE.tX ?_
      refine QE.tX ?_
      refine QE.blk ?_
      refine QE.seq ?_
      refine C.seq ?_
      refine C.region ?_
      refine L.step (Ev.pure rfl) rfl ?_
      refine L.nil ?_
      refine QE.seq ?_
      refine C.ret ?_
      refine QE.ret (js := []) (hs := []) (vs := [_]) rfl ⟨rfl, trivial⟩ (by decide) ?_
      refine ⟨congrArg Value.bool ?_, rfl, rfl⟩
      obtain rfl : k = xs.length := by omega
      rw [List.take_of_length_le (Nat.le_refl _), List.take_of_length_le (by omega)] at htk
      rw [eq_comm, beq_iff_eq]
      exact htk

set_option maxHeartbeats 1000000 in
theorem restore_c (SA RB : Option Addr) (b rec : List UInt8) (ca rc : Nat) (hbl : b.length ≤ 900000) (hrl : rec.length ≤ 900000) (hrc : rec.length ≤ rc) :
    Ctr X 23 [.slice SA b.length ca, .slice RB rec.length rc] [Rd SA (U8 b), Rd RB (U8 rec)] [] (fun v R' H' => ∃ (A : Option Addr) (c : Nat), v = .tuple #[.slice A (resS b rec).length c, .int .i64 (resE b rec)] ∧ R' = [] ∧ H' = [Own 5 1 A (resS b rec).length c (U8 (resS b rec))]) := by
  refine Ctr.of (X := X) (fn := Try.f23) Try.func23 rfl (by kernel_rfl) rfl ?_
  intro β
  refine C.seq ?_
  refine C.region ?_
  refine L.step (Ev.pure rfl) rfl ?_
  refine L.step (Ev.pure rfl) rfl ?_
  refine L.nil ?_
  refine QE.seq ?_
  refine C.seq ?_
  refine C.region ?_
  refine L.step (Ev.pure rfl) rfl ?_
  refine L.call (js := []) (js' := []) (clone8_c SA b.length ca (U8 b) (U8_one _) (U8_len _) (by omega)) rfl rfl rfl (by decide) ⟨(Has.r 0 rfl), trivial⟩ rfl ?_
  rintro _ _ _ ⟨A9, c9, rfl, rfl, rfl⟩
  refine L.alloc rfl rfl rfl (fun A6 => ?_)
  refine L.store (j := 1) rfl rfl rfl rfl rfl rfl rfl rfl ?_
  refine L.nil ?_
  refine QE.seq ?_
  refine C.seq ?_
  refine C.cap 0 rfl (fun h9 => ?_)
  refine C.region ?_
  refine L.step (Ev.pure rfl) rfl ?_
  refine L.step (Ev.pure rfl) rfl ?_
  refine L.step (Ev.pure rfl) rfl ?_
  refine L.step (Ev.pure rfl) rfl ?_
  refine L.bool 13 rfl (fun hg13 => ?_) (fun hg13 => ?_)
  · skip
    replace hg13 := of_decide_eq_true hg13
    refine L.yes rfl ?_
    refine L.step (Ev.pure rfl) rfl ?_
    refine L.yes rfl ?_
    refine L.step (Ev.pure rfl) rfl ?_
    refine L.yes rfl ?_
    refine L.step (Ev.pure rfl) rfl ?_
    refine L.step (Ev.pure rfl) rfl ?_
    refine L.step (Ev.pure rfl) rfl ?_
    refine L.bool 18 rfl (fun hg18 => ?_) (fun hg18 => ?_)
    · skip
      replace hg18 := of_decide_eq_true hg18
      refine L.yes rfl ?_
      refine L.step (Ev.pure rfl) rfl ?_
      refine L.yes rfl ?_
      refine L.step (Ev.pure rfl) rfl ?_
      refine L.yes rfl ?_
      refine L.step (Ev.pure rfl) rfl ?_
      refine L.yes rfl ?_
      refine L.step (Ev.pure rfl) rfl ?_
      refine L.yes rfl ?_
      refine L.call (js := [1, 0]) (js' := []) (readR_c RB rec rc (b.length : Int) hrc (by omega) A6 A9 b c9 h9 rfl) rfl rfl rfl (by decide) ⟨(Has.r 1 rfl), trivial⟩ rfl ?_
      rintro _ _ _ ⟨rfl, rfl, out, hol, hap, rfl⟩
      refine L.step (Ev.pure rfl) rfl ?_
      refine L.step (Ev.pure rfl) rfl ?_
      refine L.nil ?_
      refine QE.seq ?_
      refine C.seq ?_
      refine C.seq ?_
      refine C.region ?_
      refine L.step (Ev.pure rfl) rfl ?_
      refine L.step (Ev.pure rfl) rfl ?_
      refine L.nil ?_
      refine QE.seq ?_
      refine C.condB 26 rfl (fun hc26 => ?_) (fun hc26 => ?_)
      · skip
        have hN : parseS rec (b.length : Int) = none := by simpa using hc26
        refine C.seq ?_
        refine C.region ?_
        refine L.step (Ev.pure rfl) rfl ?_
        refine L.step (Ev.pure rfl) rfl ?_
        refine L.nil ?_
        refine QE.seq ?_
        refine C.ret ?_
        refine QE.tR ?_
        refine QE.nil_own 5 1 ?_
        refine QE.ret (js := []) (hs := [2]) (vs := [_, _]) rfl ⟨rfl, rfl, trivial⟩ (by decide) ?_
        have hB : ResBad b rec := .inl hN
        refine ⟨none, 0, by rw [resE_bad hB, resS_bad hB]; rfl, rfl, by rw [resS_bad hB]; rfl⟩
      · skip
        obtain ⟨ps, hps⟩ : ∃ ps, parseS rec (b.length : Int) = some ps := Option.isSome_iff_exists.1 (by simpa using hc26)
        obtain rfl := hap ps hps
        refine C.skip ?_
        refine QE.seq ?_
        refine C.seq ?_
        refine C.region ?_
        refine L.step (Ev.load rfl rfl rfl (Src.o 0 rfl) rfl) rfl ?_
        refine L.step (Ev.pure rfl) rfl ?_
        refine L.step (Ev.pure rfl) rfl ?_
        refine L.nil ?_
        refine QE.seq ?_
        refine C.ret ?_
        refine QE.ret (js := []) (hs := [1]) (vs := [_, _]) rfl ⟨rfl, rfl, trivial⟩ (by decide) ?_
        refine ⟨A9, c9, ?_, rfl, ?_⟩
        · rw [resE_ok hps (by omega) (by omega), resS_ok hps (by omega) (by omega), hol]; rfl
        · rw [resS_ok hps (by omega) (by omega), hol]; rfl
    · skip
      replace hg18 := of_decide_eq_false hg18
      refine L.no rfl rfl rfl ?_
      refine L.no rfl rfl rfl ?_
      refine L.no rfl rfl rfl ?_
      refine L.no rfl rfl rfl ?_
      refine L.no rfl rfl rfl ?_
      refine L.step (Ev.pure rfl) rfl ?_
      refine L.step (Ev.pure rfl) rfl ?_
      refine L.nil ?_
      refine QE.seq ?_
      refine C.seq ?_
      refine C.seq ?_
      refine C.region ?_
      refine L.step (Ev.pure rfl) rfl ?_
      refine L.step (Ev.pure rfl) rfl ?_
      refine L.nil ?_
      refine QE.seq ?_
      refine C.cond rfl (fun _ => ?_) (fun h => by cases h)
      refine C.seq ?_
      refine C.region ?_
      refine L.step (Ev.pure rfl) rfl ?_
      refine L.step (Ev.pure rfl) rfl ?_
      refine L.nil ?_
      refine QE.seq ?_
      refine C.ret ?_
      refine QE.tR ?_
      refine QE.nil_own 5 1 ?_
      refine QE.ret (js := []) (hs := [2]) (vs := [_, _]) rfl ⟨rfl, rfl, trivial⟩ (by decide) ?_
      have hB : ResBad b rec := .inr (.inr (by omega))
      refine ⟨none, 0, by rw [resE_bad hB, resS_bad hB]; rfl, rfl, by rw [resS_bad hB]; rfl⟩
  · skip
    replace hg13 := of_decide_eq_false hg13
    refine L.no rfl rfl rfl ?_
    refine L.no rfl rfl rfl ?_
    refine L.no rfl rfl rfl ?_
    refine L.step (Ev.pure rfl) rfl ?_
    refine L.step (Ev.pure rfl) rfl ?_
    refine L.no rfl rfl rfl ?_
    refine L.no rfl rfl rfl ?_
    refine L.no rfl rfl rfl ?_
    refine L.no rfl rfl rfl ?_
    refine L.no rfl rfl rfl ?_
    refine L.step (Ev.pure rfl) rfl ?_
    refine L.step (Ev.pure rfl) rfl ?_
    refine L.nil ?_
    refine QE.seq ?_
    refine C.seq ?_
    refine C.seq ?_
    refine C.region ?_
    refine L.step (Ev.pure rfl) rfl ?_
    refine L.step (Ev.pure rfl) rfl ?_
    refine L.nil ?_
    refine QE.seq ?_
    refine C.cond rfl (fun _ => ?_) (fun h => by cases h)
    refine C.seq ?_
    refine C.region ?_
    refine L.step (Ev.pure rfl) rfl ?_
    refine L.step (Ev.pure rfl) rfl ?_
    refine L.nil ?_
    refine QE.seq ?_
    refine C.ret ?_
    refine QE.tR ?_
    refine QE.nil_own 5 1 ?_
    refine QE.ret (js := []) (hs := [2]) (vs := [_, _]) rfl ⟨rfl, rfl, trivial⟩ (by decide) ?_
    have hB : ResBad b rec := .inr (.inl (by omega))
    refine ⟨none, 0, by rw [resE_bad hB, resS_bad hB]; rfl, rfl, by rw [resS_bad hB]; rfl⟩

end Go.Proofs.Ythfjkdgopkmgoaa
