/-
  The contracts of the reference: Code, Plain, Number, Value, Right.
-/
import Derived.Test.YtmbjknampholjaaSWJoD
namespace Go.Proofs.Ytmbjknampholjaa
open Go.Sl

theorem plainR_c (A : Option Addr) (c : Nat) (l : List UInt8) (hl : l.length ≤ 1000) :
    Ctr X 54 [.slice A l.length c] [Rd A (U8 l)] [] (fun v R' H' => ∃ (O : Option Addr) (oc : Nat), v = .tuple #[.slice O (plainF l).1.length oc, .bool (plainF l).2] ∧ R' = [] ∧ H' = [Own 5 1 O (plainF l).1.length oc (U8 (plainF l).1)]) := by
  refine Ctr.of (X := X) (fn := Try.f54) Try.func54 rfl (by kernel_rfl) rfl ?_
  intro β
  refine C.seq ?_
  refine C.region ?_
  refine L.step (Ev.pure rfl) rfl ?_
  refine L.step (Ev.pure rfl) rfl ?_
  refine L.nil ?_
  refine QE.seq ?_
  refine C.seq ?_
  refine C.region ?_
  refine L.lit rfl rfl rfl rfl rfl (by rfl) (by rfl) (by rfl) rfl rfl (fun A6 => ?_)
  refine L.step (Ev.pure rfl) rfl ?_
  refine L.nil ?_
  refine QE.seq ?_
  refine C.seq ?_
  refine C.seq ?_
  refine C.region ?_
  refine L.step (Ev.pure rfl) rfl ?_
  refine L.nil ?_
  refine QE.seq ?_
  refine C.block ?_
  refine C.loop (fun q : Nat × Option Addr × Nat => [(0, .slice A l.length c), (4, .slice q.2.1 q.1 q.2.2), (5, .int .i64 (2 * (q.1 : Int)))]) (fun q : Nat × Option Addr × Nat => [Rd A (U8 l)]) (fun q : Nat × Option Addr × Nat => [Own 5 1 q.2.1 q.1 q.2.2 (U8 (evenB l q.1))]) (fun q : Nat × Option Addr × Nat => 2 * q.1 ≤ l.length ∧ codeTo l q.1 = true) (fun q : Nat × Option Addr × Nat => l.length - 2 * q.1) (0, A6, 0) ⟨Nat.zero_le _, rfl⟩ (by exact Le.mk' (rs := [0]) (hs := [0]) ⟨rfl, rfl, rfl, trivial⟩ ⟨rfl, trivial⟩ ⟨rfl, trivial⟩ (by decide)) ?_
  rintro ⟨k, O, oc⟩ ⟨hk, hkk⟩
  dsimp only at hk hkk ⊢
  refine C.seq ?_
  refine C.seq ?_
  refine C.region ?_
  refine L.step (Ev.pure rfl) rfl ?_
  refine L.step (Ev.add rfl rfl (by omega) (by omega)) rfl ?_
  refine L.step (Ev.pure rfl) rfl ?_
  refine L.step (Ev.pure rfl) rfl ?_
  refine L.step (Ev.pure rfl) rfl ?_
  refine L.nil ?_
  refine QE.seq ?_
  refine C.condB 11 rfl (fun hc11 => ?_) (fun hc11 => ?_)
  · skip
    replace hc11 := of_decide_eq_true hc11
    refine C.skip ?_
    refine QE.seq ?_
    refine C.seq ?_
    refine C.block ?_
    refine C.seq ?_
    refine C.seq ?_
    refine C.regionQ (by kernel_rfl) ?_
    refine LQ.step (Ev.pure rfl) rfl ?_
    refine LQ.step (Ev.pure rfl) rfl ?_
    refine LQ.step (Ev.idx1 (k := 2 * k) rfl rfl rfl rfl rfl rfl (by omega) (by omega) (Src.r 0 rfl) (by rw [U8_len]; omega)) rfl ?_
    refine LQ.step (Ev.load rfl rfl rfl (Src.r 0 rfl) (U8_get (by omega))) rfl ?_
    refine LQ.step (Ev.pure rfl) rfl ?_
    refine LQ.step (Ev.pure rfl) rfl ?_
    refine LQ.step (Ev.add rfl rfl (by omega) (by omega)) rfl ?_
    refine LQ.step (Ev.idx1 (k := 2 * k + 1) rfl rfl rfl rfl rfl rfl (by omega) (by omega) (Src.r 0 rfl) (by rw [U8_len]; omega)) rfl ?_
    refine LQ.step (Ev.load rfl rfl rfl (Src.r 0 rfl) (U8_get (by omega))) rfl ?_
    refine LQ.step (Ev.sub255 rfl) rfl ?_
    refine LQ.step (Ev.pure rfl) rfl ?_
    refine LQ.nil ?_
    refine QE.seq ?_
    refine C.condB 24 rfl (fun hc24 => ?_) (fun hc24 => ?_)
    · skip
      replace hc24 := b_ne hc24
      have hno := plainF_no (l := l) (k := k) (by omega) (by unfold pairOk; rw [beq_eq_false_iff_ne]; exact fun h => hc24 (u8_eq.2 h))
      refine C.seq ?_
      refine C.region ?_
      refine L.step (Ev.pure rfl) rfl ?_
      refine L.step (Ev.pure rfl) rfl ?_
      refine L.nil ?_
      refine QE.seq ?_
      refine C.ret ?_
      refine QE.tR ?_
      refine QE.bR ?_
      refine QE.tR ?_
      refine QE.tR ?_
      refine QE.bR ?_
      refine QE.tR ?_
      refine QE.nil_own 5 1 ?_
      refine QE.ret (js := []) (hs := [1]) (vs := [_, _]) rfl ⟨rfl, rfl, trivial⟩ (by decide) ?_
      exact ⟨none, 0, by rw [hno]; rfl, rfl, by rw [hno]; rfl⟩
    · skip
      replace hc24 := b_eq hc24
      have hk1 : codeTo l (k + 1) = true := by rw [codeTo_succ, hkk, Bool.true_and]; unfold pairOk; rw [beq_iff_eq]; exact u8_eq.1 hc24
      refine C.skip ?_
      refine QE.seq ?_
      refine C.region ?_
      refine L.step (Ev.pure rfl) rfl ?_
      refine L.step (Ev.pure rfl) rfl ?_
      refine L.step (Ev.pure rfl) rfl ?_
      refine L.step (Ev.idx1 (k := 2 * k) rfl rfl rfl rfl rfl rfl (by omega) (by omega) (Src.r 0 rfl) (by rw [U8_len]; omega)) rfl ?_
      refine L.step (Ev.load rfl rfl rfl (Src.r 0 rfl) (U8_get (by omega))) rfl ?_
      refine L.lit rfl rfl rfl rfl rfl (by rfl) (by rfl) (by rfl) rfl rfl (fun A30 => ?_)
      refine L.append (j := 0) rfl rfl rfl rfl (by decide) rfl rfl rfl rfl (Src.o 1 rfl) rfl (by intro v hv; simp at hv; subst hv; rfl) (by omega) (by show _ * 1 ≤ _; omega) rfl (fun A31 cc31 => ?_)
      refine L.step (Ev.pure rfl) rfl ?_
      refine L.nil ?_
      refine QE.blkN ?_
      refine QE.seq ?_
      refine C.region ?_
      refine L.step (Ev.pure rfl) rfl ?_
      refine L.step (Ev.add rfl rfl (by omega) (by omega)) rfl ?_
      refine L.step (Ev.pure rfl) rfl ?_
      refine L.nil ?_
      refine QE.round (i := (k, O, oc)) ((k + 1, A31, cc31)) (by exact ⟨by dsimp only; omega, hk1⟩) (by dsimp only; omega) (by exact Le.mk' (rs := [0]) (hs := [0]) ⟨rfl, rfl, (by exact congrArg some (congrArg (Value.int .i64) (by dsimp only; omega))), trivial⟩ ⟨rfl, trivial⟩ ⟨(by dsimp only; rw [evenB_succ, ← U8_app]; rfl), trivial⟩ (by decide))
  · skip
    replace hc11 := of_decide_eq_false hc11
    refine C.exit ?_
    refine QE.tX ?_
    refine QE.tX ?_
    refine QE.blk ?_
    refine QE.seq ?_
    refine C.seq ?_
    refine C.region ?_
    refine L.step (Ev.pure rfl) rfl ?_
    refine L.step (Ev.pure rfl) rfl ?_
    refine L.step (Ev.pure rfl) rfl ?_
    refine L.nil ?_
    refine QE.seq ?_
    refine C.ret ?_
    have hyes := plainF_yes (l := l) (k := k) (by omega) hkk
    refine QE.ret (js := []) (hs := [0]) (vs := [_, _]) rfl ⟨rfl, rfl, trivial⟩ (by decide) ?_
    exact ⟨O, oc, by rw [hyes, evenB_len]; rfl, rfl, by rw [hyes, evenB_len]; rfl⟩

theorem valueR_c (A : Option Addr) (c : Nat) (l : List UInt8) (hl : l.length ≤ 4) :
    Ctr X 55 [.slice A l.length c] [Rd A (U8 l)] [] (fun v R' H' => v = .int .i64 (valB l : Int) ∧ R' = [] ∧ H' = []) := by
  refine Ctr.of (X := X) (fn := Try.f55) Try.func55 rfl (by kernel_rfl) rfl ?_
  intro β
  refine C.seq ?_
  refine C.region ?_
  refine L.step (Ev.pure rfl) rfl ?_
  refine L.nil ?_
  refine QE.seq ?_
  refine C.seq ?_
  refine C.region ?_
  refine L.step (Ev.pure rfl) rfl ?_
  refine L.nil ?_
  refine QE.seq ?_
  refine C.seq ?_
  refine C.seq ?_
  refine C.region ?_
  refine L.step (Ev.pure rfl) rfl ?_
  refine L.nil ?_
  refine QE.seq ?_
  refine C.block ?_
  refine C.loop (fun k : Nat => [(0, .slice A l.length c), (3, .int .i64 (valB (l.take k) : Int)), (4, .int .i64 (k : Int))]) (fun k : Nat => [Rd A (U8 l)]) (fun k : Nat => []) (fun k : Nat => k ≤ l.length) (fun k : Nat => l.length - k) 0 (Nat.zero_le _) (by exact Le.mk' (rs := [0]) (hs := []) ⟨rfl, rfl, rfl, trivial⟩ ⟨rfl, trivial⟩ trivial (by decide)) ?_
  intro k hk
  refine C.seq ?_
  refine C.seq ?_
  refine C.region ?_
  refine L.step (Ev.pure rfl) rfl ?_
  refine L.step (Ev.pure rfl) rfl ?_
  refine L.step (Ev.pure rfl) rfl ?_
  refine L.step (Ev.pure rfl) rfl ?_
  refine L.nil ?_
  refine QE.seq ?_
  refine C.condB 8 rfl (fun hc8 => ?_) (fun hc8 => ?_)
  · skip
    replace hc8 := of_decide_eq_true hc8
    have hv := valB_lt (l.take k)
    have hp : (256 ^ (l.take k).length : Nat) ≤ 16777216 := Nat.le_trans (Nat.pow_le_pow_right (by decide) (show (l.take k).length ≤ 3 by rw [List.length_take]; omega)) (by decide)
    have hb := UInt8.toNat_lt (l.getD k 0)
    refine C.skip ?_
    refine QE.seq ?_
    refine C.seq ?_
    refine C.block ?_
    refine C.region ?_
    refine L.step (Ev.pure rfl) rfl ?_
    refine L.step (Ev.mul rfl rfl (by omega) (by omega)) rfl ?_
    refine L.step (Ev.pure rfl) rfl ?_
    refine L.step (Ev.pure rfl) rfl ?_
    refine L.step (Ev.idx1 (k := k) rfl rfl rfl rfl rfl rfl rfl (by omega) (Src.r 0 rfl) (by rw [U8_len]; omega)) rfl ?_
    refine L.step (Ev.load rfl rfl rfl (Src.r 0 rfl) (U8_get (by omega))) rfl ?_
    first | refine L.step (Ev.byteInt rfl rfl rfl rfl) rfl ?_ | refine L.step (Ev.toInt rfl rfl rfl rfl (by omega) (by omega)) rfl ?_
    refine L.step (Ev.add rfl rfl (by omega) (by omega)) rfl ?_
    refine L.step (Ev.pure rfl) rfl ?_
    refine L.nil ?_
    refine QE.blkN ?_
    refine QE.seq ?_
    refine C.region ?_
    refine L.step (Ev.pure rfl) rfl ?_
    refine L.step (Ev.add rfl rfl (by omega) (by omega)) rfl ?_
    refine L.step (Ev.pure rfl) rfl ?_
    refine L.nil ?_
    refine QE.round (k + 1) (by omega) (by omega) (by exact Le.mk' (rs := [0]) (hs := []) ⟨rfl, (by rw [take_snoc' _ 0 k (by omega), valB_snoc]; exact congrArg some (congrArg (Value.int .i64) (by omega))), rfl, trivial⟩ ⟨rfl, trivial⟩ trivial (by decide))
  · skip
    replace hc8 := of_decide_eq_false hc8
    refine C.exit ?_
    refine QE.tX ?_
    refine QE.tX ?_
    refine QE.blk ?_
    refine QE.seq ?_
    refine C.seq ?_
    refine C.region ?_
    refine L.step (Ev.pure rfl) rfl ?_
    refine L.step (Ev.pure rfl) rfl ?_
    refine L.nil ?_
    refine QE.seq ?_
    refine C.ret ?_
    obtain rfl : k = l.length := by omega
    rw [List.take_length]
    refine QE.ret (js := []) (hs := []) (vs := [_]) rfl ⟨rfl, trivial⟩ (by decide) ?_
    exact ⟨rfl, rfl, rfl⟩

end Go.Proofs.Ytmbjknampholjaa
