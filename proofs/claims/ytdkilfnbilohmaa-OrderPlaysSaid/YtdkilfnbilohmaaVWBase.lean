/-
  Two lists of bytes are held against each other: the contract of the reference function Same.
-/
import Derived.Test.YtdkilfnbilohmaaVSlT
namespace Go.Proofs.Ytdkilfnbilohmaa
open Go.Sl

theorem same_c (A B : Option Addr) (c d : Nat) (xs ys : List UInt8) (hxs : xs.length ≤ 9223372036854775807) (hys : ys.length ≤ 9223372036854775807) :
   Ctr X 12 [.slice A xs.length c, .slice B ys.length d] [Rd A (U8 xs), Rd B (U8 ys)] [] (fun v R' H' => v = .bool (xs == ys) ∧ R' = [] ∧ H' = []) := by
 refine Ctr.of (X := X) (fn := Try.f12) Try.func12 rfl (by kernel_rfl) rfl ?_
 intro β
 refine C.seq (C.region ?_); refine Lpu rfl rfl ?_; refine L.nil (QE.seq (C.seq (C.seq (C.region ?_)))); refine Lpu rfl rfl ?_; refine Lpu rfl rfl ?_; refine Lpu rfl rfl ?_; refine Lpu rfl rfl ?_; refine Lpu rfl rfl ?_; refine L.nil (QE.seq ?_)
 refine C.condB 10 rfl (fun hc10 => ?_) (fun hc10 => ?_)
 ·
  replace hc10 := b_ne hc10
  refine C.seq (C.region ?_); refine Lpu rfl rfl ?_; refine L.nil (QE.seq (C.ret (QE.tR ?_))); refine QE.ret (js := []) (hs := []) (vs := [_]) rfl ⟨rfl, trivial⟩ (by decide) ?_
  refine ⟨?_, rfl, rfl⟩
  simp [tup]
  intro h
  subst h
  simp at hc10
 ·
  replace hc10 := b_eq hc10
  refine C.skip (QE.seq (C.seq (C.seq (C.region ?_)))); refine Lpu rfl rfl ?_; refine L.nil (QE.seq (C.block ?_)); refine C.loop (fun k : Nat => [(0, .slice A xs.length c), (1, .slice B ys.length d), (5, .int .i64 (k : Int))]) (fun k : Nat => [Rd A (U8 xs), Rd B (U8 ys)]) (fun k : Nat => []) (fun k : Nat => k ≤ xs.length ∧ xs.take k = ys.take k) (fun k : Nat => xs.length - k) 0 ⟨by omega, by simp⟩ (by exact Le.mk' (rs := [0, 1]) (hs := []) ⟨rfl, rfl, rfl, trivial⟩ ⟨rfl, rfl, trivial⟩ trivial (by decide)) ?_
  rintro k ⟨hk, htk⟩
  refine C.seq (C.seq (C.region ?_)); refine Lpu rfl rfl ?_; refine Lpu rfl rfl ?_; refine Lpu rfl rfl ?_; refine Lpu rfl rfl ?_; refine L.nil (QE.seq ?_)
  refine C.condB 14 rfl (fun hc14 => ?_) (fun hc14 => ?_)
  ·
   replace hc14 := of_decide_eq_true hc14
   refine C.skip (QE.seq (C.seq (C.block (C.seq ?_)))); refine C.regionQ (by kernel_rfl) ?_; refine LQ.step (Ev.pure rfl) rfl ?_; refine LQ.step (Ev.pure rfl) rfl ?_; refine LQ.step (Ev.idx1 (k := k) rfl rfl rfl rfl rfl rfl rfl (by omega) (Src.r 0 rfl) (by rw [U8_len]; omega)) rfl ?_; refine LQ.step (Ev.load rfl rfl rfl (Src.r 0 rfl) (U8_get (by omega))) rfl ?_; refine LQ.step (Ev.pure rfl) rfl ?_; refine LQ.step (Ev.pure rfl) rfl ?_; refine LQ.step (Ev.idx1 (k := k) rfl rfl rfl rfl rfl rfl rfl (by omega) (Src.r 1 rfl) (by rw [U8_len]; omega)) rfl ?_; refine LQ.step (Ev.load rfl rfl rfl (Src.r 1 rfl) (U8_get (by omega))) rfl ?_; refine LQ.step (Ev.pure rfl) rfl ?_; refine LQ.nil ?_; refine QE.seq ?_
   refine C.condB 25 rfl (fun hc25 => ?_) (fun hc25 => ?_)
   ·
    replace hc25 := b_ne hc25
    refine C.seq (C.region ?_); refine Lpu rfl rfl ?_; refine L.nil (QE.seq (C.ret (QE.bR (QE.tR (QE.tR (QE.bR (QE.tR ?_))))))); refine QE.ret (js := []) (hs := []) (vs := [_]) rfl ⟨rfl, trivial⟩ (by decide) ?_
    refine ⟨?_, rfl, rfl⟩
    simp [tup]
    intro h
    subst h
    simp at hc25
   ·
    replace hc25 := b_eq hc25
    refine C.skip ?_; refine QE.blkN ?_; refine QE.seq (C.region ?_); refine Lpu rfl rfl ?_; refine L.step (Ev.add rfl rfl (by omega) (by omega)) rfl ?_; refine Lpu rfl rfl ?_; refine L.nil ?_
    refine QE.round (k + 1) ?_ (by omega) (by exact Le.mk' (rs := [0, 1]) (hs := []) ⟨rfl, rfl, rfl, trivial⟩ ⟨rfl, rfl, trivial⟩ trivial (by decide))
    · refine ⟨by omega, ?_⟩
      rw [take_snoc' xs 0 k (by omega), take_snoc' ys 0 k (by omega), htk, u8_eq.1 hc25]
  ·
   replace hc14 := of_decide_eq_false hc14
   refine C.exit ?_; refine QE.tX ?_; refine QE.tX ?_; refine QE.blk ?_; refine QE.seq (C.seq (C.region ?_)); refine Lpu rfl rfl ?_; refine L.nil (QE.seq (C.ret ?_)); refine QE.ret (js := []) (hs := []) (vs := [_]) rfl ⟨rfl, trivial⟩ (by decide) ?_
   refine ⟨?_, rfl, rfl⟩
   have hke : k = xs.length := by omega
   subst hke
   rw [List.take_of_length_le (Nat.le_refl _), List.take_of_length_le (by omega)] at htk
   simp [tup, htk]

end Go.Proofs.Ytdkilfnbilohmaa
