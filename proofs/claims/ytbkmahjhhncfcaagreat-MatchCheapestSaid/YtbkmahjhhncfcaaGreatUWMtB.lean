/-
  The longest pieces that end at each place.
-/
import Derived.Test.YtbkmahjhhncfcaaGreatUWMtA
import Derived.Test.YtbkmahjhhncfcaaGreatUMe
import Derived.Test.YtbkmahjhhncfcaaGreatUSlO
namespace Go.Proofs.YtbkmahjhhncfcaaGreat
open Go.Sl

set_option maxHeartbeats 2000000 in
theorem ends_c (A B : Option Addr) (z : List Au) (gs : List Nat) (ac bc : Nat) (b w : List UInt8) (Lw : Nat → List UInt8) (last : Nat) (hb : b.length ≤ 65536) (hgl : gs.length = z.length) (_hw : w.length ≤ 65536) (hA : AuOk w (Dn z) (Ag z) Lw last) :
   Ctr X 84 [.slice A z.length ac, .slice B b.length bc] [Rd A (auV gs z), MapsR gs (z.map Au.nx), Rd B (U8 b)] [] (fun v R' H' => ∃ (F : Option Addr) (fs : List (Nat × Nat)), v = .slice F (b.length + 1) (b.length + 1) ∧ R' = [] ∧ H' = [Own 149 2 F (b.length + 1) (b.length + 1) (fdV fs)] ∧ fs.length = (b.length + 1) ∧ ∀ i, i ≤ b.length → FdOk w b i (fs.getD i (0, 0))) := by
 refine Ctr.of (X := X) (fn := Tryz.f84) Tryz.func84 rfl (by kernel_rfl) rfl ?_
 intro β
 refine C.seq (C.region ?_); refine Lpu rfl rfl ?_; refine L.nil (QE.seq (C.seq (C.region ?_))); refine Lpu rfl rfl ?_; refine Lpu rfl rfl ?_; refine L.step (Ev.add rfl rfl (by omega) (by omega)) rfl ?_
 refine L.makeSt (m := (b.length + 1)) (cs := [.int .i64 0, .int .i64 0]) rfl rfl rfl rfl rfl rfl rfl rfl rfl rfl (by show 16 * _ ≤ _; omega) (by omega) rfl (fun A17 => ?_)
 refine Lpu rfl rfl ?_; refine L.nil (QE.seq (C.seq (C.region ?_))); refine Lpu rfl rfl ?_; refine Lpu rfl rfl ?_; refine L.nil (QE.seq (C.seq (C.seq (C.region ?_)))); refine Lpu rfl rfl ?_; refine Lpu rfl rfl ?_; refine Lpu rfl rfl ?_; refine L.nil (QE.seq (C.block ?_)); refine C.loop (fun s : Nat × Nat × Nat × List (Nat × Nat) => [(0, .slice A z.length ac), (18, .slice B b.length bc), (19, .int .i64 (b.length : Int)), (5, .slice A17 (b.length + 1) (b.length + 1)), (20, .int .i64 (s.1 : Int)), (6, .int .i64 (s.2.1 : Int)), (7, .int .i64 (s.2.2.1 : Int))]) (fun s : Nat × Nat × Nat × List (Nat × Nat) => [Rd A (auV gs z), MapsR gs (z.map Au.nx), Rd B (U8 b)]) (fun s : Nat × Nat × Nat × List (Nat × Nat) => [Own 149 2 A17 (b.length + 1) (b.length + 1) (fdV s.2.2.2)]) (fun s : Nat × Nat × Nat × List (Nat × Nat) => s.1 ≤ b.length ∧ s.2.2.2.length = (b.length + 1) ∧ (∀ j, j ≤ s.1 → FdOk w b j (s.2.2.2.getD j (0, 0))) ∧ EnI w (b.take s.1) z Lw s.2.1 s.2.2.1) (fun s : Nat × Nat × Nat × List (Nat × Nat) => b.length - s.1) (0, 0, 0, List.replicate (b.length + 1) (0, 0)) ⟨Nat.zero_le _, List.length_replicate, fun j hj => (by have hj0 : j = 0 := Nat.le_zero.1 hj; subst hj0; exact FdOk.zero w b), EnI.start hA⟩ (by exact Le.mk' (rs := [0, 1, 2]) (hs := [0]) ⟨rfl, rfl, rfl, rfl, rfl, rfl, rfl, trivial⟩ ⟨rfl, rfl, rfl, trivial⟩ ⟨(congrArg some (congrArg (Own 149 2 A17 (b.length + 1) (b.length + 1)) (flat_rep fdC (b.length + 1) (0, 0)).symm)), trivial⟩ (by decide)) ?_
 rintro ⟨i, at0, n0, fs⟩ ⟨hi, hfl, hfd, hen⟩
 dsimp only at hi hfl hfd hen ⊢
 obtain ⟨c, hc⟩ : ∃ c, c = b.getD i 0 := ⟨_, rfl⟩
 have hwl : (b.take i).length = i := by rw [List.length_take]; omega
 refine C.seq (C.region ?_); refine Lpu rfl rfl ?_; refine L.nil (QE.seq (C.seq ?_))
 refine C.condB 21 rfl (fun hc21 => ?_) (fun hc21 => ?_)
 ·
  replace hc21 := of_decide_eq_true hc21
  refine C.skip (QE.seq (C.seq (C.block (C.seq (C.region ?_))))); refine Lpu rfl rfl ?_; refine L.step (Ev.idx1 (k := i) rfl rfl rfl rfl rfl rfl rfl (by omega) (Src.r 2 rfl) (by rw [U8_len]; omega)) rfl ?_; refine L.step (Ev.cast (u := .int .u8 (c.toNat : Int)) (Ev.load rfl rfl rfl (Src.r 2 rfl) (U8_get (by omega))) (by rw [hc])) rfl ?_; refine Lpu rfl rfl ?_; refine Lpu rfl rfl ?_; refine L.nil (QE.seq ?_); refine C.seqJ (fun s : Nat × Nat => [(0, .slice A z.length ac), (18, .slice B b.length bc), (19, .int .i64 (b.length : Int)), (5, .slice A17 (b.length + 1) (b.length + 1)), (20, .int .i64 (i : Int)), (8, .int .i64 (i : Int)), (9, .int .u8 (c.toNat : Int)), (6, .int .i64 (s.1 : Int)), (7, .int .i64 (s.2 : Int))]) (fun s : Nat × Nat => [Rd A (auV gs z), MapsR gs (z.map Au.nx), Rd B (U8 b)]) (fun s : Nat × Nat => [Own 149 2 A17 (b.length + 1) (b.length + 1) (fdV fs)]) (fun s : Nat × Nat => SkI w (b.take i) z Lw c s.1 s.2 ∧ (s.1 = 0 ∨ ((Ag z s.1).nx c).isSome = true)) ?_ ?_
  ·
   refine C.block ?_; refine C.loop (fun s : Nat × Nat => [(0, .slice A z.length ac), (18, .slice B b.length bc), (19, .int .i64 (b.length : Int)), (5, .slice A17 (b.length + 1) (b.length + 1)), (20, .int .i64 (i : Int)), (8, .int .i64 (i : Int)), (9, .int .u8 (c.toNat : Int)), (6, .int .i64 (s.1 : Int)), (7, .int .i64 (s.2 : Int))]) (fun s : Nat × Nat => [Rd A (auV gs z), MapsR gs (z.map Au.nx), Rd B (U8 b)]) (fun s : Nat × Nat => [Own 149 2 A17 (b.length + 1) (b.length + 1) (fdV fs)]) (fun s : Nat × Nat => SkI w (b.take i) z Lw c s.1 s.2) (fun s : Nat × Nat => (Lw s.1).length) (at0, n0) (hen.seek c) (by exact Le.mk' (rs := [0, 1, 2]) (hs := [0]) ⟨rfl, rfl, rfl, rfl, rfl, rfl, rfl, rfl, rfl, trivial⟩ ⟨rfl, rfl, rfl, trivial⟩ ⟨rfl, trivial⟩ (by decide)) ?_
   rintro ⟨at_, n⟩ hsk
   dsimp only at hsk ⊢
   have hat := hsk.lt.1
   refine C.seq (C.seq (C.region ?_)); refine Lpu rfl rfl ?_; refine Lpu rfl rfl ?_; refine L.nil (QE.seq ?_)
   refine C.condB 26 rfl (fun hc26 => ?_) (fun hc26 => ?_)
   ·
    replace hc26 := of_decide_eq_true hc26
    refine C.skip (QE.seq (C.block (C.seq (C.seq (C.region ?_))))); refine Lpu rfl rfl ?_; refine Lpu rfl rfl ?_; refine L.step (Ev.idx (k := at_) (m := at_ * 4) rfl rfl rfl rfl rfl rfl hat (Src.r 0 rfl) (auV_pos hgl hat) rfl) rfl ?_; refine L.step (Ev.fieldAddr rfl rfl rfl rfl rfl rfl (Src.r 0 rfl) (auV_pos hgl hat) rfl) rfl ?_; refine L.step (Ev.load rfl rfl rfl (Src.r 0 rfl) (auV_get (k := at_) (q := 0) hgl hat (by decide))) rfl ?_; refine Lpu rfl rfl ?_; refine L.step (Ev.cast (Ev.lookF (q' := c) rfl rfl rfl rfl rfl rfl rfl rfl rfl (HasF.msr 1 rfl at_ (by rw [List.length_map]; exact hat) (by rw [List.length_map]; exact hgl))) (congrArg (fun f : UInt8 → Option Nat => lkV (f c)) (nxs_get hat))) rfl ?_; refine Lpu rfl rfl ?_; refine Lpu rfl rfl ?_; refine Lpu rfl rfl ?_; refine Lpu rfl rfl ?_; refine Lpu rfl rfl ?_; refine L.nil (QE.seq (C.seq (C.region ?_))); refine Lpu rfl rfl ?_; refine L.nil (QE.seq ?_)
    refine C.condB 37 rfl (fun hc37 => ?_) (fun hc37 => ?_)
    ·
     refine C.exit ?_; refine QE.tX ?_; refine QE.blkX rfl ?_; refine QE.tX ?_; refine QE.blk ?_
     refine QE.join ((at_, n)) (by exact ⟨hsk, .inr hc37⟩) (by exact Le.mk' (rs := [0, 1, 2]) (hs := [0]) ⟨rfl, rfl, rfl, rfl, rfl, rfl, rfl, rfl, rfl, trivial⟩ ⟨rfl, rfl, rfl, trivial⟩ ⟨rfl, trivial⟩ (by decide))
    ·
     have hnn : (Ag z at_).nx c = none := Option.not_isSome_iff_eq_none.1 (by rw [hc37]; decide)
     obtain ⟨u, hlk, hu, hsk2, hlt⟩ := hsk.back hA hnn (by omega)
     refine C.skip (QE.seq (C.seq (C.region ?_))); refine Lpu rfl rfl ?_; refine Lpu rfl rfl ?_; refine L.step (Ev.idx (k := at_) (m := at_ * 4) rfl rfl rfl rfl rfl rfl hat (Src.r 0 rfl) (auV_pos hgl hat) rfl) rfl ?_; refine L.step (Ev.fieldAddr rfl rfl rfl rfl rfl rfl (Src.r 0 rfl) (auV_pos hgl hat) rfl) rfl ?_; refine L.step (Ev.cast (u := .int .i64 (u : Int)) (Ev.load rfl rfl rfl (Src.r 0 rfl) (auV_get (k := at_) (q := 1) hgl hat (by decide))) (congrArg (Value.int .i64) hlk)) rfl ?_; refine Lpu rfl rfl ?_; refine L.nil (QE.seq (C.region ?_)); refine Lpu rfl rfl ?_; refine Lpu rfl rfl ?_; refine L.step (Ev.idx (k := u) (m := u * 4) rfl rfl rfl rfl rfl rfl hu (Src.r 0 rfl) (auV_pos hgl hu) rfl) rfl ?_; refine L.step (Ev.fieldAddr rfl rfl rfl rfl rfl rfl (Src.r 0 rfl) (auV_pos hgl hu) rfl) rfl ?_; refine L.step (Ev.load rfl rfl rfl (Src.r 0 rfl) (auV_get (k := u) (q := 2) hgl hu (by decide))) rfl ?_; refine Lpu rfl rfl ?_; refine L.nil ?_; refine QE.blkN ?_
     refine QE.round (i := (at_, n)) ((u, (Ag z u).ln)) (by exact hsk2) hlt (by exact Le.mk' (rs := [0, 1, 2]) (hs := [0]) ⟨rfl, rfl, rfl, rfl, rfl, rfl, rfl, rfl, rfl, trivial⟩ ⟨rfl, rfl, rfl, trivial⟩ ⟨rfl, trivial⟩ (by decide))
   ·
    replace hc26 := of_decide_eq_false hc26
    refine C.exit ?_; refine QE.tX ?_; refine QE.tX ?_; refine QE.blk ?_
    refine QE.join ((at_, n)) (by exact ⟨hsk, .inl (by dsimp only; omega)⟩) (by exact Le.mk' (rs := [0, 1, 2]) (hs := [0]) ⟨rfl, rfl, rfl, rfl, rfl, rfl, rfl, rfl, rfl, trivial⟩ ⟨rfl, rfl, rfl, trivial⟩ ⟨rfl, trivial⟩ (by decide))
  ·
   rintro ⟨at_, n⟩ ⟨hsk, hor⟩
   dsimp only at hsk hor ⊢
   have hat := hsk.lt.1
   have hnb := hsk.lt.2
   rw [hwl] at hnb
   refine C.seqJ (fun s : Nat × Nat => [(0, .slice A z.length ac), (18, .slice B b.length bc), (19, .int .i64 (b.length : Int)), (5, .slice A17 (b.length + 1) (b.length + 1)), (20, .int .i64 (i : Int)), (8, .int .i64 (i : Int)), (9, .int .u8 (c.toNat : Int)), (6, .int .i64 (s.1 : Int)), (7, .int .i64 (s.2 : Int))]) (fun s : Nat × Nat => [Rd A (auV gs z), MapsR gs (z.map Au.nx), Rd B (U8 b)]) (fun s : Nat × Nat => [Own 149 2 A17 (b.length + 1) (b.length + 1) (fdV fs)]) (fun s : Nat × Nat => EnI w (b.take i ++ [c]) z Lw s.1 s.2) ?_ ?_
   ·
    refine C.seq (C.region ?_); refine Lpu rfl rfl ?_; refine Lpu rfl rfl ?_; refine L.step (Ev.idx (k := at_) (m := at_ * 4) rfl rfl rfl rfl rfl rfl hat (Src.r 0 rfl) (auV_pos hgl hat) rfl) rfl ?_; refine L.step (Ev.fieldAddr rfl rfl rfl rfl rfl rfl (Src.r 0 rfl) (auV_pos hgl hat) rfl) rfl ?_; refine L.step (Ev.load rfl rfl rfl (Src.r 0 rfl) (auV_get (k := at_) (q := 0) hgl hat (by decide))) rfl ?_; refine Lpu rfl rfl ?_; refine L.step (Ev.cast (Ev.lookF (q' := c) rfl rfl rfl rfl rfl rfl rfl rfl rfl (HasF.msr 1 rfl at_ (by rw [List.length_map]; exact hat) (by rw [List.length_map]; exact hgl))) (congrArg (fun f : UInt8 → Option Nat => lkV (f c)) (nxs_get hat))) rfl ?_; refine Lpu rfl rfl ?_; refine Lpu rfl rfl ?_; refine Lpu rfl rfl ?_; refine Lpu rfl rfl ?_; refine Lpu rfl rfl ?_; refine L.nil (QE.seq (C.seq (C.region ?_))); refine Lpu rfl rfl ?_; refine L.nil (QE.seq ?_)
    refine C.condB 58 rfl (fun hc58 => ?_) (fun hc58 => ?_)
    ·
     obtain ⟨u, hu⟩ := Option.isSome_iff_exists.1 hc58
     refine C.seq (C.region ?_); refine Lpu rfl rfl ?_; refine Lpu rfl rfl ?_; refine L.nil (QE.seq (C.region ?_)); refine Lpu rfl rfl ?_; refine L.step (Ev.add rfl rfl (by omega) (by omega)) rfl ?_; refine Lpu rfl rfl ?_; refine L.nil ?_
     have hnx := Option.eq_some_of_isSome hc58
     refine QE.join ((u, n + 1)) (by exact (hsk.yes hA hu)) (by exact Le.mk' (rs := [0, 1, 2]) (hs := [0]) ⟨rfl, rfl, rfl, rfl, rfl, rfl, rfl, (by dsimp only; rw [hu]; rfl), rfl, trivial⟩ ⟨rfl, rfl, rfl, trivial⟩ ⟨rfl, trivial⟩ (by decide))
    ·
     refine C.skip ?_
     have hnn : (Ag z at_).nx c = none := Option.not_isSome_iff_eq_none.1 (by rw [hc58]; decide)
     have h0 : at_ = 0 := by rcases hor with h | h; exact h; rw [hnn] at h; cases h
     subst h0
     refine QE.join ((0, n)) (by exact (hsk.none hA hnn)) (by exact Le.mk' (rs := [0, 1, 2]) (hs := [0]) ⟨rfl, rfl, rfl, rfl, rfl, rfl, rfl, rfl, rfl, trivial⟩ ⟨rfl, rfl, rfl, trivial⟩ ⟨rfl, trivial⟩ (by decide))
   ·
    rintro ⟨at_, n⟩ hen
    dsimp only at hen ⊢
    have hat := hen.lt.1
    have htk : b.take (i + 1) = b.take i ++ [c] := by rw [hc]; exact take_snoc' b 0 i (by omega)
    have hfdn : FdOk w b (i + 1) ((Ag z at_).en, n) := EnI.fd hA (by rw [htk]; exact hen)
    refine C.region ?_; refine Lpu rfl rfl ?_; refine Lpu rfl rfl ?_; refine L.step (Ev.add rfl rfl (by omega) (by omega)) rfl ?_; refine Lpu rfl rfl ?_; refine Lpu rfl rfl ?_; refine L.step (Ev.idx (k := at_) (m := at_ * 4) rfl rfl rfl rfl rfl rfl hat (Src.r 0 rfl) (auV_pos hgl hat) rfl) rfl ?_; refine L.step (Ev.fieldAddr rfl rfl rfl rfl rfl rfl (Src.r 0 rfl) (auV_pos hgl hat) rfl) rfl ?_; refine L.step (Ev.load rfl rfl rfl (Src.r 0 rfl) (auV_get (k := at_) (q := 3) hgl hat (by decide))) rfl ?_; refine Lpu rfl rfl ?_; refine L.step (Ev.build rfl rfl rfl rfl rfl rfl rfl) rfl ?_; refine L.step (Ev.idx (k := i + 1) (m := (i + 1) * 2) rfl rfl rfl rfl rfl rfl (by omega) (Src.o 0 rfl) (flat_pos fdC_len (by decide) (k := i + 1) (by omega)) rfl) rfl ?_; refine L.storeA (j := 0) (k := (i + 1) * 2) (vs := fdC ((Ag z at_).en, n)) rfl rfl rfl rfl rfl (Nat.zero_lt_succ _) rfl (Nat.ble_eq_true_of_le (by unfold fdV; rw [flat_len fdC_len, hfl]; show _ + 2 ≤ _; omega)) ?_; refine L.nil ?_; refine QE.blkN ?_; refine QE.seq (C.region ?_); refine L.step (Ev.add rfl rfl (by omega) (by omega)) rfl ?_; refine Lpu rfl rfl ?_; refine L.nil ?_
    refine QE.round (i := (i, at0, n0, fs)) ((i + 1, at_, n, fs.set (i + 1) ((Ag z at_).en, n))) (by exact ⟨by dsimp only; omega, by dsimp only; rw [List.length_set]; exact hfl, fun j hj => fd_set hfl (by omega) hfd hfdn j hj, by dsimp only; rw [htk]; exact hen⟩) (by dsimp only; omega) (by exact Le.mk' (rs := [0, 1, 2]) (hs := [0]) ⟨rfl, rfl, rfl, rfl, rfl, rfl, rfl, trivial⟩ ⟨rfl, rfl, rfl, trivial⟩ ⟨(congrArg some (congrArg (Own 149 2 A17 (b.length + 1) (b.length + 1)) (flat_put fdC_len fs (i + 1) ((Ag z at_).en, n) (by omega)))), trivial⟩ (by decide))
 ·
  replace hc21 := of_decide_eq_false hc21
  refine C.exit ?_; refine QE.tX ?_; refine QE.tX ?_; refine QE.blk ?_; refine QE.seq (C.seq (C.region ?_)); refine Lpu rfl rfl ?_; refine Lpu rfl rfl ?_; refine L.nil (QE.seq (C.ret ?_)); refine QE.ret (js := []) (hs := [0]) (vs := [_]) rfl ⟨rfl, trivial⟩ (by decide) ?_
  obtain rfl : i = b.length := by omega
  exact ⟨A17, fs, rfl, rfl, rfl, hfl, hfd⟩

end Go.Proofs.YtbkmahjhhncfcaaGreat
