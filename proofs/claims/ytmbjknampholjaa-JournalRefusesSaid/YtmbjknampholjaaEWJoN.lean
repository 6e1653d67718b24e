/-
  The contract of the journal laws' sanity.
-/
import Derived.Test.YtmbjknampholjaaEWJoM
namespace Go.Proofs.Ytmbjknampholjaa
open Go.Sl

theorem okB_okJ {f : Fl} (h : f.Ok) : okB (f.size : Int) f = true := by
 obtain ⟨h1, h2, h3, h4, h5, h6, h7, h8, h9, h10⟩ := h
 exact okB_yes (by omega) (fun i hi => okR_yes (by rw [h7 i hi]) (h10 i hi))
theorem exfmt_c (a : Fa) (ha : a.hs.length = 2) (hca : Caps exS a) : Ctr X 23 [flV exS a, .agg (List.toArray [.int .i64 0, .int .i64 0, .int .i64 1, .int .i64 0, .int .i64 0, .slice none 0 0, .slice none 0 0, .slice none 0 0]), .agg (List.toArray (st9 Z9))] (flR exS a) []
   (fun v R' H' => ∃ b : Fa, b.hs.length = exG.data.length ∧ Caps exG b ∧ v = .tuple #[flV exG b, .int .i64 0] ∧ R' = flR exG b ∧ H' = []) := by
 refine (formatP_c exS a exS_ok ha y01 hca Z9 rfl).mono ?_
 rintro v R' H' ⟨b, hb, hc, rfl, rfl, rfl⟩
 refine ⟨b, hb, hc, ?_, rfl, rfl⟩
 rw [show (formatF exS y01.a y01.b Z9).2 = 0 from ex1]
 rfl

set_option maxHeartbeats 2000000 in
theorem sanityJ_c  :
   Ctr X 10 [] [] [] (fun v R' H' => v = .bool true ∧ R' = [] ∧ H' = []) := by
 refine Ctr.of (X := X) (fn := Try.f10) Try.func10 rfl (by kernel_rfl) rfl ?_
 intro β
 refine C.seq (C.region ?_); refine Lpu rfl rfl ?_; refine L.nil (QE.seq (C.seq (C.region ?_))); refine L.callR (js := []) (js' := []) (small_c) rfl rfl rfl (by decide) trivial rfl ?_
 rintro _ _ _ ⟨a, ha, hca, rfl, rfl, rfl⟩
 refine Lpu rfl rfl ?_; refine Lpu rfl rfl ?_; refine Lpu rfl rfl ?_
 refine L.alloc rfl rfl rfl (fun A1 => ?_)
 refine L.alloc rfl rfl rfl (fun A2 => ?_)
 refine L.storeA (j := 0) rfl rfl rfl rfl rfl (Nat.zero_lt_succ _) rfl rfl ?_; refine L.storeA (j := 1) rfl rfl rfl rfl rfl (Nat.zero_lt_succ _) rfl rfl ?_; refine L.nil (QE.seq (C.seq (C.region ?_)))
 refine L.lit rfl rfl rfl rfl rfl (by rfl) (by rfl) (by rfl) rfl rfl (fun A22 => ?_)
 refine Lpu rfl rfl ?_; refine L.nil (QE.seq (C.seq (C.seq (C.region ?_)))); refine Lpu rfl rfl ?_; refine L.nil (QE.seq (C.block ?_)); refine C.loop (fun q : Nat × Option Addr × Nat => [(1, ptrOf A1 0), (2, ptrOf A2 0), (3, .slice q.2.1 (2 * q.1) q.2.2), (4, .int .i64 (q.1 : Int))]) (fun q : Nat × Option Addr × Nat => [Rd a.D (rowsV a.hs (B8 exS.data)), KidsR a.hs (B8 exS.data), Rd a.W (I64 exS.wear), Rd a.E (Bs exS.dead)]) (fun q : Nat × Option Addr × Nat => [Own 39 8 A1 1 1 [.int .i64 0, .int .i64 0, .int .i64 1, .int .i64 0, .int .i64 0, .slice none 0 0, .slice none 0 0, .slice none 0 0], Own 35 5 A2 1 1 (flL exS a), Own 5 1 q.2.1 (2 * q.1) q.2.2 (U8 (zslot.take (2 * q.1)))]) (fun q : Nat × Option Addr × Nat => q.1 ≤ 15) (fun q : Nat × Option Addr × Nat => 15 - q.1) (0, A22, 0) (Nat.zero_le _) (by exact Le.mk' (rs := [0, 1, 2, 3]) (hs := [0, 1, 2]) ⟨rfl, rfl, rfl, rfl, trivial⟩ ⟨rfl, rfl, rfl, rfl, trivial⟩ ⟨rfl, rfl, rfl, trivial⟩ (by decide)) ?_
 rintro ⟨k, Z, zc⟩ hk
 dsimp only at hk ⊢
 refine C.seq (C.seq (C.region ?_)); refine Lpu rfl rfl ?_; refine Lpu rfl rfl ?_; refine L.nil (QE.seq ?_)
 refine C.condB 24 rfl (fun hc24 => ?_) (fun hc24 => ?_)
 ·
  replace hc24 := of_decide_eq_true hc24
  refine C.skip (QE.seq (C.seq (C.block (C.region ?_)))); refine Lpu rfl rfl ?_
  refine L.lit rfl rfl rfl rfl rfl (by rfl) (by rfl) (by rfl) rfl rfl (fun A28 => ?_)
  refine L.append (j := 2) rfl rfl rfl rfl (by decide) rfl rfl rfl rfl (Src.o 3 rfl) rfl (by intro v hv; simp at hv; rcases hv with rfl | rfl <;> rfl) (by omega) (by show _ * 1 ≤ _; omega) rfl (fun A29 cc29 => ?_)
  refine Lpu rfl rfl ?_; refine L.nil ?_; refine QE.blkN ?_; refine QE.seq (C.region ?_); refine Lpu rfl rfl ?_; refine L.step (Ev.add rfl rfl (by omega) (by omega)) rfl ?_; refine Lpu rfl rfl ?_; refine L.nil ?_
  refine QE.round (i := (k, Z, zc)) ((k + 1, A29, cc29)) (by dsimp only; omega) (by dsimp only; omega) (by exact Le.mk' (rs := [0, 1, 2, 3]) (hs := [0, 1, 2]) ⟨rfl, rfl, rfl, rfl, trivial⟩ ⟨rfl, rfl, rfl, rfl, trivial⟩ ⟨rfl, rfl, (by dsimp only; rw [← zslot_step k (by omega), ← U8_app]; rfl), trivial⟩ (by decide))
 ·
  replace hc24 := of_decide_eq_false hc24
  refine C.exit ?_; refine QE.tX ?_; refine QE.tX ?_; refine QE.blk ?_; refine QE.seq (C.seq ?_)
  obtain rfl : k = 15 := by omega
  refine C.freeze 2 rfl [0, 1] (by decide) (by decide) ?_; refine C.norm (H' := [_, _]) [0, 1] ⟨rfl, rfl, trivial⟩ (by decide) ?_; refine C.region ?_; refine L.step (Ev.loadA rfl rfl rfl (Src.o 1 rfl) rfl rfl (by decide)) rfl ?_; refine L.step (Ev.loadA rfl rfl rfl (Src.o 0 rfl) rfl rfl (by decide)) rfl ?_; refine L.step (Ev.build rfl rfl rfl rfl rfl rfl rfl) rfl ?_; refine L.callR (js := []) (js' := [0, 1]) (exfmt_c a ha hca) rfl rfl rfl (by decide) (Hq [1, 2, 3, 4] rfl) rfl ?_
  rintro _ _ _ ⟨b, hb, hcb, rfl, rfl, rfl⟩
  refine L.norm (H' := [_, _]) [0, 1] ⟨rfl, rfl, trivial⟩ (by decide) ?_; refine Lpu rfl rfl ?_; refine Lpu rfl rfl ?_; refine Lpu rfl rfl ?_
  refine L.alloc rfl rfl rfl (fun A5 => ?_)
  refine L.storeA (j := 2) rfl rfl rfl rfl rfl (Nat.zero_lt_succ _) rfl rfl ?_; refine Lpu rfl rfl ?_; refine L.nil (QE.seq (C.seq (C.seq (C.region ?_)))); refine Lpu rfl rfl ?_; refine Lpu rfl rfl ?_; refine Lpu rfl rfl ?_
  refine L.bool 39 rfl (fun hg39 => ?_) (fun hg39 => ?_)
  ·
   replace hg39 := b_ne hg39
   exact absurd rfl hg39
  ·
   replace hg39 := b_eq hg39
   refine L.yes rfl ?_; refine L.step (Ev.loadA rfl rfl rfl (Src.o 2 rfl) rfl rfl (by decide)) rfl ?_; refine L.yes rfl ?_; refine L.call (js := []) (js' := [0, 1, 2]) (Ctr.tbJ true (valid17_c (exG.size : Int) exG b hb (by rw [exG_len]; decide)) (okB_okJ exG_ok)) rfl rfl rfl (by decide) (Hq [0, 1, 2, 3] rfl) rfl ?_
   rintro _ _ _ ⟨rfl, rfl, rfl⟩
   refine L.norm (H' := [_, _, _]) [0, 1, 2] ⟨rfl, rfl, rfl, trivial⟩ (by decide) ?_; refine L.yes rfl ?_; refine Lpu rfl rfl ?_; refine Lpu rfl rfl ?_; refine Lpu rfl rfl ?_; refine L.yes rfl ?_; refine L.step (Ev.fieldAddr rfl rfl rfl rfl rfl rfl (Src.o 2 rfl) (Nat.zero_lt_succ _) rfl) rfl ?_; refine L.yes rfl ?_; refine L.step (Ev.load rfl rfl rfl (Src.o 2 rfl) rfl) rfl ?_; refine L.yes rfl ?_; refine Lpu rfl rfl ?_; refine Lpu rfl rfl ?_; refine Lpu rfl rfl ?_
   refine L.bool 49 rfl (fun hg49 => ?_) (fun hg49 => ?_)
   ·
    replace hg49 := b_ne hg49
    exact absurd (by rw [exG_size]; rfl) hg49
   ·
    replace hg49 := b_eq hg49
    refine L.yes rfl ?_; refine L.step (Ev.fieldAddr rfl rfl rfl rfl rfl rfl (Src.o 2 rfl) (Nat.zero_lt_succ _) rfl) rfl ?_; refine L.yes rfl ?_; refine L.step (Ev.load rfl rfl rfl (Src.o 2 rfl) rfl) rfl ?_; refine L.yes rfl ?_; refine Lpu rfl rfl ?_; refine L.yes rfl ?_; refine Lpu rfl rfl ?_; refine Lpu rfl rfl ?_; refine Lpu rfl rfl ?_
    refine L.bool 55 rfl (fun hg55 => ?_) (fun hg55 => ?_)
    ·
     replace hg55 := b_ne hg55
     exact absurd (by rw [exG_len]; rfl) hg55
    ·
     replace hg55 := b_eq hg55
     refine L.yes rfl ?_; refine L.step (Ev.loadA rfl rfl rfl (Src.o 1 rfl) rfl rfl (by decide)) rfl ?_; refine L.yes rfl ?_; refine L.step (Ev.loadA rfl rfl rfl (Src.o 0 rfl) rfl rfl (by decide)) rfl ?_; refine L.yes rfl ?_; refine L.call (js := []) (js' := [0, 1, 2]) (lread_c exS a exS_ok ha y01 hca) rfl rfl rfl (by decide) (Hq [5, 6, 7, 8] rfl) rfl ?_
     rintro _ _ _ ⟨rfl, rfl, rfl⟩
     refine L.norm (H' := [_, _, _]) [0, 1, 2] ⟨rfl, rfl, rfl, trivial⟩ (by decide) ?_; refine L.yes rfl ?_; refine Lpu rfl rfl ?_; refine L.yes rfl ?_; refine Lpu rfl rfl ?_; refine Lpu rfl rfl ?_; refine Lpu rfl rfl ?_
     refine L.bool 62 rfl (fun hg62 => ?_) (fun hg62 => ?_)
     ·
      replace hg62 := b_ne hg62
      exact absurd ex2 hg62
     ·
      replace hg62 := b_eq hg62
      refine L.yes rfl ?_; refine L.step (Ev.loadA rfl rfl rfl (Src.o 2 rfl) rfl rfl (by decide)) rfl ?_; refine L.yes rfl ?_; refine L.step (Ev.loadA rfl rfl rfl (Src.o 0 rfl) rfl rfl (by decide)) rfl ?_; refine L.yes rfl ?_; refine L.call (js := []) (js' := [0, 1, 2]) (lread_c exG b exG_ok hb y01 hcb) rfl rfl rfl (by decide) (Hq [0, 1, 2, 3] rfl) rfl ?_
      rintro _ _ _ ⟨rfl, rfl, rfl⟩
      refine L.norm (H' := [_, _, _]) [0, 1, 2] ⟨rfl, rfl, rfl, trivial⟩ (by decide) ?_; refine L.yes rfl ?_; refine L.step (Ev.build rfl rfl rfl rfl rfl rfl rfl) rfl ?_; refine L.yes rfl ?_; refine L.step (Ev.neS2 (xs := rs11 (readF exG y01.a y01.b)) (ys := [0, 0, 0, 0, 0, 0, 0, 0, 0, 0, 0]) rfl rfl (by kernel_rfl) (by kernel_rfl) rfl rfl rfl rfl rfl (by kernel_rfl) rfl rfl rfl rfl rfl rfl) rfl ?_; refine Lpu rfl rfl ?_; refine Lpu rfl rfl ?_
      refine L.bool 69 rfl (fun hg69 => ?_) (fun hg69 => ?_)
      ·
       rw [show readF exG y01.a y01.b = (Z9, 0, 0) from ex3] at hg69; exact absurd hg69 (by decide)
      ·
       refine L.yes rfl ?_; refine L.step (Ev.build rfl rfl rfl rfl rfl rfl rfl) rfl ?_; refine L.yes rfl ?_; refine L.call (js := []) (js' := [0, 1, 2]) (slotP_c Z9 rfl) rfl rfl rfl (by decide) trivial rfl ?_
       rintro _ _ _ ⟨SO, sc, rfl, hso, rfl, rfl⟩
       refine L.norm (H' := [_, _, _, _]) [0, 1, 2, 3] ⟨rfl, rfl, rfl, rfl, trivial⟩ (by decide) ?_; refine L.yes rfl ?_; refine Lpu rfl rfl ?_; refine L.yes rfl ?_; refine L.call (js := []) (js' := [0, 1, 2, 3]) (Ctr.tbJ true (same_w SO Z sc zc (slotF Z9) zslot 30 rfl (by rw [ex4]; decide) (by decide)) (by rw [ex4]; rfl)) rfl rfl rfl (by decide) ⟨(Has.o 0 rfl), (Has.r 4 rfl), trivial⟩ rfl ?_
       rintro _ _ _ ⟨rfl, rfl, rfl⟩
       refine L.norm (H' := [_, _, _, _]) [0, 1, 2, 3] ⟨rfl, rfl, rfl, rfl, trivial⟩ (by decide) ?_; refine L.yes rfl ?_; refine Lpu rfl rfl ?_; refine Lpu rfl rfl ?_; refine L.nil (QE.seq ?_)
       refine C.cond rfl (fun h => by cases h) (fun _ => ?_)
       refine C.skip (QE.seq (C.seq (C.region ?_)))
       refine L.lit rfl rfl rfl rfl rfl (by rfl) (by rfl) (by rfl) rfl rfl (fun A76 => ?_)
       refine Lpu rfl rfl ?_
       refine L.append (j := 4) rfl rfl rfl rfl (by decide) rfl rfl rfl rfl (Src.r 4 rfl) rfl (U8_one _) (by omega) (by show _ * 1 ≤ _; omega) rfl (fun A78 cc78 => ?_)
       refine Lpu rfl rfl ?_; refine L.nil (QE.seq (C.seq (C.region ?_))); refine Lpu rfl rfl ?_; refine Lpu rfl rfl ?_; refine Lpu rfl rfl ?_; refine Lpu rfl rfl ?_; refine L.step (Ev.idx1 (k := 2) rfl rfl rfl rfl rfl rfl rfl (by decide) (Src.o 4 rfl) (by exact Nat.zero_lt_succ _)) rfl ?_; refine L.store (j := 4) rfl rfl rfl rfl rfl rfl rfl (by rfl) ?_; refine L.step (Ev.idx1 (k := 3) rfl rfl rfl rfl rfl rfl rfl (by decide) (Src.o 4 rfl) (by exact Nat.zero_lt_succ _)) rfl ?_; refine L.store (j := 4) rfl rfl rfl rfl rfl rfl rfl (by rfl) ?_; refine L.step (Ev.idx1 (k := 4) rfl rfl rfl rfl rfl rfl rfl (by decide) (Src.o 4 rfl) (by exact Nat.zero_lt_succ _)) rfl ?_; refine L.store (j := 4) rfl rfl rfl rfl rfl rfl rfl (by rfl) ?_; refine L.step (Ev.idx1 (k := 5) rfl rfl rfl rfl rfl rfl rfl (by decide) (Src.o 4 rfl) (by exact Nat.zero_lt_succ _)) rfl ?_; refine L.store (j := 4) rfl rfl rfl rfl rfl rfl rfl (by rfl) ?_; refine L.nil (QE.seq (C.seq ?_)); refine C.freeze 4 rfl [0, 1, 2, 3] (by decide) (by decide) ?_; refine C.norm (H' := [_, _, _, _]) [0, 1, 2, 3] ⟨rfl, rfl, rfl, rfl, trivial⟩ (by decide) ?_; refine C.region ?_; refine L.step (Ev.loadA rfl rfl rfl (Src.o 3 rfl) rfl rfl (by decide)) rfl ?_; refine L.step (Ev.loadA rfl rfl rfl (Src.o 1 rfl) rfl rfl (by decide)) rfl ?_; refine L.step (Ev.build rfl rfl rfl rfl rfl rfl rfl) rfl ?_; refine L.callR (js := []) (js' := [0, 1, 2, 3]) (lnext_c exG b exG_ok hb y01 hcb st1 rfl) rfl rfl rfl (by decide) (Hq [1, 2, 3, 4] rfl) rfl ?_
       rintro _ _ _ ⟨O1, c1, rfl, rfl, rfl⟩
       rw [show nextF exG y01.a y01.b st1 = exA from ex5]
       refine L.norm (H' := [_, _, _, _]) [0, 1, 2, 3] ⟨rfl, rfl, rfl, rfl, trivial⟩ (by decide) ?_
       refine L.alloc rfl rfl rfl (fun A8 => ?_)
       refine L.storeA (j := 4) rfl rfl rfl rfl rfl (Nat.zero_lt_succ _) rfl rfl ?_; refine L.nil (QE.seq (C.seq (C.region ?_))); refine L.step (Ev.loadA rfl rfl rfl (Src.o 3 rfl) rfl rfl (by decide)) rfl ?_; refine L.step (Ev.fieldAddr rfl rfl rfl rfl rfl rfl (Src.o 4 rfl) (Nat.zero_lt_succ _) rfl) rfl ?_; refine L.step (Ev.loadA rfl rfl rfl (Src.o 4 rfl) rfl rfl (by decide)) rfl ?_; refine L.callR (js := []) (js' := [0, 1, 2, 3, 4]) (do2_c exG b exG_ok hb ⟨2, 0, 38, stslot⟩ O1 c1 (by decide) hcb) rfl rfl rfl (by decide) (Hq [2, 3, 4, 5, 0] rfl) rfl ?_
       rintro _ _ _ ⟨d, hd, rfl, rfl, rfl⟩
       refine L.norm (H' := [_, _, _, _, _]) [0, 1, 2, 3, 4] ⟨rfl, rfl, rfl, rfl, rfl, trivial⟩ (by decide) ?_; refine Lpu rfl rfl ?_; refine Lpu rfl rfl ?_; refine Lpu rfl rfl ?_
       refine L.alloc rfl rfl rfl (fun A9 => ?_)
       refine L.storeA (j := 5) rfl rfl rfl rfl rfl (Nat.zero_lt_succ _) rfl rfl ?_; refine Lpu rfl rfl ?_; refine L.nil (QE.seq (C.seq (C.region ?_)))
       refine L.lit rfl rfl rfl rfl rfl (by rfl) (by rfl) (by rfl) rfl rfl (fun A98 => ?_)
       refine Lpu rfl rfl ?_
       refine L.append (j := 6) rfl rfl rfl rfl (by decide) rfl rfl rfl rfl (Src.r 10 rfl) rfl (U8_one _) (by omega) (by show _ * 1 ≤ _; omega) rfl (fun A100 cc100 => ?_)
       refine Lpu rfl rfl ?_; refine L.nil (QE.seq (C.seq (C.region ?_))); refine Lpu rfl rfl ?_; refine Lpu rfl rfl ?_; refine L.step (Ev.idx1 (k := 6) rfl rfl rfl rfl rfl rfl rfl (by decide) (Src.o 6 rfl) (by exact Nat.zero_lt_succ _)) rfl ?_; refine L.store (j := 6) rfl rfl rfl rfl rfl rfl rfl (by rfl) ?_; refine L.step (Ev.idx1 (k := 7) rfl rfl rfl rfl rfl rfl rfl (by decide) (Src.o 6 rfl) (by exact Nat.zero_lt_succ _)) rfl ?_; refine L.store (j := 6) rfl rfl rfl rfl rfl rfl rfl (by rfl) ?_; refine L.nil (QE.seq (C.seq (C.seq ?_))); refine C.freeze 6 rfl [0, 1, 2, 3, 4, 5] (by decide) (by decide) ?_; refine C.norm (H' := [_, _, _, _, _, _]) [0, 1, 2, 3, 4, 5] ⟨rfl, rfl, rfl, rfl, rfl, rfl, trivial⟩ (by decide) ?_; refine C.region ?_; refine L.step (Ev.loadA rfl rfl rfl (Src.o 4 rfl) rfl rfl (by decide)) rfl ?_; refine Lpu rfl rfl ?_; refine L.step (Ev.build rfl rfl rfl rfl rfl rfl rfl) rfl ?_; refine L.step (Ev.build rfl rfl rfl rfl rfl rfl rfl) rfl ?_; refine L.call (js := []) (js' := [0, 1, 2, 3, 4, 5]) (Ctr.tbJ true (lsameJ_c exA ⟨⟨2, 0, 38, stslot⟩, false, 0⟩ O1 A78 c1 _ (by decide) (by decide)) (by kernel_rfl)) rfl rfl rfl (by decide) (Hq [5, 6] rfl) rfl ?_
       rintro _ _ _ ⟨rfl, rfl, rfl⟩
       refine L.norm (H' := [_, _, _, _, _, _]) [0, 1, 2, 3, 4, 5] ⟨rfl, rfl, rfl, rfl, rfl, rfl, trivial⟩ (by decide) ?_; refine Lpu rfl rfl ?_; refine Lpu rfl rfl ?_; refine L.yes rfl ?_; refine Lpu rfl rfl ?_; refine L.yes rfl ?_; refine Lpu rfl rfl ?_; refine Lpu rfl rfl ?_; refine L.nil (QE.seq ?_)
       refine C.condB 114 rfl (fun hc114 => ?_) (fun hc114 => ?_)
       ·
        replace hc114 := b_ne hc114
        exact absurd ex6 hc114
       ·
        replace hc114 := b_eq hc114
        refine C.skip (QE.seq (C.seq (C.region ?_))); refine L.step (Ev.loadA rfl rfl rfl (Src.o 5 rfl) rfl rfl (by decide)) rfl ?_; refine L.step (Ev.loadA rfl rfl rfl (Src.o 1 rfl) rfl rfl (by decide)) rfl ?_; refine L.step (Ev.build rfl rfl rfl rfl rfl rfl rfl) rfl ?_; refine L.callR (js := []) (js' := [0, 1, 2, 3, 4, 5]) (lnext_c exH d exH_ok hd.1 y01 hd.2 sb1 rfl) rfl rfl rfl (by decide) (Hq [1, 2, 3, 4] rfl) rfl ?_
        rintro _ _ _ ⟨O2, c2, rfl, rfl, rfl⟩
        rw [show nextF exH y01.a y01.b sb1 = exB from ex7]
        refine L.norm (H' := [_, _, _, _, _, _]) [0, 1, 2, 3, 4, 5] ⟨rfl, rfl, rfl, rfl, rfl, rfl, trivial⟩ (by decide) ?_
        refine L.alloc rfl rfl rfl (fun A12 => ?_)
        refine L.storeA (j := 6) rfl rfl rfl rfl rfl (Nat.zero_lt_succ _) rfl rfl ?_; refine L.nil (QE.seq (C.seq (C.region ?_))); refine L.call (js := []) (js' := [0, 1, 2, 3, 4, 5, 6]) (blank_c 68 (by decide)) rfl rfl rfl (by decide) trivial rfl ?_
        rintro _ _ _ ⟨A119, rfl, rfl, rfl⟩
        refine L.norm (H' := [_, _, _, _, _, _, _, _]) [0, 1, 2, 3, 4, 5, 6, 7] ⟨rfl, rfl, rfl, rfl, rfl, rfl, rfl, rfl, trivial⟩ (by decide) ?_; refine Lpu rfl rfl ?_; refine L.nil (QE.seq (C.seq (C.seq (C.region ?_)))); refine Lpu rfl rfl ?_; refine L.nil (QE.seq (C.block ?_)); refine C.loop (fun k : Nat => [(1, ptrOf A1 0), (9, ptrOf A9 0), (10, .int .i64 (checkE exG ⟨2, 0, 38, stslot⟩)), (11, .slice A100 30 cc100), (12, ptrOf A12 0), (13, .slice A119 68 68), (14, .int .i64 (k : Int))]) (fun k : Nat => [Rd O2 (U8 exB.x.data), Rd A100 (U8 sbslot), Rd d.D (rowsV d.hs (B8 exH.data)), KidsR d.hs (B8 exH.data), Rd d.W (I64 exH.wear), Rd d.E (Bs exH.dead), Rd O1 (U8 exA.x.data), Rd A78 (U8 stslot), Rd b.D (rowsV b.hs (B8 exG.data)), KidsR b.hs (B8 exG.data), Rd b.W (I64 exG.wear), Rd b.E (Bs exG.dead), Rd Z (U8 zslot), Rd a.D (rowsV a.hs (B8 exS.data)), KidsR a.hs (B8 exS.data), Rd a.W (I64 exS.wear), Rd a.E (Bs exS.dead)]) (fun k : Nat => [Own 39 8 A1 1 1 [.int .i64 0, .int .i64 0, .int .i64 1, .int .i64 0, .int .i64 0, .slice none 0 0, .slice none 0 0, .slice none 0 0], Own 35 5 A9 1 1 (flL exH d), Own 55 6 A12 1 1 [.int .i64 exB.x.kind, .int .i64 exB.x.sec, .int .i64 exB.x.at_, .slice O2 exB.x.data.length c2, .bool exB.done, .int .i64 exB.e], Own 5 1 A119 68 68 (U8 (cont1 68 sbslot k))]) (fun k : Nat => k ≤ 30) (fun k : Nat => 30 - k) 0 (by decide) (by exact Le.mk' (rs := [0, 1, 2, 3, 4, 5, 6, 7, 8, 9, 10, 11, 12, 13, 14, 15, 16]) (hs := [2, 6, 7, 0]) ⟨rfl, rfl, rfl, rfl, rfl, rfl, rfl, trivial⟩ ⟨rfl, rfl, rfl, rfl, rfl, rfl, rfl, rfl, rfl, rfl, rfl, rfl, rfl, rfl, rfl, rfl, rfl, trivial⟩ ⟨rfl, rfl, rfl, (by rw [cont1_zero (by decide)]; rfl), trivial⟩ (by decide)) ?_
        intro k hk
        refine C.seq (C.seq (C.region ?_)); refine Lpu rfl rfl ?_; refine Lpu rfl rfl ?_; refine L.nil (QE.seq ?_)
        refine C.condB 121 rfl (fun hc121 => ?_) (fun hc121 => ?_)
        ·
         replace hc121 := of_decide_eq_true hc121
         refine C.skip (QE.seq (C.seq (C.block (C.region ?_)))); refine Lpu rfl rfl ?_; refine Lpu rfl rfl ?_; refine L.step (Ev.cast (u := .int .i64 ((8 + k : Nat) : Int)) (Ev.add rfl rfl (by omega) (by omega)) (congrArg (Value.int .i64) (by omega))) rfl ?_; refine Lpu rfl rfl ?_; refine Lpu rfl rfl ?_; refine L.step (Ev.idx1 (k := k) rfl rfl rfl rfl rfl rfl rfl (by omega) (Src.r 1 rfl) (by exact Nat.zero_lt_succ _)) rfl ?_; refine L.step (Ev.load rfl rfl rfl (Src.r 1 rfl) (U8_get (by show k < 30; omega))) rfl ?_; refine L.step (Ev.idx1 (k := (8 + k)) rfl rfl rfl rfl rfl rfl rfl (by omega) (Src.o 3 rfl) (by rw [U8_len, cont1_len (by show k ≤ 30; omega) (by decide)]; omega)) rfl ?_; refine L.store (j := 3) rfl rfl rfl rfl rfl rfl rfl (by exact U8_get (by rw [cont1_len (by show k ≤ 30; omega) (by decide)]; omega)) ?_; refine L.nil ?_; refine QE.blkN ?_; refine QE.seq (C.region ?_); refine Lpu rfl rfl ?_; refine L.step (Ev.add rfl rfl (by omega) (by omega)) rfl ?_; refine Lpu rfl rfl ?_; refine L.nil ?_
         refine QE.round (k + 1) (by omega) (by omega) (by exact Le.mk' (rs := [0, 1, 2, 3, 4, 5, 6, 7, 8, 9, 10, 11, 12, 13, 14, 15, 16]) (hs := [0, 1, 2, 3]) ⟨rfl, rfl, rfl, rfl, rfl, rfl, rfl, trivial⟩ ⟨rfl, rfl, rfl, rfl, rfl, rfl, rfl, rfl, rfl, rfl, rfl, rfl, rfl, rfl, rfl, rfl, rfl, trivial⟩ ⟨rfl, rfl, rfl, (by rw [← cont1_set (by show k < 30; omega) (by decide), ← U8_set]; rfl), trivial⟩ (by decide))
        ·
         replace hc121 := of_decide_eq_false hc121
         refine C.exit ?_; refine QE.tX ?_; refine QE.tX ?_; refine QE.blk ?_; refine QE.seq (C.seq ?_)
         obtain rfl : k = 30 := by omega
         rw [show cont1 68 sbslot 30 = contF 68 0 sbslot from cont1_all]
         refine C.freeze 3 rfl [0, 1, 2] (by decide) (by decide) ?_; refine C.norm (H' := [_, _, _]) [0, 1, 2] ⟨rfl, rfl, rfl, trivial⟩ (by decide) ?_; refine C.region ?_; refine L.step (Ev.loadA rfl rfl rfl (Src.o 1 rfl) rfl rfl (by decide)) rfl ?_; refine L.step (Ev.fieldAddr rfl rfl rfl rfl rfl rfl (Src.o 2 rfl) (Nat.zero_lt_succ _) rfl) rfl ?_; refine L.step (Ev.loadA rfl rfl rfl (Src.o 2 rfl) rfl rfl (by decide)) rfl ?_; refine L.callR (js := []) (js' := [0, 1, 2]) (do2_c exH d exH_ok hd.1 ⟨2, 1, 0, contF 68 0 sbslot⟩ O2 c2 (by decide) hd.2) rfl rfl rfl (by decide) (Hq [3, 4, 5, 6, 1] rfl) rfl ?_
         rintro _ _ _ ⟨e, he, rfl, rfl, rfl⟩
         refine L.norm (H' := [_, _, _]) [0, 1, 2] ⟨rfl, rfl, rfl, trivial⟩ (by decide) ?_; refine Lpu rfl rfl ?_; refine Lpu rfl rfl ?_; refine Lpu rfl rfl ?_
         refine L.alloc rfl rfl rfl (fun A15 => ?_)
         refine L.storeA (j := 3) rfl rfl rfl rfl rfl (Nat.zero_lt_succ _) rfl rfl ?_; refine Lpu rfl rfl ?_; refine L.nil (QE.seq (C.seq (C.seq (C.region ?_)))); refine L.step (Ev.loadA rfl rfl rfl (Src.o 2 rfl) rfl rfl (by decide)) rfl ?_; refine Lpu rfl rfl ?_; refine L.step (Ev.build rfl rfl rfl rfl rfl rfl rfl) rfl ?_; refine L.step (Ev.build rfl rfl rfl rfl rfl rfl rfl) rfl ?_; refine L.call (js := []) (js' := [0, 1, 2, 3]) (Ctr.tbJ true (lsameJ_c exB ⟨⟨2, 1, 0, contF 68 0 sbslot⟩, false, 0⟩ O2 A119 c2 _ (by decide) (by decide)) (by kernel_rfl)) rfl rfl rfl (by decide) (Hq [5, 4] rfl) rfl ?_
         rintro _ _ _ ⟨rfl, rfl, rfl⟩
         refine L.norm (H' := [_, _, _, _]) [0, 1, 2, 3] ⟨rfl, rfl, rfl, rfl, trivial⟩ (by decide) ?_; refine Lpu rfl rfl ?_; refine Lpu rfl rfl ?_; refine L.yes rfl ?_; refine Lpu rfl rfl ?_; refine L.yes rfl ?_; refine Lpu rfl rfl ?_; refine Lpu rfl rfl ?_; refine L.nil (QE.seq ?_)
         refine C.condB 148 rfl (fun hc148 => ?_) (fun hc148 => ?_)
         ·
          replace hc148 := b_ne hc148
          exact absurd ex8 hc148
         ·
          replace hc148 := b_eq hc148
          refine C.skip (QE.seq (C.seq (C.region ?_))); refine L.step (Ev.loadA rfl rfl rfl (Src.o 3 rfl) rfl rfl (by decide)) rfl ?_; refine L.step (Ev.loadA rfl rfl rfl (Src.o 0 rfl) rfl rfl (by decide)) rfl ?_; refine L.step (Ev.build rfl rfl rfl rfl rfl rfl rfl) rfl ?_; refine L.callR (js := []) (js' := [0, 1, 2, 3]) (lnext_c exJ e exJ_ok he.1 y01 he.2 sb1 rfl) rfl rfl rfl (by decide) (Hq [0, 1, 2, 3] rfl) rfl ?_
          rintro _ _ _ ⟨O3, c3, rfl, rfl, rfl⟩
          rw [show nextF exJ y01.a y01.b sb1 = exC from ex9]
          refine L.norm (H' := [_, _, _, _]) [0, 1, 2, 3] ⟨rfl, rfl, rfl, rfl, trivial⟩ (by decide) ?_
          refine L.alloc rfl rfl rfl (fun A17 => ?_)
          refine L.storeA (j := 4) rfl rfl rfl rfl rfl (Nat.zero_lt_succ _) rfl rfl ?_; refine L.nil (QE.seq (C.seq (C.region ?_))); refine L.step (Ev.loadA rfl rfl rfl (Src.o 4 rfl) rfl rfl (by decide)) rfl ?_
          refine L.lit rfl rfl rfl rfl rfl (by rfl) (by rfl) (by rfl) rfl rfl (fun A154 => ?_)
          refine L.step (Ev.build rfl rfl rfl rfl rfl rfl rfl) rfl ?_; refine L.step (Ev.build rfl rfl rfl rfl rfl rfl rfl) rfl ?_; refine L.freeze 5 rfl [0, 1, 2, 3, 4] (by decide) (by decide) ?_; refine L.norm (H' := [_, _, _, _, _]) [0, 1, 2, 3, 4] ⟨rfl, rfl, rfl, rfl, rfl, trivial⟩ (by decide) ?_; refine L.call (js := []) (js' := [0, 1, 2, 3, 4]) (Ctr.tbJ true (lsameJ_c exC exC O3 A154 c3 _ (by decide) (by decide)) (by kernel_rfl)) rfl rfl rfl (by decide) (Hq [1, 0] rfl) rfl ?_
          rintro _ _ _ ⟨rfl, rfl, rfl⟩
          refine L.norm (H' := [_, _, _, _, _]) [0, 1, 2, 3, 4] ⟨rfl, rfl, rfl, rfl, rfl, trivial⟩ (by decide) ?_; refine Lpu rfl rfl ?_; refine L.yes rfl ?_; refine L.step (Ev.build rfl rfl rfl rfl rfl rfl rfl) rfl ?_; refine L.yes rfl ?_; refine L.call (js := []) (js' := [0, 1, 2, 3, 4]) (slotP_c sng rfl) rfl rfl rfl (by decide) trivial rfl ?_
          rintro _ _ _ ⟨NO, nc, rfl, hno, rfl, rfl⟩
          refine L.norm (H' := [_, _, _, _, _, _]) [0, 1, 2, 3, 4, 5] ⟨rfl, rfl, rfl, rfl, rfl, rfl, trivial⟩ (by decide) ?_; refine L.yes rfl ?_; refine Lpu rfl rfl ?_; refine L.yes rfl ?_; refine Lpu rfl rfl ?_; refine Lpu rfl rfl ?_; refine Lpu rfl rfl ?_
          refine L.bool 164 rfl (fun hg164 => ?_) (fun hg164 => ?_)
          ·
           replace hg164 := i_eq hg164
           refine L.yes rfl ?_; refine L.step (Ev.loadA rfl rfl rfl (Src.o 4 rfl) rfl rfl (by decide)) rfl ?_; refine L.yes rfl ?_; refine L.step (Ev.loadA rfl rfl rfl (Src.o 1 rfl) rfl rfl (by decide)) rfl ?_; refine L.yes rfl ?_; refine L.step (Ev.build rfl rfl rfl rfl rfl rfl rfl) rfl ?_; refine L.yes rfl ?_; refine L.callR (js := []) (js' := [0, 1, 2, 3, 4, 5]) (lnext_c exJ e exJ_ok he.1 y01 he.2 st1 rfl) rfl rfl rfl (by decide) (Hq [2, 3, 4, 5] rfl) rfl ?_
           rintro _ _ _ ⟨O4, c4, rfl, rfl, rfl⟩
           refine L.norm (H' := [_, _, _, _, _, _]) [0, 1, 2, 3, 4, 5] ⟨rfl, rfl, rfl, rfl, rfl, rfl, trivial⟩ (by decide) ?_; refine L.yes rfl ?_; refine Lpu rfl rfl ?_; refine Lpu rfl rfl ?_; refine Lpu rfl rfl ?_; refine L.nil (QE.seq (C.ret ?_)); refine QE.ret (js := []) (hs := []) (vs := [_]) rfl ⟨rfl, trivial⟩ (by decide) ?_
           exact ⟨congrArg Value.bool ex11, rfl, rfl⟩
          ·
           replace hg164 := i_ne hg164
           exact absurd (by rw [ex10]; rfl) hg164

end Go.Proofs.Ytmbjknampholjaa
