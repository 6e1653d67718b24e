/-
  The law LabelKeeps.
-/
import Derived.Test.YtkjhcjhfegakoaaVWLbd
import Derived.Test.YtkjhcjhfegakoaaVLas
namespace Go.Proofs.Ytkjhcjhfegakoaa
open Go.Sl

theorem insN_bd {l : List Nat} (h : W32 l) {i : Nat} (hi : i ≤ 100000) : -100000000 ≤ (insAt l i).n ∧ (insAt l i).n ≤ 5000000000 := by
 have hw := h i
 unfold insAt
 generalize l.getD i 0 = w at hw
 have h1 := sgn_le (m := w % 16777216) (h := 8388608) (by omega) (by decide)
 have h2 := sgn_le (m := w % 65536) (h := 32768) (by omega) (by decide)
 have h3 : w % 65536 < 65536 := Nat.mod_lt _ (by decide)
 unfold decF datI
 generalize sgn (w % 16777216) 8388608 = s at h1 ⊢
 generalize sgn (w % 65536) 32768 = r at h2 ⊢
 split
 · split
   · exact ⟨by dsimp only; omega, by dsimp only; omega⟩
   · exact ⟨by dsimp only; omega, by dsimp only; omega⟩
 · split
   · exact ⟨by dsimp only; omega, by dsimp only; omega⟩
   · split
     · split
       · exact ⟨by dsimp only; omega, by dsimp only; omega⟩
       · exact ⟨by dsimp only; omega, by dsimp only; omega⟩
     · split
       · split
         · exact ⟨by dsimp only; omega, by dsimp only; omega⟩
         · exact ⟨by dsimp only; omega, by dsimp only; omega⟩
       · split
         · split
           · exact ⟨by dsimp only; omega, by dsimp only; omega⟩
           · exact ⟨by dsimp only; omega, by dsimp only; omega⟩
         · exact ⟨by dsimp only; omega, by dsimp only; omega⟩

set_option maxHeartbeats 4000000 in
theorem lKeeps_c (LA : Option Addr) (l : List (List UInt8)) (lc : Nat) (hll : l.length ≤ 9223372036854775807) (u v : UInt8) :
   Ctr X 9 [.slice LA l.length lc, .agg (List.toArray [.int .u8 (u.toNat : Int), .int .u8 (v.toNat : Int)])] [Rd LA (frV l)] [] (fun v R' H' => v = .bool true ∧ R' = [] ∧ H' = []) := by
 refine Ctr.of (X := X) (fn := Try.f9) Try.func9 rfl (by kernel_rfl) rfl ?_
 intro β
 refine C.seq (C.region ?_)
 refine L.boxA rfl rfl (fun A3 => ?_)
 refine Lpu rfl rfl ?_; refine L.nil (QE.seq (C.seq ?_)); refine C.freeze 0 rfl [] (by decide) (by decide) ?_; refine C.region ?_; refine L.call (js := []) (js' := []) (sanity03_c) rfl rfl rfl (by decide) trivial rfl ?_
 rintro _ _ _ ⟨rfl, rfl, rfl⟩
 refine Lpu rfl rfl ?_; refine L.nil (QE.seq (C.seq (C.region ?_))); refine Lpu rfl rfl ?_; refine L.call (js := []) (js' := []) (code_c LA l lc 12 hll (by decide)) rfl rfl rfl (by decide) (Hq [1] rfl) rfl ?_
 rintro _ _ _ ⟨B, bc, rfl, rfl, rfl⟩
 refine L.norm (H' := [_]) [0] ⟨rfl, trivial⟩ (by decide) ?_; refine Lpu rfl rfl ?_; refine L.nil (QE.seq (C.seq ?_))
 refine C.cap 0 rfl (fun hbc => ?_)
 have hbl := codB_len l 12
 have hb4 := codB_four l 12
 have hco : codeB (codB l 12) := codB_code l (by decide)
 have hxl := lift_len hco
 have hll3 := low_lift_yes hco
 have hx32 := liftR_w32 (codB l 12)
 have hml : (movB (codB l 12) ((atF u (codB l 12).length) : Int) ((byF v) : Int)).length ≤ 1000000 := movB_len hco _ _
 have hat : (atF u (codB l 12).length) ≤ ((codB l 12).length / 4) := atF_le u _
 have hby : (byF v) < 10 := byF_lt v
 have hpu := UInt8.toNat_lt u
 have hqu := UInt8.toNat_lt v
 have hmn := mov_none hco hat
 have hWl := wordsF_len (codB l 12)
 have hW32 := wordsF_w32 (codB l 12)
 refine C.freeze 0 rfl [] (by decide) (by decide) ?_; refine C.regionQ (by kernel_rfl) ?_; refine LQ.step (Ev.idxArr (k := 0) (m := 0) rfl rfl rfl rfl rfl rfl (by decide) (Src.r 1 rfl) (by exact Nat.zero_lt_succ _) rfl) rfl ?_; refine LQ.step (Ev.load rfl rfl rfl (Src.r 1 rfl) rfl) rfl ?_
 first | refine LQ.step (Ev.byteInt rfl rfl rfl rfl) rfl ?_ | refine LQ.step (Ev.toInt rfl rfl rfl rfl (by omega) (by omega)) rfl ?_
 refine LQ.step (Ev.pure rfl) rfl ?_; refine LQ.step (Ev.pure rfl) rfl ?_; refine LQ.step (Ev.cast (u := .int .i64 ((((codB l 12).length / 4) : Nat) : Int)) (Ev.quo rfl rfl (by omega) (by decide) (by omega)) (congrArg (Value.int .i64) (by omega))) rfl ?_; refine LQ.step (Ev.cast (u := .int .i64 ((((codB l 12).length / 4) + 1 : Nat) : Int)) (Ev.add rfl rfl (by omega) (by omega)) (congrArg (Value.int .i64) (by omega))) rfl ?_; refine LQ.step (Ev.cast (u := .int .i64 (((atF u (codB l 12).length) : Nat) : Int)) (Ev.rem rfl rfl (by omega) (by omega)) (congrArg (Value.int .i64) (by unfold atF; omega))) rfl ?_; refine LQ.step (Ev.idxArr (k := 1) (m := 1) rfl rfl rfl rfl rfl rfl (by decide) (Src.r 1 rfl) (by exact Nat.zero_lt_succ _) rfl) rfl ?_; refine LQ.step (Ev.load rfl rfl rfl (Src.r 1 rfl) rfl) rfl ?_
 first | refine LQ.step (Ev.byteInt rfl rfl rfl rfl) rfl ?_ | refine LQ.step (Ev.toInt rfl rfl rfl rfl (by omega) (by omega)) rfl ?_
 refine LQ.step (Ev.cast (u := .int .i64 (((byF v) : Nat) : Int)) (Ev.rem rfl rfl (by omega) (by decide)) (congrArg (Value.int .i64) (by unfold byF; omega))) rfl ?_; refine LQ.step (Ev.pure rfl) rfl ?_; refine LQ.step (Ev.pure rfl) rfl ?_; refine LQ.nil ?_; refine QE.seq (C.seq (C.region ?_)); refine Lpu rfl rfl ?_; refine Lpu rfl rfl ?_; refine Lpu rfl rfl ?_; refine L.call (js := []) (js' := []) (moved_c B (codB l 12) bc hbc (by omega) ((atF u (codB l 12).length) : Int) ((byF v) : Int)) rfl rfl rfl (by decide) (Hq [0] rfl) rfl ?_
 rintro _ _ _ ⟨Y41, y41, rfl, rfl, rfl⟩
 refine L.norm (H' := [_]) [0] ⟨rfl, trivial⟩ (by decide) ?_; refine Lpu rfl rfl ?_; refine Lpu rfl rfl ?_; refine Lpu rfl rfl ?_; refine Lpu rfl rfl ?_; refine Lpu rfl rfl ?_; refine L.nil (QE.seq (C.seq ?_))
 refine C.cap 0 rfl (fun hmc => ?_)
 refine C.freeze 0 rfl [] (by decide) (by decide) ?_; refine C.region ?_; refine Lpu rfl rfl ?_; refine Lpu rfl rfl ?_; refine L.call (js := []) (js' := []) (moved_k B (codB l 12) bc hbc (by omega) ((atF u (codB l 12).length) : Int) 0 (codB l 12) 0 hmn.1 hmn.2) rfl rfl rfl (by decide) (Hq [1] rfl) rfl ?_
 rintro _ _ _ ⟨Y47, y47, rfl, rfl, rfl⟩
 refine L.norm (H' := [_]) [0] ⟨rfl, trivial⟩ (by decide) ?_; refine Lpu rfl rfl ?_; refine Lpu rfl rfl ?_; refine Lpu rfl rfl ?_; refine Lpu rfl rfl ?_; refine Lpu rfl rfl ?_; refine L.nil (QE.seq (C.seq (C.seq ?_))); refine C.freeze 0 rfl [] (by decide) (by decide) ?_; refine C.region ?_; refine Lpu rfl rfl ?_; refine Lpu rfl rfl ?_; refine Lpu rfl rfl ?_
 refine L.bool 52 rfl (fun hg52 => ?_) (fun hg52 => ?_)
 ·
  replace hg52 := b_ne hg52
  first | exact absurd rfl hg52 | omega | exact absurd rfl hc52
 ·
  replace hg52 := b_eq hg52
  refine L.yes rfl ?_; refine Lpu rfl rfl ?_; refine L.yes rfl ?_; refine Lpu rfl rfl ?_; refine L.yes rfl ?_; refine L.call (js := []) (js' := []) (Ctr.tbL true (same_c Y47 B y47 bc (codB l 12) (codB l 12) (by omega) (by omega)) (beq_self_eq_true _)) rfl rfl rfl (by decide) (Hq [0, 2] rfl) rfl ?_
  rintro _ _ _ ⟨rfl, rfl, rfl⟩
  refine L.yes rfl ?_; refine Lpu rfl rfl ?_; refine Lpu rfl rfl ?_; refine L.nil (QE.seq ?_)
  refine C.cond rfl (fun h => by cases h) (fun _ => ?_)
  refine C.skip (QE.seq (C.seq (C.seq (C.region ?_)))); refine Lpu rfl rfl ?_; refine Lpu rfl rfl ?_; refine L.nil (QE.seq ?_)
  refine C.condB 59 rfl (fun hc59 => ?_) (fun hc59 => ?_)
  ·
   replace hc59 := b_ne hc59
   refine C.seq (C.region ?_); refine Lpu rfl rfl ?_; refine Lpu rfl rfl ?_; refine L.nil (QE.seq (C.ret (QE.tR ?_))); refine QE.ret (js := []) (hs := []) (vs := [_]) rfl ⟨rfl, trivial⟩ (by decide) ?_
   exact ⟨rfl, rfl, rfl⟩
  ·
   replace hc59 := b_eq hc59
   obtain ⟨hmv, hm32, hmo⟩ := movd hco hat hc59
   have hnl := hmv.l
   have hmbl := wordsF_len (movB (codB l 12) ((atF u (codB l 12).length) : Int) ((byF v) : Int))
   refine C.skip (QE.seq (C.seq (C.region ?_))); refine Lpu rfl rfl ?_; refine L.call (js := []) (js' := []) (words_k B (codB l 12) bc hbc (by omega) (wordsF (codB l 12)) 0 (if_pos hb4) (if_pos hb4)) rfl rfl rfl (by decide) (Hq [2] rfl) rfl ?_
   rintro _ _ _ ⟨V63, v63, rfl, rfl, rfl⟩
   refine L.norm (H' := [_]) [0] ⟨rfl, trivial⟩ (by decide) ?_; refine Lpu rfl rfl ?_; refine Lpu rfl rfl ?_; refine Lpu rfl rfl ?_; refine Lpu rfl rfl ?_; refine Lpu rfl rfl ?_; refine L.nil (QE.seq (C.seq ?_)); refine C.freeze 0 rfl [] (by decide) (by decide) ?_; refine C.region ?_; refine Lpu rfl rfl ?_; refine L.call (js := []) (js' := []) (words_k Y41 (movB (codB l 12) ((atF u (codB l 12).length) : Int) ((byF v) : Int)) y41 hmc hml (wordsF (movB (codB l 12) ((atF u (codB l 12).length) : Int) ((byF v) : Int))) 0 (if_pos hmo.1) (if_pos hmo.1)) rfl rfl rfl (by decide) (Hq [2] rfl) rfl ?_
   rintro _ _ _ ⟨V68, v68, rfl, rfl, rfl⟩
   refine L.norm (H' := [_]) [0] ⟨rfl, trivial⟩ (by decide) ?_; refine Lpu rfl rfl ?_; refine Lpu rfl rfl ?_; refine Lpu rfl rfl ?_; refine Lpu rfl rfl ?_; refine Lpu rfl rfl ?_; refine L.nil (QE.seq (C.seq (C.seq ?_))); refine C.freeze 0 rfl [] (by decide) (by decide) ?_; refine C.region ?_; refine Lpu rfl rfl ?_; refine Lpu rfl rfl ?_; refine Lpu rfl rfl ?_
   refine L.bool 73 rfl (fun hg73 => ?_) (fun hg73 => ?_)
   ·
    replace hg73 := b_ne hg73
    first | exact absurd rfl hg73 | omega | exact absurd rfl hc73
   ·
    replace hg73 := b_eq hg73
    refine L.yes rfl ?_; refine Lpu rfl rfl ?_; refine L.yes rfl ?_; refine Lpu rfl rfl ?_; refine Lpu rfl rfl ?_; refine Lpu rfl rfl ?_
    refine L.bool 77 rfl (fun hg77 => ?_) (fun hg77 => ?_)
    ·
     replace hg77 := b_ne hg77
     first | exact absurd rfl hg77 | omega | exact absurd rfl hc77
    ·
     replace hg77 := b_eq hg77
     refine L.yes rfl ?_; refine Lpu rfl rfl ?_; refine L.yes rfl ?_; refine Lpu rfl rfl ?_; refine L.yes rfl ?_; refine Lpu rfl rfl ?_; refine L.yes rfl ?_; refine Lpu rfl rfl ?_; refine L.yes rfl ?_; refine Lpu rfl rfl ?_; refine L.yes rfl ?_; refine L.step (Ev.cast (u := .int .i64 (((wordsF (codB l 12)).length + (byF v) : Nat) : Int)) (Ev.add rfl rfl (by omega) (by omega)) (congrArg (Value.int .i64) (by omega))) rfl ?_; refine L.yes rfl ?_; refine Lpu rfl rfl ?_; refine Lpu rfl rfl ?_; refine L.nil (QE.seq ?_)
     refine C.condB 85 rfl (fun hc85 => ?_) (fun hc85 => ?_)
     ·
      replace hc85 := b_ne hc85
      omega
     ·
      replace hc85 := b_eq hc85
      refine C.skip (QE.seq (C.seq (C.seq (C.region ?_)))); refine Lpu rfl rfl ?_; refine L.nil (QE.seq (C.block ?_)); refine C.loop (fun i : Nat => [(5, .bool true), (6, .slice B (codB l 12).length bc), (7, .int .i64 ((atF u (codB l 12).length) : Int)), (8, .int .i64 ((byF v) : Int)), (13, .slice V63 (wordsF (codB l 12)).length v63), (15, .slice V68 (wordsF (movB (codB l 12) ((atF u (codB l 12).length) : Int) ((byF v) : Int))).length v68), (17, .int .i64 (i : Int))]) (fun i : Nat => [Rd B (U8 (codB l 12)), Rd V63 (N32 (wordsF (codB l 12))), Rd V68 (N32 (wordsF (movB (codB l 12) ((atF u (codB l 12).length) : Int) ((byF v) : Int))))]) (fun i : Nat => []) (fun i : Nat => i ≤ (wordsF (codB l 12)).length) (fun i : Nat => (wordsF (codB l 12)).length - i) 0 (Nat.zero_le _) (by exact Le.mk' (rs := [4, 1, 0]) (hs := []) ⟨rfl, rfl, rfl, rfl, rfl, rfl, rfl, trivial⟩ ⟨rfl, rfl, rfl, trivial⟩ trivial (by decide)) ?_
      intro i hi
      refine C.seq (C.seq (C.region ?_)); refine Lpu rfl rfl ?_; refine Lpu rfl rfl ?_; refine Lpu rfl rfl ?_; refine Lpu rfl rfl ?_; refine L.nil (QE.seq ?_)
      refine C.condB 89 rfl (fun hc89 => ?_) (fun hc89 => ?_)
      ·
       replace hc89 := of_decide_eq_true hc89
       have hin := hmv.in_ (i := i) (by omega)
       refine C.skip (QE.seq (C.seq (C.block (C.seq (C.region ?_))))); refine Lpu rfl rfl ?_; refine Lpu rfl rfl ?_; refine L.nil (QE.seq ?_); refine C.seqJ (fun o : Unit => [(5, .bool true), (6, .slice B (codB l 12).length bc), (7, .int .i64 ((atF u (codB l 12).length) : Int)), (8, .int .i64 ((byF v) : Int)), (13, .slice V63 (wordsF (codB l 12)).length v63), (15, .slice V68 (wordsF (movB (codB l 12) ((atF u (codB l 12).length) : Int) ((byF v) : Int))).length v68), (17, .int .i64 (i : Int)), (18, .int .i64 ((newAt (atF u (codB l 12).length) (byF v) i) : Int))]) (fun o : Unit => [Rd B (U8 (codB l 12)), Rd V63 (N32 (wordsF (codB l 12))), Rd V68 (N32 (wordsF (movB (codB l 12) ((atF u (codB l 12).length) : Int) ((byF v) : Int))))]) (fun o : Unit => []) (fun o : Unit => True) ?_ ?_
       ·
        refine C.seq (C.region ?_); refine Lpu rfl rfl ?_; refine Lpu rfl rfl ?_; refine Lpu rfl rfl ?_; refine L.nil (QE.seq ?_)
        refine C.condB 95 rfl (fun hc95 => ?_) (fun hc95 => ?_)
        ·
         replace hc95 := of_decide_eq_true hc95
         refine C.region ?_; refine Lpu rfl rfl ?_; refine Lpu rfl rfl ?_; refine L.step (Ev.cast (u := .int .i64 ((i + (byF v) : Nat) : Int)) (Ev.add rfl rfl (by omega) (by omega)) (congrArg (Value.int .i64) (by omega))) rfl ?_; refine Lpu rfl rfl ?_; refine L.nil ?_
         refine QE.join (()) (by exact trivial) (by exact Le.mk' (rs := [0, 1, 2]) (hs := []) ⟨rfl, rfl, rfl, rfl, rfl, rfl, rfl, (congrArg (fun z : Nat => some (Value.int .i64 (z : Int))) (by unfold newAt; rw [if_pos (by omega)])), trivial⟩ ⟨rfl, rfl, rfl, trivial⟩ trivial (by decide))
        ·
         replace hc95 := of_decide_eq_false hc95
         refine C.skip ?_
         refine QE.join (()) (by exact trivial) (by exact Le.mk' (rs := [0, 1, 2]) (hs := []) ⟨rfl, rfl, rfl, rfl, rfl, rfl, rfl, (congrArg (fun z : Nat => some (Value.int .i64 (z : Int))) (by unfold newAt; rw [if_neg (by omega)])), trivial⟩ ⟨rfl, rfl, rfl, trivial⟩ trivial (by decide))
       ·
        intro _ _
        refine C.seq ?_; refine C.join (fun q : Option Addr × Option Addr => [(5, .bool true), (6, .slice B (codB l 12).length bc), (7, .int .i64 ((atF u (codB l 12).length) : Int)), (8, .int .i64 ((byF v) : Int)), (13, .slice V63 (wordsF (codB l 12)).length v63), (15, .slice V68 (wordsF (movB (codB l 12) ((atF u (codB l 12).length) : Int) ((byF v) : Int))).length v68), (17, .int .i64 (i : Int)), (18, .int .i64 ((newAt (atF u (codB l 12).length) (byF v) i) : Int)), (19, ptrOf q.1 0), (20, ptrOf q.2 0)]) (fun q : Option Addr × Option Addr => [Rd B (U8 (codB l 12)), Rd V63 (N32 (wordsF (codB l 12))), Rd V68 (N32 (wordsF (movB (codB l 12) ((atF u (codB l 12).length) : Int) ((byF v) : Int))))]) (fun q : Option Addr × Option Addr => [Own 51 5 q.1 1 1 (in5 (insAt (wordsF (codB l 12)) i)), Own 51 5 q.2 1 1 (in5 (insAt (wordsF (movB (codB l 12) ((atF u (codB l 12).length) : Int) ((byF v) : Int))) (newAt (atF u (codB l 12).length) (byF v) i)))]) (fun q : Option Addr × Option Addr => True) ?_ ?_
        ·
         refine C.regionM [Rd B (U8 (codB l 12)), Rd V63 (N32 (wordsF (codB l 12))), Rd V68 (N32 (wordsF (movB (codB l 12) ((atF u (codB l 12).length) : Int) ((byF v) : Int))))] (Hq [0, 1, 2] rfl) ?_; refine LM.q 0 rfl (by kernel_rfl) (Ev.pure rfl) rfl (Hq [0, 1, 2] rfl) ?_; refine LM.q 1 rfl (by kernel_rfl) (Ev.pure rfl) rfl (Hq [0, 1, 2] rfl) ?_; refine LM.q 2 rfl (by kernel_rfl) (Ev.idx1 (k := i) rfl rfl rfl rfl rfl rfl rfl (by omega) (Src.r 1 rfl) (by rw [N32_len]; omega)) rfl (Hq [0, 1, 2] rfl) ?_; refine LM.q 3 rfl (by kernel_rfl) (Ev.load rfl rfl rfl (Src.r 1 rfl) (N32_get (by omega))) rfl (Hq [0, 1, 2] rfl) ?_; refine LM.q 4 rfl (by kernel_rfl) (Ev.pure rfl) rfl (Hq [0, 1, 2] rfl) ?_; refine LM.q 5 rfl (by kernel_rfl) (Ev.mul rfl rfl (by omega) (by omega)) rfl (Hq [0, 1, 2] rfl) ?_; refine LM.q 7 rfl (by kernel_rfl) (Ev.pure rfl) rfl (Hq [0, 1, 2] rfl) ?_; refine LM.q 8 rfl (by kernel_rfl) (Ev.pure rfl) rfl (Hq [0, 1, 2] rfl) ?_; refine LM.q 9 rfl (by kernel_rfl) (Ev.idx1 (k := (newAt (atF u (codB l 12).length) (byF v) i)) rfl rfl rfl rfl rfl rfl rfl (by omega) (Src.r 2 rfl) (by rw [N32_len]; omega)) rfl (Hq [0, 1, 2] rfl) ?_; refine LM.q 10 rfl (by kernel_rfl) (Ev.load rfl rfl rfl (Src.r 2 rfl) (N32_get (by omega))) rfl (Hq [0, 1, 2] rfl) ?_; refine LM.q 11 rfl (by kernel_rfl) (Ev.pure rfl) rfl (Hq [0, 1, 2] rfl) ?_; refine LM.q 12 rfl (by kernel_rfl) (Ev.mul rfl rfl (by omega) (by omega)) rfl (Hq [0, 1, 2] rfl) ?_
         refine LM.alt [6, 14, 15] (by kernel_rfl) (by decide) (Hq [0, 1, 2] rfl) ⟨⟨_, rfl, ?_⟩, ⟨_, rfl, ?_⟩, ⟨_, rfl, ?_⟩, trivial⟩
         ·
          refine L.call (js := []) (js' := []) (decode_c ((wordsF (codB l 12)).getD i 0) (4 * (i : Int)) (hW32 i) (by omega)) rfl rfl rfl (by decide) trivial rfl ?_
          rintro _ _ _ ⟨rfl, rfl, rfl⟩
          refine L.nil (QE.m (by kernel_rfl) ?_)
          refine LM.alt [13, 14, 15] (by kernel_rfl) (by decide) (Hq [0, 1, 2] rfl) ⟨⟨_, rfl, ?_⟩, ⟨_, rfl, ?_⟩, ⟨_, rfl, ?_⟩, trivial⟩
          ·
           refine L.call (js := []) (js' := []) (decode_c ((wordsF (movB (codB l 12) ((atF u (codB l 12).length) : Int) ((byF v) : Int))).getD (newAt (atF u (codB l 12).length) (byF v) i) 0) (4 * ((newAt (atF u (codB l 12).length) (byF v) i) : Int)) (hm32 _) (by omega)) rfl rfl rfl (by decide) trivial rfl ?_
           rintro _ _ _ ⟨rfl, rfl, rfl⟩
           refine L.nil (QE.m (by kernel_rfl) ?_)
           refine LM.alt [14, 15] (by kernel_rfl) (by decide) (Hq [0, 1, 2] rfl) ⟨⟨_, rfl, ?_⟩, ⟨_, rfl, ?_⟩, trivial⟩
           ·
            refine L.alloc rfl rfl rfl (fun A19 => ?_)
            refine L.nil (QE.m (by kernel_rfl) ?_)
            refine LM.f 15 rfl (by kernel_rfl) (Hq [0, 1, 2] rfl) ?_
            refine L.alloc rfl rfl rfl (fun A20 => ?_)
            refine L.nil (QE.m (by kernel_rfl) ?_)
            refine LM.cut [] (by kernel_rfl) (Hq [0, 1, 2] rfl) ?_; refine LM.f 16 rfl (by kernel_rfl) trivial ?_; refine L.storeA (j := 0) rfl rfl rfl rfl rfl (Nat.zero_lt_succ _) rfl rfl ?_
            refine L.nil (QE.m (by kernel_rfl) ?_)
            refine LM.f 17 rfl (by kernel_rfl) trivial ?_; refine L.storeA (j := 1) rfl rfl rfl rfl rfl (Nat.zero_lt_succ _) rfl rfl ?_
            refine L.nil (QE.m (by kernel_rfl) ?_)
            refine LM.nil (by kernel_rfl) trivial ?_
            refine QE.joined ((A19, A20)) (by exact trivial) (by exact Le.mk' (rs := [0, 1, 2]) (hs := [0, 1]) ⟨rfl, rfl, rfl, rfl, rfl, rfl, rfl, rfl, rfl, rfl, trivial⟩ ⟨rfl, rfl, rfl, trivial⟩ ⟨rfl, rfl, trivial⟩ (by decide))
           ·
            refine L.alloc rfl rfl rfl (fun A20 => ?_)
            refine L.nil (QE.m (by kernel_rfl) ?_)
            refine LM.f 14 rfl (by kernel_rfl) (Hq [0, 1, 2] rfl) ?_
            refine L.alloc rfl rfl rfl (fun A19 => ?_)
            refine L.nil (QE.m (by kernel_rfl) ?_)
            refine LM.cut [] (by kernel_rfl) (Hq [0, 1, 2] rfl) ?_; refine LM.f 16 rfl (by kernel_rfl) trivial ?_; refine L.storeA (j := 1) rfl rfl rfl rfl rfl (Nat.zero_lt_succ _) rfl rfl ?_
            refine L.nil (QE.m (by kernel_rfl) ?_)
            refine LM.f 17 rfl (by kernel_rfl) trivial ?_; refine L.storeA (j := 0) rfl rfl rfl rfl rfl (Nat.zero_lt_succ _) rfl rfl ?_
            refine L.nil (QE.m (by kernel_rfl) ?_)
            refine LM.nil (by kernel_rfl) trivial ?_
            refine QE.joined ((A19, A20)) (by exact trivial) (by exact Le.mk' (rs := [0, 1, 2]) (hs := [1, 0]) ⟨rfl, rfl, rfl, rfl, rfl, rfl, rfl, rfl, rfl, rfl, trivial⟩ ⟨rfl, rfl, rfl, trivial⟩ ⟨rfl, rfl, trivial⟩ (by decide))
          ·
           refine L.alloc rfl rfl rfl (fun A19 => ?_)
           refine L.nil (QE.m (by kernel_rfl) ?_)
           refine LM.alt [13, 15] (by kernel_rfl) (by decide) (Hq [0, 1, 2] rfl) ⟨⟨_, rfl, ?_⟩, ⟨_, rfl, ?_⟩, trivial⟩
           ·
            refine L.call (js := []) (js' := [0]) (decode_c ((wordsF (movB (codB l 12) ((atF u (codB l 12).length) : Int) ((byF v) : Int))).getD (newAt (atF u (codB l 12).length) (byF v) i) 0) (4 * ((newAt (atF u (codB l 12).length) (byF v) i) : Int)) (hm32 _) (by omega)) rfl rfl rfl (by decide) trivial rfl ?_
            rintro _ _ _ ⟨rfl, rfl, rfl⟩
            refine L.norm (H' := [_]) [0] ⟨rfl, trivial⟩ (by decide) ?_
            refine L.nil (QE.m (by kernel_rfl) ?_)
            refine LM.f 15 rfl (by kernel_rfl) (Hq [0, 1, 2] rfl) ?_
            refine L.alloc rfl rfl rfl (fun A20 => ?_)
            refine L.nil (QE.m (by kernel_rfl) ?_)
            refine LM.cut [] (by kernel_rfl) (Hq [0, 1, 2] rfl) ?_; refine LM.f 16 rfl (by kernel_rfl) trivial ?_; refine L.storeA (j := 0) rfl rfl rfl rfl rfl (Nat.zero_lt_succ _) rfl rfl ?_
            refine L.nil (QE.m (by kernel_rfl) ?_)
            refine LM.f 17 rfl (by kernel_rfl) trivial ?_; refine L.storeA (j := 1) rfl rfl rfl rfl rfl (Nat.zero_lt_succ _) rfl rfl ?_
            refine L.nil (QE.m (by kernel_rfl) ?_)
            refine LM.nil (by kernel_rfl) trivial ?_
            refine QE.joined ((A19, A20)) (by exact trivial) (by exact Le.mk' (rs := [0, 1, 2]) (hs := [0, 1]) ⟨rfl, rfl, rfl, rfl, rfl, rfl, rfl, rfl, rfl, rfl, trivial⟩ ⟨rfl, rfl, rfl, trivial⟩ ⟨rfl, rfl, trivial⟩ (by decide))
           ·
            refine L.alloc rfl rfl rfl (fun A20 => ?_)
            refine L.nil (QE.m (by kernel_rfl) ?_)
            refine LM.f 13 rfl (by kernel_rfl) (Hq [0, 1, 2] rfl) ?_; refine L.call (js := []) (js' := [0, 1]) (decode_c ((wordsF (movB (codB l 12) ((atF u (codB l 12).length) : Int) ((byF v) : Int))).getD (newAt (atF u (codB l 12).length) (byF v) i) 0) (4 * ((newAt (atF u (codB l 12).length) (byF v) i) : Int)) (hm32 _) (by omega)) rfl rfl rfl (by decide) trivial rfl ?_
            rintro _ _ _ ⟨rfl, rfl, rfl⟩
            refine L.norm (H' := [_, _]) [0, 1] ⟨rfl, rfl, trivial⟩ (by decide) ?_
            refine L.nil (QE.m (by kernel_rfl) ?_)
            refine LM.cut [] (by kernel_rfl) (Hq [0, 1, 2] rfl) ?_; refine LM.f 16 rfl (by kernel_rfl) trivial ?_; refine L.storeA (j := 0) rfl rfl rfl rfl rfl (Nat.zero_lt_succ _) rfl rfl ?_
            refine L.nil (QE.m (by kernel_rfl) ?_)
            refine LM.f 17 rfl (by kernel_rfl) trivial ?_; refine L.storeA (j := 1) rfl rfl rfl rfl rfl (Nat.zero_lt_succ _) rfl rfl ?_
            refine L.nil (QE.m (by kernel_rfl) ?_)
            refine LM.nil (by kernel_rfl) trivial ?_
            refine QE.joined ((A19, A20)) (by exact trivial) (by exact Le.mk' (rs := [0, 1, 2]) (hs := [0, 1]) ⟨rfl, rfl, rfl, rfl, rfl, rfl, rfl, rfl, rfl, rfl, trivial⟩ ⟨rfl, rfl, rfl, trivial⟩ ⟨rfl, rfl, trivial⟩ (by decide))
          ·
           refine L.alloc rfl rfl rfl (fun A20 => ?_)
           refine L.nil (QE.m (by kernel_rfl) ?_)
           refine LM.alt [13, 14] (by kernel_rfl) (by decide) (Hq [0, 1, 2] rfl) ⟨⟨_, rfl, ?_⟩, ⟨_, rfl, ?_⟩, trivial⟩
           ·
            refine L.call (js := []) (js' := [0]) (decode_c ((wordsF (movB (codB l 12) ((atF u (codB l 12).length) : Int) ((byF v) : Int))).getD (newAt (atF u (codB l 12).length) (byF v) i) 0) (4 * ((newAt (atF u (codB l 12).length) (byF v) i) : Int)) (hm32 _) (by omega)) rfl rfl rfl (by decide) trivial rfl ?_
            rintro _ _ _ ⟨rfl, rfl, rfl⟩
            refine L.norm (H' := [_]) [0] ⟨rfl, trivial⟩ (by decide) ?_
            refine L.nil (QE.m (by kernel_rfl) ?_)
            refine LM.f 14 rfl (by kernel_rfl) (Hq [0, 1, 2] rfl) ?_
            refine L.alloc rfl rfl rfl (fun A19 => ?_)
            refine L.nil (QE.m (by kernel_rfl) ?_)
            refine LM.cut [] (by kernel_rfl) (Hq [0, 1, 2] rfl) ?_; refine LM.f 16 rfl (by kernel_rfl) trivial ?_; refine L.storeA (j := 1) rfl rfl rfl rfl rfl (Nat.zero_lt_succ _) rfl rfl ?_
            refine L.nil (QE.m (by kernel_rfl) ?_)
            refine LM.f 17 rfl (by kernel_rfl) trivial ?_; refine L.storeA (j := 0) rfl rfl rfl rfl rfl (Nat.zero_lt_succ _) rfl rfl ?_
            refine L.nil (QE.m (by kernel_rfl) ?_)
            refine LM.nil (by kernel_rfl) trivial ?_
            refine QE.joined ((A19, A20)) (by exact trivial) (by exact Le.mk' (rs := [0, 1, 2]) (hs := [1, 0]) ⟨rfl, rfl, rfl, rfl, rfl, rfl, rfl, rfl, rfl, rfl, trivial⟩ ⟨rfl, rfl, rfl, trivial⟩ ⟨rfl, rfl, trivial⟩ (by decide))
           ·
            refine L.alloc rfl rfl rfl (fun A19 => ?_)
            refine L.nil (QE.m (by kernel_rfl) ?_)
            refine LM.f 13 rfl (by kernel_rfl) (Hq [0, 1, 2] rfl) ?_; refine L.call (js := []) (js' := [0, 1]) (decode_c ((wordsF (movB (codB l 12) ((atF u (codB l 12).length) : Int) ((byF v) : Int))).getD (newAt (atF u (codB l 12).length) (byF v) i) 0) (4 * ((newAt (atF u (codB l 12).length) (byF v) i) : Int)) (hm32 _) (by omega)) rfl rfl rfl (by decide) trivial rfl ?_
            rintro _ _ _ ⟨rfl, rfl, rfl⟩
            refine L.norm (H' := [_, _]) [0, 1] ⟨rfl, rfl, trivial⟩ (by decide) ?_
            refine L.nil (QE.m (by kernel_rfl) ?_)
            refine LM.cut [] (by kernel_rfl) (Hq [0, 1, 2] rfl) ?_; refine LM.f 16 rfl (by kernel_rfl) trivial ?_; refine L.storeA (j := 1) rfl rfl rfl rfl rfl (Nat.zero_lt_succ _) rfl rfl ?_
            refine L.nil (QE.m (by kernel_rfl) ?_)
            refine LM.f 17 rfl (by kernel_rfl) trivial ?_; refine L.storeA (j := 0) rfl rfl rfl rfl rfl (Nat.zero_lt_succ _) rfl rfl ?_
            refine L.nil (QE.m (by kernel_rfl) ?_)
            refine LM.nil (by kernel_rfl) trivial ?_
            refine QE.joined ((A19, A20)) (by exact trivial) (by exact Le.mk' (rs := [0, 1, 2]) (hs := [1, 0]) ⟨rfl, rfl, rfl, rfl, rfl, rfl, rfl, rfl, rfl, rfl, trivial⟩ ⟨rfl, rfl, rfl, trivial⟩ ⟨rfl, rfl, trivial⟩ (by decide))
         ·
          refine L.alloc rfl rfl rfl (fun A19 => ?_)
          refine L.nil (QE.m (by kernel_rfl) ?_)
          refine LM.alt [6, 15] (by kernel_rfl) (by decide) (Hq [0, 1, 2] rfl) ⟨⟨_, rfl, ?_⟩, ⟨_, rfl, ?_⟩, trivial⟩
          ·
           refine L.call (js := []) (js' := [0]) (decode_c ((wordsF (codB l 12)).getD i 0) (4 * (i : Int)) (hW32 i) (by omega)) rfl rfl rfl (by decide) trivial rfl ?_
           rintro _ _ _ ⟨rfl, rfl, rfl⟩
           refine L.norm (H' := [_]) [0] ⟨rfl, trivial⟩ (by decide) ?_
           refine L.nil (QE.m (by kernel_rfl) ?_)
           refine LM.alt [13, 15] (by kernel_rfl) (by decide) (Hq [0, 1, 2] rfl) ⟨⟨_, rfl, ?_⟩, ⟨_, rfl, ?_⟩, trivial⟩
           ·
            refine L.call (js := []) (js' := [0]) (decode_c ((wordsF (movB (codB l 12) ((atF u (codB l 12).length) : Int) ((byF v) : Int))).getD (newAt (atF u (codB l 12).length) (byF v) i) 0) (4 * ((newAt (atF u (codB l 12).length) (byF v) i) : Int)) (hm32 _) (by omega)) rfl rfl rfl (by decide) trivial rfl ?_
            rintro _ _ _ ⟨rfl, rfl, rfl⟩
            refine L.norm (H' := [_]) [0] ⟨rfl, trivial⟩ (by decide) ?_
            refine L.nil (QE.m (by kernel_rfl) ?_)
            refine LM.f 15 rfl (by kernel_rfl) (Hq [0, 1, 2] rfl) ?_
            refine L.alloc rfl rfl rfl (fun A20 => ?_)
            refine L.nil (QE.m (by kernel_rfl) ?_)
            refine LM.cut [] (by kernel_rfl) (Hq [0, 1, 2] rfl) ?_; refine LM.f 16 rfl (by kernel_rfl) trivial ?_; refine L.storeA (j := 0) rfl rfl rfl rfl rfl (Nat.zero_lt_succ _) rfl rfl ?_
            refine L.nil (QE.m (by kernel_rfl) ?_)
            refine LM.f 17 rfl (by kernel_rfl) trivial ?_; refine L.storeA (j := 1) rfl rfl rfl rfl rfl (Nat.zero_lt_succ _) rfl rfl ?_
            refine L.nil (QE.m (by kernel_rfl) ?_)
            refine LM.nil (by kernel_rfl) trivial ?_
            refine QE.joined ((A19, A20)) (by exact trivial) (by exact Le.mk' (rs := [0, 1, 2]) (hs := [0, 1]) ⟨rfl, rfl, rfl, rfl, rfl, rfl, rfl, rfl, rfl, rfl, trivial⟩ ⟨rfl, rfl, rfl, trivial⟩ ⟨rfl, rfl, trivial⟩ (by decide))
           ·
            refine L.alloc rfl rfl rfl (fun A20 => ?_)
            refine L.nil (QE.m (by kernel_rfl) ?_)
            refine LM.f 13 rfl (by kernel_rfl) (Hq [0, 1, 2] rfl) ?_; refine L.call (js := []) (js' := [0, 1]) (decode_c ((wordsF (movB (codB l 12) ((atF u (codB l 12).length) : Int) ((byF v) : Int))).getD (newAt (atF u (codB l 12).length) (byF v) i) 0) (4 * ((newAt (atF u (codB l 12).length) (byF v) i) : Int)) (hm32 _) (by omega)) rfl rfl rfl (by decide) trivial rfl ?_
            rintro _ _ _ ⟨rfl, rfl, rfl⟩
            refine L.norm (H' := [_, _]) [0, 1] ⟨rfl, rfl, trivial⟩ (by decide) ?_
            refine L.nil (QE.m (by kernel_rfl) ?_)
            refine LM.cut [] (by kernel_rfl) (Hq [0, 1, 2] rfl) ?_; refine LM.f 16 rfl (by kernel_rfl) trivial ?_; refine L.storeA (j := 0) rfl rfl rfl rfl rfl (Nat.zero_lt_succ _) rfl rfl ?_
            refine L.nil (QE.m (by kernel_rfl) ?_)
            refine LM.f 17 rfl (by kernel_rfl) trivial ?_; refine L.storeA (j := 1) rfl rfl rfl rfl rfl (Nat.zero_lt_succ _) rfl rfl ?_
            refine L.nil (QE.m (by kernel_rfl) ?_)
            refine LM.nil (by kernel_rfl) trivial ?_
            refine QE.joined ((A19, A20)) (by exact trivial) (by exact Le.mk' (rs := [0, 1, 2]) (hs := [0, 1]) ⟨rfl, rfl, rfl, rfl, rfl, rfl, rfl, rfl, rfl, rfl, trivial⟩ ⟨rfl, rfl, rfl, trivial⟩ ⟨rfl, rfl, trivial⟩ (by decide))
          ·
           refine L.alloc rfl rfl rfl (fun A20 => ?_)
           refine L.nil (QE.m (by kernel_rfl) ?_)
           refine LM.f 6 rfl (by kernel_rfl) (Hq [0, 1, 2] rfl) ?_; refine L.call (js := []) (js' := [0, 1]) (decode_c ((wordsF (codB l 12)).getD i 0) (4 * (i : Int)) (hW32 i) (by omega)) rfl rfl rfl (by decide) trivial rfl ?_
           rintro _ _ _ ⟨rfl, rfl, rfl⟩
           refine L.norm (H' := [_, _]) [0, 1] ⟨rfl, rfl, trivial⟩ (by decide) ?_
           refine L.nil (QE.m (by kernel_rfl) ?_)
           refine LM.f 13 rfl (by kernel_rfl) (Hq [0, 1, 2] rfl) ?_; refine L.call (js := []) (js' := [0, 1]) (decode_c ((wordsF (movB (codB l 12) ((atF u (codB l 12).length) : Int) ((byF v) : Int))).getD (newAt (atF u (codB l 12).length) (byF v) i) 0) (4 * ((newAt (atF u (codB l 12).length) (byF v) i) : Int)) (hm32 _) (by omega)) rfl rfl rfl (by decide) trivial rfl ?_
           rintro _ _ _ ⟨rfl, rfl, rfl⟩
           refine L.norm (H' := [_, _]) [0, 1] ⟨rfl, rfl, trivial⟩ (by decide) ?_
           refine L.nil (QE.m (by kernel_rfl) ?_)
           refine LM.cut [] (by kernel_rfl) (Hq [0, 1, 2] rfl) ?_; refine LM.f 16 rfl (by kernel_rfl) trivial ?_; refine L.storeA (j := 0) rfl rfl rfl rfl rfl (Nat.zero_lt_succ _) rfl rfl ?_
           refine L.nil (QE.m (by kernel_rfl) ?_)
           refine LM.f 17 rfl (by kernel_rfl) trivial ?_; refine L.storeA (j := 1) rfl rfl rfl rfl rfl (Nat.zero_lt_succ _) rfl rfl ?_
           refine L.nil (QE.m (by kernel_rfl) ?_)
           refine LM.nil (by kernel_rfl) trivial ?_
           refine QE.joined ((A19, A20)) (by exact trivial) (by exact Le.mk' (rs := [0, 1, 2]) (hs := [0, 1]) ⟨rfl, rfl, rfl, rfl, rfl, rfl, rfl, rfl, rfl, rfl, trivial⟩ ⟨rfl, rfl, rfl, trivial⟩ ⟨rfl, rfl, trivial⟩ (by decide))
         ·
          refine L.alloc rfl rfl rfl (fun A20 => ?_)
          refine L.nil (QE.m (by kernel_rfl) ?_)
          refine LM.alt [6, 14] (by kernel_rfl) (by decide) (Hq [0, 1, 2] rfl) ⟨⟨_, rfl, ?_⟩, ⟨_, rfl, ?_⟩, trivial⟩
          ·
           refine L.call (js := []) (js' := [0]) (decode_c ((wordsF (codB l 12)).getD i 0) (4 * (i : Int)) (hW32 i) (by omega)) rfl rfl rfl (by decide) trivial rfl ?_
           rintro _ _ _ ⟨rfl, rfl, rfl⟩
           refine L.norm (H' := [_]) [0] ⟨rfl, trivial⟩ (by decide) ?_
           refine L.nil (QE.m (by kernel_rfl) ?_)
           refine LM.alt [13, 14] (by kernel_rfl) (by decide) (Hq [0, 1, 2] rfl) ⟨⟨_, rfl, ?_⟩, ⟨_, rfl, ?_⟩, trivial⟩
           ·
            refine L.call (js := []) (js' := [0]) (decode_c ((wordsF (movB (codB l 12) ((atF u (codB l 12).length) : Int) ((byF v) : Int))).getD (newAt (atF u (codB l 12).length) (byF v) i) 0) (4 * ((newAt (atF u (codB l 12).length) (byF v) i) : Int)) (hm32 _) (by omega)) rfl rfl rfl (by decide) trivial rfl ?_
            rintro _ _ _ ⟨rfl, rfl, rfl⟩
            refine L.norm (H' := [_]) [0] ⟨rfl, trivial⟩ (by decide) ?_
            refine L.nil (QE.m (by kernel_rfl) ?_)
            refine LM.f 14 rfl (by kernel_rfl) (Hq [0, 1, 2] rfl) ?_
            refine L.alloc rfl rfl rfl (fun A19 => ?_)
            refine L.nil (QE.m (by kernel_rfl) ?_)
            refine LM.cut [] (by kernel_rfl) (Hq [0, 1, 2] rfl) ?_; refine LM.f 16 rfl (by kernel_rfl) trivial ?_; refine L.storeA (j := 1) rfl rfl rfl rfl rfl (Nat.zero_lt_succ _) rfl rfl ?_
            refine L.nil (QE.m (by kernel_rfl) ?_)
            refine LM.f 17 rfl (by kernel_rfl) trivial ?_; refine L.storeA (j := 0) rfl rfl rfl rfl rfl (Nat.zero_lt_succ _) rfl rfl ?_
            refine L.nil (QE.m (by kernel_rfl) ?_)
            refine LM.nil (by kernel_rfl) trivial ?_
            refine QE.joined ((A19, A20)) (by exact trivial) (by exact Le.mk' (rs := [0, 1, 2]) (hs := [1, 0]) ⟨rfl, rfl, rfl, rfl, rfl, rfl, rfl, rfl, rfl, rfl, trivial⟩ ⟨rfl, rfl, rfl, trivial⟩ ⟨rfl, rfl, trivial⟩ (by decide))
           ·
            refine L.alloc rfl rfl rfl (fun A19 => ?_)
            refine L.nil (QE.m (by kernel_rfl) ?_)
            refine LM.f 13 rfl (by kernel_rfl) (Hq [0, 1, 2] rfl) ?_; refine L.call (js := []) (js' := [0, 1]) (decode_c ((wordsF (movB (codB l 12) ((atF u (codB l 12).length) : Int) ((byF v) : Int))).getD (newAt (atF u (codB l 12).length) (byF v) i) 0) (4 * ((newAt (atF u (codB l 12).length) (byF v) i) : Int)) (hm32 _) (by omega)) rfl rfl rfl (by decide) trivial rfl ?_
            rintro _ _ _ ⟨rfl, rfl, rfl⟩
            refine L.norm (H' := [_, _]) [0, 1] ⟨rfl, rfl, trivial⟩ (by decide) ?_
            refine L.nil (QE.m (by kernel_rfl) ?_)
            refine LM.cut [] (by kernel_rfl) (Hq [0, 1, 2] rfl) ?_; refine LM.f 16 rfl (by kernel_rfl) trivial ?_; refine L.storeA (j := 1) rfl rfl rfl rfl rfl (Nat.zero_lt_succ _) rfl rfl ?_
            refine L.nil (QE.m (by kernel_rfl) ?_)
            refine LM.f 17 rfl (by kernel_rfl) trivial ?_; refine L.storeA (j := 0) rfl rfl rfl rfl rfl (Nat.zero_lt_succ _) rfl rfl ?_
            refine L.nil (QE.m (by kernel_rfl) ?_)
            refine LM.nil (by kernel_rfl) trivial ?_
            refine QE.joined ((A19, A20)) (by exact trivial) (by exact Le.mk' (rs := [0, 1, 2]) (hs := [1, 0]) ⟨rfl, rfl, rfl, rfl, rfl, rfl, rfl, rfl, rfl, rfl, trivial⟩ ⟨rfl, rfl, rfl, trivial⟩ ⟨rfl, rfl, trivial⟩ (by decide))
          ·
           refine L.alloc rfl rfl rfl (fun A19 => ?_)
           refine L.nil (QE.m (by kernel_rfl) ?_)
           refine LM.f 6 rfl (by kernel_rfl) (Hq [0, 1, 2] rfl) ?_; refine L.call (js := []) (js' := [0, 1]) (decode_c ((wordsF (codB l 12)).getD i 0) (4 * (i : Int)) (hW32 i) (by omega)) rfl rfl rfl (by decide) trivial rfl ?_
           rintro _ _ _ ⟨rfl, rfl, rfl⟩
           refine L.norm (H' := [_, _]) [0, 1] ⟨rfl, rfl, trivial⟩ (by decide) ?_
           refine L.nil (QE.m (by kernel_rfl) ?_)
           refine LM.f 13 rfl (by kernel_rfl) (Hq [0, 1, 2] rfl) ?_; refine L.call (js := []) (js' := [0, 1]) (decode_c ((wordsF (movB (codB l 12) ((atF u (codB l 12).length) : Int) ((byF v) : Int))).getD (newAt (atF u (codB l 12).length) (byF v) i) 0) (4 * ((newAt (atF u (codB l 12).length) (byF v) i) : Int)) (hm32 _) (by omega)) rfl rfl rfl (by decide) trivial rfl ?_
           rintro _ _ _ ⟨rfl, rfl, rfl⟩
           refine L.norm (H' := [_, _]) [0, 1] ⟨rfl, rfl, trivial⟩ (by decide) ?_
           refine L.nil (QE.m (by kernel_rfl) ?_)
           refine LM.cut [] (by kernel_rfl) (Hq [0, 1, 2] rfl) ?_; refine LM.f 16 rfl (by kernel_rfl) trivial ?_; refine L.storeA (j := 1) rfl rfl rfl rfl rfl (Nat.zero_lt_succ _) rfl rfl ?_
           refine L.nil (QE.m (by kernel_rfl) ?_)
           refine LM.f 17 rfl (by kernel_rfl) trivial ?_; refine L.storeA (j := 0) rfl rfl rfl rfl rfl (Nat.zero_lt_succ _) rfl rfl ?_
           refine L.nil (QE.m (by kernel_rfl) ?_)
           refine LM.nil (by kernel_rfl) trivial ?_
           refine QE.joined ((A19, A20)) (by exact trivial) (by exact Le.mk' (rs := [0, 1, 2]) (hs := [1, 0]) ⟨rfl, rfl, rfl, rfl, rfl, rfl, rfl, rfl, rfl, rfl, trivial⟩ ⟨rfl, rfl, rfl, trivial⟩ ⟨rfl, rfl, trivial⟩ (by decide))
        ·
         rintro ⟨A19, A20⟩ _
         dsimp only
         refine QE.seq ?_; refine C.seqJ (fun o : Unit => [(5, .bool true), (6, .slice B (codB l 12).length bc), (7, .int .i64 ((atF u (codB l 12).length) : Int)), (8, .int .i64 ((byF v) : Int)), (13, .slice V63 (wordsF (codB l 12)).length v63), (15, .slice V68 (wordsF (movB (codB l 12) ((atF u (codB l 12).length) : Int) ((byF v) : Int))).length v68), (17, .int .i64 (i : Int)), (18, .int .i64 ((newAt (atF u (codB l 12).length) (byF v) i) : Int)), (19, ptrOf A19 0), (20, ptrOf A20 0)]) (fun o : Unit => [Rd B (U8 (codB l 12)), Rd V63 (N32 (wordsF (codB l 12))), Rd V68 (N32 (wordsF (movB (codB l 12) ((atF u (codB l 12).length) : Int) ((byF v) : Int))))]) (fun o : Unit => [Own 51 5 A19 1 1 (in5 (insAt (wordsF (movB (codB l 12) ((atF u (codB l 12).length) : Int) ((byF v) : Int))) (newAt (atF u (codB l 12).length) (byF v) i))), Own 51 5 A20 1 1 (in5 (insAt (wordsF (movB (codB l 12) ((atF u (codB l 12).length) : Int) ((byF v) : Int))) (newAt (atF u (codB l 12).length) (byF v) i)))]) (fun o : Unit => True) ?_ ?_
         ·
          refine C.seq (C.region ?_); refine L.step (Ev.fieldAddr rfl rfl rfl rfl rfl rfl (Src.o 0 rfl) (Nat.zero_lt_succ _) rfl) rfl ?_; refine L.step (Ev.cast (u := .int .i64 (insAt (wordsF (codB l 12)) i).op) (Ev.load rfl rfl rfl (Src.o 0 rfl) rfl) rfl) rfl ?_; refine Lpu rfl rfl ?_; refine Lpu rfl rfl ?_
          refine L.bool 116 rfl (fun hg116 => ?_) (fun hg116 => ?_)
          ·
           replace hg116 := of_decide_eq_true hg116
           refine L.yes rfl ?_; refine L.step (Ev.fieldAddr rfl rfl rfl rfl rfl rfl (Src.o 0 rfl) (Nat.zero_lt_succ _) rfl) rfl ?_; refine L.yes rfl ?_; refine L.step (Ev.cast (u := .int .i64 (insAt (wordsF (codB l 12)) i).op) (Ev.load rfl rfl rfl (Src.o 0 rfl) rfl) rfl) rfl ?_; refine L.yes rfl ?_; refine Lpu rfl rfl ?_; refine Lpu rfl rfl ?_; refine L.nil (QE.seq ?_)
           refine C.condB 120 rfl (fun hc120 => ?_) (fun hc120 => ?_)
           ·
            replace hc120 := of_decide_eq_true hc120
            refine C.seq (C.region ?_); refine L.step (Ev.fieldAddr rfl rfl rfl rfl rfl rfl (Src.o 0 rfl) (Nat.zero_lt_succ _) rfl) rfl ?_; refine L.step (Ev.cast (u := .int .i64 (insAt (wordsF (codB l 12)) i).n) (Ev.load rfl rfl rfl (Src.o 0 rfl) rfl) rfl) rfl ?_; refine Lpu rfl rfl ?_; refine Lpu rfl rfl ?_
            refine L.bool 124 rfl (fun hg124 => ?_) (fun hg124 => ?_)
            ·
             replace hg124 := of_decide_eq_true hg124
             refine L.yes rfl ?_; refine L.step (Ev.fieldAddr rfl rfl rfl rfl rfl rfl (Src.o 0 rfl) (Nat.zero_lt_succ _) rfl) rfl ?_; refine L.yes rfl ?_; refine L.step (Ev.cast (u := .int .i64 (insAt (wordsF (codB l 12)) i).n) (Ev.load rfl rfl rfl (Src.o 0 rfl) rfl) rfl) rfl ?_; refine L.yes rfl ?_; refine Lpu rfl rfl ?_; refine L.yes rfl ?_; refine Lpu rfl rfl ?_; refine L.yes rfl ?_; refine Lpu rfl rfl ?_; refine Lpu rfl rfl ?_; refine L.nil (QE.seq ?_)
             refine C.condB 130 rfl (fun hc130 => ?_) (fun hc130 => ?_)
             ·
              replace hc130 := of_decide_eq_true hc130
              refine C.seq (C.region ?_); refine L.step (Ev.fieldAddr rfl rfl rfl rfl rfl rfl (Src.o 0 rfl) (Nat.zero_lt_succ _) rfl) rfl ?_; refine L.step (Ev.cast (u := .int .i64 (insAt (wordsF (codB l 12)) i).n) (Ev.load rfl rfl rfl (Src.o 0 rfl) rfl) rfl) rfl ?_; refine Lpu rfl rfl ?_; refine L.step (Ev.mul rfl rfl (by omega) (by omega)) rfl ?_; refine Lpu rfl rfl ?_; refine L.nil (QE.seq ?_)
              refine C.condB 135 rfl (fun hc135 => ?_) (fun hc135 => ?_)
              ·
               replace hc135 := of_decide_eq_true hc135
               refine C.region ?_; refine L.step (Ev.fieldAddr rfl rfl rfl rfl rfl rfl (Src.o 0 rfl) (Nat.zero_lt_succ _) rfl) rfl ?_; refine L.step (Ev.cast (u := .int .i64 (insAt (wordsF (codB l 12)) i).n) (Ev.load rfl rfl rfl (Src.o 0 rfl) rfl) rfl) rfl ?_; refine Lpu rfl rfl ?_; refine L.step (Ev.mul rfl rfl (by omega) (by omega)) rfl ?_; refine L.step (Ev.add rfl rfl (by omega) (by omega)) rfl ?_; refine L.step (Ev.fieldAddr rfl rfl rfl rfl rfl rfl (Src.o 0 rfl) (Nat.zero_lt_succ _) rfl) rfl ?_
               first | refine L.store (j := 0) rfl rfl rfl rfl rfl rfl rfl rfl ?_ | refine L.store (j := 1) rfl rfl rfl rfl rfl rfl rfl rfl ?_ | refine L.store (j := 2) rfl rfl rfl rfl rfl rfl rfl rfl ?_ | refine L.store (j := 3) rfl rfl rfl rfl rfl rfl rfl rfl ?_
               refine L.nil ?_
               refine QE.join (()) (by exact trivial) (by exact Le.mk' (rs := [0, 1, 2]) (hs := [0, 1]) ⟨rfl, rfl, rfl, rfl, rfl, rfl, rfl, rfl, rfl, rfl, trivial⟩ ⟨rfl, rfl, rfl, trivial⟩ ⟨(congrArg some (own_eq2 rfl (congrArg in5 ((hmv.keep1 (i := i) (by omega) (by omega) (by omega) (by omega) (by omega)).trans (congrArg (fun z => (⟨(insAt (wordsF (codB l 12)) i).op, (insAt (wordsF (codB l 12)) i).a, (insAt (wordsF (codB l 12)) i).b, (insAt (wordsF (codB l 12)) i).c, z⟩ : Ins)) (show mvN (atF u (codB l 12).length) (byF v) (insAt (wordsF (codB l 12)) i).n = (insAt (wordsF (codB l 12)) i).n + 4 * ((byF v) : Int) from if_pos (by omega))))).symm)), rfl, trivial⟩ (by decide))
              ·
               replace hc135 := of_decide_eq_false hc135
               refine C.skip ?_
               refine QE.join (()) (by exact trivial) (by exact Le.mk' (rs := [0, 1, 2]) (hs := [0, 1]) ⟨rfl, rfl, rfl, rfl, rfl, rfl, rfl, rfl, rfl, rfl, trivial⟩ ⟨rfl, rfl, rfl, trivial⟩ ⟨(congrArg some (own_eq2 rfl (congrArg in5 ((hmv.keep1 (i := i) (by omega) (by omega) (by omega) (by omega) (by omega)).trans (congrArg (fun z => (⟨(insAt (wordsF (codB l 12)) i).op, (insAt (wordsF (codB l 12)) i).a, (insAt (wordsF (codB l 12)) i).b, (insAt (wordsF (codB l 12)) i).c, z⟩ : Ins)) (show mvN (atF u (codB l 12).length) (byF v) (insAt (wordsF (codB l 12)) i).n = (insAt (wordsF (codB l 12)) i).n from if_neg (by omega))))).symm)), rfl, trivial⟩ (by decide))
             ·
              replace hc130 := of_decide_eq_false hc130
              refine C.region ?_; refine L.step (Ev.fieldAddr rfl rfl rfl rfl rfl rfl (Src.o 0 rfl) (Nat.zero_lt_succ _) rfl) rfl ?_; refine L.step (Ev.cast (u := .int .i64 (insAt (wordsF (codB l 12)) i).n) (Ev.load rfl rfl rfl (Src.o 0 rfl) rfl) rfl) rfl ?_; refine Lpu rfl rfl ?_; refine Lpu rfl rfl ?_; refine L.step (Ev.sub rfl rfl (by omega) (by omega)) rfl ?_; refine L.step (Ev.mul rfl rfl (by omega) (by omega)) rfl ?_; refine L.step (Ev.add rfl rfl (by have := insN_bd hW32 (l := (wordsF (codB l 12))) (i := i) (by omega); omega) (by have := insN_bd hW32 (l := (wordsF (codB l 12))) (i := i) (by omega); omega)) rfl ?_; refine L.step (Ev.fieldAddr rfl rfl rfl rfl rfl rfl (Src.o 0 rfl) (Nat.zero_lt_succ _) rfl) rfl ?_
              first | refine L.store (j := 0) rfl rfl rfl rfl rfl rfl rfl rfl ?_ | refine L.store (j := 1) rfl rfl rfl rfl rfl rfl rfl rfl ?_ | refine L.store (j := 2) rfl rfl rfl rfl rfl rfl rfl rfl ?_ | refine L.store (j := 3) rfl rfl rfl rfl rfl rfl rfl rfl ?_
              refine L.nil ?_
              refine QE.join (()) (by exact trivial) (by exact Le.mk' (rs := [0, 1, 2]) (hs := [0, 1]) ⟨rfl, rfl, rfl, rfl, rfl, rfl, rfl, rfl, rfl, rfl, trivial⟩ ⟨rfl, rfl, rfl, trivial⟩ ⟨(congrArg some (own_eq2 rfl (congrArg in5 (hmv.keep2 (i := i) (by omega) (by omega) (by omega))).symm)), rfl, trivial⟩ (by decide))
            ·
             replace hg124 := of_decide_eq_false hg124
             refine L.no rfl rfl rfl ?_; refine L.no rfl rfl rfl ?_; refine L.no rfl rfl rfl ?_; refine L.no rfl rfl rfl ?_; refine L.no rfl rfl rfl ?_; refine Lpu rfl rfl ?_; refine L.nil (QE.seq ?_)
             refine C.cond rfl (fun h => by cases h) (fun _ => ?_)
             refine C.region ?_; refine L.step (Ev.fieldAddr rfl rfl rfl rfl rfl rfl (Src.o 0 rfl) (Nat.zero_lt_succ _) rfl) rfl ?_; refine L.step (Ev.cast (u := .int .i64 (insAt (wordsF (codB l 12)) i).n) (Ev.load rfl rfl rfl (Src.o 0 rfl) rfl) rfl) rfl ?_; refine Lpu rfl rfl ?_; refine Lpu rfl rfl ?_; refine L.step (Ev.sub rfl rfl (by omega) (by omega)) rfl ?_; refine L.step (Ev.mul rfl rfl (by omega) (by omega)) rfl ?_; refine L.step (Ev.add rfl rfl (by have := insN_bd hW32 (l := (wordsF (codB l 12))) (i := i) (by omega); omega) (by have := insN_bd hW32 (l := (wordsF (codB l 12))) (i := i) (by omega); omega)) rfl ?_; refine L.step (Ev.fieldAddr rfl rfl rfl rfl rfl rfl (Src.o 0 rfl) (Nat.zero_lt_succ _) rfl) rfl ?_
             first | refine L.store (j := 0) rfl rfl rfl rfl rfl rfl rfl rfl ?_ | refine L.store (j := 1) rfl rfl rfl rfl rfl rfl rfl rfl ?_ | refine L.store (j := 2) rfl rfl rfl rfl rfl rfl rfl rfl ?_ | refine L.store (j := 3) rfl rfl rfl rfl rfl rfl rfl rfl ?_
             refine L.nil ?_
             refine QE.join (()) (by exact trivial) (by exact Le.mk' (rs := [0, 1, 2]) (hs := [0, 1]) ⟨rfl, rfl, rfl, rfl, rfl, rfl, rfl, rfl, rfl, rfl, trivial⟩ ⟨rfl, rfl, rfl, trivial⟩ ⟨(congrArg some (own_eq2 rfl (congrArg in5 (hmv.keep2 (i := i) (by omega) (by omega) (by omega))).symm)), rfl, trivial⟩ (by decide))
           ·
            replace hc120 := of_decide_eq_false hc120
            refine C.skip ?_
            refine QE.join (()) (by exact trivial) (by exact Le.mk' (rs := [0, 1, 2]) (hs := [0, 1]) ⟨rfl, rfl, rfl, rfl, rfl, rfl, rfl, rfl, rfl, rfl, trivial⟩ ⟨rfl, rfl, rfl, trivial⟩ ⟨(congrArg some (own_eq2 rfl (congrArg in5 (hmv.keep3 (i := i) (by omega) (by omega))).symm)), rfl, trivial⟩ (by decide))
          ·
           replace hg116 := of_decide_eq_false hg116
           refine L.no rfl rfl rfl ?_; refine L.no rfl rfl rfl ?_; refine L.no rfl rfl rfl ?_; refine Lpu rfl rfl ?_; refine L.nil (QE.seq ?_)
           refine C.cond rfl (fun h => by cases h) (fun _ => ?_)
           refine C.skip ?_
           refine QE.join (()) (by exact trivial) (by exact Le.mk' (rs := [0, 1, 2]) (hs := [0, 1]) ⟨rfl, rfl, rfl, rfl, rfl, rfl, rfl, rfl, rfl, rfl, trivial⟩ ⟨rfl, rfl, rfl, trivial⟩ ⟨(congrArg some (own_eq2 rfl (congrArg in5 (hmv.keep3 (i := i) (by omega) (by omega))).symm)), rfl, trivial⟩ (by decide))
         ·
          intro _ _
          refine C.seq (C.region ?_); refine L.step (Ev.loadA (vs := in5 (insAt (wordsF (movB (codB l 12) ((atF u (codB l 12).length) : Int) ((byF v) : Int))) (newAt (atF u (codB l 12).length) (byF v) i))) rfl rfl rfl (Src.o 0 rfl) rfl rfl (by decide)) rfl ?_; refine L.step (Ev.loadA (vs := in5 (insAt (wordsF (movB (codB l 12) ((atF u (codB l 12).length) : Int) ((byF v) : Int))) (newAt (atF u (codB l 12).length) (byF v) i))) rfl rfl rfl (Src.o 1 rfl) rfl rfl (by decide)) rfl ?_; refine L.step (Ev.cast (u := .bool false) (Ev.neSt (xs := (insAt (wordsF (movB (codB l 12) ((atF u (codB l 12).length) : Int) ((byF v) : Int))) (newAt (atF u (codB l 12).length) (byF v) i)).l) (ys := (insAt (wordsF (movB (codB l 12) ((atF u (codB l 12).length) : Int) ((byF v) : Int))) (newAt (atF u (codB l 12).length) (byF v) i)).l) rfl rfl (by kernel_rfl) (by kernel_rfl) rfl rfl rfl rfl rfl) (congrArg Value.bool (bne_self_eq_false _))) rfl ?_; refine L.nil (QE.seq ?_)
          refine C.condB 152 rfl (fun hc152 => ?_) (fun hc152 => ?_)
          ·
           exact absurd hc152 (by decide)
          ·
           refine C.skip ?_; refine QE.blkN ?_; refine QE.seq (C.region ?_); refine Lpu rfl rfl ?_; refine L.step (Ev.add rfl rfl (by omega) (by omega)) rfl ?_; refine Lpu rfl rfl ?_; refine L.nil ?_
           refine QE.round (i + 1) (by omega) (by omega) (by exact Le.mk' (rs := [0, 1, 2]) (hs := []) ⟨rfl, rfl, rfl, rfl, rfl, rfl, rfl, trivial⟩ ⟨rfl, rfl, rfl, trivial⟩ trivial (by decide))
      ·
       replace hc89 := of_decide_eq_false hc89
       refine C.exit ?_; refine QE.tX ?_; refine QE.tX ?_; refine QE.blk ?_; refine QE.seq (C.seq (C.seq ?_))
       obtain rfl : i = (wordsF (codB l 12)).length := by omega
       refine C.region ?_; refine Lpu rfl rfl ?_; refine Lpu rfl rfl ?_; refine L.nil (QE.seq (C.block ?_)); refine C.loop (fun k : Nat => [(5, .bool true), (6, .slice B (codB l 12).length bc), (7, .int .i64 ((atF u (codB l 12).length) : Int)), (8, .int .i64 ((byF v) : Int)), (13, .slice V63 (wordsF (codB l 12)).length v63), (15, .slice V68 (wordsF (movB (codB l 12) ((atF u (codB l 12).length) : Int) ((byF v) : Int))).length v68), (21, .int .i64 (k : Int))]) (fun k : Nat => [Rd B (U8 (codB l 12)), Rd V63 (N32 (wordsF (codB l 12))), Rd V68 (N32 (wordsF (movB (codB l 12) ((atF u (codB l 12).length) : Int) ((byF v) : Int))))]) (fun k : Nat => []) (fun k : Nat => (atF u (codB l 12).length) ≤ k ∧ k ≤ (atF u (codB l 12).length) + (byF v)) (fun k : Nat => (atF u (codB l 12).length) + (byF v) - k) (atF u (codB l 12).length) ⟨Nat.le_refl _, Nat.le_add_right _ _⟩ (by exact Le.mk' (rs := [0, 1, 2]) (hs := []) ⟨rfl, rfl, rfl, rfl, rfl, rfl, rfl, trivial⟩ ⟨rfl, rfl, rfl, trivial⟩ trivial (by decide)) ?_
       rintro k ⟨hk1, hk2⟩
       refine C.seq (C.seq (C.region ?_)); refine Lpu rfl rfl ?_; refine Lpu rfl rfl ?_; refine Lpu rfl rfl ?_; refine L.step (Ev.cast (u := .int .i64 (((atF u (codB l 12).length) + (byF v) : Nat) : Int)) (Ev.add rfl rfl (by omega) (by omega)) (congrArg (Value.int .i64) (by omega))) rfl ?_; refine Lpu rfl rfl ?_; refine L.nil (QE.seq ?_)
       refine C.condB 158 rfl (fun hc158 => ?_) (fun hc158 => ?_)
       ·
        replace hc158 := of_decide_eq_true hc158
        refine C.skip (QE.seq (C.seq (C.block (C.seq (C.region ?_))))); refine Lpu rfl rfl ?_; refine Lpu rfl rfl ?_; refine L.step (Ev.idx1 (k := k) rfl rfl rfl rfl rfl rfl rfl (by omega) (Src.r 2 rfl) (by rw [N32_len]; omega)) rfl ?_; refine L.step (Ev.cast (u := .int .u32 0) (Ev.load rfl rfl rfl (Src.r 2 rfl) (N32_get (by omega))) (by rw [hmv.zero (k := k) (by omega) (by omega)]; rfl)) rfl ?_; refine Lpu rfl rfl ?_; refine L.nil (QE.seq ?_)
        refine C.condB 165 rfl (fun hc165 => ?_) (fun hc165 => ?_)
        ·
         replace hc165 := b_ne hc165
         first | exact absurd rfl hg165 | omega | exact absurd rfl hc165
        ·
         replace hc165 := b_eq hc165
         refine C.skip ?_; refine QE.blkN ?_; refine QE.seq (C.region ?_); refine Lpu rfl rfl ?_; refine L.step (Ev.add rfl rfl (by omega) (by omega)) rfl ?_; refine Lpu rfl rfl ?_; refine L.nil ?_
         refine QE.round (k + 1) (by exact ⟨by omega, by omega⟩) (by omega) (by exact Le.mk' (rs := [0, 1, 2]) (hs := []) ⟨rfl, rfl, rfl, rfl, rfl, rfl, rfl, trivial⟩ ⟨rfl, rfl, rfl, trivial⟩ trivial (by decide))
       ·
        replace hc158 := of_decide_eq_false hc158
        refine C.exit ?_; refine QE.tX ?_; refine QE.tX ?_; refine QE.blk ?_; refine QE.seq (C.seq (C.region ?_)); refine Lpu rfl rfl ?_; refine Lpu rfl rfl ?_; refine L.nil (QE.seq (C.ret ?_)); refine QE.ret (js := []) (hs := []) (vs := [_]) rfl ⟨rfl, trivial⟩ (by decide) ?_
        exact ⟨rfl, rfl, rfl⟩

end Go.Proofs.Ytkjhcjhfegakoaa
