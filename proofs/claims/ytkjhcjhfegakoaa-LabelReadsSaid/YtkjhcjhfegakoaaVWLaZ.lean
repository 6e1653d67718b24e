/-
  The laws LabelMatchesReference and LabelMoves.
-/
import Derived.Test.YtkjhcjhfegakoaaVLal
namespace Go.Proofs.Ytkjhcjhfegakoaa
open Go.Sl

theorem lift3_k (B : Option Addr) (b : List UInt8) (bc : Nat) (hl : b.length ≤ 1000000) (x : Lf) (e : Int) (hx : liftR b = x) (he : liftE b = e) :
   Ctr X 14 [.slice B b.length bc] [Rd B (U8 b)] [] (fun v R' H' => ∃ (WA MA LA : Option Addr) (wc mc lc : Nat), v = .tuple #[.agg (List.toArray [.slice WA x.ws.length wc, .slice MA x.ms.length mc, .slice LA x.ls.length lc]), .int .i64 e] ∧ R' = [] ∧ H' = [Own 53 1 WA x.ws.length wc (N32 x.ws), Own 4 1 MA x.ms.length mc (Bs x.ms), Own 3 1 LA x.ls.length lc (I64 x.ls)]) := by
 subst hx he
 exact lift3_c B b bc hl
theorem codeB_len {b : List UInt8} (h : codeB b) : b.length ≤ 65536 := h.2
theorem movB_len {b : List UInt8} (_h : codeB b) (p q : Int) : (movB b p q).length ≤ 1000000 := by
 rcases movC_cases b p q with h | ⟨_, h⟩
 · have hok : movOk b p q := by
     unfold movC at h
     split at h
     · assumption
     · cases h
   have hc : lowC (moveF (liftR b) p.toNat q.toNat) = 0 := by
     unfold movC at h
     rwa [if_pos hok] at h
   obtain ⟨l, _, h2, h3, h4, _⟩ := lift_low hc
   unfold movB
   rw [if_pos hok, h2, bytesF_len]
   omega
 · rw [h]
   exact Nat.zero_le _

set_option maxHeartbeats 4000000 in
theorem lMatches_c (LA : Option Addr) (l : List (List UInt8)) (lc : Nat) (hll : l.length ≤ 9223372036854775807) (p q : Int) (hp : -128 ≤ p ∧ p ≤ 127) (hq : -128 ≤ q ∧ q ≤ 127) :
   Ctr X 3 [.slice LA l.length lc, .agg (List.toArray [.int .i8 p, .int .i8 q])] [Rd LA (frV l)] [] (fun v R' H' => v = .bool true ∧ R' = [] ∧ H' = []) := by
 refine Ctr.of (X := X) (fn := Try.f3) Try.func3 rfl (by kernel_rfl) rfl ?_
 intro β
 refine C.seq (C.region ?_)
 refine L.boxA rfl rfl (fun A3 => ?_)
 refine Lpu rfl rfl ?_; refine L.nil (QE.seq (C.seq ?_)); refine C.freeze 0 rfl [] (by decide) (by decide) ?_; refine C.region ?_; refine L.call (js := []) (js' := []) (sanity03_c) rfl rfl rfl (by decide) trivial rfl ?_
 rintro _ _ _ ⟨rfl, rfl, rfl⟩
 refine Lpu rfl rfl ?_; refine L.nil (QE.seq (C.seq (C.region ?_))); refine Lpu rfl rfl ?_; refine L.call (js := []) (js' := []) (code_c LA l lc 12 hll (by decide)) rfl rfl rfl (by decide) (Hq [1] rfl) rfl ?_
 rintro _ _ _ ⟨B, bc, rfl, rfl, rfl⟩
 refine L.norm (H' := [_]) [0] ⟨rfl, trivial⟩ (by decide) ?_; refine Lpu rfl rfl ?_; refine L.nil (QE.seq (C.seq ?_))
 refine C.cap 0 rfl (fun hbc => ?_)
 have hbl := codB_len l 12
 have hb4 := codB_four l 12
 have hco : codeB (codB l 12) := codB_code l (by decide)
 have hxl := lift_len hco
 have hll3 := low_lift_yes hco
 have hx32 := liftR_w32 (codB l 12)
 have hrf := read_form_lift hco
 have hml : (movB (codB l 12) p q).length ≤ 1000000 := movB_len hco p q
 refine C.freeze 0 rfl [] (by decide) (by decide) ?_; refine C.region ?_; refine Lpu rfl rfl ?_; refine L.call (js := []) (js' := []) (lift_k B (codB l 12) bc hbc (by omega) (liftR (codB l 12)) 0 rfl (liftE_code hco)) rfl rfl rfl (by decide) (Hq [0] rfl) rfl ?_
 rintro _ _ _ ⟨W24, M24, L24, l24, rfl, rfl, rfl⟩
 refine L.norm (H' := [_, _, _]) [0, 1, 2] ⟨rfl, rfl, rfl, trivial⟩ (by decide) ?_; refine Lpu rfl rfl ?_; refine Lpu rfl rfl ?_; refine Lpu rfl rfl ?_
 refine L.alloc rfl rfl rfl (fun A7 => ?_)
 refine L.storeA (j := 3) rfl rfl rfl rfl rfl (Nat.zero_lt_succ _) rfl rfl ?_; refine Lpu rfl rfl ?_; refine L.nil (QE.seq (C.seq ?_)); refine C.freeze 0 rfl [1, 2, 3] (by decide) (by decide) ?_; refine C.norm (H' := [_, _, _]) [0, 1, 2] ⟨rfl, rfl, rfl, trivial⟩ (by decide) ?_; refine C.freeze 0 rfl [1, 2] (by decide) (by decide) ?_; refine C.norm (H' := [_, _]) [0, 1] ⟨rfl, rfl, trivial⟩ (by decide) ?_; refine C.freeze 0 rfl [1] (by decide) (by decide) ?_; refine C.norm (H' := [_]) [0] ⟨rfl, trivial⟩ (by decide) ?_; refine C.freeze 0 rfl [] (by decide) (by decide) ?_; refine C.region ?_; refine Lpu rfl rfl ?_; refine L.call (js := []) (js' := []) (lift3_k B (codB l 12) bc (by omega) (liftR (codB l 12)) 0 rfl (liftE_code hco)) rfl rfl rfl (by decide) (Hq [4] rfl) rfl ?_
 rintro _ _ _ ⟨W29, M29, L29, w29, m29, l29, rfl, rfl, rfl⟩
 refine L.norm (H' := [_, _, _]) [0, 1, 2] ⟨rfl, rfl, rfl, trivial⟩ (by decide) ?_; refine Lpu rfl rfl ?_; refine Lpu rfl rfl ?_; refine Lpu rfl rfl ?_
 refine L.alloc rfl rfl rfl (fun A9 => ?_)
 refine L.storeA (j := 3) rfl rfl rfl rfl rfl (Nat.zero_lt_succ _) rfl rfl ?_; refine Lpu rfl rfl ?_; refine L.nil (QE.seq (C.seq ?_))
 refine C.cap 1 rfl (fun hmc29 => ?_)
 refine C.freeze 0 rfl [1, 2, 3] (by decide) (by decide) ?_; refine C.norm (H' := [_, _, _]) [0, 1, 2] ⟨rfl, rfl, rfl, trivial⟩ (by decide) ?_; refine C.freeze 0 rfl [1, 2] (by decide) (by decide) ?_; refine C.norm (H' := [_, _]) [0, 1] ⟨rfl, rfl, trivial⟩ (by decide) ?_; refine C.freeze 0 rfl [1] (by decide) (by decide) ?_; refine C.norm (H' := [_]) [0] ⟨rfl, trivial⟩ (by decide) ?_; refine C.freeze 0 rfl [] (by decide) (by decide) ?_; refine C.region ?_; refine Lpu rfl rfl ?_; refine L.step (Ev.idxArr (k := 0) (m := 0) rfl rfl rfl rfl rfl rfl (by decide) (Src.r 9 rfl) (by exact Nat.zero_lt_succ _) rfl) rfl ?_; refine L.step (Ev.load rfl rfl rfl (Src.r 9 rfl) rfl) rfl ?_; refine L.step (Ev.toInt rfl rfl rfl rfl (by omega) (by omega)) rfl ?_; refine L.step (Ev.idxArr (k := 1) (m := 1) rfl rfl rfl rfl rfl rfl (by decide) (Src.r 9 rfl) (by exact Nat.zero_lt_succ _) rfl) rfl ?_; refine L.step (Ev.load rfl rfl rfl (Src.r 9 rfl) rfl) rfl ?_; refine L.step (Ev.toInt rfl rfl rfl rfl (by omega) (by omega)) rfl ?_; refine L.call (js := []) (js' := []) (moved_c B (codB l 12) bc hbc (by omega) p q) rfl rfl rfl (by decide) (Hq [8] rfl) rfl ?_
 rintro _ _ _ ⟨Y40, y40, rfl, rfl, rfl⟩
 refine L.norm (H' := [_]) [0] ⟨rfl, trivial⟩ (by decide) ?_; refine Lpu rfl rfl ?_; refine Lpu rfl rfl ?_; refine Lpu rfl rfl ?_; refine Lpu rfl rfl ?_; refine Lpu rfl rfl ?_; refine L.nil (QE.seq (C.seq ?_)); refine C.freeze 0 rfl [] (by decide) (by decide) ?_; refine C.region ?_; refine Lpu rfl rfl ?_; refine L.step (Ev.idxArr (k := 0) (m := 0) rfl rfl rfl rfl rfl rfl (by decide) (Src.r 10 rfl) (by exact Nat.zero_lt_succ _) rfl) rfl ?_; refine L.step (Ev.load rfl rfl rfl (Src.r 10 rfl) rfl) rfl ?_; refine L.step (Ev.toInt rfl rfl rfl rfl (by omega) (by omega)) rfl ?_; refine L.step (Ev.idxArr (k := 1) (m := 1) rfl rfl rfl rfl rfl rfl (by decide) (Src.r 10 rfl) (by exact Nat.zero_lt_succ _) rfl) rfl ?_; refine L.step (Ev.load rfl rfl rfl (Src.r 10 rfl) rfl) rfl ?_; refine L.step (Ev.toInt rfl rfl rfl rfl (by omega) (by omega)) rfl ?_; refine L.step (Ev.build rfl rfl rfl rfl rfl rfl rfl) rfl ?_; refine L.call (js := []) (js' := []) (moved3_c B (codB l 12) bc (by omega) p q) rfl rfl rfl (by decide) (Hq [9] rfl) rfl ?_
 rintro _ _ _ ⟨Y52, y52, rfl, rfl, rfl⟩
 refine L.norm (H' := [_]) [0] ⟨rfl, trivial⟩ (by decide) ?_; refine Lpu rfl rfl ?_; refine Lpu rfl rfl ?_; refine Lpu rfl rfl ?_; refine Lpu rfl rfl ?_; refine Lpu rfl rfl ?_; refine L.nil (QE.seq (C.seq ?_)); refine C.freeze 0 rfl [] (by decide) (by decide) ?_; refine C.region ?_; refine L.step (Ev.loadA (vs := [.slice W29 (liftR (codB l 12)).ws.length w29, .slice M29 (liftR (codB l 12)).ms.length m29, .slice L29 (liftR (codB l 12)).ls.length l29]) rfl rfl rfl (Src.r 2 rfl) rfl rfl (by decide)) rfl ?_; refine L.call (js := []) (js' := []) (lower_k W29 M29 L29 w29 m29 l29 (liftR (codB l 12)) (by omega) (by omega) (by omega) hx32 (codB l 12) 0 hll3.1 hll3.2) rfl rfl rfl (by decide) (Hq [5, 4, 3] rfl) rfl ?_
 rintro _ _ _ ⟨Y57, y57, rfl, rfl, rfl⟩
 refine L.norm (H' := [_]) [0] ⟨rfl, trivial⟩ (by decide) ?_; refine Lpu rfl rfl ?_; refine Lpu rfl rfl ?_; refine Lpu rfl rfl ?_; refine Lpu rfl rfl ?_; refine Lpu rfl rfl ?_; refine L.nil (QE.seq (C.seq ?_)); refine C.freeze 0 rfl [] (by decide) (by decide) ?_; refine C.region ?_; refine L.step (Ev.loadA (vs := [.slice W29 (liftR (codB l 12)).ws.length w29, .slice M29 (liftR (codB l 12)).ms.length m29, .slice L29 (liftR (codB l 12)).ls.length l29]) rfl rfl rfl (Src.r 3 rfl) rfl rfl (by decide)) rfl ?_; refine L.call (js := []) (js' := []) (form3_c W29 M29 L29 w29 m29 l29 (liftR (codB l 12)) (by omega) (by omega) (by omega) hx32 (by omega) liftR_asc) rfl rfl rfl (by decide) (Hq [6, 5, 4] rfl) rfl ?_
 rintro _ _ _ ⟨F, fc, rfl, rfl, rfl⟩
 refine L.capL 0 rfl (fun hfc => ?_)
 refine L.norm (H' := [_]) [0] ⟨rfl, trivial⟩ (by decide) ?_; refine L.call (js := []) (js' := [0]) (read_k F (formF (liftR (codB l 12))) fc hfc (by rw [formF_len]; omega) (liftR (codB l 12)) 0 hrf.1 hrf.2) rfl rfl rfl (by decide) ⟨(Has.o 0 rfl), trivial⟩ rfl ?_
 rintro _ _ _ ⟨W63, M63, L63, w63, m63, l63, rfl, rfl, rfl⟩
 refine L.norm (H' := [_, _, _, _]) [0, 1, 2, 3] ⟨rfl, rfl, rfl, rfl, trivial⟩ (by decide) ?_; refine Lpu rfl rfl ?_; refine Lpu rfl rfl ?_; refine Lpu rfl rfl ?_
 refine L.alloc rfl rfl rfl (fun A17 => ?_)
 refine L.storeA (j := 4) rfl rfl rfl rfl rfl (Nat.zero_lt_succ _) rfl rfl ?_; refine Lpu rfl rfl ?_; refine L.nil (QE.seq (C.seq ?_)); refine C.freeze 0 rfl [1, 2, 3, 4] (by decide) (by decide) ?_; refine C.norm (H' := [_, _, _, _]) [0, 1, 2, 3] ⟨rfl, rfl, rfl, rfl, trivial⟩ (by decide) ?_; refine C.freeze 0 rfl [1, 2, 3] (by decide) (by decide) ?_; refine C.norm (H' := [_, _, _]) [0, 1, 2] ⟨rfl, rfl, rfl, trivial⟩ (by decide) ?_; refine C.freeze 0 rfl [1, 2] (by decide) (by decide) ?_; refine C.norm (H' := [_, _]) [0, 1] ⟨rfl, rfl, trivial⟩ (by decide) ?_; refine C.freeze 1 rfl [0] (by decide) (by decide) ?_; refine C.norm (H' := [_]) [0] ⟨rfl, trivial⟩ (by decide) ?_; refine C.regionM [Rd B (U8 (codB l 12)), Rd A7 [.slice W24 (liftR (codB l 12)).ws.length (liftR (codB l 12)).ws.length, .slice M24 (liftR (codB l 12)).ms.length (liftR (codB l 12)).ms.length, .slice L24 (liftR (codB l 12)).ls.length l24], Rd A9 [.slice W29 (liftR (codB l 12)).ws.length w29, .slice M29 (liftR (codB l 12)).ms.length m29, .slice L29 (liftR (codB l 12)).ls.length l29], Rd A17 [.slice W63 (liftR (codB l 12)).ws.length w63, .slice M63 (liftR (codB l 12)).ms.length m63, .slice L63 (liftR (codB l 12)).ls.length l63], Rd W24 (N32 (liftR (codB l 12)).ws), Rd M24 (Bs (liftR (codB l 12)).ms), Rd L24 (I64 (liftR (codB l 12)).ls), Rd W29 (N32 (liftR (codB l 12)).ws), Rd M29 (Bs (liftR (codB l 12)).ms), Rd L29 (I64 (liftR (codB l 12)).ls), Rd W63 (N32 (liftR (codB l 12)).ws), Rd M63 (Bs (liftR (codB l 12)).ms), Rd L63 (I64 (liftR (codB l 12)).ls), Rd Y40 (U8 (movB (codB l 12) p q)), Rd Y52 (U8 (movB (codB l 12) p q)), Rd Y57 (U8 (codB l 12))] (Hq [15, 11, 7, 0, 14, 13, 12, 10, 9, 8, 3, 2, 1, 6, 5, 4] rfl) ?_; refine LM.q 0 rfl (by kernel_rfl) (Ev.loadA (vs := [.slice W24 (liftR (codB l 12)).ws.length (liftR (codB l 12)).ws.length, .slice M24 (liftR (codB l 12)).ms.length (liftR (codB l 12)).ms.length, .slice L24 (liftR (codB l 12)).ls.length l24]) rfl rfl rfl (Src.r 1 rfl) rfl rfl (by decide)) rfl (Hq [15, 11, 7, 0, 14, 13, 12, 10, 9, 8, 3, 2, 1, 6, 5, 4] rfl) ?_; refine LM.q 1 rfl (by kernel_rfl) (Ev.loadA (vs := [.slice W29 (liftR (codB l 12)).ws.length w29, .slice M29 (liftR (codB l 12)).ms.length m29, .slice L29 (liftR (codB l 12)).ls.length l29]) rfl rfl rfl (Src.r 2 rfl) rfl rfl (by decide)) rfl (Hq [15, 11, 7, 0, 14, 13, 12, 10, 9, 8, 3, 2, 1, 6, 5, 4] rfl) ?_; refine LM.f 2 rfl (by kernel_rfl) (Hq [15, 11, 7, 0, 14, 13, 12, 10, 9, 8, 3, 2, 1, 6, 5, 4] rfl) ?_; refine L.call (js := []) (js' := [0]) (Ctr.tbL true (same3_c W24 M24 L24 (liftR (codB l 12)).ws.length (liftR (codB l 12)).ms.length l24 (liftR (codB l 12)) ⟨by omega, by omega, by omega⟩ W29 M29 L29 w29 m29 l29 (liftR (codB l 12)) ⟨by omega, by omega, by omega⟩) (decide_eq_true rfl)) rfl rfl rfl (by decide) (Hq [14, 13, 12, 10, 9, 8] rfl) rfl ?_
 rintro _ _ _ ⟨rfl, rfl, rfl⟩
 refine L.norm (H' := [_]) [0] ⟨rfl, trivial⟩ (by decide) ?_
 refine L.nil (QE.m (by kernel_rfl) ?_)
 refine LM.q 3 rfl (by kernel_rfl) (Ev.pure rfl) rfl (Hq [15, 11, 7, 0, 14, 13, 12, 10, 9, 8, 3, 2, 1, 6, 5, 4] rfl) ?_; refine LM.qy 4 rfl (by kernel_rfl) rfl (Ev.pure rfl) rfl (Hq [15, 11, 7, 0, 14, 13, 12, 10, 9, 8, 3, 2, 1, 6, 5, 4] rfl) ?_; refine LM.qy 5 rfl (by kernel_rfl) rfl (Ev.pure rfl) rfl (Hq [15, 11, 7, 0, 14, 13, 12, 10, 9, 8, 3, 2, 1, 6, 5, 4] rfl) ?_; refine LM.qy 6 rfl (by kernel_rfl) rfl (Ev.pure rfl) rfl (Hq [15, 11, 7, 0, 14, 13, 12, 10, 9, 8, 3, 2, 1, 6, 5, 4] rfl) ?_; refine LM.q 7 rfl (by kernel_rfl) (Ev.pure rfl) rfl (Hq [15, 11, 7, 0, 14, 13, 12, 10, 9, 8, 3, 2, 1, 6, 5, 4] rfl) ?_; refine LM.q 8 rfl (by kernel_rfl) (Ev.pure rfl) rfl (Hq [15, 11, 7, 0, 14, 13, 12, 10, 9, 8, 3, 2, 1, 6, 5, 4] rfl) ?_
 refine LM.bool 74 rfl (fun hg74 => ?_) (fun hg74 => ?_)
 ·
  replace hg74 := i_eq hg74
  refine LM.qy 9 rfl (by kernel_rfl) rfl (Ev.pure rfl) rfl (Hq [15, 11, 7, 0, 14, 13, 12, 10, 9, 8, 3, 2, 1, 6, 5, 4] rfl) ?_; refine LM.qy 10 rfl (by kernel_rfl) rfl (Ev.pure rfl) rfl (Hq [15, 11, 7, 0, 14, 13, 12, 10, 9, 8, 3, 2, 1, 6, 5, 4] rfl) ?_; refine LM.f 11 rfl (by kernel_rfl) (Hq [15, 11, 7, 0, 14, 13, 12, 10, 9, 8, 3, 2, 1, 6, 5, 4] rfl) ?_; refine L.yes rfl ?_; refine L.call (js := []) (js' := [0]) (Ctr.tbL true (same_c Y40 Y52 y40 y52 (movB (codB l 12) p q) (movB (codB l 12) p q) (by omega) (by omega)) (beq_self_eq_true _)) rfl rfl rfl (by decide) (Hq [6, 5] rfl) rfl ?_
  rintro _ _ _ ⟨rfl, rfl, rfl⟩
  refine L.norm (H' := [_]) [0] ⟨rfl, trivial⟩ (by decide) ?_
  refine L.nil (QE.m (by kernel_rfl) ?_)
  refine LM.q 12 rfl (by kernel_rfl) (Ev.pure rfl) rfl (Hq [15, 11, 7, 0, 14, 13, 12, 10, 9, 8, 3, 2, 1, 6, 5, 4] rfl) ?_; refine LM.q 13 rfl (by kernel_rfl) (Ev.pure rfl) rfl (Hq [15, 11, 7, 0, 14, 13, 12, 10, 9, 8, 3, 2, 1, 6, 5, 4] rfl) ?_; refine LM.qy 14 rfl (by kernel_rfl) rfl (Ev.pure rfl) rfl (Hq [15, 11, 7, 0, 14, 13, 12, 10, 9, 8, 3, 2, 1, 6, 5, 4] rfl) ?_; refine LM.qy 15 rfl (by kernel_rfl) rfl (Ev.pure rfl) rfl (Hq [15, 11, 7, 0, 14, 13, 12, 10, 9, 8, 3, 2, 1, 6, 5, 4] rfl) ?_; refine LM.qy 16 rfl (by kernel_rfl) rfl (Ev.pure rfl) rfl (Hq [15, 11, 7, 0, 14, 13, 12, 10, 9, 8, 3, 2, 1, 6, 5, 4] rfl) ?_; refine LM.q 17 rfl (by kernel_rfl) (Ev.pure rfl) rfl (Hq [15, 11, 7, 0, 14, 13, 12, 10, 9, 8, 3, 2, 1, 6, 5, 4] rfl) ?_; refine LM.q 18 rfl (by kernel_rfl) (Ev.pure rfl) rfl (Hq [15, 11, 7, 0, 14, 13, 12, 10, 9, 8, 3, 2, 1, 6, 5, 4] rfl) ?_
  refine LM.bool 84 rfl (fun hg84 => ?_) (fun hg84 => ?_)
  ·
   replace hg84 := i_eq hg84
   refine LM.qy 19 rfl (by kernel_rfl) rfl (Ev.loadA (vs := [.slice W29 (liftR (codB l 12)).ws.length w29, .slice M29 (liftR (codB l 12)).ms.length m29, .slice L29 (liftR (codB l 12)).ls.length l29]) rfl rfl rfl (Src.r 2 rfl) rfl rfl (by decide)) rfl (Hq [15, 11, 7, 0, 14, 13, 12, 10, 9, 8, 3, 2, 1, 6, 5, 4] rfl) ?_; refine LM.qy 21 rfl (by kernel_rfl) rfl (Ev.loadA (vs := [.slice W29 (liftR (codB l 12)).ws.length w29, .slice M29 (liftR (codB l 12)).ms.length m29, .slice L29 (liftR (codB l 12)).ls.length l29]) rfl rfl rfl (Src.r 2 rfl) rfl rfl (by decide)) rfl (Hq [15, 11, 7, 0, 14, 13, 12, 10, 9, 8, 3, 2, 1, 6, 5, 4] rfl) ?_; refine LM.f 20 rfl (by kernel_rfl) (Hq [15, 11, 7, 0, 14, 13, 12, 10, 9, 8, 3, 2, 1, 6, 5, 4] rfl) ?_; refine L.yes rfl ?_; refine L.call (js := []) (js' := [0]) (form_c W29 M29 L29 w29 m29 l29 (liftR (codB l 12)) (by omega) (by omega) (by omega) hx32 hmc29 liftR_asc) rfl rfl rfl (by decide) (Hq [10, 9, 8] rfl) rfl ?_
   rintro _ _ _ ⟨F1, fc1, rfl, rfl, rfl⟩
   refine L.norm (H' := [_, _]) [0, 1] ⟨rfl, rfl, trivial⟩ (by decide) ?_
   refine L.nil (QE.m (by kernel_rfl) ?_)
   refine LM.f 22 rfl (by kernel_rfl) (Hq [15, 11, 7, 0, 14, 13, 12, 10, 9, 8, 3, 2, 1, 6, 5, 4] rfl) ?_; refine L.yes rfl ?_; refine L.call (js := []) (js' := [0, 1]) (form3_c W29 M29 L29 w29 m29 l29 (liftR (codB l 12)) (by omega) (by omega) (by omega) hx32 (by omega) liftR_asc) rfl rfl rfl (by decide) (Hq [10, 9, 8] rfl) rfl ?_
   rintro _ _ _ ⟨F2, fc2, rfl, rfl, rfl⟩
   refine L.norm (H' := [_, _, _]) [0, 1, 2] ⟨rfl, rfl, rfl, trivial⟩ (by decide) ?_
   refine L.nil (QE.m (by kernel_rfl) ?_)
   refine LM.f 23 rfl (by kernel_rfl) (Hq [15, 11, 7, 0, 14, 13, 12, 10, 9, 8, 3, 2, 1, 6, 5, 4] rfl) ?_; refine L.yes rfl ?_; refine L.call (js := []) (js' := [0, 1, 2]) (Ctr.tbL true (same_c F1 F2 fc1 fc2 (formF (liftR (codB l 12))) (formF (liftR (codB l 12))) (by rw [formF_len]; omega) (by rw [formF_len]; omega)) (beq_self_eq_true _)) rfl rfl rfl (by decide) ⟨(Has.o 1 rfl), (Has.o 0 rfl), trivial⟩ rfl ?_
   rintro _ _ _ ⟨rfl, rfl, rfl⟩
   refine L.norm (H' := [_, _, _]) [0, 1, 2] ⟨rfl, rfl, rfl, trivial⟩ (by decide) ?_
   refine L.nil (QE.m (by kernel_rfl) ?_)
   refine LM.q 24 rfl (by kernel_rfl) (Ev.pure rfl) rfl (Hq [15, 11, 7, 0, 14, 13, 12, 10, 9, 8, 3, 2, 1, 6, 5, 4] rfl) ?_; refine LM.q 25 rfl (by kernel_rfl) (Ev.pure rfl) rfl (Hq [15, 11, 7, 0, 14, 13, 12, 10, 9, 8, 3, 2, 1, 6, 5, 4] rfl) ?_; refine LM.qy 26 rfl (by kernel_rfl) rfl (Ev.pure rfl) rfl (Hq [15, 11, 7, 0, 14, 13, 12, 10, 9, 8, 3, 2, 1, 6, 5, 4] rfl) ?_; refine LM.qy 27 rfl (by kernel_rfl) rfl (Ev.pure rfl) rfl (Hq [15, 11, 7, 0, 14, 13, 12, 10, 9, 8, 3, 2, 1, 6, 5, 4] rfl) ?_; refine LM.q 28 rfl (by kernel_rfl) (Ev.pure rfl) rfl (Hq [15, 11, 7, 0, 14, 13, 12, 10, 9, 8, 3, 2, 1, 6, 5, 4] rfl) ?_; refine LM.q 29 rfl (by kernel_rfl) (Ev.pure rfl) rfl (Hq [15, 11, 7, 0, 14, 13, 12, 10, 9, 8, 3, 2, 1, 6, 5, 4] rfl) ?_
   refine LM.bool 95 rfl (fun hg95 => ?_) (fun hg95 => ?_)
   ·
    replace hg95 := i_eq hg95
    refine LM.qy 30 rfl (by kernel_rfl) rfl (Ev.pure rfl) rfl (Hq [15, 11, 7, 0, 14, 13, 12, 10, 9, 8, 3, 2, 1, 6, 5, 4] rfl) ?_; refine LM.qy 31 rfl (by kernel_rfl) rfl (Ev.pure rfl) rfl (Hq [15, 11, 7, 0, 14, 13, 12, 10, 9, 8, 3, 2, 1, 6, 5, 4] rfl) ?_; refine LM.f 32 rfl (by kernel_rfl) (Hq [15, 11, 7, 0, 14, 13, 12, 10, 9, 8, 3, 2, 1, 6, 5, 4] rfl) ?_; refine L.yes rfl ?_; refine L.call (js := []) (js' := [0, 1, 2]) (Ctr.tbL true (same_c Y57 B y57 bc (codB l 12) (codB l 12) (by omega) (by omega)) (beq_self_eq_true _)) rfl rfl rfl (by decide) (Hq [4, 15] rfl) rfl ?_
    rintro _ _ _ ⟨rfl, rfl, rfl⟩
    refine L.norm (H' := [_, _, _]) [0, 1, 2] ⟨rfl, rfl, rfl, trivial⟩ (by decide) ?_
    refine L.nil (QE.m (by kernel_rfl) ?_)
    refine LM.q 33 rfl (by kernel_rfl) (Ev.pure rfl) rfl (Hq [15, 11, 7, 0, 14, 13, 12, 10, 9, 8, 3, 2, 1, 6, 5, 4] rfl) ?_; refine LM.q 34 rfl (by kernel_rfl) (Ev.pure rfl) rfl (Hq [15, 11, 7, 0, 14, 13, 12, 10, 9, 8, 3, 2, 1, 6, 5, 4] rfl) ?_; refine LM.qy 35 rfl (by kernel_rfl) rfl (Ev.pure rfl) rfl (Hq [15, 11, 7, 0, 14, 13, 12, 10, 9, 8, 3, 2, 1, 6, 5, 4] rfl) ?_; refine LM.qy 36 rfl (by kernel_rfl) rfl (Ev.pure rfl) rfl (Hq [15, 11, 7, 0, 14, 13, 12, 10, 9, 8, 3, 2, 1, 6, 5, 4] rfl) ?_; refine LM.q 37 rfl (by kernel_rfl) (Ev.pure rfl) rfl (Hq [15, 11, 7, 0, 14, 13, 12, 10, 9, 8, 3, 2, 1, 6, 5, 4] rfl) ?_; refine LM.q 38 rfl (by kernel_rfl) (Ev.pure rfl) rfl (Hq [15, 11, 7, 0, 14, 13, 12, 10, 9, 8, 3, 2, 1, 6, 5, 4] rfl) ?_
    refine LM.bool 104 rfl (fun hg104 => ?_) (fun hg104 => ?_)
    ·
     replace hg104 := i_eq hg104
     refine LM.qy 39 rfl (by kernel_rfl) rfl (Ev.loadA (vs := [.slice W63 (liftR (codB l 12)).ws.length w63, .slice M63 (liftR (codB l 12)).ms.length m63, .slice L63 (liftR (codB l 12)).ls.length l63]) rfl rfl rfl (Src.r 3 rfl) rfl rfl (by decide)) rfl (Hq [15, 11, 7, 0, 14, 13, 12, 10, 9, 8, 3, 2, 1, 6, 5, 4] rfl) ?_; refine LM.f 40 rfl (by kernel_rfl) (Hq [15, 11, 7, 0, 14, 13, 12, 10, 9, 8, 3, 2, 1, 6, 5, 4] rfl) ?_; refine L.yes rfl ?_; refine L.step (Ev.loadA (vs := [.slice W29 (liftR (codB l 12)).ws.length w29, .slice M29 (liftR (codB l 12)).ms.length m29, .slice L29 (liftR (codB l 12)).ls.length l29]) rfl rfl rfl (Src.r 7 rfl) rfl rfl (by decide)) rfl ?_
     refine L.nil (QE.m (by kernel_rfl) ?_)
     refine LM.cut [] (by kernel_rfl) (Hq [15, 11, 7, 0, 14, 13, 12, 10, 9, 8, 3, 2, 1, 6, 5, 4] rfl) ?_; refine LM.f 41 rfl (by kernel_rfl) trivial ?_; refine L.yes rfl ?_; refine L.call (js := []) (js' := [0, 1, 2]) (Ctr.tbL true (same3_c W63 M63 L63 w63 m63 l63 (liftR (codB l 12)) ⟨by omega, by omega, by omega⟩ W29 M29 L29 w29 m29 l29 (liftR (codB l 12)) ⟨by omega, by omega, by omega⟩) (decide_eq_true rfl)) rfl rfl rfl (by decide) (Hq [3, 2, 1, 10, 9, 8] rfl) rfl ?_
     rintro _ _ _ ⟨rfl, rfl, rfl⟩
     refine L.norm (H' := [_, _, _]) [0, 1, 2] ⟨rfl, rfl, rfl, trivial⟩ (by decide) ?_
     refine L.nil (QE.m (by kernel_rfl) ?_)
     refine LM.f 42 rfl (by kernel_rfl) trivial ?_; refine Lpu rfl rfl ?_
     refine L.nil (QE.m (by kernel_rfl) ?_)
     refine LM.f 43 rfl (by kernel_rfl) trivial ?_; refine Lpu rfl rfl ?_
     refine L.nil (QE.m (by kernel_rfl) ?_)
     refine LM.f 44 rfl (by kernel_rfl) trivial ?_; refine L.yes rfl ?_; refine Lpu rfl rfl ?_
     refine L.nil (QE.m (by kernel_rfl) ?_)
     refine LM.f 45 rfl (by kernel_rfl) trivial ?_; refine Lpu rfl rfl ?_
     refine L.nil (QE.m (by kernel_rfl) ?_)
     refine LM.f 46 rfl (by kernel_rfl) trivial ?_; refine Lpu rfl rfl ?_
     refine L.nil (QE.m (by kernel_rfl) ?_)
     refine LM.nil (by kernel_rfl) trivial ?_; refine QE.seq (C.ret ?_); refine QE.ret (js := []) (hs := []) (vs := [_]) rfl ⟨rfl, trivial⟩ (by decide) ?_
     exact ⟨rfl, rfl, rfl⟩
    ·
     replace hg104 := i_ne hg104
     first | exact absurd rfl hg104 | omega | exact absurd rfl hc104
   ·
    replace hg95 := i_ne hg95
    first | exact absurd rfl hg95 | omega | exact absurd rfl hc95
  ·
   replace hg84 := i_ne hg84
   first | exact absurd rfl hg84 | omega | exact absurd rfl hc84
 ·
  replace hg74 := i_ne hg74
  first | exact absurd rfl hg74 | omega | exact absurd rfl hc74

set_option maxHeartbeats 4000000 in
theorem lMoves_c (LA : Option Addr) (l : List (List UInt8)) (lc : Nat) (hll : l.length ≤ 9223372036854775807) (p q : UInt8) :
   Ctr X 8 [.slice LA l.length lc, .agg (List.toArray [.int .u8 (p.toNat : Int), .int .u8 (q.toNat : Int)])] [Rd LA (frV l)] [] (fun v R' H' => v = .bool true ∧ R' = [] ∧ H' = []) := by
 refine Ctr.of (X := X) (fn := Try.f8) Try.func8 rfl (by kernel_rfl) rfl ?_
 intro β
 refine C.seq (C.region ?_)
 refine L.boxA rfl rfl (fun A3 => ?_)
 refine Lpu rfl rfl ?_; refine L.nil (QE.seq (C.seq ?_)); refine C.freeze 0 rfl [] (by decide) (by decide) ?_; refine C.region ?_; refine L.call (js := []) (js' := []) (sanity03_c) rfl rfl rfl (by decide) trivial rfl ?_
 rintro _ _ _ ⟨rfl, rfl, rfl⟩
 refine Lpu rfl rfl ?_; refine L.nil (QE.seq (C.seq (C.region ?_))); refine Lpu rfl rfl ?_; refine L.call (js := []) (js' := []) (code_c LA l lc 12 hll (by decide)) rfl rfl rfl (by decide) (Hq [1] rfl) rfl ?_
 rintro _ _ _ ⟨B, bc, rfl, rfl, rfl⟩
 refine L.norm (H' := [_]) [0] ⟨rfl, trivial⟩ (by decide) ?_; refine Lpu rfl rfl ?_; refine L.nil (QE.seq (C.seq ?_))
 refine C.cap 0 rfl (fun hbc => ?_)
 have hbl := codB_len l 12
 have hb4 := codB_four l 12
 have hco : codeB (codB l 12) := codB_code l (by decide)
 have hxl := lift_len hco
 have hll3 := low_lift_yes hco
 have hx32 := liftR_w32 (codB l 12)
 have hml : (movB (codB l 12) ((p.toNat % (((codB l 12).length / 4) + 1)) : Int) ((q.toNat % 10) : Int)).length ≤ 1000000 := movB_len hco _ _
 have hat : (p.toNat % (((codB l 12).length / 4) + 1)) ≤ ((codB l 12).length / 4) := Nat.le_of_lt_succ (Nat.mod_lt _ (Nat.succ_pos _))
 have hby : (q.toNat % 10) < 10 := Nat.mod_lt _ (by decide)
 have hpu := UInt8.toNat_lt p
 have hqu := UInt8.toNat_lt q
 have hme := movC_cases (codB l 12) ((p.toNat % (((codB l 12).length / 4) + 1)) : Int) ((q.toNat % 10) : Int)
 refine C.freeze 0 rfl [] (by decide) (by decide) ?_; refine C.regionQ (by kernel_rfl) ?_; refine LQ.step (Ev.idxArr (k := 0) (m := 0) rfl rfl rfl rfl rfl rfl (by decide) (Src.r 1 rfl) (by exact Nat.zero_lt_succ _) rfl) rfl ?_; refine LQ.step (Ev.load rfl rfl rfl (Src.r 1 rfl) rfl) rfl ?_
 first | refine LQ.step (Ev.byteInt rfl rfl rfl rfl) rfl ?_ | refine LQ.step (Ev.toInt rfl rfl rfl rfl (by omega) (by omega)) rfl ?_
 refine LQ.step (Ev.pure rfl) rfl ?_; refine LQ.step (Ev.pure rfl) rfl ?_; refine LQ.step (Ev.cast (u := .int .i64 ((((codB l 12).length / 4) : Nat) : Int)) (Ev.quo rfl rfl (by omega) (by decide) (by omega)) (congrArg (Value.int .i64) (by omega))) rfl ?_; refine LQ.step (Ev.cast (u := .int .i64 ((((codB l 12).length / 4) + 1 : Nat) : Int)) (Ev.add rfl rfl (by omega) (by omega)) (congrArg (Value.int .i64) (by omega))) rfl ?_; refine LQ.step (Ev.cast (u := .int .i64 (((p.toNat % (((codB l 12).length / 4) + 1)) : Nat) : Int)) (Ev.rem rfl rfl (by omega) (by omega)) (congrArg (Value.int .i64) (by omega))) rfl ?_; refine LQ.step (Ev.idxArr (k := 1) (m := 1) rfl rfl rfl rfl rfl rfl (by decide) (Src.r 1 rfl) (by exact Nat.zero_lt_succ _) rfl) rfl ?_; refine LQ.step (Ev.load rfl rfl rfl (Src.r 1 rfl) rfl) rfl ?_
 first | refine LQ.step (Ev.byteInt rfl rfl rfl rfl) rfl ?_ | refine LQ.step (Ev.toInt rfl rfl rfl rfl (by omega) (by omega)) rfl ?_
 refine LQ.step (Ev.cast (u := .int .i64 (((q.toNat % 10) : Nat) : Int)) (Ev.rem rfl rfl (by omega) (by decide)) (congrArg (Value.int .i64) (by omega))) rfl ?_; refine LQ.step (Ev.pure rfl) rfl ?_; refine LQ.step (Ev.pure rfl) rfl ?_; refine LQ.nil ?_; refine QE.seq (C.seq (C.region ?_)); refine Lpu rfl rfl ?_; refine L.call (js := []) (js' := []) (lift_k B (codB l 12) bc hbc (by omega) (liftR (codB l 12)) 0 rfl (liftE_code hco)) rfl rfl rfl (by decide) (Hq [0] rfl) rfl ?_
 rintro _ _ _ ⟨W32, M32, L32, l32, rfl, rfl, rfl⟩
 refine L.norm (H' := [_, _, _]) [0, 1, 2] ⟨rfl, rfl, rfl, trivial⟩ (by decide) ?_; refine Lpu rfl rfl ?_; refine Lpu rfl rfl ?_; refine Lpu rfl rfl ?_
 refine L.alloc rfl rfl rfl (fun A9 => ?_)
 refine L.storeA (j := 3) rfl rfl rfl rfl rfl (Nat.zero_lt_succ _) rfl rfl ?_; refine Lpu rfl rfl ?_; refine L.nil (QE.seq (C.seq ?_)); refine C.freeze 0 rfl [1, 2, 3] (by decide) (by decide) ?_; refine C.norm (H' := [_, _, _]) [0, 1, 2] ⟨rfl, rfl, rfl, trivial⟩ (by decide) ?_; refine C.freeze 0 rfl [1, 2] (by decide) (by decide) ?_; refine C.norm (H' := [_, _]) [0, 1] ⟨rfl, rfl, trivial⟩ (by decide) ?_; refine C.freeze 0 rfl [1] (by decide) (by decide) ?_; refine C.norm (H' := [_]) [0] ⟨rfl, trivial⟩ (by decide) ?_; refine C.freeze 0 rfl [] (by decide) (by decide) ?_; refine C.region ?_; refine Lpu rfl rfl ?_; refine Lpu rfl rfl ?_; refine Lpu rfl rfl ?_; refine L.call (js := []) (js' := []) (moved_c B (codB l 12) bc hbc (by omega) ((p.toNat % (((codB l 12).length / 4) + 1)) : Int) ((q.toNat % 10) : Int)) rfl rfl rfl (by decide) (Hq [4] rfl) rfl ?_
 rintro _ _ _ ⟨Y, yc, rfl, rfl, rfl⟩
 refine L.norm (H' := [_]) [0] ⟨rfl, trivial⟩ (by decide) ?_; refine Lpu rfl rfl ?_; refine Lpu rfl rfl ?_; refine Lpu rfl rfl ?_; refine Lpu rfl rfl ?_; refine Lpu rfl rfl ?_; refine L.nil (QE.seq (C.seq (C.seq ?_)))
 refine C.cap 0 rfl (fun hmc => ?_)
 refine C.region ?_; refine Lpu rfl rfl ?_; refine Lpu rfl rfl ?_; refine Lpu rfl rfl ?_
 refine L.bool 44 rfl (fun hg44 => ?_) (fun hg44 => ?_)
 ·
  replace hg44 := b_ne hg44
  first | exact absurd rfl hg44 | omega | exact absurd rfl hc44
 ·
  replace hg44 := b_eq hg44
  refine L.yes rfl ?_; refine L.step (Ev.fieldAddr rfl rfl rfl rfl rfl rfl (Src.r 0 rfl) (Nat.zero_lt_succ _) rfl) rfl ?_; refine L.yes rfl ?_; refine L.step (Ev.load rfl rfl rfl (Src.r 0 rfl) rfl) rfl ?_; refine L.yes rfl ?_; refine Lpu rfl rfl ?_; refine L.yes rfl ?_; refine Lpu rfl rfl ?_; refine L.yes rfl ?_; refine Lpu rfl rfl ?_; refine L.yes rfl ?_; refine L.step (Ev.cast (u := .int .i64 ((((codB l 12).length / 4) : Nat) : Int)) (Ev.quo rfl rfl (by omega) (by decide) (by omega)) (congrArg (Value.int .i64) (by omega))) rfl ?_; refine L.yes rfl ?_; refine Lpu rfl rfl ?_; refine Lpu rfl rfl ?_; refine Lpu rfl rfl ?_
  refine L.bool 53 rfl (fun hg53 => ?_) (fun hg53 => ?_)
  ·
   replace hg53 := b_ne hg53
   first | exact absurd rfl hg53 | omega | exact absurd rfl hc53
  ·
   replace hg53 := b_eq hg53
   refine L.yes rfl ?_; refine L.step (Ev.fieldAddr rfl rfl rfl rfl rfl rfl (Src.r 0 rfl) (Nat.zero_lt_succ _) rfl) rfl ?_; refine L.yes rfl ?_; refine L.step (Ev.load rfl rfl rfl (Src.r 0 rfl) rfl) rfl ?_; refine L.yes rfl ?_; refine Lpu rfl rfl ?_; refine L.yes rfl ?_; refine Lpu rfl rfl ?_; refine L.yes rfl ?_; refine Lpu rfl rfl ?_; refine L.yes rfl ?_; refine L.step (Ev.cast (u := .int .i64 ((((codB l 12).length / 4) : Nat) : Int)) (Ev.quo rfl rfl (by omega) (by decide) (by omega)) (congrArg (Value.int .i64) (by omega))) rfl ?_; refine L.yes rfl ?_; refine Lpu rfl rfl ?_; refine Lpu rfl rfl ?_; refine Lpu rfl rfl ?_
   refine L.bool 62 rfl (fun hg62 => ?_) (fun hg62 => ?_)
   ·
    replace hg62 := b_ne hg62
    first | exact absurd rfl hg62 | omega | exact absurd rfl hc62
   ·
    replace hg62 := b_eq hg62
    refine L.yes rfl ?_; refine L.step (Ev.fieldAddr rfl rfl rfl rfl rfl rfl (Src.r 0 rfl) (Nat.zero_lt_succ _) rfl) rfl ?_; refine L.yes rfl ?_; refine L.step (Ev.load rfl rfl rfl (Src.r 0 rfl) rfl) rfl ?_; refine L.yes rfl ?_; refine Lpu rfl rfl ?_; refine L.yes rfl ?_; refine Lpu rfl rfl ?_; refine L.yes rfl ?_; refine Lpu rfl rfl ?_; refine L.yes rfl ?_; refine L.step (Ev.cast (u := .int .i64 ((((codB l 12).length / 4) : Nat) : Int)) (Ev.quo rfl rfl (by omega) (by decide) (by omega)) (congrArg (Value.int .i64) (by omega))) rfl ?_; refine L.yes rfl ?_; refine Lpu rfl rfl ?_; refine Lpu rfl rfl ?_; refine L.nil (QE.seq ?_)
    refine C.condB 70 rfl (fun hc70 => ?_) (fun hc70 => ?_)
    ·
     replace hc70 := of_decide_eq_true hc70
     first | exact absurd rfl hg70 | omega | exact absurd rfl hc70
    ·
     replace hc70 := of_decide_eq_false hc70
     refine C.skip (QE.seq (C.seq (C.seq (C.region ?_)))); refine Lpu rfl rfl ?_; refine Lpu rfl rfl ?_; refine L.nil (QE.seq ?_)
     refine C.condB 72 rfl (fun hc72 => ?_) (fun hc72 => ?_)
     ·
      replace hc72 := b_ne hc72
      have hm30 : (movC (codB l 12) ((p.toNat % (((codB l 12).length / 4) + 1)) : Int) ((q.toNat % 10) : Int)) = 30 ∧ (movB (codB l 12) ((p.toNat % (((codB l 12).length / 4) + 1)) : Int) ((q.toNat % 10) : Int)) = [] := hme.resolve_left hc72
      refine C.seq (C.region ?_); refine Lpu rfl rfl ?_; refine Lpu rfl rfl ?_; refine Lpu rfl rfl ?_
      refine L.bool 75 rfl (fun hg75 => ?_) (fun hg75 => ?_)
      ·
       replace hg75 := i_eq hg75
       refine L.yes rfl ?_; refine Lpu rfl rfl ?_; refine L.yes rfl ?_; refine Lpu rfl rfl ?_; refine L.yes rfl ?_; refine Lpu rfl rfl ?_; refine Lpu rfl rfl ?_; refine Lpu rfl rfl ?_
       refine L.bool 80 rfl (fun hg80 => ?_) (fun hg80 => ?_)
       ·
        replace hg80 := i_eq hg80
        refine L.yes rfl ?_; refine Lpu rfl rfl ?_; refine Lpu rfl rfl ?_; refine Lpu rfl rfl ?_; refine L.nil (QE.seq (C.ret (QE.tR ?_))); refine QE.ret (js := []) (hs := []) (vs := [_]) rfl ⟨rfl, trivial⟩ (by decide) ?_
        exact ⟨rfl, rfl, rfl⟩
       ·
        replace hg80 := i_ne hg80
        exact absurd (by rw [hm30.2]; rfl) hg80
      ·
       replace hg75 := i_ne hg75
       exact absurd hm30.1 hg75
     ·
      replace hc72 := b_eq hc72
      have hml2 := mov_lift (b := (codB l 12)) (p := (p.toNat % (((codB l 12).length / 4) + 1))) (q := (q.toNat % 10)) hc72
      have hmv := moveF_lens (liftR (codB l 12)) (at_ := (p.toNat % (((codB l 12).length / 4) + 1))) (by_ := (q.toNat % 10)) (by omega) (by omega)
      have hmc2 := codeB_len hml2.2.1
      refine C.skip (QE.seq (C.seq (C.region ?_))); refine Lpu rfl rfl ?_; refine L.call (js := []) (js' := [0]) (lift_k Y (movB (codB l 12) ((p.toNat % (((codB l 12).length / 4) + 1)) : Int) ((q.toNat % 10) : Int)) yc hmc hml (moveF (liftR (codB l 12)) (p.toNat % (((codB l 12).length / 4) + 1)) (q.toNat % 10)) 0 hml2.1 (liftE_code hml2.2.1)) rfl rfl rfl (by decide) ⟨(Has.o 0 rfl), trivial⟩ rfl ?_
      rintro _ _ _ ⟨W85, M85, L85, l85, rfl, rfl, rfl⟩
      refine L.norm (H' := [_, _, _, _]) [0, 1, 2, 3] ⟨rfl, rfl, rfl, rfl, trivial⟩ (by decide) ?_; refine Lpu rfl rfl ?_; refine Lpu rfl rfl ?_; refine Lpu rfl rfl ?_
      refine L.alloc rfl rfl rfl (fun A13 => ?_)
      refine L.storeA (j := 4) rfl rfl rfl rfl rfl (Nat.zero_lt_succ _) rfl rfl ?_; refine Lpu rfl rfl ?_; refine L.nil (QE.seq (C.seq ?_)); refine C.freeze 0 rfl [1, 2, 3, 4] (by decide) (by decide) ?_; refine C.norm (H' := [_, _, _, _]) [0, 1, 2, 3] ⟨rfl, rfl, rfl, rfl, trivial⟩ (by decide) ?_; refine C.freeze 0 rfl [1, 2, 3] (by decide) (by decide) ?_; refine C.norm (H' := [_, _, _]) [0, 1, 2] ⟨rfl, rfl, rfl, trivial⟩ (by decide) ?_; refine C.freeze 0 rfl [1, 2] (by decide) (by decide) ?_; refine C.norm (H' := [_, _]) [0, 1] ⟨rfl, rfl, trivial⟩ (by decide) ?_; refine C.freeze 1 rfl [0] (by decide) (by decide) ?_; refine C.norm (H' := [_]) [0] ⟨rfl, trivial⟩ (by decide) ?_; refine C.regionM [Rd A13 [.slice W85 (moveF (liftR (codB l 12)) (p.toNat % (((codB l 12).length / 4) + 1)) (q.toNat % 10)).ws.length (moveF (liftR (codB l 12)) (p.toNat % (((codB l 12).length / 4) + 1)) (q.toNat % 10)).ws.length, .slice M85 (moveF (liftR (codB l 12)) (p.toNat % (((codB l 12).length / 4) + 1)) (q.toNat % 10)).ms.length (moveF (liftR (codB l 12)) (p.toNat % (((codB l 12).length / 4) + 1)) (q.toNat % 10)).ms.length, .slice L85 (moveF (liftR (codB l 12)) (p.toNat % (((codB l 12).length / 4) + 1)) (q.toNat % 10)).ls.length l85], Rd A9 [.slice W32 (liftR (codB l 12)).ws.length (liftR (codB l 12)).ws.length, .slice M32 (liftR (codB l 12)).ms.length (liftR (codB l 12)).ms.length, .slice L32 (liftR (codB l 12)).ls.length l32], Rd W32 (N32 (liftR (codB l 12)).ws), Rd M32 (Bs (liftR (codB l 12)).ms), Rd L32 (I64 (liftR (codB l 12)).ls), Rd W85 (N32 (moveF (liftR (codB l 12)) (p.toNat % (((codB l 12).length / 4) + 1)) (q.toNat % 10)).ws), Rd M85 (Bs (moveF (liftR (codB l 12)) (p.toNat % (((codB l 12).length / 4) + 1)) (q.toNat % 10)).ms), Rd L85 (I64 (moveF (liftR (codB l 12)) (p.toNat % (((codB l 12).length / 4) + 1)) (q.toNat % 10)).ls)] (Hq [0, 4, 7, 6, 5, 3, 2, 1] rfl) ?_; refine LM.q 0 rfl (by kernel_rfl) (Ev.pure rfl) rfl (Hq [0, 4, 7, 6, 5, 3, 2, 1] rfl) ?_; refine LM.q 1 rfl (by kernel_rfl) (Ev.pure rfl) rfl (Hq [0, 4, 7, 6, 5, 3, 2, 1] rfl) ?_; refine LM.q 2 rfl (by kernel_rfl) (Ev.pure rfl) rfl (Hq [0, 4, 7, 6, 5, 3, 2, 1] rfl) ?_
      refine LM.bool 90 rfl (fun hg90 => ?_) (fun hg90 => ?_)
      ·
       replace hg90 := i_eq hg90
       refine LM.qy 3 rfl (by kernel_rfl) rfl (Ev.loadA (vs := [.slice W85 (moveF (liftR (codB l 12)) (p.toNat % (((codB l 12).length / 4) + 1)) (q.toNat % 10)).ws.length (moveF (liftR (codB l 12)) (p.toNat % (((codB l 12).length / 4) + 1)) (q.toNat % 10)).ws.length, .slice M85 (moveF (liftR (codB l 12)) (p.toNat % (((codB l 12).length / 4) + 1)) (q.toNat % 10)).ms.length (moveF (liftR (codB l 12)) (p.toNat % (((codB l 12).length / 4) + 1)) (q.toNat % 10)).ms.length, .slice L85 (moveF (liftR (codB l 12)) (p.toNat % (((codB l 12).length / 4) + 1)) (q.toNat % 10)).ls.length l85]) rfl rfl rfl (Src.r 0 rfl) rfl rfl (by decide)) rfl (Hq [0, 4, 7, 6, 5, 3, 2, 1] rfl) ?_; refine LM.qy 4 rfl (by kernel_rfl) rfl (Ev.loadA (vs := [.slice W32 (liftR (codB l 12)).ws.length (liftR (codB l 12)).ws.length, .slice M32 (liftR (codB l 12)).ms.length (liftR (codB l 12)).ms.length, .slice L32 (liftR (codB l 12)).ls.length l32]) rfl rfl rfl (Src.r 1 rfl) rfl rfl (by decide)) rfl (Hq [0, 4, 7, 6, 5, 3, 2, 1] rfl) ?_; refine LM.qy 5 rfl (by kernel_rfl) rfl (Ev.pure rfl) rfl (Hq [0, 4, 7, 6, 5, 3, 2, 1] rfl) ?_; refine LM.f 6 rfl (by kernel_rfl) (Hq [0, 4, 7, 6, 5, 3, 2, 1] rfl) ?_; refine L.yes rfl ?_; refine Lpu rfl rfl ?_
       refine L.nil (QE.m (by kernel_rfl) ?_)
       refine LM.f 7 rfl (by kernel_rfl) (Hq [0, 4, 7, 6, 5, 3, 2, 1] rfl) ?_; refine L.yes rfl ?_; refine L.step (Ev.build rfl rfl rfl rfl rfl rfl rfl) rfl ?_
       refine L.nil (QE.m (by kernel_rfl) ?_)
       refine LM.f 8 rfl (by kernel_rfl) (Hq [0, 4, 7, 6, 5, 3, 2, 1] rfl) ?_; refine L.yes rfl ?_; refine L.call (js := []) (js' := [0]) (move3_c W32 M32 L32 (liftR (codB l 12)).ws.length (liftR (codB l 12)).ms.length l32 (liftR (codB l 12)) (by omega) (by omega) (by omega) hx32 (p.toNat % (((codB l 12).length / 4) + 1)) (q.toNat % 10) (by omega) (Nat.le_refl _) (Nat.le_refl _) (by omega) (by omega) (fun i hi => by have := liftR_label (b := (codB l 12)) hi; omega)) rfl rfl rfl (by decide) (Hq [7, 6, 5] rfl) rfl ?_
       rintro _ _ _ ⟨W96, M96, L96, w96, m96, l96, rfl, rfl, rfl⟩
       refine L.norm (H' := [_, _, _, _]) [0, 1, 2, 3] ⟨rfl, rfl, rfl, rfl, trivial⟩ (by decide) ?_
       refine L.nil (QE.m (by kernel_rfl) ?_)
       refine LM.cut [] (by kernel_rfl) (Hq [0, 4, 7, 6, 5, 3, 2, 1] rfl) ?_; refine LM.f 9 rfl (by kernel_rfl) trivial ?_; refine L.yes rfl ?_; refine L.call (js := []) (js' := [0, 1, 2, 3]) (Ctr.tbL true (same3_c W85 M85 L85 (moveF (liftR (codB l 12)) (p.toNat % (((codB l 12).length / 4) + 1)) (q.toNat % 10)).ws.length (moveF (liftR (codB l 12)) (p.toNat % (((codB l 12).length / 4) + 1)) (q.toNat % 10)).ms.length l85 (moveF (liftR (codB l 12)) (p.toNat % (((codB l 12).length / 4) + 1)) (q.toNat % 10)) ⟨by omega, by omega, by omega⟩ W96 M96 L96 w96 m96 l96 (moveF (liftR (codB l 12)) (p.toNat % (((codB l 12).length / 4) + 1)) (q.toNat % 10)) ⟨by omega, by omega, by omega⟩) (decide_eq_true rfl)) rfl rfl rfl (by decide) ⟨(Has.r 3 rfl), (Has.r 2 rfl), (Has.r 1 rfl), (Has.o 0 rfl), (Has.o 1 rfl), (Has.o 2 rfl), trivial⟩ rfl ?_
       rintro _ _ _ ⟨rfl, rfl, rfl⟩
       refine L.norm (H' := [_, _, _, _]) [0, 1, 2, 3] ⟨rfl, rfl, rfl, rfl, trivial⟩ (by decide) ?_
       refine L.nil (QE.m (by kernel_rfl) ?_)
       refine LM.f 10 rfl (by kernel_rfl) trivial ?_; refine Lpu rfl rfl ?_
       refine L.nil (QE.m (by kernel_rfl) ?_)
       refine LM.f 11 rfl (by kernel_rfl) trivial ?_; refine Lpu rfl rfl ?_
       refine L.nil (QE.m (by kernel_rfl) ?_)
       refine LM.f 12 rfl (by kernel_rfl) trivial ?_; refine L.yes rfl ?_; refine Lpu rfl rfl ?_
       refine L.nil (QE.m (by kernel_rfl) ?_)
       refine LM.f 13 rfl (by kernel_rfl) trivial ?_; refine Lpu rfl rfl ?_
       refine L.nil (QE.m (by kernel_rfl) ?_)
       refine LM.f 14 rfl (by kernel_rfl) trivial ?_; refine Lpu rfl rfl ?_
       refine L.nil (QE.m (by kernel_rfl) ?_)
       refine LM.nil (by kernel_rfl) trivial ?_; refine QE.seq (C.ret ?_); refine QE.ret (js := []) (hs := []) (vs := [_]) rfl ⟨rfl, trivial⟩ (by decide) ?_
       exact ⟨rfl, rfl, rfl⟩
      ·
       replace hg90 := i_ne hg90
       first | exact absurd rfl hg90 | omega | exact absurd rfl hc90

end Go.Proofs.Ytkjhcjhfegakoaa
