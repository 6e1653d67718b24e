/-
  What is read has few words; texts, one of two.
-/
import Derived.Test.YtkjhcjhfegakoaaVLal
import Derived.Test.YtkjhcjhfegakoaaVSlI
import Derived.Test.YtkjhcjhfegakoaaVWLba
section
namespace Go.Sl

theorem readR_cases (b : List UInt8) : (readE b = 0 ∧ readR b = readX b ∧ formF (readR b) = b ∧ lowC (readR b) = 0) ∨ (readE b = 3 ∧ readR b = Lf.zero) := by
 unfold readE readR
 by_cases h : readOk b
 · rw [if_pos h, if_pos h]
   exact .inl ⟨rfl, rfl, h.2.2.2, h.2.2.1⟩
 · rw [if_neg h, if_neg h]
   exact .inr ⟨rfl, rfl⟩
theorem readR_len (b : List UInt8) : (readR b).ws.length ≤ 65536 ∧ (readR b).ms.length ≤ 65536 ∧ (readR b).ls.length ≤ 65536 ∧ W32 (readR b).ws ∧ ascL (readR b).ls ∧ (readR b).ms.length = (readR b).ws.length := by
 by_cases h : readOk b
 · have e : readR b = readX b := if_pos h
   have h3 := readX_lens h.2.1
   have h1 : rN b < 65536 := numB_lt b 0
   have h2 : rK b < 65536 := numB_lt b 2
   rw [e]
   exact ⟨by omega, by omega, by omega, wordsR_w32 _, readX_asc b, by omega⟩
 · have e : readR b = Lf.zero := if_neg h
   rw [e]
   exact ⟨by decide, by decide, by decide, fun i => by simp [Lf.zero], fun i hi => absurd hi (Nat.not_lt_zero _), rfl⟩
theorem two_pick (A B : Option Addr) (xs ys : List UInt8) (c d : Nat) {k : Nat} (hk : k < 2) :
   ∃ (T : Option Addr) (t : List UInt8) (e : Nat), ([.slice A xs.length c, .slice B ys.length d] : List Value)[k]? = some (.slice T t.length e) ∧ ((T = A ∧ t = xs ∧ e = c) ∨ (T = B ∧ t = ys ∧ e = d)) := by
 rcases (by omega : k = 0 ∨ k = 1) with rfl | rfl
 · exact ⟨A, xs, c, rfl, .inl ⟨rfl, rfl, rfl⟩⟩
 · exact ⟨B, ys, d, rfl, .inr ⟨rfl, rfl, rfl⟩⟩
theorem Has.pick {R H : List Pr} {A B T : Option Addr} {xs ys t : List UInt8} {c d e : Nat} (h : (T = A ∧ t = xs ∧ e = c) ∨ (T = B ∧ t = ys ∧ e = d)) (h1 : Has R H (Rd A (U8 xs))) (h2 : Has R H (Rd B (U8 ys))) : Has R H (Rd T (U8 t)) := by
 rcases h with ⟨rfl, rfl, _⟩ | ⟨rfl, rfl, _⟩
 · exact h1
 · exact h2
end Go.Sl
end
/-
  The law LabelReads.
-/
section
namespace Go.Proofs.Ytkjhcjhfegakoaa
open Go.Sl

theorem U8_dropL (l : List UInt8) (m : Nat) : (U8 l).drop m = U8 (l.drop m) := by simp [U8, List.map_drop]

set_option maxHeartbeats 4000000 in
theorem lReads_c (LA : Option Addr) (l : List (List UInt8)) (lc : Nat) (hll : l.length ≤ 9223372036854775807) (QA : Option Addr) (ql : List UInt8) (qc : Nat) (hqc : ql.length ≤ qc) (hql : ql.length ≤ 9223372036854775807) (u0 u1 u2 : UInt8) :
   Ctr X 7 [.slice LA l.length lc, .slice QA ql.length qc, .agg (List.toArray [.int .u8 (u0.toNat : Int), .int .u8 (u1.toNat : Int), .int .u8 (u2.toNat : Int)])] [Rd LA (frV l), Rd QA (U8 ql)] [] (fun v R' H' => v = .bool true ∧ R' = [] ∧ H' = []) := by
 have hpu := UInt8.toNat_lt u0
 have hqu := UInt8.toNat_lt u1
 have hru := UInt8.toNat_lt u2
 refine Ctr.of (X := X) (fn := Try.f7) Try.func7 rfl (by kernel_rfl) rfl ?_
 intro β
 refine C.seq (C.region ?_)
 refine L.boxA rfl rfl (fun A5 => ?_)
 refine Lpu rfl rfl ?_; refine L.nil (QE.seq (C.seq ?_)); refine C.freeze 0 rfl [] (by decide) (by decide) ?_; refine C.region ?_; refine L.call (js := []) (js' := []) (sanity03_c) rfl rfl rfl (by decide) trivial rfl ?_
 rintro _ _ _ ⟨rfl, rfl, rfl⟩
 refine Lpu rfl rfl ?_; refine L.nil (QE.seq (C.seq (C.region ?_))); refine Lpu rfl rfl ?_; refine L.call (js := []) (js' := []) (code_c LA l lc 8 hll (by decide)) rfl rfl rfl (by decide) (Hq [1] rfl) rfl ?_
 rintro _ _ _ ⟨B, bc, rfl, rfl, rfl⟩
 refine L.norm (H' := [_]) [0] ⟨rfl, trivial⟩ (by decide) ?_; refine L.call (js := []) (js' := [0]) (lift3_c B (codB l 8) bc (by have := codB_len l 8; omega)) rfl rfl rfl (by decide) ⟨(Has.o 0 rfl), trivial⟩ rfl ?_
 rintro _ _ _ ⟨W23, M23, L23, w23, m23, l23, rfl, rfl, rfl⟩
 refine L.norm (H' := [_, _, _, _]) [0, 1, 2, 3] ⟨rfl, rfl, rfl, rfl, trivial⟩ (by decide) ?_; refine Lpu rfl rfl ?_; refine Lpu rfl rfl ?_; refine Lpu rfl rfl ?_
 refine L.alloc rfl rfl rfl (fun A8 => ?_)
 refine L.storeA (j := 4) rfl rfl rfl rfl rfl (Nat.zero_lt_succ _) rfl rfl ?_; refine Lpu rfl rfl ?_; refine L.nil (QE.seq (C.seq ?_))
 have hbl := codB_len l 8
 have hb4 := codB_four l 8
 have hco : codeB (codB l 8) := codB_code l (by decide)
 have hxl := lift_len hco
 have hx32 := liftR_w32 (codB l 8)
 have hfl := formF_len (liftR (codB l 8))
 refine C.freeze 0 rfl [1, 2, 3, 4] (by decide) (by decide) ?_; refine C.norm (H' := [_, _, _, _]) [0, 1, 2, 3] ⟨rfl, rfl, rfl, rfl, trivial⟩ (by decide) ?_; refine C.freeze 0 rfl [1, 2, 3] (by decide) (by decide) ?_; refine C.norm (H' := [_, _, _]) [0, 1, 2] ⟨rfl, rfl, rfl, trivial⟩ (by decide) ?_; refine C.freeze 0 rfl [1, 2] (by decide) (by decide) ?_; refine C.norm (H' := [_, _]) [0, 1] ⟨rfl, rfl, trivial⟩ (by decide) ?_; refine C.freeze 1 rfl [0] (by decide) (by decide) ?_; refine C.norm (H' := [_]) [0] ⟨rfl, trivial⟩ (by decide) ?_; refine C.region ?_; refine L.step (Ev.loadA (vs := [.slice W23 (liftR (codB l 8)).ws.length w23, .slice M23 (liftR (codB l 8)).ms.length m23, .slice L23 (liftR (codB l 8)).ls.length l23]) rfl rfl rfl (Src.r 0 rfl) rfl rfl (by decide)) rfl ?_; refine L.call (js := []) (js' := [0]) (form3_c W23 M23 L23 w23 m23 l23 (liftR (codB l 8)) (by omega) (by omega) (by omega) hx32 (by omega) liftR_asc) rfl rfl rfl (by decide) (Hq [3, 2, 1] rfl) rfl ?_
 rintro _ _ _ ⟨F, fc, rfl, rfl, rfl⟩
 refine L.norm (H' := [_, _]) [0, 1] ⟨rfl, rfl, trivial⟩ (by decide) ?_; refine Lpu rfl rfl ?_; refine L.nil (QE.seq (C.seq ?_))
 refine C.cap 0 rfl (fun hfc => ?_)
 have hil : (u0.toNat % (formF (liftR (codB l 8))).length) < (formF (liftR (codB l 8))).length := Nat.mod_lt _ (by omega)
 have htk : ((formF (liftR (codB l 8))).take (u0.toNat % (formF (liftR (codB l 8))).length)).length = (u0.toNat % (formF (liftR (codB l 8))).length) := by rw [List.length_take]; omega
 refine C.freeze 0 rfl [1] (by decide) (by decide) ?_; refine C.norm (H' := [_]) [0] ⟨rfl, trivial⟩ (by decide) ?_; refine C.region ?_; refine L.step (Ev.idxArr (k := 0) (m := 0) rfl rfl rfl rfl rfl rfl (by decide) (Src.r 5 rfl) (by exact Nat.zero_lt_succ _) rfl) rfl ?_; refine L.step (Ev.load rfl rfl rfl (Src.r 5 rfl) rfl) rfl ?_
 first | refine L.step (Ev.byteInt rfl rfl rfl rfl) rfl ?_ | refine L.step (Ev.toInt rfl rfl rfl rfl (by omega) (by omega)) rfl ?_
 refine Lpu rfl rfl ?_; refine Lpu rfl rfl ?_; refine L.step (Ev.cast (u := .int .i64 (((u0.toNat % (formF (liftR (codB l 8))).length) : Nat) : Int)) (Ev.rem rfl rfl (by omega) (by omega)) (congrArg (Value.int .i64) (by omega))) rfl ?_; refine Lpu rfl rfl ?_; refine L.nil (QE.seq (C.seq (C.region ?_)))
 refine L.lit0S rfl rfl rfl rfl (fun A34 => ?_)
 refine Lpu rfl rfl ?_; refine Lpu rfl rfl ?_; refine L.step (Ev.sliceH (h := (u0.toNat % (formF (liftR (codB l 8))).length)) rfl rfl rfl rfl rfl rfl (by omega)) rfl ?_
 refine L.append (j := 1) rfl rfl rfl rfl (by decide) rfl rfl rfl rfl ((Src.take (Src.r 0 rfl) (u0.toNat % (formF (liftR (codB l 8))).length)).cast (U8_takeL (formF (liftR (codB l 8))) (u0.toNat % (formF (liftR (codB l 8))).length))) (by rw [U8_len, htk]; exact (Nat.mul_one _).symm) (U8_one _) (by omega) (by show _ * 1 ≤ _; omega) rfl (fun A38 cc38 => ?_)
 refine Lpu rfl rfl ?_; refine L.nil (QE.seq ?_); refine C.seqJ (fun q : List UInt8 × Option Addr × Nat => [(1, .slice QA ql.length qc), (5, ptrOf A5 0), (7, .bool true), (10, .slice F (formF (liftR (codB l 8))).length fc), (11, .int .i64 ((u0.toNat % (formF (liftR (codB l 8))).length) : Int)), (12, .slice q.2.1 q.1.length q.2.2)]) (fun q : List UInt8 × Option Addr × Nat => [Rd A5 [.int .u8 (u0.toNat : Int), .int .u8 (u1.toNat : Int), .int .u8 (u2.toNat : Int)], Rd F (U8 (formF (liftR (codB l 8)))), Rd QA (U8 ql)]) (fun q : List UInt8 × Option Addr × Nat => [Own 5 1 q.2.1 q.1.length q.2.2 (U8 q.1)]) (fun q : List UInt8 × Option Addr × Nat => q.1.length ≤ 100000) ?_ ?_
 ·
  refine C.seq (C.region ?_); refine L.step (Ev.idxArr (k := 1) (m := 1) rfl rfl rfl rfl rfl rfl (by decide) (Src.r 5 rfl) (by exact Nat.zero_lt_succ _) rfl) rfl ?_; refine L.step (Ev.load rfl rfl rfl (Src.r 5 rfl) rfl) rfl ?_; refine L.step (Ev.cast (u := .int .u8 ((u1.toNat % 3 : Nat) : Int)) (Ev.rem rfl rfl (by omega) (by decide)) (congrArg (Value.int .u8) (by omega))) rfl ?_; refine Lpu rfl rfl ?_; refine L.nil (QE.seq ?_)
  refine C.condB 42 rfl (fun hc42 => ?_) (fun hc42 => ?_)
  ·
   replace hc42 := i_eq hc42
   refine C.regionM [Rd A5 [.int .u8 (u0.toNat : Int), .int .u8 (u1.toNat : Int), .int .u8 (u2.toNat : Int)], Rd F (U8 (formF (liftR (codB l 8)))), Rd QA (U8 ql)] (Hq [5, 0, 7] rfl) ?_; refine LM.q 0 rfl (by kernel_rfl) (Ev.pure rfl) rfl (Hq [5, 0, 7] rfl) ?_; refine LM.q 1 rfl (by kernel_rfl) (Ev.pure rfl) rfl (Hq [5, 0, 7] rfl) ?_; refine LM.q 2 rfl (by kernel_rfl) (Ev.pure rfl) rfl (Hq [5, 0, 7] rfl) ?_; refine LM.q 3 rfl (by kernel_rfl) (Ev.idx1 (k := (u0.toNat % (formF (liftR (codB l 8))).length)) rfl rfl rfl rfl rfl rfl rfl (by omega) (Src.r 1 rfl) (by rw [U8_len]; omega)) rfl (Hq [5, 0, 7] rfl) ?_; refine LM.q 4 rfl (by kernel_rfl) (Ev.load rfl rfl rfl (Src.r 1 rfl) (U8_get (by omega))) rfl (Hq [5, 0, 7] rfl) ?_; refine LM.f 5 rfl (by kernel_rfl) (Hq [5, 0, 7] rfl) ?_; refine L.step (Ev.idxArr (k := 2) (m := 2) rfl rfl rfl rfl rfl rfl (by decide) (Src.r 5 rfl) (by exact Nat.zero_lt_succ _) rfl) rfl ?_
   refine L.nil (QE.m (by kernel_rfl) ?_)
   refine LM.f 6 rfl (by kernel_rfl) (Hq [5, 0, 7] rfl) ?_; refine L.step (Ev.load rfl rfl rfl (Src.r 5 rfl) rfl) rfl ?_
   refine L.nil (QE.m (by kernel_rfl) ?_)
   refine LM.f 7 rfl (by kernel_rfl) (Hq [5, 0, 7] rfl) ?_
   first | refine L.step (Ev.xor8 rfl rfl) rfl ?_ | refine L.step (Ev.pure rfl) rfl ?_
   refine L.nil (QE.m (by kernel_rfl) ?_)
   refine LM.f 8 rfl (by kernel_rfl) (Hq [5, 0, 7] rfl) ?_
   refine L.lit rfl rfl rfl rfl rfl (by rfl) (by rfl) (by rfl) rfl rfl (fun A51 => ?_)
   refine L.nil (QE.m (by kernel_rfl) ?_)
   refine LM.cut [] (by kernel_rfl) (Hq [5, 0, 7] rfl) ?_; refine LM.f 9 rfl (by kernel_rfl) trivial ?_
   refine L.append (j := 1) rfl rfl rfl rfl (by decide) rfl rfl rfl rfl (Src.o 2 rfl) rfl (allOne rfl) (by omega) (by show _ * 1 ≤ _; omega) rfl (fun A52 cc52 => ?_)
   refine L.nil (QE.m (by kernel_rfl) ?_)
   refine LM.f 10 rfl (by kernel_rfl) trivial ?_; refine Lpu rfl rfl ?_
   refine L.nil (QE.m (by kernel_rfl) ?_)
   refine LM.nil (by kernel_rfl) trivial ?_
   refine QE.join (((formF (liftR (codB l 8))).take (u0.toNat % (formF (liftR (codB l 8))).length) ++ [(formF (liftR (codB l 8))).getD (u0.toNat % (formF (liftR (codB l 8))).length) 0 ^^^ u2], A52, cc52)) (by dsimp only; rw [List.length_append, htk]; show _ + 1 ≤ _; omega) (by exact Le.mk' (rs := [5, 0, 7]) (hs := [1]) ⟨rfl, rfl, rfl, rfl, rfl, (congrArg (fun z => some (Value.slice A52 z cc52)) (show 0 + (u0.toNat % (formF (liftR (codB l 8))).length) + 1 = ((formF (liftR (codB l 8))).take (u0.toNat % (formF (liftR (codB l 8))).length) ++ [(formF (liftR (codB l 8))).getD (u0.toNat % (formF (liftR (codB l 8))).length) 0 ^^^ u2]).length by rw [List.length_append, htk]; show _ = _ + 1; omega)), trivial⟩ ⟨rfl, rfl, rfl, trivial⟩ ⟨(congrArg some (own_eq2 (by dsimp only; rw [List.length_append, htk]; show _ = _ + 1; omega) (by dsimp only; rw [← U8_app]; rfl))), trivial⟩ (by decide))
  ·
   replace hc42 := i_ne hc42
   refine C.skip ?_
   refine QE.join (((formF (liftR (codB l 8))).take (u0.toNat % (formF (liftR (codB l 8))).length), A38, cc38)) (by dsimp only; omega) (by exact Le.mk' (rs := [5, 0, 7]) (hs := [1]) ⟨rfl, rfl, rfl, rfl, rfl, (congrArg (fun z => some (Value.slice A38 z cc38)) (show 0 + (u0.toNat % (formF (liftR (codB l 8))).length) = ((formF (liftR (codB l 8))).take (u0.toNat % (formF (liftR (codB l 8))).length)).length by rw [htk]; omega)), trivial⟩ ⟨rfl, rfl, rfl, trivial⟩ ⟨(congrArg some (own_eq2 (by dsimp only; omega) rfl)), trivial⟩ (by decide))
 ·
  rintro ⟨xs, XA, xc⟩ hxl
  dsimp only at hxl ⊢
  refine C.seqJ (fun q : List UInt8 × Option Addr × Nat => [(1, .slice QA ql.length qc), (5, ptrOf A5 0), (7, .bool true), (10, .slice F (formF (liftR (codB l 8))).length fc), (11, .int .i64 ((u0.toNat % (formF (liftR (codB l 8))).length) : Int)), (12, .slice q.2.1 q.1.length q.2.2)]) (fun q : List UInt8 × Option Addr × Nat => [Rd A5 [.int .u8 (u0.toNat : Int), .int .u8 (u1.toNat : Int), .int .u8 (u2.toNat : Int)], Rd F (U8 (formF (liftR (codB l 8)))), Rd QA (U8 ql)]) (fun q : List UInt8 × Option Addr × Nat => [Own 5 1 q.2.1 q.1.length q.2.2 (U8 q.1)]) (fun q : List UInt8 × Option Addr × Nat => q.1.length ≤ 200000) ?_ ?_
  ·
   refine C.seq (C.region ?_); refine L.step (Ev.idxArr (k := 1) (m := 1) rfl rfl rfl rfl rfl rfl (by decide) (Src.r 0 rfl) (by exact Nat.zero_lt_succ _) rfl) rfl ?_; refine L.step (Ev.load rfl rfl rfl (Src.r 0 rfl) rfl) rfl ?_; refine L.step (Ev.cast (u := .int .u8 ((u1.toNat % 3 : Nat) : Int)) (Ev.rem rfl rfl (by omega) (by decide)) (congrArg (Value.int .u8) (by omega))) rfl ?_; refine Lpu rfl rfl ?_; refine L.nil (QE.seq ?_)
   refine C.condB 56 rfl (fun hc56 => ?_) (fun hc56 => ?_)
   ·
    replace hc56 := i_eq hc56
    refine C.regionM [Rd A5 [.int .u8 (u0.toNat : Int), .int .u8 (u1.toNat : Int), .int .u8 (u2.toNat : Int)], Rd F (U8 (formF (liftR (codB l 8)))), Rd QA (U8 ql)] (Hq [0, 1, 2] rfl) ?_; refine LM.q 0 rfl (by kernel_rfl) (Ev.pure rfl) rfl (Hq [0, 1, 2] rfl) ?_; refine LM.q 1 rfl (by kernel_rfl) (Ev.idxArr (k := 2) (m := 2) rfl rfl rfl rfl rfl rfl (by decide) (Src.r 0 rfl) (by exact Nat.zero_lt_succ _) rfl) rfl (Hq [0, 1, 2] rfl) ?_; refine LM.q 2 rfl (by kernel_rfl) (Ev.load rfl rfl rfl (Src.r 0 rfl) rfl) rfl (Hq [0, 1, 2] rfl) ?_; refine LM.q 3 rfl (by kernel_rfl) (Ev.pure rfl) rfl (Hq [0, 1, 2] rfl) ?_; refine LM.f 4 rfl (by kernel_rfl) (Hq [0, 1, 2] rfl) ?_; refine Lpu rfl rfl ?_
    refine L.nil (QE.m (by kernel_rfl) ?_)
    refine LM.f 5 rfl (by kernel_rfl) (Hq [0, 1, 2] rfl) ?_; refine L.step (Ev.idx1 (k := (u0.toNat % (formF (liftR (codB l 8))).length)) rfl rfl rfl rfl rfl rfl rfl (by omega) (Src.r 1 rfl) (by rw [U8_len]; omega)) rfl ?_
    refine L.nil (QE.m (by kernel_rfl) ?_)
    refine LM.f 6 rfl (by kernel_rfl) (Hq [0, 1, 2] rfl) ?_; refine L.step (Ev.load rfl rfl rfl (Src.r 1 rfl) (U8_get (by omega))) rfl ?_
    refine L.nil (QE.m (by kernel_rfl) ?_)
    refine LM.f 7 rfl (by kernel_rfl) (Hq [0, 1, 2] rfl) ?_
    refine L.lit rfl rfl rfl rfl rfl (by rfl) (by rfl) (by rfl) rfl rfl (fun A64 => ?_)
    refine L.nil (QE.m (by kernel_rfl) ?_)
    refine LM.cut [] (by kernel_rfl) (Hq [0, 1, 2] rfl) ?_; refine LM.f 8 rfl (by kernel_rfl) trivial ?_
    refine L.append (j := 0) rfl rfl rfl rfl (by decide) rfl rfl rfl rfl (Src.o 1 rfl) rfl (allOne rfl) (by omega) (by show _ * 1 ≤ _; omega) rfl (fun A65 cc65 => ?_)
    refine L.nil (QE.m (by kernel_rfl) ?_)
    refine LM.f 9 rfl (by kernel_rfl) trivial ?_; refine Lpu rfl rfl ?_
    refine L.nil (QE.m (by kernel_rfl) ?_)
    refine LM.nil (by kernel_rfl) trivial ?_
    refine QE.join ((xs ++ [u2, (formF (liftR (codB l 8))).getD (u0.toNat % (formF (liftR (codB l 8))).length) 0], A65, cc65)) (by dsimp only; rw [List.length_append]; show _ + 2 ≤ _; omega) (by exact Le.mk' (rs := [0, 1, 2]) (hs := [0]) ⟨rfl, rfl, rfl, rfl, rfl, (by dsimp only; rw [List.length_append]; rfl), trivial⟩ ⟨rfl, rfl, rfl, trivial⟩ ⟨(congrArg some (own_eq2 (by dsimp only; rw [List.length_append]; rfl) (by dsimp only; rw [← U8_app]; rfl))), trivial⟩ (by decide))
   ·
    replace hc56 := i_ne hc56
    refine C.skip ?_
    refine QE.join ((xs, XA, xc)) (by dsimp only; omega) (by exact Le.mk' (rs := [0, 1, 2]) (hs := [0]) ⟨rfl, rfl, rfl, rfl, rfl, rfl, trivial⟩ ⟨rfl, rfl, rfl, trivial⟩ ⟨rfl, trivial⟩ (by decide))
  ·
   rintro ⟨xs, XA, xc⟩ hxl
   dsimp only at hxl ⊢
   refine C.seq (C.region ?_); refine Lpu rfl rfl ?_; refine Lpu rfl rfl ?_; refine Lpu rfl rfl ?_; refine L.step (Ev.cast (u := .int .i64 (((u0.toNat % (formF (liftR (codB l 8))).length) + 1 : Nat) : Int)) (Ev.add rfl rfl (by omega) (by omega)) (congrArg (Value.int .i64) (by omega))) rfl ?_; refine L.step (Ev.sliceL (l := (u0.toNat % (formF (liftR (codB l 8))).length) + 1) rfl rfl rfl rfl rfl rfl (by omega)) rfl ?_
   refine L.append (j := 0) rfl rfl rfl rfl (by decide) rfl rfl rfl rfl ((Src.sub (Src.r 1 rfl) fc ((u0.toNat % (formF (liftR (codB l 8))).length) + 1) 1 (by rw [U8_len]; omega)).cast (by rw [Nat.mul_one, U8_dropL])) (by rw [U8_len, List.length_drop]; exact (Nat.mul_one _).symm) (U8_one _) (by omega) (by show _ * 1 ≤ _; omega) rfl (fun A71 cc71 => ?_)
   refine Lpu rfl rfl ?_; refine L.nil (QE.seq (C.seq ?_))
   obtain ⟨ys, hys⟩ : ∃ ys, xs ++ (formF (liftR (codB l 8))).drop ((u0.toNat % (formF (liftR (codB l 8))).length) + 1) = ys := ⟨_, rfl⟩
   have hyl : ys.length = xs.length + ((formF (liftR (codB l 8))).length - ((u0.toNat % (formF (liftR (codB l 8))).length) + 1)) := by rw [← hys, List.length_append, List.length_drop]
   have hqt : (ql.take (min ql.length 40)).length = (min ql.length 40) := by rw [List.length_take]; omega
   refine C.le (Γ' := [(1, .slice QA ql.length qc), (7, .bool true), (12, .slice A71 ys.length cc71)]) (R' := [Rd QA (U8 ql)]) (H' := [Own 5 1 A71 ys.length cc71 (U8 ys)]) (by exact Le.mk' (rs := [2]) (hs := [0]) ⟨rfl, rfl, (congrArg (fun z => some (Value.slice A71 z cc71)) (show xs.length + ((formF (liftR (codB l 8))).length - ((u0.toNat % (formF (liftR (codB l 8))).length) + 1)) = ys.length from hyl.symm)), trivial⟩ ⟨rfl, trivial⟩ ⟨(congrArg some (own_eq2 hyl.symm (by rw [← hys, ← U8_app]))), trivial⟩ (by decide)) ?_; refine C.region ?_; refine Lpu rfl rfl ?_; refine Lpu rfl rfl ?_; refine Lpu rfl rfl ?_; refine Lpu rfl rfl ?_; refine L.step (Ev.cast (u := .int .i64 (((min ql.length 40) : Nat) : Int)) (Ev.pure rfl) (congrArg (Value.int .i64) (by show (if _ < _ then _ else _) = _; split <;> omega))) rfl ?_; refine L.step (Ev.cast (u := .slice QA (ql.take (min ql.length 40)).length qc) (Ev.sliceH (h := (min ql.length 40)) rfl rfl rfl rfl rfl rfl (by omega)) (by rw [hqt])) rfl ?_; refine L.step (Ev.buildArr rfl rfl rfl rfl rfl rfl rfl) rfl ?_
   refine L.alloc rfl rfl rfl (fun A13 => ?_)
   refine L.storeA (j := 1) rfl rfl rfl rfl rfl (Nat.zero_lt_succ _) rfl rfl ?_; refine L.nil (QE.seq (C.seq (C.seq ?_)))
   refine C.cap 0 rfl (fun hxc => ?_)
   refine C.freeze 0 rfl [1] (by decide) (by decide) ?_; refine C.norm (H' := [_]) [0] ⟨rfl, trivial⟩ (by decide) ?_; refine C.freeze 0 rfl [] (by decide) (by decide) ?_; refine C.more (r := Rd QA (U8 (ql.take (min ql.length 40)))) ((Has.takeL (Has.r 2 rfl) (min ql.length 40)).cast (U8_takeL ql (min ql.length 40))) ?_; refine C.region ?_; refine Lpu rfl rfl ?_; refine L.nil (QE.seq (C.block ?_)); refine C.loop (fun k : Nat => [(7, .bool true), (13, ptrOf A13 0), (14, .int .i64 (k : Int))]) (fun k : Nat => [Rd A71 (U8 ys), Rd QA (U8 (ql.take (min ql.length 40))), Rd A13 [.slice A71 ys.length cc71, .slice QA (ql.take (min ql.length 40)).length qc]]) (fun k : Nat => []) (fun k : Nat => k ≤ 2) (fun k : Nat => 2 - k) 0 (Nat.zero_le _) (by exact Le.mk' (rs := [2, 0, 1]) (hs := []) ⟨rfl, rfl, rfl, trivial⟩ ⟨rfl, rfl, rfl, trivial⟩ trivial (by decide)) ?_
   intro k hk
   refine C.seq (C.seq (C.region ?_)); refine Lpu rfl rfl ?_; refine Lpu rfl rfl ?_; refine L.nil (QE.seq ?_)
   refine C.condB 80 rfl (fun hc80 => ?_) (fun hc80 => ?_)
   ·
    replace hc80 := of_decide_eq_true hc80
    have hk2 : k < 2 := by omega
    refine C.skip (QE.seq (C.seq (C.block (C.seq ?_))))
    obtain ⟨T, t, e, hget, hpk⟩ := two_pick A71 QA ys (ql.take (min ql.length 40)) cc71 qc (k := k) (by omega)
    have hte : t.length ≤ e ∧ t.length ≤ 1000000 := by
      rcases hpk with ⟨_, rfl, rfl⟩ | ⟨_, rfl, rfl⟩
      · exact ⟨hxc, by omega⟩
      · exact ⟨by omega, by omega⟩
    obtain ⟨hte, htl⟩ := hte
    have hy := readR_len t
    have hrc := readR_cases t
    refine C.more (r := Rd T (U8 t)) (Has.pick hpk (Has.r 0 rfl) (Has.r 1 rfl)) ?_; refine C.region ?_; refine Lpu rfl rfl ?_; refine L.step (Ev.idxArr (k := k) (m := k) rfl rfl rfl rfl rfl rfl hk2 (Src.r 3 rfl) (by exact Nat.zero_lt_succ _) (by show 0 + k * 1 = k; omega)) rfl ?_; refine L.step (Ev.load rfl rfl rfl (Src.r 3 rfl) hget) rfl ?_; refine L.call (js := []) (js' := []) (read_c T t e hte htl) rfl rfl rfl (by decide) (Hq [0] rfl) rfl ?_
    rintro _ _ _ ⟨W87, M87, L87, w87, m87, l87, rfl, rfl, rfl⟩
    refine L.norm (H' := [_, _, _]) [0, 1, 2] ⟨rfl, rfl, rfl, trivial⟩ (by decide) ?_; refine Lpu rfl rfl ?_; refine Lpu rfl rfl ?_; refine Lpu rfl rfl ?_
    refine L.alloc rfl rfl rfl (fun A15 => ?_)
    refine L.storeA (j := 3) rfl rfl rfl rfl rfl (Nat.zero_lt_succ _) rfl rfl ?_; refine Lpu rfl rfl ?_; refine L.nil (QE.seq (C.seq ?_))
    refine C.cap 1 rfl (fun hmc => ?_)
    refine C.freeze 0 rfl [1, 2, 3] (by decide) (by decide) ?_; refine C.norm (H' := [_, _, _]) [0, 1, 2] ⟨rfl, rfl, rfl, trivial⟩ (by decide) ?_; refine C.freeze 0 rfl [1, 2] (by decide) (by decide) ?_; refine C.norm (H' := [_, _]) [0, 1] ⟨rfl, rfl, trivial⟩ (by decide) ?_; refine C.freeze 0 rfl [1] (by decide) (by decide) ?_; refine C.norm (H' := [_]) [0] ⟨rfl, trivial⟩ (by decide) ?_; refine C.freeze 0 rfl [] (by decide) (by decide) ?_; refine C.region ?_; refine Lpu rfl rfl ?_; refine L.step (Ev.idxArr (k := k) (m := k) rfl rfl rfl rfl rfl rfl hk2 (Src.r 7 rfl) (by exact Nat.zero_lt_succ _) (by show 0 + k * 1 = k; omega)) rfl ?_; refine L.step (Ev.load rfl rfl rfl (Src.r 7 rfl) hget) rfl ?_; refine L.call (js := []) (js' := []) (read3_c T t e hte htl) rfl rfl rfl (by decide) (Hq [4] rfl) rfl ?_
    rintro _ _ _ ⟨W94, M94, L94, w94, m94, l94, rfl, rfl, rfl⟩
    refine L.norm (H' := [_, _, _]) [0, 1, 2] ⟨rfl, rfl, rfl, trivial⟩ (by decide) ?_; refine Lpu rfl rfl ?_; refine Lpu rfl rfl ?_; refine Lpu rfl rfl ?_
    refine L.alloc rfl rfl rfl (fun A17 => ?_)
    refine L.storeA (j := 3) rfl rfl rfl rfl rfl (Nat.zero_lt_succ _) rfl rfl ?_; refine Lpu rfl rfl ?_; refine L.nil (QE.seq (C.seq (C.seq ?_))); refine C.freeze 0 rfl [1, 2, 3] (by decide) (by decide) ?_; refine C.norm (H' := [_, _, _]) [0, 1, 2] ⟨rfl, rfl, rfl, trivial⟩ (by decide) ?_; refine C.freeze 0 rfl [1, 2] (by decide) (by decide) ?_; refine C.norm (H' := [_, _]) [0, 1] ⟨rfl, rfl, trivial⟩ (by decide) ?_; refine C.freeze 0 rfl [1] (by decide) (by decide) ?_; refine C.norm (H' := [_]) [0] ⟨rfl, trivial⟩ (by decide) ?_; refine C.freeze 0 rfl [] (by decide) (by decide) ?_; refine C.region ?_; refine L.step (Ev.loadA (vs := [.slice W87 (readR t).ws.length w87, .slice M87 (readR t).ms.length m87, .slice L87 (readR t).ls.length l87]) rfl rfl rfl (Src.r 4 rfl) rfl rfl (by decide)) rfl ?_; refine L.step (Ev.loadA (vs := [.slice W94 (readR t).ws.length w94, .slice M94 (readR t).ms.length m94, .slice L94 (readR t).ls.length l94]) rfl rfl rfl (Src.r 0 rfl) rfl rfl (by decide)) rfl ?_; refine L.call (js := []) (js' := []) (Ctr.tbL true (same3_c W87 M87 L87 w87 m87 l87 (readR t) ⟨by omega, by omega, by omega⟩ W94 M94 L94 w94 m94 l94 (readR t) ⟨by omega, by omega, by omega⟩) (decide_eq_true rfl)) rfl rfl rfl (by decide) (Hq [7, 6, 5, 3, 2, 1] rfl) rfl ?_
    rintro _ _ _ ⟨rfl, rfl, rfl⟩
    refine Lpu rfl rfl ?_; refine Lpu rfl rfl ?_; refine L.yes rfl ?_; refine Lpu rfl rfl ?_; refine L.yes rfl ?_; refine Lpu rfl rfl ?_; refine L.yes rfl ?_; refine Lpu rfl rfl ?_; refine Lpu rfl rfl ?_; refine Lpu rfl rfl ?_
    refine L.bool 106 rfl (fun hg106 => ?_) (fun hg106 => ?_)
    ·
     replace hg106 := b_ne hg106
     first | exact absurd rfl hg106 | omega | exact absurd rfl hc106
    ·
     replace hg106 := b_eq hg106
     refine L.yes rfl ?_; refine Lpu rfl rfl ?_; refine L.yes rfl ?_; refine Lpu rfl rfl ?_; refine L.yes rfl ?_; refine Lpu rfl rfl ?_
     refine L.bool 109 rfl (fun hg109 => ?_) (fun hg109 => ?_)
     ·
      replace hg109 := b_ne hg109
      refine L.yes rfl ?_; refine Lpu rfl rfl ?_; refine L.yes rfl ?_; refine Lpu rfl rfl ?_; refine L.yes rfl ?_; refine Lpu rfl rfl ?_; refine Lpu rfl rfl ?_; refine L.nil (QE.seq ?_)
      refine C.condB 113 rfl (fun hc113 => ?_) (fun hc113 => ?_)
      ·
       replace hc113 := b_ne hc113
       rcases hrc with ⟨h0, _⟩ | ⟨h3, _⟩ <;> omega
      ·
       replace hc113 := b_eq hc113
       refine C.skip (QE.seq (C.seq ?_)); refine C.regionM [Rd A15 [.slice W87 (readR t).ws.length w87, .slice M87 (readR t).ms.length m87, .slice L87 (readR t).ls.length l87], Rd T (U8 t), Rd A13 [.slice A71 ys.length cc71, .slice QA (ql.take (min ql.length 40)).length qc], Rd W87 (N32 (readR t).ws), Rd M87 (Bs (readR t).ms), Rd L87 (I64 (readR t).ls)] (Hq [4, 8, 11, 7, 6, 5] rfl) ?_; refine LM.q 0 rfl (by kernel_rfl) (Ev.pure rfl) rfl (Hq [4, 8, 11, 7, 6, 5] rfl) ?_; refine LM.q 1 rfl (by kernel_rfl) (Ev.pure rfl) rfl (Hq [4, 8, 11, 7, 6, 5] rfl) ?_; refine LM.q 2 rfl (by kernel_rfl) (Ev.pure rfl) rfl (Hq [4, 8, 11, 7, 6, 5] rfl) ?_
       refine LM.bool 116 rfl (fun hg116 => ?_) (fun hg116 => ?_)
       ·
        replace hg116 := i_eq hg116
        refine LM.qy 3 rfl (by kernel_rfl) rfl (Ev.loadA (vs := [.slice W87 (readR t).ws.length w87, .slice M87 (readR t).ms.length m87, .slice L87 (readR t).ls.length l87]) rfl rfl rfl (Src.r 0 rfl) rfl rfl (by decide)) rfl (Hq [4, 8, 11, 7, 6, 5] rfl) ?_; refine LM.qy 5 rfl (by kernel_rfl) rfl (Ev.pure rfl) rfl (Hq [4, 8, 11, 7, 6, 5] rfl) ?_; refine LM.qy 6 rfl (by kernel_rfl) rfl (Ev.idxArr (k := k) (m := k) rfl rfl rfl rfl rfl rfl hk2 (Src.r 2 rfl) (by exact Nat.zero_lt_succ _) (by show 0 + k * 1 = k; omega)) rfl (Hq [4, 8, 11, 7, 6, 5] rfl) ?_; refine LM.qy 7 rfl (by kernel_rfl) rfl (Ev.load rfl rfl rfl (Src.r 2 rfl) hget) rfl (Hq [4, 8, 11, 7, 6, 5] rfl) ?_; refine LM.f 4 rfl (by kernel_rfl) (Hq [4, 8, 11, 7, 6, 5] rfl) ?_; refine L.yes rfl ?_; refine L.call (js := []) (js' := []) (form_k W87 M87 L87 w87 m87 l87 (readR t) (by omega) (by omega) (by omega) hy.2.2.2.1 hmc hy.2.2.2.2.1 t (hrc.resolve_right (fun h => by have := h.1; omega)).2.2.1) rfl rfl rfl (by decide) (Hq [7, 6, 5] rfl) rfl ?_
        rintro _ _ _ ⟨G, gc, rfl, rfl, rfl⟩
        refine L.norm (H' := [_]) [0] ⟨rfl, trivial⟩ (by decide) ?_
        refine L.nil (QE.m (by kernel_rfl) ?_)
        refine LM.cut [] (by kernel_rfl) (Hq [4, 8, 11, 7, 6, 5] rfl) ?_; refine LM.f 8 rfl (by kernel_rfl) trivial ?_; refine L.yes rfl ?_; refine L.call (js := []) (js' := [0]) (Ctr.tbL true (same_c G T gc e t t (by omega) (by omega)) (beq_self_eq_true _)) rfl rfl rfl (by decide) ⟨(Has.o 0 rfl), (Has.r 8 rfl), trivial⟩ rfl ?_
        rintro _ _ _ ⟨rfl, rfl, rfl⟩
        refine L.norm (H' := [_]) [0] ⟨rfl, trivial⟩ (by decide) ?_
        refine L.nil (QE.m (by kernel_rfl) ?_)
        refine LM.f 9 rfl (by kernel_rfl) trivial ?_; refine L.yes rfl ?_; refine Lpu rfl rfl ?_
        refine L.nil (QE.m (by kernel_rfl) ?_)
        refine LM.f 10 rfl (by kernel_rfl) trivial ?_; refine Lpu rfl rfl ?_
        refine L.nil (QE.m (by kernel_rfl) ?_)
        refine LM.nil (by kernel_rfl) trivial ?_; refine QE.seq ?_
        refine C.cond rfl (fun h => by cases h) (fun _ => ?_)
        refine C.skip ?_; refine QE.blkN ?_; refine QE.seq (C.region ?_); refine Lpu rfl rfl ?_; refine L.step (Ev.add rfl rfl (by omega) (by omega)) rfl ?_; refine Lpu rfl rfl ?_; refine L.nil ?_
        refine QE.round (k + 1) (by omega) (by omega) (by exact Le.mk' (rs := [9, 10, 11]) (hs := []) ⟨rfl, rfl, rfl, trivial⟩ ⟨rfl, rfl, rfl, trivial⟩ trivial (by decide))
       ·
        replace hg116 := i_ne hg116
        refine LM.no 3 rfl (by kernel_rfl) rfl rfl rfl (Hq [4, 8, 11, 7, 6, 5] rfl) ?_; refine LM.no 4 rfl (by kernel_rfl) rfl rfl rfl (Hq [4, 8, 11, 7, 6, 5] rfl) ?_; refine LM.f 5 rfl (by kernel_rfl) (Hq [4, 8, 11, 7, 6, 5] rfl) ?_; refine L.no rfl rfl rfl ?_
        refine L.nil (QE.m (by kernel_rfl) ?_)
        refine LM.f 6 rfl (by kernel_rfl) (Hq [4, 8, 11, 7, 6, 5] rfl) ?_; refine L.no rfl rfl rfl ?_
        refine L.nil (QE.m (by kernel_rfl) ?_)
        refine LM.f 7 rfl (by kernel_rfl) (Hq [4, 8, 11, 7, 6, 5] rfl) ?_; refine L.no rfl rfl rfl ?_
        refine L.nil (QE.m (by kernel_rfl) ?_)
        refine LM.cut [] (by kernel_rfl) (Hq [4, 8, 11, 7, 6, 5] rfl) ?_; refine LM.f 8 rfl (by kernel_rfl) trivial ?_; refine L.no rfl rfl rfl ?_
        refine L.nil (QE.m (by kernel_rfl) ?_)
        refine LM.f 9 rfl (by kernel_rfl) trivial ?_; refine L.no rfl rfl rfl ?_
        refine L.nil (QE.m (by kernel_rfl) ?_)
        refine LM.f 10 rfl (by kernel_rfl) trivial ?_; refine Lpu rfl rfl ?_
        refine L.nil (QE.m (by kernel_rfl) ?_)
        refine LM.nil (by kernel_rfl) trivial ?_; refine QE.seq ?_
        refine C.cond rfl (fun h => by cases h) (fun _ => ?_)
        refine C.skip ?_; refine QE.blkN ?_; refine QE.seq (C.region ?_); refine Lpu rfl rfl ?_; refine L.step (Ev.add rfl rfl (by omega) (by omega)) rfl ?_; refine Lpu rfl rfl ?_; refine L.nil ?_
        refine QE.round (k + 1) (by omega) (by omega) (by exact Le.mk' (rs := [9, 10, 11]) (hs := []) ⟨rfl, rfl, rfl, trivial⟩ ⟨rfl, rfl, rfl, trivial⟩ trivial (by decide))
     ·
      replace hg109 := b_eq hg109
      refine L.no rfl rfl rfl ?_; refine L.no rfl rfl rfl ?_; refine L.yes rfl ?_; refine Lpu rfl rfl ?_; refine Lpu rfl rfl ?_; refine L.nil (QE.seq ?_)
      refine C.cond rfl (fun h => by cases h) (fun _ => ?_)
      refine C.skip (QE.seq (C.seq ?_)); refine C.regionM [Rd A15 [.slice W87 (readR t).ws.length w87, .slice M87 (readR t).ms.length m87, .slice L87 (readR t).ls.length l87], Rd T (U8 t), Rd A13 [.slice A71 ys.length cc71, .slice QA (ql.take (min ql.length 40)).length qc], Rd W87 (N32 (readR t).ws), Rd M87 (Bs (readR t).ms), Rd L87 (I64 (readR t).ls)] (Hq [4, 8, 11, 7, 6, 5] rfl) ?_; refine LM.q 0 rfl (by kernel_rfl) (Ev.pure rfl) rfl (Hq [4, 8, 11, 7, 6, 5] rfl) ?_; refine LM.q 1 rfl (by kernel_rfl) (Ev.pure rfl) rfl (Hq [4, 8, 11, 7, 6, 5] rfl) ?_; refine LM.q 2 rfl (by kernel_rfl) (Ev.pure rfl) rfl (Hq [4, 8, 11, 7, 6, 5] rfl) ?_
      refine LM.bool 116 rfl (fun hg116 => ?_) (fun hg116 => ?_)
      ·
       replace hg116 := i_eq hg116
       refine LM.qy 3 rfl (by kernel_rfl) rfl (Ev.loadA (vs := [.slice W87 (readR t).ws.length w87, .slice M87 (readR t).ms.length m87, .slice L87 (readR t).ls.length l87]) rfl rfl rfl (Src.r 0 rfl) rfl rfl (by decide)) rfl (Hq [4, 8, 11, 7, 6, 5] rfl) ?_; refine LM.qy 5 rfl (by kernel_rfl) rfl (Ev.pure rfl) rfl (Hq [4, 8, 11, 7, 6, 5] rfl) ?_; refine LM.qy 6 rfl (by kernel_rfl) rfl (Ev.idxArr (k := k) (m := k) rfl rfl rfl rfl rfl rfl hk2 (Src.r 2 rfl) (by exact Nat.zero_lt_succ _) (by show 0 + k * 1 = k; omega)) rfl (Hq [4, 8, 11, 7, 6, 5] rfl) ?_; refine LM.qy 7 rfl (by kernel_rfl) rfl (Ev.load rfl rfl rfl (Src.r 2 rfl) hget) rfl (Hq [4, 8, 11, 7, 6, 5] rfl) ?_; refine LM.f 4 rfl (by kernel_rfl) (Hq [4, 8, 11, 7, 6, 5] rfl) ?_; refine L.yes rfl ?_; refine L.call (js := []) (js' := []) (form_k W87 M87 L87 w87 m87 l87 (readR t) (by omega) (by omega) (by omega) hy.2.2.2.1 hmc hy.2.2.2.2.1 t (hrc.resolve_right (fun h => by have := h.1; omega)).2.2.1) rfl rfl rfl (by decide) (Hq [7, 6, 5] rfl) rfl ?_
       rintro _ _ _ ⟨G, gc, rfl, rfl, rfl⟩
       refine L.norm (H' := [_]) [0] ⟨rfl, trivial⟩ (by decide) ?_
       refine L.nil (QE.m (by kernel_rfl) ?_)
       refine LM.cut [] (by kernel_rfl) (Hq [4, 8, 11, 7, 6, 5] rfl) ?_; refine LM.f 8 rfl (by kernel_rfl) trivial ?_; refine L.yes rfl ?_; refine L.call (js := []) (js' := [0]) (Ctr.tbL true (same_c G T gc e t t (by omega) (by omega)) (beq_self_eq_true _)) rfl rfl rfl (by decide) ⟨(Has.o 0 rfl), (Has.r 8 rfl), trivial⟩ rfl ?_
       rintro _ _ _ ⟨rfl, rfl, rfl⟩
       refine L.norm (H' := [_]) [0] ⟨rfl, trivial⟩ (by decide) ?_
       refine L.nil (QE.m (by kernel_rfl) ?_)
       refine LM.f 9 rfl (by kernel_rfl) trivial ?_; refine L.yes rfl ?_; refine Lpu rfl rfl ?_
       refine L.nil (QE.m (by kernel_rfl) ?_)
       refine LM.f 10 rfl (by kernel_rfl) trivial ?_; refine Lpu rfl rfl ?_
       refine L.nil (QE.m (by kernel_rfl) ?_)
       refine LM.nil (by kernel_rfl) trivial ?_; refine QE.seq ?_
       refine C.cond rfl (fun h => by cases h) (fun _ => ?_)
       refine C.skip ?_; refine QE.blkN ?_; refine QE.seq (C.region ?_); refine Lpu rfl rfl ?_; refine L.step (Ev.add rfl rfl (by omega) (by omega)) rfl ?_; refine Lpu rfl rfl ?_; refine L.nil ?_
       refine QE.round (k + 1) (by omega) (by omega) (by exact Le.mk' (rs := [9, 10, 11]) (hs := []) ⟨rfl, rfl, rfl, trivial⟩ ⟨rfl, rfl, rfl, trivial⟩ trivial (by decide))
      ·
       replace hg116 := i_ne hg116
       refine LM.no 3 rfl (by kernel_rfl) rfl rfl rfl (Hq [4, 8, 11, 7, 6, 5] rfl) ?_; refine LM.no 4 rfl (by kernel_rfl) rfl rfl rfl (Hq [4, 8, 11, 7, 6, 5] rfl) ?_; refine LM.f 5 rfl (by kernel_rfl) (Hq [4, 8, 11, 7, 6, 5] rfl) ?_; refine L.no rfl rfl rfl ?_
       refine L.nil (QE.m (by kernel_rfl) ?_)
       refine LM.f 6 rfl (by kernel_rfl) (Hq [4, 8, 11, 7, 6, 5] rfl) ?_; refine L.no rfl rfl rfl ?_
       refine L.nil (QE.m (by kernel_rfl) ?_)
       refine LM.f 7 rfl (by kernel_rfl) (Hq [4, 8, 11, 7, 6, 5] rfl) ?_; refine L.no rfl rfl rfl ?_
       refine L.nil (QE.m (by kernel_rfl) ?_)
       refine LM.cut [] (by kernel_rfl) (Hq [4, 8, 11, 7, 6, 5] rfl) ?_; refine LM.f 8 rfl (by kernel_rfl) trivial ?_; refine L.no rfl rfl rfl ?_
       refine L.nil (QE.m (by kernel_rfl) ?_)
       refine LM.f 9 rfl (by kernel_rfl) trivial ?_; refine L.no rfl rfl rfl ?_
       refine L.nil (QE.m (by kernel_rfl) ?_)
       refine LM.f 10 rfl (by kernel_rfl) trivial ?_; refine Lpu rfl rfl ?_
       refine L.nil (QE.m (by kernel_rfl) ?_)
       refine LM.nil (by kernel_rfl) trivial ?_; refine QE.seq ?_
       refine C.cond rfl (fun h => by cases h) (fun _ => ?_)
       refine C.skip ?_; refine QE.blkN ?_; refine QE.seq (C.region ?_); refine Lpu rfl rfl ?_; refine L.step (Ev.add rfl rfl (by omega) (by omega)) rfl ?_; refine Lpu rfl rfl ?_; refine L.nil ?_
       refine QE.round (k + 1) (by omega) (by omega) (by exact Le.mk' (rs := [9, 10, 11]) (hs := []) ⟨rfl, rfl, rfl, trivial⟩ ⟨rfl, rfl, rfl, trivial⟩ trivial (by decide))
   ·
    replace hc80 := of_decide_eq_false hc80
    refine C.exit ?_; refine QE.tX ?_; refine QE.tX ?_; refine QE.blk ?_; refine QE.seq (C.seq (C.region ?_)); refine Lpu rfl rfl ?_; refine Lpu rfl rfl ?_; refine L.nil (QE.seq (C.ret ?_)); refine QE.ret (js := []) (hs := []) (vs := [_]) rfl ⟨rfl, trivial⟩ (by decide) ?_
    exact ⟨rfl, rfl, rfl⟩

end Go.Proofs.Ytkjhcjhfegakoaa
end
