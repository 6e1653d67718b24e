/-
  The law LabelTargets.
-/
import Derived.Test.YtkjhcjhfegakoaaVLao
import Derived.Test.YtkjhcjhfegakoaaVLar
namespace Go.Proofs.Ytkjhcjhfegakoaa
open Go.Sl

theorem words_k (B : Option Addr) (b : List UInt8) (bc : Nat) (hb : b.length ≤ bc) (hl : b.length ≤ 1000000) (r : List Nat) (e : Int) (hx : wordsR b = r) (he : wordsE b = e) :
   Ctr X 24 [.slice B b.length bc] [Rd B (U8 b)] [] (fun v R' H' => ∃ (WA : Option Addr) (wc : Nat), v = .tuple #[.slice WA r.length wc, .int .i64 e] ∧ R' = [] ∧ H' = [Own 53 1 WA r.length wc (N32 r)]) := by
 subst hx he
 exact words_c B b bc hb hl
set_option maxHeartbeats 4000000 in
theorem lTargets_c (LA : Option Addr) (l : List (List UInt8)) (lc : Nat) (hll : l.length ≤ 9223372036854775807) :
   Ctr X 5 [.slice LA l.length lc] [Rd LA (frV l)] [] (fun v R' H' => v = .bool true ∧ R' = [] ∧ H' = []) := by
 refine Ctr.of (X := X) (fn := Try.f5) Try.func5 rfl (by kernel_rfl) rfl ?_
 intro β
 refine C.seq (C.region ?_); refine Lpu rfl rfl ?_; refine L.nil (QE.seq (C.seq (C.region ?_))); refine L.call (js := []) (js' := []) (sanity03_c) rfl rfl rfl (by decide) trivial rfl ?_
 rintro _ _ _ ⟨rfl, rfl, rfl⟩
 refine Lpu rfl rfl ?_; refine L.nil (QE.seq (C.seq (C.region ?_))); refine Lpu rfl rfl ?_; refine L.call (js := []) (js' := []) (code_c LA l lc 12 hll (by decide)) rfl rfl rfl (by decide) (Hq [0] rfl) rfl ?_
 rintro _ _ _ ⟨B, bc, rfl, rfl, rfl⟩
 refine L.norm (H' := [_]) [0] ⟨rfl, trivial⟩ (by decide) ?_; refine Lpu rfl rfl ?_; refine L.nil (QE.seq (C.seq ?_))
 refine C.cap 0 rfl (fun hbc => ?_)
 have hbl := codB_len l 12
 have hb4 := codB_four l 12
 have hco : codeB (codB l 12) := codB_code l (by decide)
 have hxl := lift_len hco
 have hll3 := low_lift_yes hco
 have hx32 := liftR_w32 (codB l 12)
 have hWl := wordsF_len (codB l 12)
 have hW32 := wordsF_w32 (codB l 12)
 have hXe : (liftR (codB l 12)) = liftF (wordsF (codB l 12)) := liftR_code hco
 have hlab : (liftR (codB l 12)).ls = (labs (wordsF (codB l 12))) := by rw [hXe]; rfl
 have hlabl : (liftR (codB l 12)).ls.length = (labs (wordsF (codB l 12))).length := by rw [hlab]
 have hls := labs_sorted (wordsF (codB l 12))
 have hlk := labs_ok (l := (wordsF (codB l 12))) (by omega)
 refine C.freeze 0 rfl [] (by decide) (by decide) ?_; refine C.region ?_; refine Lpu rfl rfl ?_; refine L.call (js := []) (js' := []) (lift_k B (codB l 12) bc hbc (by omega) (liftR (codB l 12)) 0 rfl (liftE_code hco)) rfl rfl rfl (by decide) (Hq [0] rfl) rfl ?_
 rintro _ _ _ ⟨W20, M20, L20, l20, rfl, rfl, rfl⟩
 refine L.norm (H' := [_, _, _]) [0, 1, 2] ⟨rfl, rfl, rfl, trivial⟩ (by decide) ?_; refine Lpu rfl rfl ?_; refine Lpu rfl rfl ?_; refine Lpu rfl rfl ?_
 refine L.alloc rfl rfl rfl (fun A5 => ?_)
 refine L.storeA (j := 3) rfl rfl rfl rfl rfl (Nat.zero_lt_succ _) rfl rfl ?_; refine Lpu rfl rfl ?_; refine L.nil (QE.seq (C.seq ?_)); refine C.freeze 0 rfl [1, 2, 3] (by decide) (by decide) ?_; refine C.norm (H' := [_, _, _]) [0, 1, 2] ⟨rfl, rfl, rfl, trivial⟩ (by decide) ?_; refine C.freeze 0 rfl [1, 2] (by decide) (by decide) ?_; refine C.norm (H' := [_, _]) [0, 1] ⟨rfl, rfl, trivial⟩ (by decide) ?_; refine C.freeze 0 rfl [1] (by decide) (by decide) ?_; refine C.norm (H' := [_]) [0] ⟨rfl, trivial⟩ (by decide) ?_; refine C.freeze 0 rfl [] (by decide) (by decide) ?_; refine C.region ?_; refine Lpu rfl rfl ?_; refine L.call (js := []) (js' := []) (words_k B (codB l 12) bc hbc (by omega) (wordsF (codB l 12)) 0 (if_pos hb4) (if_pos hb4)) rfl rfl rfl (by decide) (Hq [4] rfl) rfl ?_
 rintro _ _ _ ⟨V25, v25, rfl, rfl, rfl⟩
 refine L.norm (H' := [_]) [0] ⟨rfl, trivial⟩ (by decide) ?_; refine Lpu rfl rfl ?_; refine Lpu rfl rfl ?_; refine Lpu rfl rfl ?_; refine Lpu rfl rfl ?_; refine Lpu rfl rfl ?_; refine L.nil (QE.seq (C.seq (C.seq ?_))); refine C.freeze 0 rfl [] (by decide) (by decide) ?_; refine C.region ?_; refine Lpu rfl rfl ?_; refine Lpu rfl rfl ?_; refine Lpu rfl rfl ?_
 refine L.bool 30 rfl (fun hg30 => ?_) (fun hg30 => ?_)
 ·
  replace hg30 := b_ne hg30
  first | exact absurd rfl hg30 | omega | exact absurd rfl hc30
 ·
  replace hg30 := b_eq hg30
  refine L.yes rfl ?_; refine Lpu rfl rfl ?_; refine L.yes rfl ?_; refine Lpu rfl rfl ?_; refine Lpu rfl rfl ?_; refine Lpu rfl rfl ?_
  refine L.bool 34 rfl (fun hg34 => ?_) (fun hg34 => ?_)
  ·
   replace hg34 := b_ne hg34
   first | exact absurd rfl hg34 | omega | exact absurd rfl hc34
  ·
   replace hg34 := b_eq hg34
   refine L.yes rfl ?_; refine L.step (Ev.fieldAddr rfl rfl rfl rfl rfl rfl (Src.r 1 rfl) (Nat.zero_lt_succ _) rfl) rfl ?_; refine L.yes rfl ?_; refine L.step (Ev.load rfl rfl rfl (Src.r 1 rfl) rfl) rfl ?_; refine L.yes rfl ?_; refine Lpu rfl rfl ?_; refine L.yes rfl ?_; refine Lpu rfl rfl ?_; refine L.yes rfl ?_; refine Lpu rfl rfl ?_; refine L.yes rfl ?_; refine Lpu rfl rfl ?_; refine Lpu rfl rfl ?_; refine Lpu rfl rfl ?_
   refine L.bool 42 rfl (fun hg42 => ?_) (fun hg42 => ?_)
   ·
    replace hg42 := b_ne hg42
    first | exact absurd rfl hg42 | omega | exact absurd rfl hc42
   ·
    replace hg42 := b_eq hg42
    refine L.yes rfl ?_; refine L.step (Ev.fieldAddr rfl rfl rfl rfl rfl rfl (Src.r 1 rfl) (Nat.zero_lt_succ _) rfl) rfl ?_; refine L.yes rfl ?_; refine L.step (Ev.load rfl rfl rfl (Src.r 1 rfl) rfl) rfl ?_; refine L.yes rfl ?_; refine Lpu rfl rfl ?_; refine L.yes rfl ?_; refine Lpu rfl rfl ?_; refine L.yes rfl ?_; refine Lpu rfl rfl ?_; refine L.yes rfl ?_; refine Lpu rfl rfl ?_; refine Lpu rfl rfl ?_; refine Lpu rfl rfl ?_
    refine L.bool 50 rfl (fun hg50 => ?_) (fun hg50 => ?_)
    ·
     replace hg50 := b_ne hg50
     first | exact absurd rfl hg50 | omega | exact absurd rfl hc50
    ·
     replace hg50 := b_eq hg50
     refine L.yes rfl ?_; refine L.step (Ev.fieldAddr rfl rfl rfl rfl rfl rfl (Src.r 1 rfl) (Nat.zero_lt_succ _) rfl) rfl ?_; refine L.yes rfl ?_; refine L.step (Ev.load rfl rfl rfl (Src.r 1 rfl) rfl) rfl ?_; refine L.yes rfl ?_; refine Lpu rfl rfl ?_; refine L.yes rfl ?_; refine Lpu rfl rfl ?_; refine L.yes rfl ?_; refine Lpu rfl rfl ?_; refine L.yes rfl ?_; refine Lpu rfl rfl ?_; refine Lpu rfl rfl ?_; refine L.nil (QE.seq ?_)
     refine C.condB 57 rfl (fun hc57 => ?_) (fun hc57 => ?_)
     ·
      replace hc57 := of_decide_eq_true hc57
      first | exact absurd rfl hg57 | omega | exact absurd rfl hc57
     ·
      replace hc57 := of_decide_eq_false hc57
      refine C.skip (QE.seq (C.seq (C.region ?_))); refine L.step (Ev.fieldAddr rfl rfl rfl rfl rfl rfl (Src.r 1 rfl) (Nat.zero_lt_succ _) rfl) rfl ?_; refine L.step (Ev.load rfl rfl rfl (Src.r 1 rfl) rfl) rfl ?_; refine Lpu rfl rfl ?_
      refine L.make (m := (liftR (codB l 12)).ls.length) rfl rfl rfl rfl rfl rfl rfl rfl rfl (by show 1 * _ ≤ _; omega) (by omega) rfl (fun A61 => ?_)
      refine Lpu rfl rfl ?_; refine L.nil (QE.seq (C.seq (C.seq (C.region ?_)))); refine Lpu rfl rfl ?_; refine L.nil (QE.seq (C.block ?_)); refine C.loop (fun q : Nat × List Bool => [(3, .bool true), (4, .slice B (codB l 12).length bc), (5, ptrOf A5 0), (7, .slice V25 (wordsF (codB l 12)).length v25), (9, .slice A61 (liftR (codB l 12)).ls.length (liftR (codB l 12)).ls.length), (10, .int .i64 (q.1 : Int))]) (fun q : Nat × List Bool => [Rd B (U8 (codB l 12)), Rd A5 [.slice W20 (liftR (codB l 12)).ws.length (liftR (codB l 12)).ws.length, .slice M20 (liftR (codB l 12)).ms.length (liftR (codB l 12)).ms.length, .slice L20 (liftR (codB l 12)).ls.length l20], Rd W20 (N32 (liftR (codB l 12)).ws), Rd M20 (Bs (liftR (codB l 12)).ms), Rd L20 (I64 (liftR (codB l 12)).ls), Rd V25 (N32 (wordsF (codB l 12)))]) (fun q : Nat × List Bool => [Own 4 1 A61 (liftR (codB l 12)).ls.length (liftR (codB l 12)).ls.length (Bs q.2)]) (fun q : Nat × List Bool => q.1 ≤ (wordsF (codB l 12)).length ∧ q.2.length = (liftR (codB l 12)).ls.length ∧ ∀ j, j < q.1 → lnk (wordsF (codB l 12)) j = true → q.2.getD (idxL (labs (wordsF (codB l 12))) (insAt (wordsF (codB l 12)) j).n) false = true) (fun q : Nat × List Bool => (wordsF (codB l 12)).length - q.1) (0, List.replicate (liftR (codB l 12)).ls.length false) ⟨Nat.zero_le _, List.length_replicate, fun j hj => absurd hj (Nat.not_lt_zero _)⟩ (by exact Le.mk' (rs := [5, 1, 4, 3, 2, 0]) (hs := [0]) ⟨rfl, rfl, rfl, rfl, rfl, rfl, trivial⟩ ⟨rfl, rfl, rfl, rfl, rfl, rfl, trivial⟩ ⟨(congrArg some (own_eq2 rfl (Bs_rep2 _).symm)), trivial⟩ (by decide)) ?_
      rintro ⟨i, nm⟩ ⟨hi, hnl0, hnm⟩
      dsimp only at hi hnl0 hnm ⊢
      refine C.seq (C.seq (C.region ?_)); refine Lpu rfl rfl ?_; refine Lpu rfl rfl ?_; refine Lpu rfl rfl ?_; refine Lpu rfl rfl ?_; refine L.nil (QE.seq ?_)
      refine C.condB 65 rfl (fun hc65 => ?_) (fun hc65 => ?_)
      ·
       replace hc65 := of_decide_eq_true hc65
       refine C.skip (QE.seq (C.seq (C.block (C.seq (C.region ?_))))); refine Lpu rfl rfl ?_; refine Lpu rfl rfl ?_; refine L.step (Ev.idx1 (k := i) rfl rfl rfl rfl rfl rfl rfl (by omega) (Src.r 5 rfl) (by rw [N32_len]; omega)) rfl ?_; refine L.step (Ev.load rfl rfl rfl (Src.r 5 rfl) (N32_get (by omega))) rfl ?_; refine Lpu rfl rfl ?_; refine L.step (Ev.mul rfl rfl (by omega) (by omega)) rfl ?_; refine L.call (js := []) (js' := [0]) (decode_c ((wordsF (codB l 12)).getD i 0) (4 * (i : Int)) (hW32 i) (by omega)) rfl rfl rfl (by decide) trivial rfl ?_
       rintro _ _ _ ⟨rfl, rfl, rfl⟩
       refine L.norm (H' := [_]) [0] ⟨rfl, trivial⟩ (by decide) ?_
       refine L.alloc rfl rfl rfl (fun A11 => ?_)
       refine L.storeA (j := 1) rfl rfl rfl rfl rfl (Nat.zero_lt_succ _) rfl rfl ?_; refine L.nil (QE.seq ?_); refine C.seqJ (fun u : Unit => [(3, .bool true), (4, .slice B (codB l 12).length bc), (5, ptrOf A5 0), (7, .slice V25 (wordsF (codB l 12)).length v25), (9, .slice A61 (liftR (codB l 12)).ls.length (liftR (codB l 12)).ls.length), (10, .int .i64 (i : Int)), (11, ptrOf A11 0), (12, .bool (lnk (wordsF (codB l 12)) i))]) (fun u : Unit => [Rd B (U8 (codB l 12)), Rd A5 [.slice W20 (liftR (codB l 12)).ws.length (liftR (codB l 12)).ws.length, .slice M20 (liftR (codB l 12)).ms.length (liftR (codB l 12)).ms.length, .slice L20 (liftR (codB l 12)).ls.length l20], Rd W20 (N32 (liftR (codB l 12)).ws), Rd M20 (Bs (liftR (codB l 12)).ms), Rd L20 (I64 (liftR (codB l 12)).ls), Rd V25 (N32 (wordsF (codB l 12))), Rd A11 (in5 (insAt (wordsF (codB l 12)) i))]) (fun u : Unit => [Own 4 1 A61 (liftR (codB l 12)).ls.length (liftR (codB l 12)).ls.length (Bs nm)]) (fun u : Unit => True) ?_ ?_
       ·
        refine C.freeze 1 rfl [0] (by decide) (by decide) ?_; refine C.norm (H' := [_]) [0] ⟨rfl, trivial⟩ (by decide) ?_; refine C.region ?_; refine L.step (Ev.fieldAddr rfl rfl rfl rfl rfl rfl (Src.r 0 rfl) (Nat.zero_lt_succ _) rfl) rfl ?_; refine L.step (Ev.load rfl rfl rfl (Src.r 0 rfl) rfl) rfl ?_; refine Lpu rfl rfl ?_; refine Lpu rfl rfl ?_
        refine L.bool 78 rfl (fun hg78 => ?_) (fun hg78 => ?_)
        ·
         replace hg78 := of_decide_eq_true hg78
         refine L.yes rfl ?_; refine L.step (Ev.fieldAddr rfl rfl rfl rfl rfl rfl (Src.r 0 rfl) (Nat.zero_lt_succ _) rfl) rfl ?_; refine L.yes rfl ?_; refine L.step (Ev.load rfl rfl rfl (Src.r 0 rfl) rfl) rfl ?_; refine L.yes rfl ?_; refine Lpu rfl rfl ?_; refine Lpu rfl rfl ?_; refine Lpu rfl rfl ?_
         refine L.bool 83 rfl (fun hg83 => ?_) (fun hg83 => ?_)
         ·
          replace hg83 := of_decide_eq_true hg83
          refine L.yes rfl ?_; refine L.step (Ev.fieldAddr rfl rfl rfl rfl rfl rfl (Src.r 0 rfl) (Nat.zero_lt_succ _) rfl) rfl ?_; refine L.yes rfl ?_; refine L.step (Ev.load rfl rfl rfl (Src.r 0 rfl) rfl) rfl ?_; refine L.yes rfl ?_; refine Lpu rfl rfl ?_; refine Lpu rfl rfl ?_; refine Lpu rfl rfl ?_
          refine L.bool 88 rfl (fun hg88 => ?_) (fun hg88 => ?_)
          ·
           replace hg88 := of_decide_eq_true hg88
           refine L.yes rfl ?_; refine L.step (Ev.fieldAddr rfl rfl rfl rfl rfl rfl (Src.r 0 rfl) (Nat.zero_lt_succ _) rfl) rfl ?_; refine L.yes rfl ?_; refine L.step (Ev.load rfl rfl rfl (Src.r 0 rfl) rfl) rfl ?_; refine L.yes rfl ?_; refine Lpu rfl rfl ?_; refine L.yes rfl ?_; refine Lpu rfl rfl ?_; refine L.yes rfl ?_; refine Lpu rfl rfl ?_; refine Lpu rfl rfl ?_; refine Lpu rfl rfl ?_; refine L.nil ?_
           refine QE.join (()) (by exact trivial) (by exact Le.mk' (rs := [1, 2, 3, 4, 5, 6, 0]) (hs := [0]) ⟨rfl, rfl, rfl, rfl, rfl, rfl, rfl, (congrArg (fun z => some (Value.bool z)) (by unfold lnk linkB insAt; rw [decide_eq_decide]; omega)), trivial⟩ ⟨rfl, rfl, rfl, rfl, rfl, rfl, rfl, trivial⟩ ⟨rfl, trivial⟩ (by decide))
          ·
           replace hg88 := of_decide_eq_false hg88
           refine L.no rfl rfl rfl ?_; refine L.no rfl rfl rfl ?_; refine L.no rfl rfl rfl ?_; refine L.no rfl rfl rfl ?_; refine L.no rfl rfl rfl ?_; refine Lpu rfl rfl ?_; refine Lpu rfl rfl ?_; refine L.nil ?_
           refine QE.join (()) (by exact trivial) (by exact Le.mk' (rs := [1, 2, 3, 4, 5, 6, 0]) (hs := [0]) ⟨rfl, rfl, rfl, rfl, rfl, rfl, rfl, (congrArg (fun z => some (Value.bool z)) (by symm; unfold lnk linkB insAt; rw [decide_eq_false_iff_not]; omega)), trivial⟩ ⟨rfl, rfl, rfl, rfl, rfl, rfl, rfl, trivial⟩ ⟨rfl, trivial⟩ (by decide))
         ·
          replace hg83 := of_decide_eq_false hg83
          refine L.no rfl rfl rfl ?_; refine L.no rfl rfl rfl ?_; refine L.no rfl rfl rfl ?_; refine Lpu rfl rfl ?_; refine Lpu rfl rfl ?_; refine L.no rfl rfl rfl ?_; refine L.no rfl rfl rfl ?_; refine L.no rfl rfl rfl ?_; refine L.no rfl rfl rfl ?_; refine L.no rfl rfl rfl ?_; refine Lpu rfl rfl ?_; refine Lpu rfl rfl ?_; refine L.nil ?_
          refine QE.join (()) (by exact trivial) (by exact Le.mk' (rs := [1, 2, 3, 4, 5, 6, 0]) (hs := [0]) ⟨rfl, rfl, rfl, rfl, rfl, rfl, rfl, (congrArg (fun z => some (Value.bool z)) (by symm; unfold lnk linkB insAt; rw [decide_eq_false_iff_not]; omega)), trivial⟩ ⟨rfl, rfl, rfl, rfl, rfl, rfl, rfl, trivial⟩ ⟨rfl, trivial⟩ (by decide))
        ·
         replace hg78 := of_decide_eq_false hg78
         refine L.no rfl rfl rfl ?_; refine L.no rfl rfl rfl ?_; refine L.no rfl rfl rfl ?_; refine Lpu rfl rfl ?_; refine Lpu rfl rfl ?_; refine L.no rfl rfl rfl ?_; refine L.no rfl rfl rfl ?_; refine L.no rfl rfl rfl ?_; refine Lpu rfl rfl ?_; refine Lpu rfl rfl ?_; refine L.no rfl rfl rfl ?_; refine L.no rfl rfl rfl ?_; refine L.no rfl rfl rfl ?_; refine L.no rfl rfl rfl ?_; refine L.no rfl rfl rfl ?_; refine Lpu rfl rfl ?_; refine Lpu rfl rfl ?_; refine L.nil ?_
         refine QE.join (()) (by exact trivial) (by exact Le.mk' (rs := [1, 2, 3, 4, 5, 6, 0]) (hs := [0]) ⟨rfl, rfl, rfl, rfl, rfl, rfl, rfl, (congrArg (fun z => some (Value.bool z)) (by symm; unfold lnk linkB insAt; rw [decide_eq_false_iff_not]; omega)), trivial⟩ ⟨rfl, rfl, rfl, rfl, rfl, rfl, rfl, trivial⟩ ⟨rfl, trivial⟩ (by decide))
       ·
        intro _ _
        refine C.seqJ (fun u : Unit => [(3, .bool true), (4, .slice B (codB l 12).length bc), (5, ptrOf A5 0), (7, .slice V25 (wordsF (codB l 12)).length v25), (9, .slice A61 (liftR (codB l 12)).ls.length (liftR (codB l 12)).ls.length), (10, .int .i64 (i : Int)), (11, ptrOf A11 0), (12, .bool (lnk (wordsF (codB l 12)) i))]) (fun u : Unit => [Rd B (U8 (codB l 12)), Rd A5 [.slice W20 (liftR (codB l 12)).ws.length (liftR (codB l 12)).ws.length, .slice M20 (liftR (codB l 12)).ms.length (liftR (codB l 12)).ms.length, .slice L20 (liftR (codB l 12)).ls.length l20], Rd W20 (N32 (liftR (codB l 12)).ws), Rd M20 (Bs (liftR (codB l 12)).ms), Rd L20 (I64 (liftR (codB l 12)).ls), Rd V25 (N32 (wordsF (codB l 12))), Rd A11 (in5 (insAt (wordsF (codB l 12)) i))]) (fun u : Unit => [Own 4 1 A61 (liftR (codB l 12)).ls.length (liftR (codB l 12)).ls.length (Bs nm)]) (fun u : Unit => True) ?_ ?_
        ·
         refine C.seq ?_; refine C.regionQ (by kernel_rfl) ?_; refine LQ.step (Ev.pure rfl) rfl ?_; refine LQ.step (Ev.fieldAddr rfl rfl rfl rfl rfl rfl (Src.r 1 rfl) (Nat.zero_lt_succ _) rfl) rfl ?_; refine LQ.step (Ev.load rfl rfl rfl (Src.r 1 rfl) rfl) rfl ?_; refine LQ.step (Ev.pure rfl) rfl ?_; refine LQ.step (Ev.idx1 (k := i) rfl rfl rfl rfl rfl rfl rfl (by omega) (Src.r 3 rfl) (by rw [Bs_len]; omega)) rfl ?_; refine LQ.step (Ev.cast (u := .bool (lnk (wordsF (codB l 12)) i)) (Ev.load rfl rfl rfl (Src.r 3 rfl) (Bs_get (by omega))) (by rw [hXe, liftF_ms (wordsF (codB l 12)) (by omega)])) rfl ?_; refine LQ.step (Ev.cast (u := .bool false) (Ev.neBool rfl rfl rfl rfl) (congrArg Value.bool (by cases (lnk (wordsF (codB l 12)) i) <;> rfl))) rfl ?_; refine LQ.step (Ev.pure rfl) rfl ?_
         refine LQ.bool 102 rfl (fun hg102 => ?_) (fun hg102 => ?_)
         ·
          exact absurd hg102 (by decide)
         ·
          refine LQ.yes rfl ?_; refine LQ.step (Ev.pure rfl) rfl ?_; refine LQ.yes rfl ?_; refine LQ.step (Ev.pure rfl) rfl ?_; refine LQ.yes rfl ?_; refine LQ.step (Ev.pure rfl) rfl ?_
          refine LQ.bool 105 rfl (fun hg105 => ?_) (fun hg105 => ?_)
          ·
           refine LQ.yes rfl ?_; refine LQ.step (Ev.fieldAddr rfl rfl rfl rfl rfl rfl (Src.r 1 rfl) (Nat.zero_lt_succ _) rfl) rfl ?_; refine LQ.yes rfl ?_; refine LQ.step (Ev.load rfl rfl rfl (Src.r 1 rfl) rfl) rfl ?_; refine LQ.yes rfl ?_; refine LQ.step (Ev.pure rfl) rfl ?_; refine LQ.yes rfl ?_; refine LQ.step (Ev.idx1 (k := i) rfl rfl rfl rfl rfl rfl rfl (by omega) (Src.r 2 rfl) (by rw [N32_len]; omega)) rfl ?_; refine LQ.yes rfl ?_; refine LQ.step (Ev.cast (u := .int .u32 ((liftW (wordsF (codB l 12)) i : Nat) : Int)) (Ev.load rfl rfl rfl (Src.r 2 rfl) (N32_get (by omega))) (by rw [hXe, liftF_ws (wordsF (codB l 12)) (by omega)])) rfl ?_; refine LQ.yes rfl ?_; refine LQ.step (Ev.pure rfl) rfl ?_; refine LQ.yes rfl ?_; refine LQ.step (Ev.pure rfl) rfl ?_; refine LQ.yes rfl ?_; refine LQ.step (Ev.idx1 (k := i) rfl rfl rfl rfl rfl rfl rfl (by omega) (Src.r 5 rfl) (by rw [N32_len]; omega)) rfl ?_; refine LQ.yes rfl ?_; refine LQ.step (Ev.load rfl rfl rfl (Src.r 5 rfl) (N32_get (by omega))) rfl ?_; refine LQ.yes rfl ?_; refine LQ.step (Ev.cast (u := .bool false) (Ev.pure rfl) (congrArg Value.bool (by rw [liftW_plain (by simpa using hg105)]; exact bne_self_eq_false _))) rfl ?_; refine LQ.yes rfl ?_; refine LQ.step (Ev.pure rfl) rfl ?_; refine LQ.step (Ev.pure rfl) rfl ?_; refine LQ.nil ?_; refine QE.seq ?_
           refine C.condB 117 rfl (fun hc117 => ?_) (fun hc117 => ?_)
           ·
            exact absurd hc117 (by decide)
           ·
            refine C.skip ?_
            refine QE.join (()) (by exact trivial) (by exact Le.mk' (rs := [0, 1, 2, 3, 4, 5, 6]) (hs := [0]) ⟨rfl, rfl, rfl, rfl, rfl, rfl, rfl, rfl, trivial⟩ ⟨rfl, rfl, rfl, rfl, rfl, rfl, rfl, trivial⟩ ⟨rfl, trivial⟩ (by decide))
          ·
           refine LQ.no rfl rfl rfl ?_; refine LQ.no rfl rfl rfl ?_; refine LQ.no rfl rfl rfl ?_; refine LQ.no rfl rfl rfl ?_; refine LQ.no rfl rfl rfl ?_; refine LQ.no rfl rfl rfl ?_; refine LQ.no rfl rfl rfl ?_; refine LQ.no rfl rfl rfl ?_; refine LQ.no rfl rfl rfl ?_; refine LQ.no rfl rfl rfl ?_; refine LQ.yes rfl ?_; refine LQ.step (Ev.pure rfl) rfl ?_; refine LQ.step (Ev.pure rfl) rfl ?_; refine LQ.nil ?_; refine QE.seq ?_
           refine C.cond rfl (fun h => by cases h) (fun _ => ?_)
           refine C.skip ?_
           refine QE.join (()) (by exact trivial) (by exact Le.mk' (rs := [0, 1, 2, 3, 4, 5, 6]) (hs := [0]) ⟨rfl, rfl, rfl, rfl, rfl, rfl, rfl, rfl, trivial⟩ ⟨rfl, rfl, rfl, rfl, rfl, rfl, rfl, trivial⟩ ⟨rfl, trivial⟩ (by decide))
        ·
         intro _ _
         refine C.seq (C.seq (C.region ?_)); refine Lpu rfl rfl ?_; refine Lpu rfl rfl ?_; refine L.nil (QE.seq ?_)
         refine C.condB 119 rfl (fun hc119 => ?_) (fun hc119 => ?_)
         ·
          have hnl : (lnk (wordsF (codB l 12)) i) = false := by simpa using hc119
          refine C.exit ?_; refine QE.tX ?_; refine QE.blk ?_; refine QE.seq (C.region ?_); refine Lpu rfl rfl ?_; refine L.step (Ev.add rfl rfl (by omega) (by omega)) rfl ?_; refine Lpu rfl rfl ?_; refine L.nil ?_
          refine QE.round (i := (i, nm)) ((i + 1, nm)) (by exact ⟨by dsimp only; omega, hnl0, named_skip hnm hnl⟩) (by dsimp only; omega) (by exact Le.mk' (rs := [0, 1, 2, 3, 4, 5]) (hs := [0]) ⟨rfl, rfl, rfl, rfl, rfl, rfl, trivial⟩ ⟨rfl, rfl, rfl, rfl, rfl, rfl, trivial⟩ ⟨rfl, trivial⟩ (by decide))
         ·
          have hyl : (lnk (wordsF (codB l 12)) i) = true := by simpa using hc119
          have hid := idx_lt (l := (wordsF (codB l 12))) (by omega) (by omega) hyl
          have htg := liftW_low (l := (wordsF (codB l 12))) (by omega) (by omega) hyl
          refine C.skip (QE.seq (C.seq (C.region ?_))); refine L.step (Ev.fieldAddr rfl rfl rfl rfl rfl rfl (Src.r 1 rfl) (Nat.zero_lt_succ _) rfl) rfl ?_; refine L.step (Ev.load rfl rfl rfl (Src.r 1 rfl) rfl) rfl ?_; refine Lpu rfl rfl ?_; refine L.step (Ev.idx1 (k := i) rfl rfl rfl rfl rfl rfl rfl (by omega) (Src.r 2 rfl) (by rw [N32_len]; omega)) rfl ?_; refine L.step (Ev.cast (u := .int .u32 ((liftW (wordsF (codB l 12)) i : Nat) : Int)) (Ev.load rfl rfl rfl (Src.r 2 rfl) (N32_get (by omega))) (by rw [hXe, liftF_ws (wordsF (codB l 12)) (by omega)])) rfl ?_; refine L.step (Ev.low32 16 (q := (idxL (labs (wordsF (codB l 12))) (insAt (wordsF (codB l 12)) i).n)) rfl rfl rfl (by have := liftW_lt (l := (wordsF (codB l 12))) (by omega) hW32 i; omega) (by decide) htg.1) rfl ?_; refine L.step (Ev.toInt rfl rfl rfl rfl (by omega) (by omega)) rfl ?_; refine Lpu rfl rfl ?_; refine L.nil (QE.seq (C.seq (C.seq ?_))); refine C.regionQ (by kernel_rfl) ?_; refine LQ.step (Ev.pure rfl) rfl ?_; refine LQ.step (Ev.fieldAddr rfl rfl rfl rfl rfl rfl (Src.r 1 rfl) (Nat.zero_lt_succ _) rfl) rfl ?_; refine LQ.step (Ev.load rfl rfl rfl (Src.r 1 rfl) rfl) rfl ?_; refine LQ.step (Ev.pure rfl) rfl ?_; refine LQ.step (Ev.pure rfl) rfl ?_; refine LQ.step (Ev.pure rfl) rfl ?_
          refine LQ.bool 132 rfl (fun hg132 => ?_) (fun hg132 => ?_)
          ·
           replace hg132 := of_decide_eq_true hg132
           omega
          ·
           replace hg132 := of_decide_eq_false hg132
           refine LQ.yes rfl ?_; refine LQ.step (Ev.fieldAddr rfl rfl rfl rfl rfl rfl (Src.r 1 rfl) (Nat.zero_lt_succ _) rfl) rfl ?_; refine LQ.yes rfl ?_; refine LQ.step (Ev.load rfl rfl rfl (Src.r 1 rfl) rfl) rfl ?_; refine LQ.yes rfl ?_; refine LQ.step (Ev.pure rfl) rfl ?_; refine LQ.yes rfl ?_; refine LQ.step (Ev.idx1 (k := (idxL (labs (wordsF (codB l 12))) (insAt (wordsF (codB l 12)) i).n)) rfl rfl rfl rfl rfl rfl rfl (by omega) (Src.r 4 rfl) (by rw [I64_len]; omega)) rfl ?_; refine LQ.yes rfl ?_; refine LQ.step (Ev.cast (u := .int .i64 (insAt (wordsF (codB l 12)) i).n) (Ev.load rfl rfl rfl (Src.r 4 rfl) (I64_get (by omega))) (by rw [hlab, hid.2.1])) rfl ?_; refine LQ.yes rfl ?_; refine LQ.step (Ev.fieldAddr rfl rfl rfl rfl rfl rfl (Src.r 6 rfl) (Nat.zero_lt_succ _) rfl) rfl ?_; refine LQ.yes rfl ?_; refine LQ.step (Ev.load rfl rfl rfl (Src.r 6 rfl) rfl) rfl ?_; refine LQ.yes rfl ?_; refine LQ.step (Ev.pure rfl) rfl ?_; refine LQ.step (Ev.pure rfl) rfl ?_; refine LQ.step (Ev.pure rfl) rfl ?_
           refine LQ.bool 142 rfl (fun hg142 => ?_) (fun hg142 => ?_)
           ·
            replace hg142 := b_ne hg142
            first | exact absurd rfl hg142 | omega | exact absurd rfl hc142
           ·
            replace hg142 := b_eq hg142
            refine LQ.yes rfl ?_; refine LQ.step (Ev.fieldAddr rfl rfl rfl rfl rfl rfl (Src.r 1 rfl) (Nat.zero_lt_succ _) rfl) rfl ?_; refine LQ.yes rfl ?_; refine LQ.step (Ev.load rfl rfl rfl (Src.r 1 rfl) rfl) rfl ?_; refine LQ.yes rfl ?_; refine LQ.step (Ev.pure rfl) rfl ?_; refine LQ.yes rfl ?_; refine LQ.step (Ev.idx1 (k := i) rfl rfl rfl rfl rfl rfl rfl (by omega) (Src.r 2 rfl) (by rw [N32_len]; omega)) rfl ?_; refine LQ.yes rfl ?_; refine LQ.step (Ev.cast (u := .int .u32 ((liftW (wordsF (codB l 12)) i : Nat) : Int)) (Ev.load rfl rfl rfl (Src.r 2 rfl) (N32_get (by omega))) (by rw [hXe, liftF_ws (wordsF (codB l 12)) (by omega)])) rfl ?_; refine LQ.yes rfl ?_; refine LQ.step (Ev.shr32 (k := 24) (q := liftW (wordsF (codB l 12)) i / 16777216) rfl rfl rfl (by decide) rfl) rfl ?_; refine LQ.yes rfl ?_; refine LQ.step (Ev.pure rfl) rfl ?_; refine LQ.yes rfl ?_; refine LQ.step (Ev.pure rfl) rfl ?_; refine LQ.yes rfl ?_; refine LQ.step (Ev.idx1 (k := i) rfl rfl rfl rfl rfl rfl rfl (by omega) (Src.r 5 rfl) (by rw [N32_len]; omega)) rfl ?_; refine LQ.yes rfl ?_; refine LQ.step (Ev.load rfl rfl rfl (Src.r 5 rfl) (N32_get (by omega))) rfl ?_; refine LQ.yes rfl ?_; refine LQ.step (Ev.shr32 (k := 24) (q := (wordsF (codB l 12)).getD i 0 / 16777216) rfl rfl rfl (by decide) rfl) rfl ?_; refine LQ.yes rfl ?_; refine LQ.step (Ev.pure rfl) rfl ?_; refine LQ.step (Ev.pure rfl) rfl ?_; refine LQ.nil ?_; refine QE.seq ?_
            refine C.condB 155 rfl (fun hc155 => ?_) (fun hc155 => ?_)
            ·
             replace hc155 := b_ne hc155
             omega
            ·
             replace hc155 := b_eq hc155
             refine C.skip (QE.seq (C.region ?_)); refine Lpu rfl rfl ?_; refine Lpu rfl rfl ?_; refine L.step (Ev.idx1 (k := (idxL (labs (wordsF (codB l 12))) (insAt (wordsF (codB l 12)) i).n)) rfl rfl rfl rfl rfl rfl rfl (by omega) (Src.o 0 rfl) (by rw [Bs_len]; omega)) rfl ?_; refine L.store (j := 0) rfl rfl rfl rfl rfl rfl rfl (Bs_get (by omega)) ?_; refine L.nil ?_; refine QE.blkN ?_; refine QE.seq (C.region ?_); refine Lpu rfl rfl ?_; refine L.step (Ev.add rfl rfl (by omega) (by omega)) rfl ?_; refine Lpu rfl rfl ?_; refine L.nil ?_
             refine QE.round (i := (i, nm)) ((i + 1, nm.set (idxL (labs (wordsF (codB l 12))) (insAt (wordsF (codB l 12)) i).n) true)) (by exact ⟨by dsimp only; omega, by dsimp only; rw [List.length_set]; exact hnl0, named_set hnm (by omega)⟩) (by dsimp only; omega) (by exact Le.mk' (rs := [0, 1, 2, 3, 4, 5]) (hs := [0]) ⟨rfl, rfl, rfl, rfl, rfl, rfl, trivial⟩ ⟨rfl, rfl, rfl, rfl, rfl, rfl, trivial⟩ ⟨(congrArg some (own_eq2 rfl (by dsimp only; rw [Bs_set]))), trivial⟩ (by decide))
      ·
       replace hc65 := of_decide_eq_false hc65
       refine C.exit ?_; refine QE.tX ?_; refine QE.tX ?_; refine QE.blk ?_; refine QE.seq (C.seq (C.seq ?_))
       obtain rfl : i = (wordsF (codB l 12)).length := by omega
       have hall := fun k hk => named_all hnm (k := k) hk
       refine C.region ?_; refine Lpu rfl rfl ?_; refine L.nil (QE.seq (C.block ?_)); refine C.loop (fun k : Nat => [(3, .bool true), (4, .slice B (codB l 12).length bc), (5, ptrOf A5 0), (7, .slice V25 (wordsF (codB l 12)).length v25), (9, .slice A61 (liftR (codB l 12)).ls.length (liftR (codB l 12)).ls.length), (14, .int .i64 (k : Int))]) (fun k : Nat => [Rd B (U8 (codB l 12)), Rd A5 [.slice W20 (liftR (codB l 12)).ws.length (liftR (codB l 12)).ws.length, .slice M20 (liftR (codB l 12)).ms.length (liftR (codB l 12)).ms.length, .slice L20 (liftR (codB l 12)).ls.length l20], Rd W20 (N32 (liftR (codB l 12)).ws), Rd M20 (Bs (liftR (codB l 12)).ms), Rd L20 (I64 (liftR (codB l 12)).ls), Rd V25 (N32 (wordsF (codB l 12)))]) (fun k : Nat => [Own 4 1 A61 (liftR (codB l 12)).ls.length (liftR (codB l 12)).ls.length (Bs nm)]) (fun k : Nat => k ≤ (liftR (codB l 12)).ls.length) (fun k : Nat => (liftR (codB l 12)).ls.length - k) 0 (Nat.zero_le _) (by exact Le.mk' (rs := [0, 1, 2, 3, 4, 5]) (hs := [0]) ⟨rfl, rfl, rfl, rfl, rfl, rfl, trivial⟩ ⟨rfl, rfl, rfl, rfl, rfl, rfl, trivial⟩ ⟨rfl, trivial⟩ (by decide)) ?_
       intro k hk
       refine C.seq (C.seq (C.region ?_)); refine Lpu rfl rfl ?_; refine L.step (Ev.fieldAddr rfl rfl rfl rfl rfl rfl (Src.r 1 rfl) (Nat.zero_lt_succ _) rfl) rfl ?_; refine L.step (Ev.load rfl rfl rfl (Src.r 1 rfl) rfl) rfl ?_; refine Lpu rfl rfl ?_; refine Lpu rfl rfl ?_; refine L.nil (QE.seq ?_)
       refine C.condB 163 rfl (fun hc163 => ?_) (fun hc163 => ?_)
       ·
        replace hc163 := of_decide_eq_true hc163
        refine C.skip (QE.seq (C.seq (C.block (C.seq ?_)))); refine C.regionQ (by kernel_rfl) ?_; refine LQ.step (Ev.pure rfl) rfl ?_; refine LQ.step (Ev.pure rfl) rfl ?_; refine LQ.step (Ev.idx1 (k := k) rfl rfl rfl rfl rfl rfl rfl (by omega) (Src.o 0 rfl) (by rw [Bs_len]; omega)) rfl ?_; refine LQ.step (Ev.cast (u := .bool true) (Ev.load rfl rfl rfl (Src.o 0 rfl) (Bs_get (by omega))) (by rw [hall k (by omega)])) rfl ?_; refine LQ.step (Ev.pure rfl) rfl ?_; refine LQ.step (Ev.pure rfl) rfl ?_
        refine LQ.bool 171 rfl (fun hg171 => ?_) (fun hg171 => ?_)
        ·
         exact absurd hg171 (by decide)
        ·
         refine LQ.yes rfl ?_; refine LQ.step (Ev.pure rfl) rfl ?_; refine LQ.yes rfl ?_; refine LQ.step (Ev.pure rfl) rfl ?_; refine LQ.yes rfl ?_; refine LQ.step (Ev.pure rfl) rfl ?_
         refine LQ.bool 174 rfl (fun hg174 => ?_) (fun hg174 => ?_)
         ·
          replace hg174 := of_decide_eq_true hg174
          refine LQ.yes rfl ?_; refine LQ.step (Ev.fieldAddr rfl rfl rfl rfl rfl rfl (Src.r 1 rfl) (Nat.zero_lt_succ _) rfl) rfl ?_; refine LQ.yes rfl ?_; refine LQ.step (Ev.load rfl rfl rfl (Src.r 1 rfl) rfl) rfl ?_; refine LQ.yes rfl ?_; refine LQ.step (Ev.pure rfl) rfl ?_; refine LQ.yes rfl ?_; refine LQ.step (Ev.idx1 (k := k) rfl rfl rfl rfl rfl rfl rfl (by omega) (Src.r 4 rfl) (by rw [I64_len]; omega)) rfl ?_; refine LQ.yes rfl ?_; refine LQ.step (Ev.load rfl rfl rfl (Src.r 4 rfl) (I64_get (by omega))) rfl ?_; refine LQ.yes rfl ?_; refine LQ.step (Ev.fieldAddr rfl rfl rfl rfl rfl rfl (Src.r 1 rfl) (Nat.zero_lt_succ _) rfl) rfl ?_; refine LQ.yes rfl ?_; refine LQ.step (Ev.load rfl rfl rfl (Src.r 1 rfl) rfl) rfl ?_; refine LQ.yes rfl ?_; refine LQ.step (Ev.pure rfl) rfl ?_; refine LQ.yes rfl ?_; refine LQ.step (Ev.cast (u := .int .i64 ((k - 1 : Nat) : Int)) (Ev.sub rfl rfl (by omega) (by omega)) (congrArg (Value.int .i64) (by omega))) rfl ?_; refine LQ.yes rfl ?_; refine LQ.step (Ev.idx1 (k := k - 1) rfl rfl rfl rfl rfl rfl rfl (by omega) (Src.r 4 rfl) (by rw [I64_len]; omega)) rfl ?_; refine LQ.yes rfl ?_; refine LQ.step (Ev.load rfl rfl rfl (Src.r 4 rfl) (I64_get (by omega))) rfl ?_; refine LQ.yes rfl ?_; refine LQ.step (Ev.pure rfl) rfl ?_; refine LQ.yes rfl ?_; refine LQ.step (Ev.pure rfl) rfl ?_; refine LQ.step (Ev.pure rfl) rfl ?_; refine LQ.nil ?_; refine QE.seq ?_
          refine C.condB 188 rfl (fun hc188 => ?_) (fun hc188 => ?_)
          ·
           replace hc188 := of_decide_eq_true hc188
           (have hst := sorted_at hls (i := k - 1) (j := k) (by omega) (by omega); rw [← hlab] at hst; omega)
          ·
           replace hc188 := of_decide_eq_false hc188
           refine C.skip ?_; refine QE.blkN ?_; refine QE.seq (C.region ?_); refine Lpu rfl rfl ?_; refine L.step (Ev.add rfl rfl (by omega) (by omega)) rfl ?_; refine Lpu rfl rfl ?_; refine L.nil ?_
           refine QE.round (k + 1) (by omega) (by omega) (by exact Le.mk' (rs := [0, 1, 2, 3, 4, 5]) (hs := [0]) ⟨rfl, rfl, rfl, rfl, rfl, rfl, trivial⟩ ⟨rfl, rfl, rfl, rfl, rfl, rfl, trivial⟩ ⟨rfl, trivial⟩ (by decide))
         ·
          replace hg174 := of_decide_eq_false hg174
          refine LQ.no rfl rfl rfl ?_; refine LQ.no rfl rfl rfl ?_; refine LQ.no rfl rfl rfl ?_; refine LQ.no rfl rfl rfl ?_; refine LQ.no rfl rfl rfl ?_; refine LQ.no rfl rfl rfl ?_; refine LQ.no rfl rfl rfl ?_; refine LQ.no rfl rfl rfl ?_; refine LQ.no rfl rfl rfl ?_; refine LQ.no rfl rfl rfl ?_; refine LQ.no rfl rfl rfl ?_; refine LQ.no rfl rfl rfl ?_; refine LQ.yes rfl ?_; refine LQ.step (Ev.pure rfl) rfl ?_; refine LQ.step (Ev.pure rfl) rfl ?_; refine LQ.nil ?_; refine QE.seq ?_
          refine C.cond rfl (fun h => by cases h) (fun _ => ?_)
          refine C.skip ?_; refine QE.blkN ?_; refine QE.seq (C.region ?_); refine Lpu rfl rfl ?_; refine L.step (Ev.add rfl rfl (by omega) (by omega)) rfl ?_; refine Lpu rfl rfl ?_; refine L.nil ?_
          refine QE.round (k + 1) (by omega) (by omega) (by exact Le.mk' (rs := [0, 1, 2, 3, 4, 5]) (hs := [0]) ⟨rfl, rfl, rfl, rfl, rfl, rfl, trivial⟩ ⟨rfl, rfl, rfl, rfl, rfl, rfl, trivial⟩ ⟨rfl, trivial⟩ (by decide))
       ·
        replace hc163 := of_decide_eq_false hc163
        refine C.exit ?_; refine QE.tX ?_; refine QE.tX ?_; refine QE.blk ?_; refine QE.seq (C.seq (C.region ?_)); refine Lpu rfl rfl ?_; refine Lpu rfl rfl ?_; refine L.nil (QE.seq (C.ret ?_)); refine QE.ret (js := []) (hs := []) (vs := [_]) rfl ⟨rfl, trivial⟩ (by decide) ?_
        exact ⟨rfl, rfl, rfl⟩

end Go.Proofs.Ytkjhcjhfegakoaa
