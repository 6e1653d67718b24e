/-
  OrderFree.
-/
import Derived.Test.YtklbkaefjjonmaaUWOrN
import Derived.Test.YtklbkaefjjonmaaUOk
namespace Go.Proofs.Ytklbkaefjjonmaa
open Go.Sl

set_option maxHeartbeats 1000000 in
theorem oFree_c (LA : Option Addr) (l : List UInt8) (lc : Nat) (hl : l.length ≤ 9223372036854775807) (up : Bool) :
    Ctr X 7 [.slice LA l.length lc, .bool up] [Rd LA (U8 l)] [] (fun v R' H' => v = .bool true ∧ R' = [] ∧ H' = []) := by
  refine Ctr.of (X := X) (fn := Try.f7) Try.func7 rfl (by kernel_rfl) rfl ?_
  intro β
  refine C.seq ?_
  refine C.region ?_
  refine L.step (Ev.pure rfl) rfl ?_
  refine L.nil ?_
  refine QE.seq ?_
  refine C.seq ?_
  refine C.region ?_
  refine L.call (js := []) (js' := []) (sanity18_c) rfl rfl rfl (by decide) trivial rfl ?_
  rintro _ _ _ ⟨rfl, rfl, rfl⟩
  refine L.step (Ev.pure rfl) rfl ?_
  refine L.nil ?_
  refine QE.seq ?_
  refine C.seq ?_
  refine C.region ?_
  refine L.lit rfl rfl rfl rfl rfl (by rfl) (by rfl) (by rfl) rfl rfl (fun A16 => ?_)
  refine L.lit rfl rfl rfl rfl rfl (by rfl) (by rfl) (by rfl) rfl rfl (fun A17 => ?_)
  refine L.step (Ev.pure rfl) rfl ?_
  refine L.step (Ev.pure rfl) rfl ?_
  refine L.nil ?_
  refine QE.seq ?_
  refine C.seq ?_
  refine C.region ?_
  refine L.step (Ev.pure rfl) rfl ?_
  refine L.callR (js := []) (js' := [0, 1]) (made18_c LA l lc hl) rfl rfl rfl (by decide) ⟨(Has.r 0 rfl), trivial⟩ rfl ?_
  rintro _ _ _ ⟨A19, c19, hs19, rfl, rfl, rfl, hh19⟩
  refine L.norm (H' := [_, _]) [0, 1] ⟨rfl, rfl, trivial⟩ (by decide) ?_
  refine L.step (Ev.pure rfl) rfl ?_
  refine L.nil ?_
  refine QE.seq ?_
  refine C.seq ?_
  refine C.seq ?_
  refine C.region ?_
  refine L.step (Ev.pure rfl) rfl ?_
  refine L.nil ?_
  refine QE.seq ?_
  refine C.block ?_
  refine C.more (r := KidsR [] []) Has.kids0 ?_
  refine C.more (r := KidsR [] []) Has.kids0 ?_
  refine C.loop (fun q : Nat × Option Addr × Nat × List Hd × Option Addr × Nat × List Hd => [(1, .bool up), (5, .bool true), (8, .slice A19 (madeL l).length c19), (6, .slice q.2.1 (frL (madeL l) up q.1).length q.2.2.1), (7, .slice q.2.2.2.2.1 (alL (madeL l).length q.1).length q.2.2.2.2.2.1), (9, .int .i64 (q.1 : Int))]) (fun q : Nat × Option Addr × Nat × List Hd × Option Addr × Nat × List Hd => [Rd A19 (rowsV hs19 (J8 (madeL l))), KidsR hs19 (J8 (madeL l)), KidsR q.2.2.2.1 (J8 (frL (madeL l) up q.1)), KidsR q.2.2.2.2.2.2 (J8 (alL (madeL l).length q.1))]) (fun q : Nat × Option Addr × Nat × List Hd × Option Addr × Nat × List Hd => [Own 27 1 q.2.1 (frL (madeL l) up q.1).length q.2.2.1 (rowsV q.2.2.2.1 (J8 (frL (madeL l) up q.1))), Own 27 1 q.2.2.2.2.1 (alL (madeL l).length q.1).length q.2.2.2.2.2.1 (rowsV q.2.2.2.2.2.2 (J8 (alL (madeL l).length q.1)))]) (fun q : Nat × Option Addr × Nat × List Hd × Option Addr × Nat × List Hd => q.1 ≤ (madeL l).length ∧ q.2.2.2.1.length = q.1 ∧ q.2.2.2.2.2.2.length = q.1) (fun q : Nat × Option Addr × Nat × List Hd × Option Addr × Nat × List Hd => (madeL l).length - q.1) (0, A16, 0, [], A17, 0, []) ⟨Nat.zero_le _, rfl, rfl⟩ (by exact Le.mk' (rs := [2, 3, 1, 0]) (hs := [0, 1]) ⟨rfl, rfl, rfl, rfl, rfl, rfl, trivial⟩ ⟨rfl, rfl, rfl, rfl, trivial⟩ ⟨rfl, rfl, trivial⟩ (by decide)) ?_
  rintro ⟨u, A, c, hs, B, d, gs⟩ ⟨hu, hhs, hgs⟩
  dsimp only at hu hhs hgs ⊢
  refine C.seq ?_
  refine C.seq ?_
  have hm6 := made6 l
  have hm1 : 1 ≤ (madeL l).length := by rw [madeL_len]; exact mdN_pos l
  have hfl := frL_len (madeL l) up u
  have hal := alL_len (madeL l).length u
  refine C.region ?_
  refine L.step (Ev.pure rfl) rfl ?_
  refine L.step (Ev.pure rfl) rfl ?_
  refine L.step (Ev.pure rfl) rfl ?_
  refine L.step (Ev.pure rfl) rfl ?_
  refine L.nil ?_
  refine QE.seq ?_
  refine C.condB 23 rfl (fun hc23 => ?_) (fun hc23 => ?_)
  · skip
    replace hc23 := of_decide_eq_true hc23
    refine C.skip ?_
    refine QE.seq ?_
    refine C.seq ?_
    refine C.block ?_
    refine C.seq ?_
    refine C.region ?_
    refine L.lit rfl rfl rfl rfl rfl (by rfl) (by rfl) (by rfl) rfl rfl (fun A26 => ?_)
    refine L.lit rfl rfl rfl rfl rfl (by rfl) (by rfl) (by rfl) rfl rfl (fun A27 => ?_)
    refine L.step (Ev.pure rfl) rfl ?_
    refine L.step (Ev.pure rfl) rfl ?_
    refine L.nil ?_
    refine QE.seq ?_
    refine C.seq ?_
    refine C.seq ?_
    refine C.region ?_
    refine L.step (Ev.pure rfl) rfl ?_
    refine L.nil ?_
    refine QE.seq ?_
    refine C.block ?_
    refine C.loop (fun q : Nat × Option Addr × Nat × Option Addr × Nat => [(1, .bool up), (5, .bool true), (8, .slice A19 (madeL l).length c19), (6, .slice A (frL (madeL l) up u).length c), (7, .slice B (alL (madeL l).length u).length d), (9, .int .i64 (u : Int)), (10, .slice q.2.1 (frR (madeL l) up u q.1).length q.2.2.1), (11, .slice q.2.2.2.1 (alR u q.1).length q.2.2.2.2), (12, .int .i64 (q.1 : Int))]) (fun q : Nat × Option Addr × Nat × Option Addr × Nat => [Rd A19 (rowsV hs19 (J8 (madeL l))), KidsR hs19 (J8 (madeL l)), KidsR hs (J8 (frL (madeL l) up u)), KidsR gs (J8 (alL (madeL l).length u))]) (fun q : Nat × Option Addr × Nat × Option Addr × Nat => [Own 3 1 q.2.1 (frR (madeL l) up u q.1).length q.2.2.1 (I64 (NI (frR (madeL l) up u q.1))), Own 3 1 q.2.2.2.1 (alR u q.1).length q.2.2.2.2 (I64 (NI (alR u q.1))), Own 27 1 A (frL (madeL l) up u).length c (rowsV hs (J8 (frL (madeL l) up u))), Own 27 1 B (alL (madeL l).length u).length d (rowsV gs (J8 (alL (madeL l).length u)))]) (fun q : Nat × Option Addr × Nat × Option Addr × Nat => q.1 ≤ (madeL l).length) (fun q : Nat × Option Addr × Nat × Option Addr × Nat => (madeL l).length - q.1) (0, A26, 0, A27, 0) (Nat.zero_le _) (by exact Le.mk' (rs := [0, 1, 2, 3]) (hs := [2, 3, 0, 1]) ⟨rfl, rfl, rfl, rfl, rfl, rfl, rfl, rfl, rfl, trivial⟩ ⟨rfl, rfl, rfl, rfl, trivial⟩ ⟨rfl, rfl, rfl, rfl, trivial⟩ (by decide)) ?_
    rintro ⟨t, E, e, F, f⟩ ht
    dsimp only at ht ⊢
    refine C.seq ?_
    refine C.seq ?_
    have hfr := frR_len (madeL l) up u t
    have har := alR_len u t
    refine C.region ?_
    refine L.step (Ev.pure rfl) rfl ?_
    refine L.step (Ev.pure rfl) rfl ?_
    refine L.step (Ev.pure rfl) rfl ?_
    refine L.step (Ev.pure rfl) rfl ?_
    refine L.nil ?_
    refine QE.seq ?_
    refine C.condB 31 rfl (fun hc31 => ?_) (fun hc31 => ?_)
    · skip
      replace hc31 := of_decide_eq_true hc31
      refine C.skip ?_
      refine QE.seq ?_
      refine C.seq ?_
      refine C.block ?_
      refine C.seq ?_
      refine C.seq ?_
      refine C.region ?_
      refine L.step (Ev.pure rfl) rfl ?_
      refine L.step (Ev.pure rfl) rfl ?_
      refine L.step (Ev.idx1 (k := u) rfl rfl rfl rfl rfl rfl rfl (by omega) (Src.r 0 rfl) (by rw [rowsV_len (by rw [J8_len]; exact hh19), J8_len]; omega)) rfl ?_
      refine L.step (Ev.load rfl rfl rfl (Src.r 0 rfl) (rowsJ_get hh19 (by omega))) rfl ?_
      refine L.step (Ev.pure rfl) rfl ?_
      refine L.call (js := []) (js' := [0, 1, 2, 3]) (has_c (hs19.getD u (none, 0)).1 ((madeL l).getD u []) (hs19.getD u (none, 0)).2 (t : Int) (Nat.le_trans (madeL_row l u) (by decide))) rfl rfl rfl (by decide) ⟨((Has.kid 1 rfl (by rw [J8_len]; exact hh19) (u) (by rw [J8_len]; omega)).cast (J8_get _)), trivial⟩ rfl ?_
      rintro _ _ _ ⟨rfl, rfl, rfl⟩
      refine L.norm (H' := [_, _, _, _]) [0, 1, 2, 3] ⟨rfl, rfl, rfl, rfl, trivial⟩ (by decide) ?_
      refine L.step (Ev.pure rfl) rfl ?_
      refine L.bool 40 rfl (fun hg40 => ?_) (fun hg40 => ?_)
      · skip
        refine L.yes rfl ?_
        refine L.step (Ev.pure rfl) rfl ?_
        refine L.yes rfl ?_
        refine L.step (Ev.pure rfl) rfl ?_
        refine L.yes rfl ?_
        refine L.step (Ev.pure rfl) rfl ?_
        refine L.yes rfl ?_
        refine L.step (Ev.pure rfl) rfl ?_
        refine L.yes rfl ?_
        refine L.step (Ev.eqBool rfl rfl rfl rfl) rfl ?_
        refine L.step (Ev.pure rfl) rfl ?_
        refine L.nil ?_
        refine QE.seq ?_
        refine C.condB 46 rfl (fun hc46 => ?_) (fun hc46 => ?_)
        · skip
          have he : (frR (madeL l) up u (t + 1)) = (frR (madeL l) up u t) ++ [t] := frR_yes (by unfold frB; rw [hg40, Bool.true_and, ← hc46]; congr 1; exact decide_eq_decide.2 (by omega))
          refine C.region ?_
          refine L.step (Ev.pure rfl) rfl ?_
          refine L.step (Ev.pure rfl) rfl ?_
          refine L.lit rfl rfl rfl rfl rfl (by rfl) (by rfl) (by rfl) rfl rfl (fun A49 => ?_)
          refine L.append (j := 0) rfl rfl rfl rfl (by decide) rfl rfl rfl rfl (Src.o 4 rfl) rfl (allOne rfl) (by omega) (by show _ * 8 ≤ _; omega) rfl (fun A50 cc50 => ?_)
          refine L.step (Ev.pure rfl) rfl ?_
          refine L.nil ?_
          refine QE.seq ?_
          refine C.seq ?_
          refine C.region ?_
          refine L.step (Ev.pure rfl) rfl ?_
          refine L.step (Ev.pure rfl) rfl ?_
          refine L.step (Ev.pure rfl) rfl ?_
          refine L.nil ?_
          refine QE.seq ?_
          refine C.condB 53 rfl (fun hc53 => ?_) (fun hc53 => ?_)
          · skip
            replace hc53 := b_ne hc53
            have hz : (alR u (t + 1)) = (alR u t) ++ [t] := alR_yes (by omega)
            refine C.region ?_
            refine L.step (Ev.pure rfl) rfl ?_
            refine L.step (Ev.pure rfl) rfl ?_
            refine L.lit rfl rfl rfl rfl rfl (by rfl) (by rfl) (by rfl) rfl rfl (fun A56 => ?_)
            refine L.append (j := 1) rfl rfl rfl rfl (by decide) rfl rfl rfl rfl (Src.o 5 rfl) rfl (allOne rfl) (by omega) (by show _ * 8 ≤ _; omega) rfl (fun A57 cc57 => ?_)
            refine L.step (Ev.pure rfl) rfl ?_
            refine L.nil ?_
            refine QE.blkN ?_
            refine QE.seq ?_
            refine C.region ?_
            refine L.step (Ev.pure rfl) rfl ?_
            refine L.step (Ev.add rfl rfl (by omega) (by omega)) rfl ?_
            refine L.step (Ev.pure rfl) rfl ?_
            refine L.nil ?_
            refine QE.round (i := (t, E, e, F, f)) ((t + 1, A50, cc50, A57, cc57)) (by dsimp only; omega) (by dsimp only; omega) (by exact Le.mk' (rs := [0, 1, 2, 3]) (hs := [0, 1, 2, 3]) ⟨rfl, rfl, rfl, rfl, rfl, rfl, (by dsimp only; rw [he, List.length_append]; rfl), (by dsimp only; rw [hz, List.length_append]; rfl), rfl, trivial⟩ ⟨rfl, rfl, rfl, rfl, trivial⟩ ⟨(congrArg some (own_eq (by dsimp only; rw [he, List.length_append]; rfl) (by dsimp only; rw [he, NI_app, ← I64_app]; rfl))), (congrArg some (own_eq (by dsimp only; rw [hz, List.length_append]; rfl) (by dsimp only; rw [hz, NI_app, ← I64_app]; rfl))), rfl, rfl, trivial⟩ (by decide))
          · skip
            replace hc53 := b_eq hc53
            have hz : (alR u (t + 1)) = (alR u t) := alR_no (by omega)
            refine C.skip ?_
            refine QE.blkN ?_
            refine QE.seq ?_
            refine C.region ?_
            refine L.step (Ev.pure rfl) rfl ?_
            refine L.step (Ev.add rfl rfl (by omega) (by omega)) rfl ?_
            refine L.step (Ev.pure rfl) rfl ?_
            refine L.nil ?_
            refine QE.round (i := (t, E, e, F, f)) ((t + 1, A50, cc50, F, f)) (by dsimp only; omega) (by dsimp only; omega) (by exact Le.mk' (rs := [0, 1, 2, 3]) (hs := [0, 1, 2, 3]) ⟨rfl, rfl, rfl, rfl, rfl, rfl, (by dsimp only; rw [he, List.length_append]; rfl), (by dsimp only; rw [hz]; rfl), rfl, trivial⟩ ⟨rfl, rfl, rfl, rfl, trivial⟩ ⟨(congrArg some (own_eq (by dsimp only; rw [he, List.length_append]; rfl) (by dsimp only; rw [he, NI_app, ← I64_app]; rfl))), (congrArg some (by dsimp only; rw [hz])), rfl, rfl, trivial⟩ (by decide))
        · skip
          have he : (frR (madeL l) up u (t + 1)) = (frR (madeL l) up u t) := frR_no (by unfold frB; rw [hg40, Bool.true_and, ← hc46]; congr 1; exact decide_eq_decide.2 (by omega))
          refine C.skip ?_
          refine QE.seq ?_
          refine C.seq ?_
          refine C.region ?_
          refine L.step (Ev.pure rfl) rfl ?_
          refine L.step (Ev.pure rfl) rfl ?_
          refine L.step (Ev.pure rfl) rfl ?_
          refine L.nil ?_
          refine QE.seq ?_
          refine C.condB 53 rfl (fun hc53 => ?_) (fun hc53 => ?_)
          · skip
            replace hc53 := b_ne hc53
            have hz : (alR u (t + 1)) = (alR u t) ++ [t] := alR_yes (by omega)
            refine C.region ?_
            refine L.step (Ev.pure rfl) rfl ?_
            refine L.step (Ev.pure rfl) rfl ?_
            refine L.lit rfl rfl rfl rfl rfl (by rfl) (by rfl) (by rfl) rfl rfl (fun A56 => ?_)
            refine L.append (j := 1) rfl rfl rfl rfl (by decide) rfl rfl rfl rfl (Src.o 4 rfl) rfl (allOne rfl) (by omega) (by show _ * 8 ≤ _; omega) rfl (fun A57 cc57 => ?_)
            refine L.step (Ev.pure rfl) rfl ?_
            refine L.nil ?_
            refine QE.blkN ?_
            refine QE.seq ?_
            refine C.region ?_
            refine L.step (Ev.pure rfl) rfl ?_
            refine L.step (Ev.add rfl rfl (by omega) (by omega)) rfl ?_
            refine L.step (Ev.pure rfl) rfl ?_
            refine L.nil ?_
            refine QE.round (i := (t, E, e, F, f)) ((t + 1, E, e, A57, cc57)) (by dsimp only; omega) (by dsimp only; omega) (by exact Le.mk' (rs := [0, 1, 2, 3]) (hs := [0, 1, 2, 3]) ⟨rfl, rfl, rfl, rfl, rfl, rfl, (by dsimp only; rw [he]; rfl), (by dsimp only; rw [hz, List.length_append]; rfl), rfl, trivial⟩ ⟨rfl, rfl, rfl, rfl, trivial⟩ ⟨(congrArg some (by dsimp only; rw [he])), (congrArg some (own_eq (by dsimp only; rw [hz, List.length_append]; rfl) (by dsimp only; rw [hz, NI_app, ← I64_app]; rfl))), rfl, rfl, trivial⟩ (by decide))
          · skip
            replace hc53 := b_eq hc53
            have hz : (alR u (t + 1)) = (alR u t) := alR_no (by omega)
            refine C.skip ?_
            refine QE.blkN ?_
            refine QE.seq ?_
            refine C.region ?_
            refine L.step (Ev.pure rfl) rfl ?_
            refine L.step (Ev.add rfl rfl (by omega) (by omega)) rfl ?_
            refine L.step (Ev.pure rfl) rfl ?_
            refine L.nil ?_
            refine QE.round (i := (t, E, e, F, f)) ((t + 1, E, e, F, f)) (by dsimp only; omega) (by dsimp only; omega) (by exact Le.mk' (rs := [0, 1, 2, 3]) (hs := [0, 1, 2, 3]) ⟨rfl, rfl, rfl, rfl, rfl, rfl, (by dsimp only; rw [he]; rfl), (by dsimp only; rw [hz]; rfl), rfl, trivial⟩ ⟨rfl, rfl, rfl, rfl, trivial⟩ ⟨(congrArg some (by dsimp only; rw [he])), (congrArg some (by dsimp only; rw [hz])), rfl, rfl, trivial⟩ (by decide))
      · skip
        have he : (frR (madeL l) up u (t + 1)) = (frR (madeL l) up u t) := frR_no (by unfold frB; rw [hg40]; rfl)
        refine L.no rfl rfl rfl ?_
        refine L.no rfl rfl rfl ?_
        refine L.no rfl rfl rfl ?_
        refine L.no rfl rfl rfl ?_
        refine L.no rfl rfl rfl ?_
        refine L.step (Ev.pure rfl) rfl ?_
        refine L.nil ?_
        refine QE.seq ?_
        refine C.cond rfl (fun h => by cases h) (fun _ => ?_)
        refine C.skip ?_
        refine QE.seq ?_
        refine C.seq ?_
        refine C.region ?_
        refine L.step (Ev.pure rfl) rfl ?_
        refine L.step (Ev.pure rfl) rfl ?_
        refine L.step (Ev.pure rfl) rfl ?_
        refine L.nil ?_
        refine QE.seq ?_
        refine C.condB 53 rfl (fun hc53 => ?_) (fun hc53 => ?_)
        · skip
          replace hc53 := b_ne hc53
          have hz : (alR u (t + 1)) = (alR u t) ++ [t] := alR_yes (by omega)
          refine C.region ?_
          refine L.step (Ev.pure rfl) rfl ?_
          refine L.step (Ev.pure rfl) rfl ?_
          refine L.lit rfl rfl rfl rfl rfl (by rfl) (by rfl) (by rfl) rfl rfl (fun A56 => ?_)
          refine L.append (j := 1) rfl rfl rfl rfl (by decide) rfl rfl rfl rfl (Src.o 4 rfl) rfl (allOne rfl) (by omega) (by show _ * 8 ≤ _; omega) rfl (fun A57 cc57 => ?_)
          refine L.step (Ev.pure rfl) rfl ?_
          refine L.nil ?_
          refine QE.blkN ?_
          refine QE.seq ?_
          refine C.region ?_
          refine L.step (Ev.pure rfl) rfl ?_
          refine L.step (Ev.add rfl rfl (by omega) (by omega)) rfl ?_
          refine L.step (Ev.pure rfl) rfl ?_
          refine L.nil ?_
          refine QE.round (i := (t, E, e, F, f)) ((t + 1, E, e, A57, cc57)) (by dsimp only; omega) (by dsimp only; omega) (by exact Le.mk' (rs := [0, 1, 2, 3]) (hs := [0, 1, 2, 3]) ⟨rfl, rfl, rfl, rfl, rfl, rfl, (by dsimp only; rw [he]; rfl), (by dsimp only; rw [hz, List.length_append]; rfl), rfl, trivial⟩ ⟨rfl, rfl, rfl, rfl, trivial⟩ ⟨(congrArg some (by dsimp only; rw [he])), (congrArg some (own_eq (by dsimp only; rw [hz, List.length_append]; rfl) (by dsimp only; rw [hz, NI_app, ← I64_app]; rfl))), rfl, rfl, trivial⟩ (by decide))
        · skip
          replace hc53 := b_eq hc53
          have hz : (alR u (t + 1)) = (alR u t) := alR_no (by omega)
          refine C.skip ?_
          refine QE.blkN ?_
          refine QE.seq ?_
          refine C.region ?_
          refine L.step (Ev.pure rfl) rfl ?_
          refine L.step (Ev.add rfl rfl (by omega) (by omega)) rfl ?_
          refine L.step (Ev.pure rfl) rfl ?_
          refine L.nil ?_
          refine QE.round (i := (t, E, e, F, f)) ((t + 1, E, e, F, f)) (by dsimp only; omega) (by dsimp only; omega) (by exact Le.mk' (rs := [0, 1, 2, 3]) (hs := [0, 1, 2, 3]) ⟨rfl, rfl, rfl, rfl, rfl, rfl, (by dsimp only; rw [he]; rfl), (by dsimp only; rw [hz]; rfl), rfl, trivial⟩ ⟨rfl, rfl, rfl, rfl, trivial⟩ ⟨(congrArg some (by dsimp only; rw [he])), (congrArg some (by dsimp only; rw [hz])), rfl, rfl, trivial⟩ (by decide))
    · skip
      replace hc31 := of_decide_eq_false hc31
      refine C.exit ?_
      refine QE.tX ?_
      refine QE.tX ?_
      refine QE.blk ?_
      refine QE.seq ?_
      obtain rfl : t = (madeL l).length := by omega
      refine C.freeze 0 rfl [1, 2, 3] (by decide) (by decide) ?_
      refine C.norm (H' := [_, _, _]) [0, 1, 2] ⟨rfl, rfl, rfl, trivial⟩ (by decide) ?_
      refine C.freeze 0 rfl [1, 2] (by decide) (by decide) ?_
      refine C.norm (H' := [_, _]) [0, 1] ⟨rfl, rfl, trivial⟩ (by decide) ?_
      refine C.region ?_
      refine L.step (Ev.pure rfl) rfl ?_
      refine L.step (Ev.pure rfl) rfl ?_
      refine L.lit rfl rfl rfl rfl rfl (by rfl) (by rfl) (by rfl) rfl rfl (fun A60 => ?_)
      refine L.append (j := 0) rfl rfl rfl rfl (by decide) rfl rfl rfl rfl (Src.o 2 rfl) rfl (by intro v hv; simp at hv; subst hv; rfl) (by omega) (by show _ * 24 ≤ _; omega) rfl (fun A61 cc61 => ?_)
      refine L.step (Ev.pure rfl) rfl ?_
      refine L.step (Ev.pure rfl) rfl ?_
      refine L.lit rfl rfl rfl rfl rfl (by rfl) (by rfl) (by rfl) rfl rfl (fun A64 => ?_)
      refine L.append (j := 1) rfl rfl rfl rfl (by decide) rfl rfl rfl rfl (Src.o 3 rfl) rfl (by intro v hv; simp at hv; subst hv; rfl) (by omega) (by show _ * 24 ≤ _; omega) rfl (fun A65 cc65 => ?_)
      refine L.step (Ev.pure rfl) rfl ?_
      refine L.step (Ev.pure rfl) rfl ?_
      refine L.nil ?_
      refine QE.blkN ?_
      refine QE.seq ?_
      refine C.region ?_
      refine L.step (Ev.pure rfl) rfl ?_
      refine L.step (Ev.add rfl rfl (by omega) (by omega)) rfl ?_
      refine L.step (Ev.pure rfl) rfl ?_
      refine L.nil ?_
      refine QE.more (r := KidsR (hs ++ [(E, e)]) (J8 (frL (madeL l) up u) ++ [I64 (NI (frR (madeL l) up u (madeL l).length))])) (Has.kidsSnoc 4 1 e rfl rfl (by rw [J8_len, frL_len]; exact hhs)) ?_
      refine QE.more (r := KidsR (gs ++ [(F, f)]) (J8 (alL (madeL l).length u) ++ [I64 (NI (alR u (madeL l).length))])) (Has.kidsSnoc 6 1 f rfl rfl (by rw [J8_len, alL_len]; exact hgs)) ?_
      refine QE.round (i := (u, A, c, hs, B, d, gs)) ((u + 1, A61, cc61, hs ++ [(E, e)], A65, cc65, gs ++ [(F, f)])) (by exact ⟨by dsimp only; omega, by dsimp only; rw [List.length_append, hhs]; rfl, by dsimp only; rw [List.length_append, hgs]; rfl⟩) (by dsimp only; omega) (by exact Le.mk' (rs := [4, 5, 1, 0]) (hs := [0, 1]) ⟨rfl, rfl, rfl, (by dsimp only; rw [frL_snoc, List.length_append]; rfl), (by dsimp only; rw [alL_snoc, List.length_append]; rfl), rfl, trivial⟩ ⟨rfl, rfl, (congrArg some (by dsimp only; rw [frL_snoc, ← J8_snoc])), (congrArg some (by dsimp only; rw [alL_snoc, ← J8_snoc])), trivial⟩ ⟨(congrArg some (own_eq (by dsimp only; rw [frL_snoc, List.length_append]; rfl) (by dsimp only; rw [frL_snoc, ← rowsJ_app (by rw [frL_len]; exact hhs), NI_len]))), (congrArg some (own_eq (by dsimp only; rw [alL_snoc, List.length_append]; rfl) (by dsimp only; rw [alL_snoc, ← rowsJ_app (by rw [alL_len]; exact hgs), NI_len]))), trivial⟩ (by decide))
  · skip
    replace hc23 := of_decide_eq_false hc23
    refine C.exit ?_
    refine QE.tX ?_
    refine QE.tX ?_
    refine QE.blk ?_
    refine QE.seq ?_
    refine C.seq ?_
    obtain rfl : u = (madeL l).length := by omega
    obtain ⟨hf1, hf2⟩ := free_none (up := up) (madeL_ok l) hm6
    obtain ⟨ha1, ha2⟩ := free_all hm1 hm6
    refine C.freeze 0 rfl [1] (by decide) (by decide) ?_
    refine C.norm (H' := [_]) [0] ⟨rfl, trivial⟩ (by decide) ?_
    refine C.freeze 0 rfl [] (by decide) (by decide) ?_
    refine C.region ?_
    refine L.step (Ev.pure rfl) rfl ?_
    refine L.callR (js := []) (js' := []) (ordered_c A (frL (madeL l) up (madeL l).length) c hs (by rw [frL_len]; exact hhs) (by rw [frL_len]; omega) (fun i => Nat.le_trans (frL_row (madeL l) up (madeL l).length i) (by omega))) rfl rfl rfl (by decide) ⟨(Has.r 1 rfl), (Has.r 4 rfl), trivial⟩ rfl ?_
    rintro _ _ _ ⟨A67, B67, c67, e67, rfl, rfl, rfl⟩
    refine L.step (Ev.pure rfl) rfl ?_
    refine L.callR (js := []) (js' := []) (ordered_c B (alL (madeL l).length (madeL l).length) d gs (by rw [alL_len]; exact hgs) (by rw [alL_len]; omega) (fun i => Nat.le_trans (alL_row (madeL l).length (madeL l).length i) (by omega))) rfl rfl rfl (by decide) ⟨(Has.r 2 rfl), (Has.r 7 rfl), trivial⟩ rfl ?_
    rintro _ _ _ ⟨A69, B69, c69, e69, rfl, rfl, rfl⟩
    refine L.alloc rfl rfl rfl (fun A13 => ?_)
    refine L.alloc rfl rfl rfl (fun A14 => ?_)
    refine L.storeA (j := 0) rfl rfl rfl rfl rfl (Nat.zero_lt_succ _) rfl rfl ?_
    refine L.storeA (j := 1) rfl rfl rfl rfl rfl (Nat.zero_lt_succ _) rfl rfl ?_
    refine L.nil ?_
    refine QE.seq ?_
    refine C.seq ?_
    refine C.freeze 0 rfl [1] (by decide) (by decide) ?_
    refine C.norm (H' := [_]) [0] ⟨rfl, trivial⟩ (by decide) ?_
    refine C.freeze 0 rfl [] (by decide) (by decide) ?_
    refine C.region ?_
    refine L.step (Ev.fieldAddr rfl rfl rfl rfl rfl rfl (Src.r 1 rfl) (Nat.zero_lt_succ _) rfl) rfl ?_
    refine L.step (Ev.load rfl rfl rfl (Src.r 1 rfl) rfl) rfl ?_
    refine L.step (Ev.pure rfl) rfl ?_
    refine L.step (Ev.pure rfl) rfl ?_
    refine L.bool 73 rfl (fun hg73 => ?_) (fun hg73 => ?_)
    · skip
      replace hg73 := i_eq hg73
      refine L.yes rfl ?_
      refine L.step (Ev.fieldAddr rfl rfl rfl rfl rfl rfl (Src.r 1 rfl) (Nat.zero_lt_succ _) rfl) rfl ?_
      refine L.yes rfl ?_
      refine L.step (Ev.load rfl rfl rfl (Src.r 1 rfl) rfl) rfl ?_
      refine L.yes rfl ?_
      refine L.step (Ev.pure rfl) rfl ?_
      refine L.yes rfl ?_
      refine L.step (Ev.pure rfl) rfl ?_
      refine L.step (Ev.pure rfl) rfl ?_
      refine L.step (Ev.pure rfl) rfl ?_
      refine L.bool 79 rfl (fun hg79 => ?_) (fun hg79 => ?_)
      · skip
        replace hg79 := i_eq hg79
        refine L.yes rfl ?_
        refine L.step (Ev.fieldAddr rfl rfl rfl rfl rfl rfl (Src.r 0 rfl) (Nat.zero_lt_succ _) rfl) rfl ?_
        refine L.yes rfl ?_
        refine L.step (Ev.load rfl rfl rfl (Src.r 0 rfl) rfl) rfl ?_
        refine L.yes rfl ?_
        refine L.step (Ev.pure rfl) rfl ?_
        refine L.step (Ev.pure rfl) rfl ?_
        refine L.step (Ev.pure rfl) rfl ?_
        refine L.bool 84 rfl (fun hg84 => ?_) (fun hg84 => ?_)
        · skip
          replace hg84 := i_eq hg84
          refine L.yes rfl ?_
          refine L.step (Ev.fieldAddr rfl rfl rfl rfl rfl rfl (Src.r 0 rfl) (Nat.zero_lt_succ _) rfl) rfl ?_
          refine L.yes rfl ?_
          refine L.step (Ev.load rfl rfl rfl (Src.r 0 rfl) rfl) rfl ?_
          refine L.yes rfl ?_
          refine L.step (Ev.pure rfl) rfl ?_
          refine L.yes rfl ?_
          refine L.step (Ev.pure rfl) rfl ?_
          refine L.yes rfl ?_
          refine L.step (Ev.pure rfl) rfl ?_
          refine L.yes rfl ?_
          refine L.step (Ev.sub rfl rfl (by omega) (by omega)) rfl ?_
          refine L.yes rfl ?_
          refine L.step (Ev.pure rfl) rfl ?_
          refine L.step (Ev.pure rfl) rfl ?_
          refine L.step (Ev.pure rfl) rfl ?_
          refine L.bool 93 rfl (fun hg93 => ?_) (fun hg93 => ?_)
          · skip
            replace hg93 := i_eq hg93
            refine L.yes rfl ?_
            refine L.step (Ev.pure rfl) rfl ?_
            refine L.step (Ev.pure rfl) rfl ?_
            refine L.step (Ev.pure rfl) rfl ?_
            refine L.nil ?_
            refine QE.seq ?_
            refine C.ret ?_
            refine QE.ret (js := []) (hs := []) (vs := [_]) rfl ⟨rfl, trivial⟩ (by decide) ?_
            exact ⟨rfl, rfl, rfl⟩
          · skip
            replace hg93 := i_ne hg93
            omega
        · skip
          replace hg84 := i_ne hg84
          exact absurd ha1 hg84
      · skip
        replace hg79 := i_ne hg79
        omega
    · skip
      replace hg73 := i_ne hg73
      exact absurd hf1 hg73

end Go.Proofs.Ytklbkaefjjonmaa
