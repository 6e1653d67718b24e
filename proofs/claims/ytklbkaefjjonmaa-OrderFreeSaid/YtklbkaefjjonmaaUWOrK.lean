/-
  Made.
-/
import Derived.Test.YtklbkaefjjonmaaUWOrJ
import Derived.Test.YtklbkaefjjonmaaUOi
namespace Go.Proofs.Ytklbkaefjjonmaa
open Go.Sl

set_option maxHeartbeats 1000000 in
theorem made18_c (LA : Option Addr) (l : List UInt8) (lc : Nat) (hl : l.length ≤ 9223372036854775807) :
    Ctr X 11 [.slice LA l.length lc] [Rd LA (U8 l)] [] (fun v R' H' => ∃ (A : Option Addr) (c : Nat) (hs : List Hd), v = .slice A (madeL l).length c ∧ R' = [Rd A (rowsV hs (J8 (madeL l))), KidsR hs (J8 (madeL l))] ∧ H' = [] ∧ hs.length = (madeL l).length) := by
  refine Ctr.of (X := X) (fn := Try.f11) Try.func11 rfl (by kernel_rfl) rfl ?_
  intro β
  refine C.seq ?_
  refine C.region ?_
  refine L.step (Ev.pure rfl) rfl ?_
  refine L.nil ?_
  refine QE.seq ?_
  refine C.seq ?_
  refine C.region ?_
  refine L.lit rfl rfl rfl rfl rfl (by rfl) (by rfl) (by rfl) rfl rfl (fun A8 => ?_)
  refine L.step (Ev.pure rfl) rfl ?_
  refine L.step (Ev.pure rfl) rfl ?_
  refine L.step (Ev.cast (u := .int .i64 (((min l.length 6) : Nat) : Int)) (Ev.pure rfl) (congrArg (Value.int .i64) (by simp only [Bool.false_eq_true, if_false]; split <;> omega))) rfl ?_
  refine L.step (Ev.cast (u := .int .i64 (((mdN l) : Nat) : Int)) (Ev.pure rfl) (congrArg (Value.int .i64) (by simp only [if_true]; unfold mdN; split <;> omega))) rfl ?_
  refine L.step (Ev.pure rfl) rfl ?_
  refine L.step (Ev.pure rfl) rfl ?_
  refine L.nil ?_
  refine QE.seq ?_
  refine C.seq ?_
  refine C.seq ?_
  refine C.region ?_
  refine L.step (Ev.pure rfl) rfl ?_
  refine L.nil ?_
  refine QE.seq ?_
  refine C.block ?_
  refine C.more (r := KidsR [] []) Has.kids0 ?_
  refine C.loop (fun q : Nat × Option Addr × Nat × List Hd => [(0, .slice LA l.length lc), (4, .int .i64 ((mdN l) : Int)), (3, .slice q.2.1 (mdL l q.1).length q.2.2.1), (5, .int .i64 (q.1 : Int))]) (fun q : Nat × Option Addr × Nat × List Hd => [Rd LA (U8 l), KidsR q.2.2.2 (J8 (mdL l q.1))]) (fun q : Nat × Option Addr × Nat × List Hd => [Own 27 1 q.2.1 (mdL l q.1).length q.2.2.1 (rowsV q.2.2.2 (J8 (mdL l q.1)))]) (fun q : Nat × Option Addr × Nat × List Hd => q.1 ≤ (mdN l) ∧ q.2.2.2.length = q.1) (fun q : Nat × Option Addr × Nat × List Hd => (mdN l) - q.1) (0, A8, 0, []) ⟨Nat.zero_le _, rfl⟩ (by exact Le.mk' (rs := [1, 0]) (hs := [0]) ⟨rfl, rfl, rfl, rfl, trivial⟩ ⟨rfl, rfl, trivial⟩ ⟨rfl, trivial⟩ (by decide)) ?_
  rintro ⟨u, A, c, hs⟩ ⟨hu, hhs⟩
  dsimp only at hu hhs ⊢
  refine C.seq ?_
  refine C.seq ?_
  have hn6 := mdN_le l
  have hml := mdL_len l u
  refine C.region ?_
  refine L.step (Ev.pure rfl) rfl ?_
  refine L.step (Ev.pure rfl) rfl ?_
  refine L.step (Ev.pure rfl) rfl ?_
  refine L.nil ?_
  refine QE.seq ?_
  refine C.condB 15 rfl (fun hc15 => ?_) (fun hc15 => ?_)
  · skip
    replace hc15 := of_decide_eq_true hc15
    refine C.skip ?_
    refine QE.seq ?_
    refine C.seq ?_
    refine C.block ?_
    refine C.seq ?_
    refine C.region ?_
    refine L.lit rfl rfl rfl rfl rfl (by rfl) (by rfl) (by rfl) rfl rfl (fun A18 => ?_)
    refine L.step (Ev.pure rfl) rfl ?_
    refine L.nil ?_
    refine QE.seq ?_
    refine C.seq ?_
    refine C.seq ?_
    refine C.region ?_
    refine L.step (Ev.pure rfl) rfl ?_
    refine L.nil ?_
    refine QE.seq ?_
    refine C.block ?_
    refine C.loop (fun q : Nat × Option Addr × Nat => [(0, .slice LA l.length lc), (4, .int .i64 ((mdN l) : Int)), (3, .slice A (mdL l u).length c), (5, .int .i64 (u : Int)), (6, .slice q.2.1 (mdR l u q.1).length q.2.2), (7, .int .i64 (q.1 : Int))]) (fun q : Nat × Option Addr × Nat => [Rd LA (U8 l), KidsR hs (J8 (mdL l u))]) (fun q : Nat × Option Addr × Nat => [Own 3 1 q.2.1 (mdR l u q.1).length q.2.2 (I64 (NI (mdR l u q.1))), Own 27 1 A (mdL l u).length c (rowsV hs (J8 (mdL l u)))]) (fun q : Nat × Option Addr × Nat => q.1 ≤ (mdN l)) (fun q : Nat × Option Addr × Nat => (mdN l) - q.1) (0, A18, 0) (Nat.zero_le _) (by exact Le.mk' (rs := [0, 1]) (hs := [1, 0]) ⟨rfl, rfl, rfl, rfl, rfl, rfl, trivial⟩ ⟨rfl, rfl, trivial⟩ ⟨rfl, rfl, trivial⟩ (by decide)) ?_
    rintro ⟨t, B, d⟩ ht
    dsimp only at ht ⊢
    refine C.seq ?_
    refine C.seq ?_
    have hrl := mdR_len l u t
    refine C.region ?_
    refine L.step (Ev.pure rfl) rfl ?_
    refine L.step (Ev.pure rfl) rfl ?_
    refine L.step (Ev.pure rfl) rfl ?_
    refine L.step (Ev.pure rfl) rfl ?_
    refine L.bool 22 rfl (fun hg22 => ?_) (fun hg22 => ?_)
    · skip
      replace hg22 := of_decide_eq_true hg22
      refine L.yes rfl ?_
      refine L.step (Ev.pure rfl) rfl ?_
      refine L.yes rfl ?_
      refine L.step (Ev.pure rfl) rfl ?_
      refine L.yes rfl ?_
      refine L.step (Ev.pure rfl) rfl ?_
      refine L.yes rfl ?_
      refine L.step (Ev.pure rfl) rfl ?_
      refine L.step (Ev.pure rfl) rfl ?_
      refine L.nil ?_
      refine QE.seq ?_
      refine C.condB 27 rfl (fun hc27 => ?_) (fun hc27 => ?_)
      · skip
        replace hc27 := of_decide_eq_true hc27
        refine C.skip ?_
        refine QE.seq ?_
        refine C.seq ?_
        refine C.block ?_
        refine C.seq ?_
        refine C.region ?_
        refine L.step (Ev.pure rfl) rfl ?_
        refine L.step (Ev.pure rfl) rfl ?_
        refine L.step (Ev.pure rfl) rfl ?_
        refine L.step (Ev.pure rfl) rfl ?_
        refine L.bool 33 rfl (fun hg33 => ?_) (fun hg33 => ?_)
        · skip
          replace hg33 := b_ne hg33
          refine L.yes rfl ?_
          refine L.step (Ev.pure rfl) rfl ?_
          refine L.yes rfl ?_
          refine L.step (Ev.pure rfl) rfl ?_
          refine L.yes rfl ?_
          refine L.step (Ev.idx1 (k := u) rfl rfl rfl rfl rfl rfl rfl (by omega) (Src.r 0 rfl) (by rw [U8_len]; omega)) rfl ?_
          refine L.yes rfl ?_
          refine L.step (Ev.load rfl rfl rfl (Src.r 0 rfl) (U8_get (by omega))) rfl ?_
          refine L.yes rfl ?_
          refine L.step (Ev.pure rfl) rfl ?_
          refine L.yes rfl ?_
          refine L.step (Ev.shr8N (m := (l.getD u 0).toNat) (k := t) rfl rfl (by omega)) rfl ?_
          refine L.yes rfl ?_
          refine L.step (Ev.and8N (b := 1) rfl rfl (Nat.lt_of_le_of_lt (Nat.shiftRight_le _ _) (UInt8.toNat_lt _)) (by decide)) rfl ?_
          refine L.yes rfl ?_
          refine L.step (Ev.pure rfl) rfl ?_
          refine L.step (Ev.pure rfl) rfl ?_
          refine L.nil ?_
          refine QE.seq ?_
          refine C.condB 42 rfl (fun hc42 => ?_) (fun hc42 => ?_)
          · skip
            replace hc42 := i_eq hc42
            have he : (mdR l u (t + 1)) = (mdR l u t) ++ [t] := mdR_yes (by omega) ((bit_and1 _ t).1 (by omega))
            refine C.region ?_
            refine L.step (Ev.pure rfl) rfl ?_
            refine L.step (Ev.pure rfl) rfl ?_
            refine L.lit rfl rfl rfl rfl rfl (by rfl) (by rfl) (by rfl) rfl rfl (fun A45 => ?_)
            refine L.append (j := 0) rfl rfl rfl rfl (by decide) rfl rfl rfl rfl (Src.o 2 rfl) rfl (allOne rfl) (by omega) (by show _ * 8 ≤ _; omega) rfl (fun A46 cc46 => ?_)
            refine L.step (Ev.pure rfl) rfl ?_
            refine L.nil ?_
            refine QE.blkN ?_
            refine QE.seq ?_
            refine C.region ?_
            refine L.step (Ev.pure rfl) rfl ?_
            refine L.step (Ev.add rfl rfl (by omega) (by omega)) rfl ?_
            refine L.step (Ev.pure rfl) rfl ?_
            refine L.nil ?_
            refine QE.round (i := (t, B, d)) ((t + 1, A46, cc46)) (by dsimp only; omega) (by dsimp only; omega) (by exact Le.mk' (rs := [0, 1]) (hs := [0, 1]) ⟨rfl, rfl, rfl, rfl, (by dsimp only; rw [he, List.length_append]; rfl), rfl, trivial⟩ ⟨rfl, rfl, trivial⟩ ⟨(congrArg some (own_eq (by dsimp only; rw [he, List.length_append]; rfl) (by dsimp only; rw [he, NI_app, ← I64_app]; rfl))), rfl, trivial⟩ (by decide))
          · skip
            replace hc42 := i_ne hc42
            have he : (mdR l u (t + 1)) = (mdR l u t) := mdR_no (mdB_no2 (by
              cases hb : (l.getD u 0).toNat.testBit t with
              | false => rfl
              | true => exact absurd (by rw [(bit_and1 _ t).2 hb]; rfl) hc42))
            refine C.skip ?_
            refine QE.blkN ?_
            refine QE.seq ?_
            refine C.region ?_
            refine L.step (Ev.pure rfl) rfl ?_
            refine L.step (Ev.add rfl rfl (by omega) (by omega)) rfl ?_
            refine L.step (Ev.pure rfl) rfl ?_
            refine L.nil ?_
            refine QE.round (i := (t, B, d)) ((t + 1, B, d)) (by dsimp only; omega) (by dsimp only; omega) (by exact Le.mk' (rs := [0, 1]) (hs := [0, 1]) ⟨rfl, rfl, rfl, rfl, (by dsimp only; rw [he]; rfl), rfl, trivial⟩ ⟨rfl, rfl, trivial⟩ ⟨(congrArg some (by dsimp only; rw [he])), rfl, trivial⟩ (by decide))
        · skip
          replace hg33 := b_eq hg33
          have he : (mdR l u (t + 1)) = (mdR l u t) := mdR_no (mdB_no1 (by omega))
          refine L.no rfl rfl rfl ?_
          refine L.no rfl rfl rfl ?_
          refine L.no rfl rfl rfl ?_
          refine L.no rfl rfl rfl ?_
          refine L.no rfl rfl rfl ?_
          refine L.no rfl rfl rfl ?_
          refine L.no rfl rfl rfl ?_
          refine L.no rfl rfl rfl ?_
          refine L.step (Ev.pure rfl) rfl ?_
          refine L.nil ?_
          refine QE.seq ?_
          refine C.cond rfl (fun h => by cases h) (fun _ => ?_)
          refine C.skip ?_
          refine QE.blkN ?_
          refine QE.seq ?_
          refine C.region ?_
          refine L.step (Ev.pure rfl) rfl ?_
          refine L.step (Ev.add rfl rfl (by omega) (by omega)) rfl ?_
          refine L.step (Ev.pure rfl) rfl ?_
          refine L.nil ?_
          refine QE.round (i := (t, B, d)) ((t + 1, B, d)) (by dsimp only; omega) (by dsimp only; omega) (by exact Le.mk' (rs := [0, 1]) (hs := [0, 1]) ⟨rfl, rfl, rfl, rfl, (by dsimp only; rw [he]; rfl), rfl, trivial⟩ ⟨rfl, rfl, trivial⟩ ⟨(congrArg some (by dsimp only; rw [he])), rfl, trivial⟩ (by decide))
      · skip
        replace hc27 := of_decide_eq_false hc27
        have he : (mdR l u t) = (mdR l u (mdN l)) := by rw [mdR_big (by omega), mdR_big (by omega)]
        refine C.exit ?_
        refine QE.tX ?_
        refine QE.tX ?_
        refine QE.blk ?_
        refine QE.seq ?_
        rw [he]
        have hr6 := mdR_len l u (mdN l)
        refine C.freeze 0 rfl [1] (by decide) (by decide) ?_
        refine C.region ?_
        refine L.step (Ev.pure rfl) rfl ?_
        refine L.step (Ev.pure rfl) rfl ?_
        refine L.lit rfl rfl rfl rfl rfl (by rfl) (by rfl) (by rfl) rfl rfl (fun A49 => ?_)
        refine L.append (j := 0) rfl rfl rfl rfl (by decide) rfl rfl rfl rfl (Src.o 1 rfl) rfl (by intro v hv; simp at hv; subst hv; rfl) (by omega) (by show _ * 24 ≤ _; omega) rfl (fun A50 cc50 => ?_)
        refine L.step (Ev.pure rfl) rfl ?_
        refine L.nil ?_
        refine QE.blkN ?_
        refine QE.seq ?_
        refine C.region ?_
        refine L.step (Ev.pure rfl) rfl ?_
        refine L.step (Ev.add rfl rfl (by omega) (by omega)) rfl ?_
        refine L.step (Ev.pure rfl) rfl ?_
        refine L.nil ?_
        refine QE.more (r := KidsR (hs ++ [(B, d)]) (J8 (mdL l u) ++ [I64 (NI (mdR l u (mdN l)))])) (Has.kidsSnoc 2 0 d rfl rfl (by rw [J8_len, mdL_len]; exact hhs)) ?_
        refine QE.round (i := (u, A, c, hs)) ((u + 1, A50, cc50, hs ++ [(B, d)])) (by exact ⟨by dsimp only; omega, by dsimp only; rw [List.length_append, hhs]; rfl⟩) (by dsimp only; omega) (by exact Le.mk' (rs := [2, 0]) (hs := [0]) ⟨rfl, rfl, (by dsimp only; rw [mdL_snoc, List.length_append]; rfl), rfl, trivial⟩ ⟨rfl, (congrArg some (by dsimp only; rw [mdL_snoc, ← J8_snoc])), trivial⟩ ⟨(congrArg some (own_eq (by dsimp only; rw [mdL_snoc, List.length_append]; rfl) (by dsimp only; rw [mdL_snoc, ← rowsJ_app (by rw [mdL_len]; exact hhs), NI_len]))), trivial⟩ (by decide))
    · skip
      replace hg22 := of_decide_eq_false hg22
      have he : (mdR l u t) = (mdR l u (mdN l)) := by rw [show t = mdN l from by omega]
      refine L.no rfl rfl rfl ?_
      refine L.no rfl rfl rfl ?_
      refine L.no rfl rfl rfl ?_
      refine L.no rfl rfl rfl ?_
      refine L.step (Ev.pure rfl) rfl ?_
      refine L.nil ?_
      refine QE.seq ?_
      refine C.cond rfl (fun h => by cases h) (fun _ => ?_)
      refine C.exit ?_
      refine QE.tX ?_
      refine QE.tX ?_
      refine QE.blk ?_
      refine QE.seq ?_
      rw [he]
      have hr6 := mdR_len l u (mdN l)
      refine C.freeze 0 rfl [1] (by decide) (by decide) ?_
      refine C.region ?_
      refine L.step (Ev.pure rfl) rfl ?_
      refine L.step (Ev.pure rfl) rfl ?_
      refine L.lit rfl rfl rfl rfl rfl (by rfl) (by rfl) (by rfl) rfl rfl (fun A49 => ?_)
      refine L.append (j := 0) rfl rfl rfl rfl (by decide) rfl rfl rfl rfl (Src.o 1 rfl) rfl (by intro v hv; simp at hv; subst hv; rfl) (by omega) (by show _ * 24 ≤ _; omega) rfl (fun A50 cc50 => ?_)
      refine L.step (Ev.pure rfl) rfl ?_
      refine L.nil ?_
      refine QE.blkN ?_
      refine QE.seq ?_
      refine C.region ?_
      refine L.step (Ev.pure rfl) rfl ?_
      refine L.step (Ev.add rfl rfl (by omega) (by omega)) rfl ?_
      refine L.step (Ev.pure rfl) rfl ?_
      refine L.nil ?_
      refine QE.more (r := KidsR (hs ++ [(B, d)]) (J8 (mdL l u) ++ [I64 (NI (mdR l u (mdN l)))])) (Has.kidsSnoc 2 0 d rfl rfl (by rw [J8_len, mdL_len]; exact hhs)) ?_
      refine QE.round (i := (u, A, c, hs)) ((u + 1, A50, cc50, hs ++ [(B, d)])) (by exact ⟨by dsimp only; omega, by dsimp only; rw [List.length_append, hhs]; rfl⟩) (by dsimp only; omega) (by exact Le.mk' (rs := [2, 0]) (hs := [0]) ⟨rfl, rfl, (by dsimp only; rw [mdL_snoc, List.length_append]; rfl), rfl, trivial⟩ ⟨rfl, (congrArg some (by dsimp only; rw [mdL_snoc, ← J8_snoc])), trivial⟩ ⟨(congrArg some (own_eq (by dsimp only; rw [mdL_snoc, List.length_append]; rfl) (by dsimp only; rw [mdL_snoc, ← rowsJ_app (by rw [mdL_len]; exact hhs), NI_len]))), trivial⟩ (by decide))
  · skip
    replace hc15 := of_decide_eq_false hc15
    refine C.exit ?_
    refine QE.tX ?_
    refine QE.tX ?_
    refine QE.blk ?_
    refine QE.seq ?_
    refine C.seq ?_
    refine C.region ?_
    refine L.step (Ev.pure rfl) rfl ?_
    refine L.step (Ev.pure rfl) rfl ?_
    refine L.nil ?_
    refine QE.seq ?_
    refine C.ret ?_
    refine QE.freeze 0 rfl [] (by decide) (by decide) ?_
    refine QE.ret (js := [0, 2]) (hs := []) (vs := [_]) rfl ⟨rfl, trivial⟩ (by decide) ?_
    obtain rfl : u = (mdN l) := by omega
    rw [madeL_len]
    exact ⟨A, c, hs, by rw [hml]; rfl, rfl, rfl, hhs⟩

end Go.Proofs.Ytklbkaefjjonmaa
