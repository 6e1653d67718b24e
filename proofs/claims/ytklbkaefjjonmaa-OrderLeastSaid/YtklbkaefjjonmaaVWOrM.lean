/-
  The order laws: the reference, the least.
-/
import Derived.Test.YtklbkaefjjonmaaVWOrL
import Derived.Test.YtklbkaefjjonmaaVOj
namespace Go.Proofs.Ytklbkaefjjonmaa
open Go.Sl

theorem first21_n (LA : Option Addr) (ls : List (List Int)) (lc : Nat) (hs : List Hd) (hh : hs.length = ls.length) (hll : ls.length ≤ 9223372036854775807) (hlr : ∀ i, (ls.getD i []).length ≤ 9223372036854775807) (hr : readB ls = true) (hn : ls.length ≤ 60) (sn : List Nat) (SA : Option Addr) (sc : Nat) (hsn : sn.length ≤ 1000000) :
    Ctr X 21 [.slice LA ls.length lc, .slice SA sn.length sc] [Rd LA (rowsV hs (J8 ls)), KidsR hs (J8 ls), Rd SA (I64 (NI sn))] [] (fun v R' H' => ∃ (A : Option Addr) (c : Nat), v = .slice A (frs ls.length (rdP ls) (fun t => (NI sn).contains (t : Int)) ls.length).length c ∧ R' = [] ∧ H' = [Own 3 1 A (frs ls.length (rdP ls) (fun t => (NI sn).contains (t : Int)) ls.length).length c (I64 (NI (frs ls.length (rdP ls) (fun t => (NI sn).contains (t : Int)) ls.length)))]) := by
  have := first21_c LA ls lc hs hh hll hlr hr hn (NI sn) SA sc (by rw [NI_len]; exact hsn)
  rwa [NI_len] at this
theorem made6 (l : List UInt8) : (madeL l).length ≤ 6 := by rw [madeL_len]; exact mdN_le l
theorem oMatches_c (LA : Option Addr) (l : List UInt8) (lc : Nat) (hl : l.length ≤ 9223372036854775807) :
    Ctr X 3 [.slice LA l.length lc] [Rd LA (U8 l)] [] (fun v R' H' => v = .bool true ∧ R' = [] ∧ H' = []) := by
  refine Ctr.of (X := X) (fn := Try.f3) Try.func3 rfl (by kernel_rfl) rfl ?_
  intro β
  refine C.seq ?_
  refine C.region ?_
  refine L.step (Ev.pure rfl) rfl ?_
  refine L.nil ?_
  refine QE.seq ?_
  refine C.seq ?_
  refine C.region ?_
  refine L.call (js := []) (js' := []) (sanity18_c) rfl rfl rfl (by decide) trivial rfl ?_
  rintro _ _ _ ⟨rfl, rfl, rfl⟩
  refine L.step (Ev.pure rfl) rfl ?_
  refine L.nil ?_
  refine QE.seq ?_
  refine C.seq ?_
  refine C.region ?_
  refine L.step (Ev.pure rfl) rfl ?_
  refine L.callR (js := []) (js' := []) (made18_c LA l lc hl) rfl rfl rfl (by decide) ⟨(Has.r 0 rfl), trivial⟩ rfl ?_
  rintro _ _ _ ⟨A7, c7, hs7, rfl, rfl, rfl, hh7⟩
  refine L.step (Ev.pure rfl) rfl ?_
  refine L.nil ?_
  refine QE.seq ?_
  refine C.seq ?_
  have hsm := ord_small (made6 l)
  have hm6 := made6 l
  refine C.region ?_
  refine L.step (Ev.pure rfl) rfl ?_
  refine L.callR (js := []) (js' := []) (ordered_c A7 (madeL l) c7 hs7 hh7 (Nat.le_trans (made6 l) (by decide)) (fun i => Nat.le_trans (madeL_row l i) (by decide))) rfl rfl rfl (by decide) ⟨(Has.r 0 rfl), (Has.r 1 rfl), trivial⟩ rfl ?_
  rintro _ _ _ ⟨A9, B9, c9, e9, rfl, rfl, rfl⟩
  refine L.step (Ev.pure rfl) rfl ?_
  refine L.callR (js := []) (js' := []) (order21_c A7 (madeL l) c7 hs7 hh7 (Nat.le_trans (made6 l) (by decide)) (fun i => Nat.le_trans (madeL_row l i) (by decide))) rfl rfl rfl (by decide) ⟨(Has.r 2 rfl), (Has.r 3 rfl), trivial⟩ rfl ?_
  rintro _ _ _ ⟨A11, B11, c11, e11, rfl, rfl, rfl⟩
  refine L.call (js := []) (js' := []) (Ctr.tb true (same18_c A9 B9 A11 B11 c9 e9 c11 e11 (ordQ (madeL l)) (ordH (madeL l)) (refQ (madeL l)) (refH (madeL l)) (ordE (madeL l)) (refE (madeL l)) (by omega) (by omega) (by omega) (by omega)) (decide_eq_true (ord_ref (made6 l)))) rfl rfl rfl (by decide) ⟨(Has.r 2 rfl), (Has.r 3 rfl), (Has.r 0 rfl), (Has.r 1 rfl), trivial⟩ rfl ?_
  rintro _ _ _ ⟨rfl, rfl, rfl⟩
  refine L.step (Ev.pure rfl) rfl ?_
  refine L.yes rfl ?_
  refine L.step (Ev.pure rfl) rfl ?_
  refine L.step (Ev.pure rfl) rfl ?_
  refine L.step (Ev.pure rfl) rfl ?_
  refine L.nil ?_
  refine QE.seq ?_
  refine C.ret ?_
  refine QE.ret (js := []) (hs := []) (vs := [_]) rfl ⟨rfl, trivial⟩ (by decide) ?_
  exact ⟨rfl, rfl, rfl⟩

theorem oLeast_c (LA : Option Addr) (l : List UInt8) (lc : Nat) (hl : l.length ≤ 9223372036854775807) (x : UInt8) :
    Ctr X 6 [.slice LA l.length lc, .int .u8 (x.toNat : Int)] [Rd LA (U8 l)] [] (fun v R' H' => v = .bool true ∧ R' = [] ∧ H' = []) := by
  refine Ctr.of (X := X) (fn := Try.f6) Try.func6 rfl (by kernel_rfl) rfl ?_
  intro β
  refine C.seq ?_
  refine C.region ?_
  refine L.step (Ev.pure rfl) rfl ?_
  refine L.nil ?_
  refine QE.seq ?_
  refine C.seq ?_
  refine C.region ?_
  refine L.call (js := []) (js' := []) (sanity18_c) rfl rfl rfl (by decide) trivial rfl ?_
  rintro _ _ _ ⟨rfl, rfl, rfl⟩
  refine L.step (Ev.pure rfl) rfl ?_
  refine L.nil ?_
  refine QE.seq ?_
  refine C.seq ?_
  refine C.region ?_
  refine L.step (Ev.pure rfl) rfl ?_
  refine L.callR (js := []) (js' := []) (made18_c LA l lc hl) rfl rfl rfl (by decide) ⟨(Has.r 0 rfl), trivial⟩ rfl ?_
  rintro _ _ _ ⟨A12, c12, hs12, rfl, rfl, rfl, hh12⟩
  refine L.step (Ev.pure rfl) rfl ?_
  refine L.nil ?_
  refine QE.seq ?_
  refine C.seq ?_
  refine C.region ?_
  refine L.step (Ev.pure rfl) rfl ?_
  refine L.callR (js := []) (js' := []) (ordered_c A12 (madeL l) c12 hs12 hh12 (Nat.le_trans (made6 l) (by decide)) (fun i => Nat.le_trans (madeL_row l i) (by decide))) rfl rfl rfl (by decide) ⟨(Has.r 0 rfl), (Has.r 1 rfl), trivial⟩ rfl ?_
  rintro _ _ _ ⟨A14, B14, c14, e14, rfl, rfl, rfl⟩
  refine L.alloc rfl rfl rfl (fun A7 => ?_)
  refine L.storeA (j := 0) rfl rfl rfl rfl rfl (Nat.zero_lt_succ _) rfl rfl ?_
  refine L.nil ?_
  refine QE.seq ?_
  refine C.seq ?_
  refine C.freeze 0 rfl [] (by decide) (by decide) ?_
  have hm6 := made6 l
  have hE : ordE (madeL l) = 0 := ordE_0 (madeL_ok l) (by omega)
  have hB := (ord_small hm6).1
  refine C.region ?_
  refine L.lit rfl rfl rfl rfl rfl (by rfl) (by rfl) (by rfl) rfl rfl (fun A15 => ?_)
  refine L.step (Ev.pure rfl) rfl ?_
  refine L.nil ?_
  refine QE.seq ?_
  refine C.seq ?_
  refine C.seq ?_
  refine C.region ?_
  refine L.step (Ev.pure rfl) rfl ?_
  refine L.nil ?_
  refine QE.seq ?_
  refine C.block ?_
  refine C.loop (fun q : Nat × Option Addr × Nat => [(1, .int .u8 (x.toNat : Int)), (5, .bool true), (6, .slice A12 (madeL l).length c12), (7, ptrOf A7 0), (8, .slice q.2.1 (mem x.toNat q.1).length q.2.2), (9, .int .i64 (q.1 : Int))]) (fun q : Nat × Option Addr × Nat => [Rd A14 (I64 (NI (ordQ (madeL l)))), Rd B14 (I64 (NI (ordH (madeL l)))), Rd A12 (rowsV hs12 (J8 (madeL l))), KidsR hs12 (J8 (madeL l)), Rd A7 [.slice A14 (ordQ (madeL l)).length c14, .slice B14 (ordH (madeL l)).length e14, .int .i64 (ordE (madeL l))]]) (fun q : Nat × Option Addr × Nat => [Own 3 1 q.2.1 (mem x.toNat q.1).length q.2.2 (I64 (NI (mem x.toNat q.1)))]) (fun q : Nat × Option Addr × Nat => q.1 ≤ (madeL l).length) (fun q : Nat × Option Addr × Nat => (madeL l).length - q.1) (0, A15, 0) (Nat.zero_le _) (by exact Le.mk' (rs := [1, 2, 3, 4, 0]) (hs := [0]) ⟨rfl, rfl, rfl, rfl, rfl, rfl, trivial⟩ ⟨rfl, rfl, rfl, rfl, rfl, trivial⟩ ⟨rfl, trivial⟩ (by decide)) ?_
  rintro ⟨t, A, c⟩ ht
  dsimp only at ht ⊢
  refine C.seq ?_
  refine C.seq ?_
  refine C.region ?_
  refine L.step (Ev.pure rfl) rfl ?_
  refine L.step (Ev.pure rfl) rfl ?_
  refine L.step (Ev.pure rfl) rfl ?_
  refine L.step (Ev.pure rfl) rfl ?_
  refine L.nil ?_
  refine QE.seq ?_
  refine C.condB 19 rfl (fun hc19 => ?_) (fun hc19 => ?_)
  · skip
    replace hc19 := of_decide_eq_true hc19
    refine C.skip ?_
    refine QE.seq ?_
    refine C.seq ?_
    refine C.block ?_
    refine C.seq ?_
    have hml := mem_len x.toNat t
    refine C.region ?_
    refine L.step (Ev.pure rfl) rfl ?_
    refine L.step (Ev.pure rfl) rfl ?_
    refine L.step (Ev.shr8N (m := x.toNat) (k := t) rfl rfl (by omega)) rfl ?_
    refine L.step (Ev.and8N (b := 1) rfl rfl (Nat.lt_of_le_of_lt (Nat.shiftRight_le _ _) (UInt8.toNat_lt _)) (by decide)) rfl ?_
    refine L.step (Ev.pure rfl) rfl ?_
    refine L.nil ?_
    refine QE.seq ?_
    refine C.condB 26 rfl (fun hc26 => ?_) (fun hc26 => ?_)
    · skip
      replace hc26 := i_eq hc26
      have he : (mem x.toNat (t + 1)) = (mem x.toNat t) ++ [t] := mem_yes ((bit_and1 _ t).1 (by omega))
      refine C.region ?_
      refine L.step (Ev.pure rfl) rfl ?_
      refine L.step (Ev.pure rfl) rfl ?_
      refine L.lit rfl rfl rfl rfl rfl (by rfl) (by rfl) (by rfl) rfl rfl (fun A29 => ?_)
      refine L.append (j := 0) rfl rfl rfl rfl (by decide) rfl rfl rfl rfl (Src.o 1 rfl) rfl (allOne rfl) (by omega) (by show _ * 8 ≤ _; omega) rfl (fun A30 cc30 => ?_)
      refine L.step (Ev.pure rfl) rfl ?_
      refine L.nil ?_
      refine QE.blkN ?_
      refine QE.seq ?_
      refine C.region ?_
      refine L.step (Ev.pure rfl) rfl ?_
      refine L.step (Ev.add rfl rfl (by omega) (by omega)) rfl ?_
      refine L.step (Ev.pure rfl) rfl ?_
      refine L.nil ?_
      refine QE.round (i := (t, A, c)) ((t + 1, A30, cc30)) (by dsimp only; omega) (by dsimp only; omega) (by exact Le.mk' (rs := [0, 1, 2, 3, 4]) (hs := [0]) ⟨rfl, rfl, rfl, rfl, (by dsimp only; rw [he, List.length_append]; rfl), rfl, trivial⟩ ⟨rfl, rfl, rfl, rfl, rfl, trivial⟩ ⟨(congrArg some (own_eq (by dsimp only; rw [he, List.length_append]; rfl) (by dsimp only; rw [he, NI_app, ← I64_app]; rfl))), trivial⟩ (by decide))
    · skip
      replace hc26 := i_ne hc26
      have he : (mem x.toNat (t + 1)) = (mem x.toNat t) := mem_no (by
        cases hb : x.toNat.testBit t with
        | false => rfl
        | true => exact absurd (by rw [(bit_and1 _ t).2 hb]; rfl) hc26)
      refine C.skip ?_
      refine QE.blkN ?_
      refine QE.seq ?_
      refine C.region ?_
      refine L.step (Ev.pure rfl) rfl ?_
      refine L.step (Ev.add rfl rfl (by omega) (by omega)) rfl ?_
      refine L.step (Ev.pure rfl) rfl ?_
      refine L.nil ?_
      refine QE.round (i := (t, A, c)) ((t + 1, A, c)) (by dsimp only; omega) (by dsimp only; omega) (by exact Le.mk' (rs := [0, 1, 2, 3, 4]) (hs := [0]) ⟨rfl, rfl, rfl, rfl, (by dsimp only; rw [he]; rfl), rfl, trivial⟩ ⟨rfl, rfl, rfl, rfl, rfl, trivial⟩ ⟨(congrArg some (by dsimp only; rw [he])), trivial⟩ (by decide))
  · skip
    replace hc19 := of_decide_eq_false hc19
    refine C.exit ?_
    refine QE.tX ?_
    refine QE.tX ?_
    refine QE.blk ?_
    refine QE.seq ?_
    refine C.seq ?_
    refine C.seq ?_
    obtain rfl : t = (madeL l).length := by omega
    refine C.region ?_
    refine L.step (Ev.fieldAddr rfl rfl rfl rfl rfl rfl (Src.r 4 rfl) (Nat.zero_lt_succ _) rfl) rfl ?_
    refine L.step (Ev.load rfl rfl rfl (Src.r 4 rfl) rfl) rfl ?_
    refine L.step (Ev.pure rfl) rfl ?_
    refine L.step (Ev.pure rfl) rfl ?_
    refine L.bool 34 rfl (fun hg34 => ?_) (fun hg34 => ?_)
    · skip
      replace hg34 := b_ne hg34
      exact absurd hE hg34
    · skip
      replace hg34 := b_eq hg34
      refine L.yes rfl ?_
      refine L.step (Ev.pure rfl) rfl ?_
      refine L.yes rfl ?_
      refine L.step (Ev.pure rfl) rfl ?_
      refine L.yes rfl ?_
      refine L.step (Ev.fieldAddr rfl rfl rfl rfl rfl rfl (Src.r 4 rfl) (Nat.zero_lt_succ _) rfl) rfl ?_
      refine L.yes rfl ?_
      refine L.step (Ev.load rfl rfl rfl (Src.r 4 rfl) rfl) rfl ?_
      refine L.yes rfl ?_
      refine L.step (Ev.pure rfl) rfl ?_
      refine L.yes rfl ?_
      refine L.step (Ev.pure rfl) rfl ?_
      refine L.step (Ev.pure rfl) rfl ?_
      refine L.nil ?_
      refine QE.seq ?_
      refine C.condB 41 rfl (fun hc41 => ?_) (fun hc41 => ?_)
      · skip
        replace hc41 := of_decide_eq_true hc41
        refine C.seq ?_
        refine C.region ?_
        refine L.step (Ev.fieldAddr rfl rfl rfl rfl rfl rfl (Src.r 4 rfl) (Nat.zero_lt_succ _) rfl) rfl ?_
        refine L.step (Ev.load rfl rfl rfl (Src.r 4 rfl) rfl) rfl ?_
        refine L.step (Ev.pure rfl) rfl ?_
        refine L.step (Ev.pure rfl) rfl ?_
        refine L.bool 45 rfl (fun hg45 => ?_) (fun hg45 => ?_)
        · skip
          replace hg45 := i_eq hg45
          refine L.yes rfl ?_
          refine L.step (Ev.pure rfl) rfl ?_
          refine L.step (Ev.pure rfl) rfl ?_
          refine L.step (Ev.pure rfl) rfl ?_
          refine L.nil ?_
          refine QE.seq ?_
          refine C.ret ?_
          refine QE.tR ?_
          refine QE.ret (js := []) (hs := []) (vs := [_]) rfl ⟨rfl, trivial⟩ (by decide) ?_
          exact ⟨rfl, rfl, rfl⟩
        · skip
          replace hg45 := i_ne hg45
          exact absurd hE hg45
      · skip
        replace hc41 := of_decide_eq_false hc41
        refine C.skip ?_
        refine QE.seq ?_
        refine C.seq ?_
        have hml := mem_len x.toNat (madeL l).length
        have hlt := ord_least (m := x.toNat) (madeL_ok l) hm6 (by omega)
        refine C.region ?_
        refine L.step (Ev.pure rfl) rfl ?_
        refine L.step (Ev.pure rfl) rfl ?_
        refine L.call (js := []) (js' := [0]) (first21_n A12 (madeL l) c12 hs12 hh12 (Nat.le_trans (made6 l) (by decide)) (fun i => Nat.le_trans (madeL_row l i) (by decide)) (madeL_ok l) (by omega) (mem x.toNat (madeL l).length) A c (by omega)) rfl rfl rfl (by decide) ⟨(Has.r 2 rfl), (Has.r 3 rfl), (Has.o 0 rfl), trivial⟩ rfl ?_
        rintro _ _ _ ⟨A50, c50, rfl, rfl, rfl⟩
        refine L.norm (H' := [_, _]) [0, 1] ⟨rfl, rfl, trivial⟩ (by decide) ?_
        refine L.step (Ev.pure rfl) rfl ?_
        refine L.step (Ev.pure rfl) rfl ?_
        refine L.step (Ev.pure rfl) rfl ?_
        refine L.step (Ev.pure rfl) rfl ?_
        refine L.step (Ev.pure rfl) rfl ?_
        refine L.bool 55 rfl (fun hg55 => ?_) (fun hg55 => ?_)
        · skip
          replace hg55 := of_decide_eq_true hg55
          refine L.yes rfl ?_
          refine L.step (Ev.pure rfl) rfl ?_
          refine L.step (Ev.pure rfl) rfl ?_
          refine L.step (Ev.pure rfl) rfl ?_
          refine L.nil ?_
          refine QE.seq ?_
          refine C.ret ?_
          refine QE.ret (js := []) (hs := []) (vs := [_]) rfl ⟨rfl, trivial⟩ (by decide) ?_
          exact ⟨rfl, rfl, rfl⟩
        · skip
          replace hg55 := of_decide_eq_false hg55
          omega

end Go.Proofs.Ytklbkaefjjonmaa
