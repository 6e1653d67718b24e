/-
  OrderRight.
-/
import Derived.Test.YtklbkaefjjonmaaUWOrP
namespace Go.Proofs.Ytklbkaefjjonmaa
open Go.Sl

theorem rightP_l (LA : Option Addr) (ls : List (List Int)) (lc : Nat) (hs : List Hd) (hh : hs.length = ls.length) (hll : ls.length ≤ 9223372036854775807) (hlr : ∀ i, (ls.getD i []).length ≤ 9223372036854775807) (sl tl : Nat) (seq st : List Int) (QA TA : Option Addr) (qc tc : Nat) (hq : seq.length = sl) (ht : st.length = tl) (hq2 : sl ≤ 1000000) (ht2 : tl ≤ 1000000) :
    Ctr X 20 [.slice LA ls.length lc, .slice QA sl qc, .slice TA tl tc] [Rd LA (rowsV hs (J8 ls)), KidsR hs (J8 ls), Rd QA (I64 seq), Rd TA (I64 st)] [] (fun v R' H' => v = .bool (rightF ls seq st) ∧ R' = [] ∧ H' = []) := by
  subst hq ht
  exact rightP_f LA ls lc hs hh hll hlr seq st QA TA qc tc hq2 ht2

theorem rightF_l (LA : Option Addr) (ls : List (List Int)) (lc : Nat) (hs : List Hd) (hh : hs.length = ls.length) (hll : ls.length ≤ 9223372036854775807) (hlr : ∀ i, (ls.getD i []).length ≤ 9223372036854775807) (sl tl : Nat) (seq st : List Int) (QA TA : Option Addr) (qc tc : Nat) (hq : seq.length = sl) (ht : st.length = tl) (hq2 : sl ≤ 1000000) (ht2 : tl ≤ 1000000) :
    Ctr X 19 [.slice LA ls.length lc, .slice QA sl qc, .slice TA tl tc] [Rd LA (rowsV hs (J8 ls)), KidsR hs (J8 ls), Rd QA (I64 seq), Rd TA (I64 st)] [] (fun v R' H' => v = .bool (rightF ls seq st) ∧ R' = [] ∧ H' = []) := by
  subst hq ht
  exact rightF_c LA ls lc hs hh hll hlr seq st QA TA qc tc hq2 ht2
theorem rightS_c (LA : Option Addr) (ls : List (List Int)) (lc : Nat) (hs : List Hd) (hh : hs.length = ls.length) (hll : ls.length ≤ 9223372036854775807) (hlr : ∀ i, (ls.getD i []).length ≤ 9223372036854775807) (sl : Nat) (QA : Option Addr) (qc : Nat) (tv : Value) (hsl : sl ≠ ls.length) :
    Ctr X 20 [.slice LA ls.length lc, .slice QA sl qc, tv] [Rd LA (rowsV hs (J8 ls)), KidsR hs (J8 ls)] [] (fun v R' H' => v = .bool false ∧ R' = [] ∧ H' = []) := by
  refine Ctr.of (X := X) (fn := Try.f20) Try.func20 rfl (by kernel_rfl) rfl ?_
  intro β
  refine C.seq ?_
  refine C.region ?_
  refine L.step (Ev.pure rfl) rfl ?_
  refine L.nil ?_
  refine QE.seq ?_
  refine C.seq ?_
  refine C.seq ?_
  refine C.region ?_
  refine L.step (Ev.pure rfl) rfl ?_
  refine L.call (js := []) (js' := []) (readings_c LA ls lc hs hh hll hlr) rfl rfl rfl (by decide) ⟨(Has.r 0 rfl), (Has.r 1 rfl), trivial⟩ rfl ?_
  rintro _ _ _ ⟨rfl, rfl, rfl⟩
  refine L.step (Ev.pure rfl) rfl ?_
  refine L.step (Ev.pure rfl) rfl ?_
  refine L.bool 21 rfl (fun hg21 => ?_) (fun hg21 => ?_)
  · skip
    refine L.no rfl rfl rfl ?_
    refine L.no rfl rfl rfl ?_
    refine L.no rfl rfl rfl ?_
    refine L.no rfl rfl rfl ?_
    refine L.no rfl rfl rfl ?_
    refine L.step (Ev.pure rfl) rfl ?_
    refine L.nil ?_
    refine QE.seq ?_
    refine C.cond rfl (fun _ => ?_) (fun h => by cases h)
    refine C.seq ?_
    refine C.region ?_
    refine L.step (Ev.pure rfl) rfl ?_
    refine L.nil ?_
    refine QE.seq ?_
    refine C.ret ?_
    refine QE.tR ?_
    refine QE.ret (js := []) (hs := []) (vs := [_]) rfl ⟨rfl, trivial⟩ (by decide) ?_
    exact ⟨rfl, rfl, rfl⟩
  · skip
    refine L.yes rfl ?_
    refine L.step (Ev.pure rfl) rfl ?_
    refine L.yes rfl ?_
    refine L.step (Ev.pure rfl) rfl ?_
    refine L.yes rfl ?_
    refine L.step (Ev.pure rfl) rfl ?_
    refine L.yes rfl ?_
    refine L.step (Ev.pure rfl) rfl ?_
    refine L.yes rfl ?_
    refine L.step (Ev.pure rfl) rfl ?_
    refine L.step (Ev.pure rfl) rfl ?_
    refine L.nil ?_
    refine QE.seq ?_
    refine C.condB 27 rfl (fun hc27 => ?_) (fun hc27 => ?_)
    · skip
      replace hc27 := b_ne hc27
      refine C.seq ?_
      refine C.region ?_
      refine L.step (Ev.pure rfl) rfl ?_
      refine L.nil ?_
      refine QE.seq ?_
      refine C.ret ?_
      refine QE.tR ?_
      refine QE.ret (js := []) (hs := []) (vs := [_]) rfl ⟨rfl, trivial⟩ (by decide) ?_
      exact ⟨rfl, rfl, rfl⟩
    · skip
      replace hc27 := b_eq hc27
      omega

set_option maxHeartbeats 2000000 in
theorem oRight_c (LA : Option Addr) (l : List UInt8) (lc : Nat) (hl : l.length ≤ 9223372036854775807) (w0 w1 w2 : UInt8) :
    Ctr X 5 [.slice LA l.length lc, .agg (List.toArray [.int .u8 (w0.toNat : Int), .int .u8 (w1.toNat : Int), .int .u8 (w2.toNat : Int)])] [Rd LA (U8 l)] [] (fun v R' H' => v = .bool true ∧ R' = [] ∧ H' = []) := by
  refine Ctr.of (X := X) (fn := Try.f5) Try.func5 rfl (by kernel_rfl) rfl ?_
  intro β
  refine C.seq ?_
  refine C.region ?_
  refine L.boxA rfl rfl (fun A3 => ?_)
  refine L.step (Ev.pure rfl) rfl ?_
  refine L.nil ?_
  refine QE.seq ?_
  refine C.seq ?_
  refine C.freeze 0 rfl [] (by decide) (by decide) ?_
  refine C.region ?_
  refine L.call (js := []) (js' := []) (sanity18_c) rfl rfl rfl (by decide) trivial rfl ?_
  rintro _ _ _ ⟨rfl, rfl, rfl⟩
  refine L.step (Ev.pure rfl) rfl ?_
  refine L.nil ?_
  refine QE.seq ?_
  refine C.seq ?_
  refine C.region ?_
  refine L.step (Ev.pure rfl) rfl ?_
  refine L.callR (js := []) (js' := []) (made18_c LA l lc hl) rfl rfl rfl (by decide) ⟨(Has.r 1 rfl), trivial⟩ rfl ?_
  rintro _ _ _ ⟨A16, c16, hs16, rfl, rfl, rfl, hh16⟩
  refine L.step (Ev.pure rfl) rfl ?_
  refine L.nil ?_
  refine QE.seq ?_
  refine C.seq ?_
  refine C.region ?_
  refine L.step (Ev.pure rfl) rfl ?_
  refine L.callR (js := []) (js' := []) (ordered_c A16 (madeL l) c16 hs16 hh16 (Nat.le_trans (made6 l) (by decide)) (fun i => Nat.le_trans (madeL_row l i) (by decide))) rfl rfl rfl (by decide) ⟨(Has.r 0 rfl), (Has.r 1 rfl), trivial⟩ rfl ?_
  rintro _ _ _ ⟨A18, B18, c18, e18, rfl, rfl, rfl⟩
  refine L.alloc rfl rfl rfl (fun A7 => ?_)
  refine L.storeA (j := 0) rfl rfl rfl rfl rfl (Nat.zero_lt_succ _) rfl rfl ?_
  refine L.nil ?_
  refine QE.seq ?_
  refine C.seq ?_
  refine C.seq ?_
  refine C.freeze 0 rfl [] (by decide) (by decide) ?_
  have hm6 := made6 l
  have hm1 : 1 ≤ (madeL l).length := by rw [madeL_len]; exact mdN_pos l
  have hE : ordE (madeL l) = 0 := ordE_0 (madeL_ok l) (by omega)
  have hB := (ord_small hm6).1
  have hQ : (ordQ (madeL l)).length = (madeL l).length := by
    obtain ⟨s, _, _, h3, h4, _⟩ := ord_set (madeL_ok l) hm6
    rw [h3]
    exact full_iff.1 h4
  refine C.region ?_
  refine L.step (Ev.fieldAddr rfl rfl rfl rfl rfl rfl (Src.r 0 rfl) (Nat.zero_lt_succ _) rfl) rfl ?_
  refine L.step (Ev.load rfl rfl rfl (Src.r 0 rfl) rfl) rfl ?_
  refine L.step (Ev.pure rfl) rfl ?_
  refine L.step (Ev.pure rfl) rfl ?_
  refine L.bool 22 rfl (fun hg22 => ?_) (fun hg22 => ?_)
  · skip
    replace hg22 := b_ne hg22
    exact absurd hE hg22
  · skip
    replace hg22 := b_eq hg22
    refine L.yes rfl ?_
    refine L.step (Ev.pure rfl) rfl ?_
    refine L.yes rfl ?_
    refine L.step (Ev.fieldAddr rfl rfl rfl rfl rfl rfl (Src.r 0 rfl) (Nat.zero_lt_succ _) rfl) rfl ?_
    refine L.yes rfl ?_
    refine L.step (Ev.load rfl rfl rfl (Src.r 0 rfl) rfl) rfl ?_
    refine L.yes rfl ?_
    refine L.step (Ev.fieldAddr rfl rfl rfl rfl rfl rfl (Src.r 0 rfl) (Nat.zero_lt_succ _) rfl) rfl ?_
    refine L.yes rfl ?_
    refine L.step (Ev.load rfl rfl rfl (Src.r 0 rfl) rfl) rfl ?_
    refine L.yes rfl ?_
    refine L.call (js := []) (js' := []) (Ctr.tb true (rightF_l A16 (madeL l) c16 hs16 hh16 (Nat.le_trans (made6 l) (by decide)) (fun i => Nat.le_trans (madeL_row l i) (by decide)) (ordQ (madeL l)).length (ordH (madeL l)).length (NI (ordQ (madeL l))) (NI (ordH (madeL l))) A18 B18 c18 e18 (NI_len _) (NI_len _) (by omega) (by omega)) (ord_right (madeL_ok l) hm6)) rfl rfl rfl (by decide) ⟨(Has.r 3 rfl), (Has.r 4 rfl), (Has.r 1 rfl), (Has.r 2 rfl), trivial⟩ rfl ?_
    rintro _ _ _ ⟨rfl, rfl, rfl⟩
    refine L.yes rfl ?_
    refine L.step (Ev.pure rfl) rfl ?_
    refine L.step (Ev.pure rfl) rfl ?_
    refine L.step (Ev.pure rfl) rfl ?_
    refine L.yes rfl ?_
    refine L.step (Ev.pure rfl) rfl ?_
    refine L.yes rfl ?_
    refine L.step (Ev.fieldAddr rfl rfl rfl rfl rfl rfl (Src.r 0 rfl) (Nat.zero_lt_succ _) rfl) rfl ?_
    refine L.yes rfl ?_
    refine L.step (Ev.load rfl rfl rfl (Src.r 0 rfl) rfl) rfl ?_
    refine L.yes rfl ?_
    refine L.step (Ev.fieldAddr rfl rfl rfl rfl rfl rfl (Src.r 0 rfl) (Nat.zero_lt_succ _) rfl) rfl ?_
    refine L.yes rfl ?_
    refine L.step (Ev.load rfl rfl rfl (Src.r 0 rfl) rfl) rfl ?_
    refine L.yes rfl ?_
    refine L.call (js := []) (js' := []) (Ctr.tb true (rightP_l A16 (madeL l) c16 hs16 hh16 (Nat.le_trans (made6 l) (by decide)) (fun i => Nat.le_trans (madeL_row l i) (by decide)) (ordQ (madeL l)).length (ordH (madeL l)).length (NI (ordQ (madeL l))) (NI (ordH (madeL l))) A18 B18 c18 e18 (NI_len _) (NI_len _) (by omega) (by omega)) (ord_right (madeL_ok l) hm6)) rfl rfl rfl (by decide) ⟨(Has.r 3 rfl), (Has.r 4 rfl), (Has.r 1 rfl), (Has.r 2 rfl), trivial⟩ rfl ?_
    rintro _ _ _ ⟨rfl, rfl, rfl⟩
    refine L.yes rfl ?_
    refine L.step (Ev.pure rfl) rfl ?_
    refine L.step (Ev.pure rfl) rfl ?_
    refine L.nil ?_
    refine QE.seq ?_
    refine C.cond rfl (fun h => by cases h) (fun _ => ?_)
    refine C.skip ?_
    refine QE.seq ?_
    refine C.seq ?_
    refine C.region ?_
    refine L.lit rfl rfl rfl rfl rfl (by rfl) (by rfl) (by rfl) rfl rfl (fun A40 => ?_)
    refine L.step (Ev.fieldAddr rfl rfl rfl rfl rfl rfl (Src.r 0 rfl) (Nat.zero_lt_succ _) rfl) rfl ?_
    refine L.step (Ev.load rfl rfl rfl (Src.r 0 rfl) rfl) rfl ?_
    refine L.append (j := 0) rfl rfl rfl rfl (by decide) rfl rfl rfl rfl (Src.r 1 rfl) (by rw [I64_len, NI_len]; exact (Nat.mul_one _).symm) (I64_one _) (by omega) (by show _ * 8 ≤ _; omega) rfl (fun A43 cc43 => ?_)
    refine L.step (Ev.pure rfl) rfl ?_
    refine L.step (Ev.pure rfl) rfl ?_
    refine L.step (Ev.pure rfl) rfl ?_
    refine L.step (Ev.pure rfl) rfl ?_
    refine L.nil ?_
    refine QE.seq ?_
    refine C.seq ?_
    have hi : (w0.toNat % (madeL l).length) < (madeL l).length := Nat.mod_lt _ hm1
    have hk : (w1.toNat % (madeL l).length) < (madeL l).length := Nat.mod_lt _ hm1
    refine C.regionQ (by kernel_rfl) ?_
    refine LQ.step (Ev.idxArr (k := 0) (m := 0) rfl rfl rfl rfl rfl rfl (by decide) (Src.r 5 rfl) (Nat.zero_lt_succ _) rfl) rfl ?_
    refine LQ.step (Ev.load rfl rfl rfl (Src.r 5 rfl) rfl) rfl ?_
    first | refine LQ.step (Ev.byteInt rfl rfl rfl rfl) rfl ?_ | refine LQ.step (Ev.toInt rfl rfl rfl rfl (by omega) (by omega)) rfl ?_
    refine LQ.step (Ev.pure rfl) rfl ?_
    refine LQ.step (Ev.cast (u := .int .i64 (((w0.toNat % (madeL l).length) : Nat) : Int)) (Ev.rem rfl rfl (by omega) (by omega)) (congrArg (Value.int .i64) (Int.natCast_emod _ _).symm)) rfl ?_
    refine LQ.step (Ev.idxArr (k := 1) (m := 1) rfl rfl rfl rfl rfl rfl (by decide) (Src.r 5 rfl) (Nat.zero_lt_succ _) rfl) rfl ?_
    refine LQ.step (Ev.load rfl rfl rfl (Src.r 5 rfl) rfl) rfl ?_
    first | refine LQ.step (Ev.byteInt rfl rfl rfl rfl) rfl ?_ | refine LQ.step (Ev.toInt rfl rfl rfl rfl (by omega) (by omega)) rfl ?_
    refine LQ.step (Ev.pure rfl) rfl ?_
    refine LQ.step (Ev.cast (u := .int .i64 (((w1.toNat % (madeL l).length) : Nat) : Int)) (Ev.rem rfl rfl (by omega) (by omega)) (congrArg (Value.int .i64) (Int.natCast_emod _ _).symm)) rfl ?_
    refine LQ.step (Ev.pure rfl) rfl ?_
    refine LQ.step (Ev.pure rfl) rfl ?_
    refine LQ.nil ?_
    refine QE.seq ?_
    refine C.seq ?_
    refine C.le (Γ' := [(3, ptrOf A3 0), (5, .bool true), (6, .slice A16 (madeL l).length c16), (7, ptrOf A7 0), (8, .slice A43 (0 + (ordQ (madeL l)).length) cc43), (9, .int .i64 ((madeL l).length : Int)), (10, .int .i64 ((w0.toNat % (madeL l).length) : Int)), (11, .int .i64 ((w1.toNat % (madeL l).length) : Int))]) (R' := [Rd A18 (I64 (NI (ordQ (madeL l)))), Rd B18 (I64 (NI (ordH (madeL l)))), Rd A16 (rowsV hs16 (J8 (madeL l))), KidsR hs16 (J8 (madeL l)), Rd A7 [.slice A18 (ordQ (madeL l)).length c18, .slice B18 (ordH (madeL l)).length e18, .int .i64 (ordE (madeL l))], Rd A3 [.int .u8 (w0.toNat : Int), .int .u8 (w1.toNat : Int), .int .u8 (w2.toNat : Int)]]) (H' := [Own 3 1 A43 (0 + (ordQ (madeL l)).length) cc43 (I64 (NI (ordQ (madeL l))))]) (by exact Le.mk' (rs := [1, 2, 3, 4, 0, 5]) (hs := [0]) ⟨rfl, rfl, rfl, rfl, rfl, rfl, rfl, rfl, trivial⟩ ⟨rfl, rfl, rfl, rfl, rfl, rfl, trivial⟩ ⟨rfl, trivial⟩ (by decide)) ?_
    refine C.regionM [Rd A18 (I64 (NI (ordQ (madeL l)))), Rd B18 (I64 (NI (ordH (madeL l)))), Rd A16 (rowsV hs16 (J8 (madeL l))), KidsR hs16 (J8 (madeL l)), Rd A7 [.slice A18 (ordQ (madeL l)).length c18, .slice B18 (ordH (madeL l)).length e18, .int .i64 (ordE (madeL l))], Rd A3 [.int .u8 (w0.toNat : Int), .int .u8 (w1.toNat : Int), .int .u8 (w2.toNat : Int)]] ⟨Has.r 0 rfl, Has.r 1 rfl, Has.r 2 rfl, Has.r 3 rfl, Has.r 4 rfl, Has.r 5 rfl, trivial⟩ ?_
    refine LM.q 0 rfl (by kernel_rfl) (Ev.pure rfl) rfl ⟨Has.r 0 rfl, Has.r 1 rfl, Has.r 2 rfl, Has.r 3 rfl, Has.r 4 rfl, Has.r 5 rfl, trivial⟩ ?_
    refine LM.q 1 rfl (by kernel_rfl) (Ev.pure rfl) rfl ⟨Has.r 0 rfl, Has.r 1 rfl, Has.r 2 rfl, Has.r 3 rfl, Has.r 4 rfl, Has.r 5 rfl, trivial⟩ ?_
    refine LM.q 2 rfl (by kernel_rfl) (Ev.pure rfl) rfl ⟨Has.r 0 rfl, Has.r 1 rfl, Has.r 2 rfl, Has.r 3 rfl, Has.r 4 rfl, Has.r 5 rfl, trivial⟩ ?_
    refine LM.q 3 rfl (by kernel_rfl) (Ev.pure rfl) rfl ⟨Has.r 0 rfl, Has.r 1 rfl, Has.r 2 rfl, Has.r 3 rfl, Has.r 4 rfl, Has.r 5 rfl, trivial⟩ ?_
    refine LM.q 4 rfl (by kernel_rfl) (Ev.fieldAddr rfl rfl rfl rfl rfl rfl (Src.r 4 rfl) (Nat.zero_lt_succ _) rfl) rfl ⟨Has.r 0 rfl, Has.r 1 rfl, Has.r 2 rfl, Has.r 3 rfl, Has.r 4 rfl, Has.r 5 rfl, trivial⟩ ?_
    refine LM.q 5 rfl (by kernel_rfl) (Ev.load rfl rfl rfl (Src.r 4 rfl) rfl) rfl ⟨Has.r 0 rfl, Has.r 1 rfl, Has.r 2 rfl, Has.r 3 rfl, Has.r 4 rfl, Has.r 5 rfl, trivial⟩ ?_
    refine LM.q 6 rfl (by kernel_rfl) (Ev.pure rfl) rfl ⟨Has.r 0 rfl, Has.r 1 rfl, Has.r 2 rfl, Has.r 3 rfl, Has.r 4 rfl, Has.r 5 rfl, trivial⟩ ?_
    refine LM.q 7 rfl (by kernel_rfl) (Ev.idx1 (k := (w1.toNat % (madeL l).length)) rfl rfl rfl rfl rfl rfl rfl (by omega) (Src.r 0 rfl) (by rw [I64_len, NI_len]; omega)) rfl ⟨Has.r 0 rfl, Has.r 1 rfl, Has.r 2 rfl, Has.r 3 rfl, Has.r 4 rfl, Has.r 5 rfl, trivial⟩ ?_
    refine LM.q 8 rfl (by kernel_rfl) (Ev.load rfl rfl rfl (Src.r 0 rfl) (I64_get (by rw [NI_len]; omega))) rfl ⟨Has.r 0 rfl, Has.r 1 rfl, Has.r 2 rfl, Has.r 3 rfl, Has.r 4 rfl, Has.r 5 rfl, trivial⟩ ?_
    refine LM.q 9 rfl (by kernel_rfl) (Ev.fieldAddr rfl rfl rfl rfl rfl rfl (Src.r 4 rfl) (Nat.zero_lt_succ _) rfl) rfl ⟨Has.r 0 rfl, Has.r 1 rfl, Has.r 2 rfl, Has.r 3 rfl, Has.r 4 rfl, Has.r 5 rfl, trivial⟩ ?_
    refine LM.q 10 rfl (by kernel_rfl) (Ev.load rfl rfl rfl (Src.r 4 rfl) rfl) rfl ⟨Has.r 0 rfl, Has.r 1 rfl, Has.r 2 rfl, Has.r 3 rfl, Has.r 4 rfl, Has.r 5 rfl, trivial⟩ ?_
    refine LM.f 11 rfl (by kernel_rfl) ⟨Has.r 0 rfl, Has.r 1 rfl, Has.r 2 rfl, Has.r 3 rfl, Has.r 4 rfl, Has.r 5 rfl, trivial⟩ ?_
    refine L.step (Ev.pure rfl) rfl ?_
    refine L.nil (QE.m (by kernel_rfl) ?_)
    refine LM.f 12 rfl (by kernel_rfl) ⟨Has.r 0 rfl, Has.r 1 rfl, Has.r 2 rfl, Has.r 3 rfl, Has.r 4 rfl, Has.r 5 rfl, trivial⟩ ?_
    refine L.step (Ev.idx1 (k := (w0.toNat % (madeL l).length)) rfl rfl rfl rfl rfl rfl rfl (by omega) (Src.r 0 rfl) (by rw [I64_len, NI_len]; omega)) rfl ?_
    refine L.nil (QE.m (by kernel_rfl) ?_)
    refine LM.f 13 rfl (by kernel_rfl) ⟨Has.r 0 rfl, Has.r 1 rfl, Has.r 2 rfl, Has.r 3 rfl, Has.r 4 rfl, Has.r 5 rfl, trivial⟩ ?_
    refine L.step (Ev.load rfl rfl rfl (Src.r 0 rfl) (I64_get (by rw [NI_len]; omega))) rfl ?_
    refine L.nil (QE.m (by kernel_rfl) ?_)
    refine LM.f 14 rfl (by kernel_rfl) ⟨Has.r 0 rfl, Has.r 1 rfl, Has.r 2 rfl, Has.r 3 rfl, Has.r 4 rfl, Has.r 5 rfl, trivial⟩ ?_
    refine L.step (Ev.idx1 (k := (w0.toNat % (madeL l).length)) rfl rfl rfl rfl rfl rfl rfl (by omega) (Src.o 0 rfl) (by rw [I64_len, NI_len]; omega)) rfl ?_
    refine L.nil (QE.m (by kernel_rfl) ?_)
    refine LM.f 15 rfl (by kernel_rfl) ⟨Has.r 0 rfl, Has.r 1 rfl, Has.r 2 rfl, Has.r 3 rfl, Has.r 4 rfl, Has.r 5 rfl, trivial⟩ ?_
    refine L.store (j := 0) rfl rfl rfl rfl rfl rfl rfl (by exact I64_get (k := (w0.toNat % (madeL l).length)) (by rw [NI_len]; omega)) ?_
    refine L.nil (QE.m (by kernel_rfl) ?_)
    refine LM.cut [] (by kernel_rfl) ⟨Has.r 0 rfl, Has.r 1 rfl, Has.r 2 rfl, Has.r 3 rfl, Has.r 4 rfl, Has.r 5 rfl, trivial⟩ ?_
    refine LM.f 16 rfl (by kernel_rfl) trivial ?_
    refine L.step (Ev.idx1 (k := (w1.toNat % (madeL l).length)) rfl rfl rfl rfl rfl rfl rfl (by omega) (Src.o 0 rfl) (by rw [List.length_set, I64_len, NI_len]; omega)) rfl ?_
    refine L.nil (QE.m (by kernel_rfl) ?_)
    refine LM.f 17 rfl (by kernel_rfl) trivial ?_
    refine L.store (j := 0) rfl rfl rfl rfl rfl rfl rfl (by rw [I64_set]; exact I64_get (k := (w1.toNat % (madeL l).length)) (by rw [List.length_set, NI_len]; omega)) ?_
    refine L.nil (QE.m (by kernel_rfl) ?_)
    refine LM.nil (by kernel_rfl) trivial ?_
    refine QE.seq ?_
    refine C.seq ?_
    refine C.le (Γ' := [(3, ptrOf A3 0), (5, .bool true), (6, .slice A16 (madeL l).length c16), (7, ptrOf A7 0), (8, .slice A43 (0 + (ordQ (madeL l)).length) cc43), (9, .int .i64 ((madeL l).length : Int))]) (R' := [Rd A18 (I64 (NI (ordQ (madeL l)))), Rd B18 (I64 (NI (ordH (madeL l)))), Rd A16 (rowsV hs16 (J8 (madeL l))), KidsR hs16 (J8 (madeL l)), Rd A7 [.slice A18 (ordQ (madeL l)).length c18, .slice B18 (ordH (madeL l)).length e18, .int .i64 (ordE (madeL l))], Rd A3 [.int .u8 (w0.toNat : Int), .int .u8 (w1.toNat : Int), .int .u8 (w2.toNat : Int)]]) (H' := [Own 3 1 A43 (0 + (ordQ (madeL l)).length) cc43 (I64 (((NI (ordQ (madeL l))).set (w0.toNat % (madeL l).length) ((NI (ordQ (madeL l))).getD (w1.toNat % (madeL l).length) 0)).set (w1.toNat % (madeL l).length) ((NI (ordQ (madeL l))).getD (w0.toNat % (madeL l).length) 0)))]) (by exact Le.mk' (rs := [0, 1, 2, 3, 4, 5]) (hs := [0]) ⟨rfl, rfl, rfl, rfl, rfl, rfl, trivial⟩ ⟨rfl, rfl, rfl, rfl, rfl, rfl, trivial⟩ ⟨(congrArg some (own_eq rfl (by rw [I64_set, I64_set]))), trivial⟩ (by decide)) ?_
    refine C.freeze 0 rfl [] (by decide) (by decide) ?_
    refine C.region ?_
    refine L.lit rfl rfl rfl rfl rfl (by rfl) (by rfl) (by rfl) rfl rfl (fun A72 => ?_)
    refine L.step (Ev.pure rfl) rfl ?_
    refine L.nil ?_
    refine QE.seq ?_
    refine C.seq ?_
    refine C.seq ?_
    refine C.region ?_
    refine L.step (Ev.pure rfl) rfl ?_
    refine L.nil ?_
    refine QE.seq ?_
    refine C.block ?_
    refine C.loop (fun q : Nat × Option Addr × Nat => [(3, ptrOf A3 0), (5, .bool true), (6, .slice A16 (madeL l).length c16), (7, ptrOf A7 0), (8, .slice A43 (0 + (ordQ (madeL l)).length) cc43), (9, .int .i64 ((madeL l).length : Int)), (12, .slice q.2.1 (mem w2.toNat q.1).length q.2.2), (13, .int .i64 (q.1 : Int))]) (fun q : Nat × Option Addr × Nat => [Rd A43 (I64 (((NI (ordQ (madeL l))).set (w0.toNat % (madeL l).length) ((NI (ordQ (madeL l))).getD (w1.toNat % (madeL l).length) 0)).set (w1.toNat % (madeL l).length) ((NI (ordQ (madeL l))).getD (w0.toNat % (madeL l).length) 0))), Rd A18 (I64 (NI (ordQ (madeL l)))), Rd B18 (I64 (NI (ordH (madeL l)))), Rd A16 (rowsV hs16 (J8 (madeL l))), KidsR hs16 (J8 (madeL l)), Rd A7 [.slice A18 (ordQ (madeL l)).length c18, .slice B18 (ordH (madeL l)).length e18, .int .i64 (ordE (madeL l))], Rd A3 [.int .u8 (w0.toNat : Int), .int .u8 (w1.toNat : Int), .int .u8 (w2.toNat : Int)]]) (fun q : Nat × Option Addr × Nat => [Own 3 1 q.2.1 (mem w2.toNat q.1).length q.2.2 (I64 (NI (mem w2.toNat q.1)))]) (fun q : Nat × Option Addr × Nat => q.1 ≤ 7) (fun q : Nat × Option Addr × Nat => 7 - q.1) (0, A72, 0) (Nat.zero_le _) (by exact Le.mk' (rs := [0, 1, 2, 3, 4, 5, 6]) (hs := [0]) ⟨rfl, rfl, rfl, rfl, rfl, rfl, rfl, rfl, trivial⟩ ⟨rfl, rfl, rfl, rfl, rfl, rfl, rfl, trivial⟩ ⟨rfl, trivial⟩ (by decide)) ?_
    rintro ⟨t, B, d⟩ ht
    dsimp only at ht ⊢
    refine C.seq ?_
    refine C.seq ?_
    refine C.region ?_
    refine L.step (Ev.pure rfl) rfl ?_
    refine L.step (Ev.pure rfl) rfl ?_
    refine L.nil ?_
    refine QE.seq ?_
    refine C.condB 74 rfl (fun hc74 => ?_) (fun hc74 => ?_)
    · skip
      replace hc74 := of_decide_eq_true hc74
      refine C.skip ?_
      refine QE.seq ?_
      refine C.seq ?_
      refine C.block ?_
      refine C.seq ?_
      have hml := mem_len w2.toNat t
      refine C.region ?_
      refine L.step (Ev.idxArr (k := 2) (m := 2) rfl rfl rfl rfl rfl rfl (by decide) (Src.r 6 rfl) (Nat.zero_lt_succ _) rfl) rfl ?_
      refine L.step (Ev.load rfl rfl rfl (Src.r 6 rfl) rfl) rfl ?_
      refine L.step (Ev.pure rfl) rfl ?_
      refine L.step (Ev.shr8N (m := w2.toNat) (k := t) rfl rfl (by omega)) rfl ?_
      refine L.step (Ev.and8N (b := 1) rfl rfl (Nat.lt_of_le_of_lt (Nat.shiftRight_le _ _) (UInt8.toNat_lt _)) (by decide)) rfl ?_
      refine L.step (Ev.pure rfl) rfl ?_
      refine L.nil ?_
      refine QE.seq ?_
      refine C.condB 82 rfl (fun hc82 => ?_) (fun hc82 => ?_)
      · skip
        replace hc82 := i_eq hc82
        have he : (mem w2.toNat (t + 1)) = (mem w2.toNat t) ++ [t] := mem_yes ((bit_and1 _ t).1 (by omega))
        refine C.region ?_
        refine L.step (Ev.pure rfl) rfl ?_
        refine L.step (Ev.pure rfl) rfl ?_
        refine L.lit rfl rfl rfl rfl rfl (by rfl) (by rfl) (by rfl) rfl rfl (fun A85 => ?_)
        refine L.append (j := 0) rfl rfl rfl rfl (by decide) rfl rfl rfl rfl (Src.o 1 rfl) rfl (allOne rfl) (by omega) (by show _ * 8 ≤ _; omega) rfl (fun A86 cc86 => ?_)
        refine L.step (Ev.pure rfl) rfl ?_
        refine L.nil ?_
        refine QE.blkN ?_
        refine QE.seq ?_
        refine C.region ?_
        refine L.step (Ev.pure rfl) rfl ?_
        refine L.step (Ev.add rfl rfl (by omega) (by omega)) rfl ?_
        refine L.step (Ev.pure rfl) rfl ?_
        refine L.nil ?_
        refine QE.round (i := (t, B, d)) ((t + 1, A86, cc86)) (by dsimp only; omega) (by dsimp only; omega) (by exact Le.mk' (rs := [0, 1, 2, 3, 4, 5, 6]) (hs := [0]) ⟨rfl, rfl, rfl, rfl, rfl, rfl, (by dsimp only; rw [he, List.length_append]; rfl), rfl, trivial⟩ ⟨rfl, rfl, rfl, rfl, rfl, rfl, rfl, trivial⟩ ⟨(congrArg some (own_eq (by dsimp only; rw [he, List.length_append]; rfl) (by dsimp only; rw [he, NI_app, ← I64_app]; rfl))), trivial⟩ (by decide))
      · skip
        replace hc82 := i_ne hc82
        have he : (mem w2.toNat (t + 1)) = (mem w2.toNat t) := mem_no (by
          cases hb : w2.toNat.testBit t with
          | false => rfl
          | true => exact absurd (by rw [(bit_and1 _ t).2 hb]; rfl) hc82)
        refine C.skip ?_
        refine QE.blkN ?_
        refine QE.seq ?_
        refine C.region ?_
        refine L.step (Ev.pure rfl) rfl ?_
        refine L.step (Ev.add rfl rfl (by omega) (by omega)) rfl ?_
        refine L.step (Ev.pure rfl) rfl ?_
        refine L.nil ?_
        refine QE.round (i := (t, B, d)) ((t + 1, B, d)) (by dsimp only; omega) (by dsimp only; omega) (by exact Le.mk' (rs := [0, 1, 2, 3, 4, 5, 6]) (hs := [0]) ⟨rfl, rfl, rfl, rfl, rfl, rfl, (by dsimp only; rw [he]; rfl), rfl, trivial⟩ ⟨rfl, rfl, rfl, rfl, rfl, rfl, rfl, trivial⟩ ⟨(congrArg some (by dsimp only; rw [he])), trivial⟩ (by decide))
    · skip
      replace hc74 := of_decide_eq_false hc74
      refine C.exit ?_
      refine QE.tX ?_
      refine QE.tX ?_
      refine QE.blk ?_
      refine QE.seq ?_
      refine C.seq ?_
      obtain rfl : t = 7 := by omega
      refine C.freeze 0 rfl [] (by decide) (by decide) ?_
      have hm7 := mem_len w2.toNat 7
      refine C.regionQ (by kernel_rfl) ?_
      refine LQ.step (Ev.pure rfl) rfl ?_
      refine LQ.step (Ev.pure rfl) rfl ?_
      refine LQ.step (Ev.fieldAddr rfl rfl rfl rfl rfl rfl (Src.r 6 rfl) (Nat.zero_lt_succ _) rfl) rfl ?_
      refine LQ.step (Ev.load rfl rfl rfl (Src.r 6 rfl) rfl) rfl ?_
      refine LQ.call (.bool (rightF (madeL l) (((NI (ordQ (madeL l))).set (w0.toNat % (madeL l).length) ((NI (ordQ (madeL l))).getD (w1.toNat % (madeL l).length) 0)).set (w1.toNat % (madeL l).length) ((NI (ordQ (madeL l))).getD (w0.toNat % (madeL l).length) 0)) (NI (ordH (madeL l))))) (rightP_l A16 (madeL l) c16 hs16 hh16 (Nat.le_trans (made6 l) (by decide)) (fun i => Nat.le_trans (madeL_row l i) (by decide)) (0 + (ordQ (madeL l)).length) (ordH (madeL l)).length (((NI (ordQ (madeL l))).set (w0.toNat % (madeL l).length) ((NI (ordQ (madeL l))).getD (w1.toNat % (madeL l).length) 0)).set (w1.toNat % (madeL l).length) ((NI (ordQ (madeL l))).getD (w0.toNat % (madeL l).length) 0)) (NI (ordH (madeL l))) A43 B18 cc43 e18 (by rw [List.length_set, List.length_set, NI_len]; omega) (NI_len _) (by omega) (by omega)) (fun _ _ _ h => h.1) rfl ⟨(Has.r 4 rfl), (Has.r 5 rfl), (Has.r 1 rfl), (Has.r 3 rfl), trivial⟩ rfl ?_
      refine LQ.step (Ev.pure rfl) rfl ?_
      refine LQ.step (Ev.pure rfl) rfl ?_
      refine LQ.step (Ev.fieldAddr rfl rfl rfl rfl rfl rfl (Src.r 6 rfl) (Nat.zero_lt_succ _) rfl) rfl ?_
      refine LQ.step (Ev.load rfl rfl rfl (Src.r 6 rfl) rfl) rfl ?_
      refine LQ.call (.bool (rightF (madeL l) (((NI (ordQ (madeL l))).set (w0.toNat % (madeL l).length) ((NI (ordQ (madeL l))).getD (w1.toNat % (madeL l).length) 0)).set (w1.toNat % (madeL l).length) ((NI (ordQ (madeL l))).getD (w0.toNat % (madeL l).length) 0)) (NI (ordH (madeL l))))) (rightF_l A16 (madeL l) c16 hs16 hh16 (Nat.le_trans (made6 l) (by decide)) (fun i => Nat.le_trans (madeL_row l i) (by decide)) (0 + (ordQ (madeL l)).length) (ordH (madeL l)).length (((NI (ordQ (madeL l))).set (w0.toNat % (madeL l).length) ((NI (ordQ (madeL l))).getD (w1.toNat % (madeL l).length) 0)).set (w1.toNat % (madeL l).length) ((NI (ordQ (madeL l))).getD (w0.toNat % (madeL l).length) 0)) (NI (ordH (madeL l))) A43 B18 cc43 e18 (by rw [List.length_set, List.length_set, NI_len]; omega) (NI_len _) (by omega) (by omega)) (fun _ _ _ h => h.1) rfl ⟨(Has.r 4 rfl), (Has.r 5 rfl), (Has.r 1 rfl), (Has.r 3 rfl), trivial⟩ rfl ?_
      refine LQ.step (Ev.eqBool rfl rfl rfl rfl) rfl ?_
      refine LQ.step (Ev.pure rfl) rfl ?_
      refine LQ.bool 98 rfl (fun hg98 => ?_) (fun hg98 => ?_)
      · skip
        refine LQ.yes rfl ?_
        refine LQ.step (Ev.pure rfl) rfl ?_
        refine LQ.yes rfl ?_
        refine LQ.step (Ev.fieldAddr rfl rfl rfl rfl rfl rfl (Src.r 6 rfl) (Nat.zero_lt_succ _) rfl) rfl ?_
        refine LQ.yes rfl ?_
        refine LQ.step (Ev.load rfl rfl rfl (Src.r 6 rfl) rfl) rfl ?_
        refine LQ.yes rfl ?_
        refine LQ.step (Ev.pure rfl) rfl ?_
        refine LQ.yes rfl ?_
        refine LQ.call (.bool (rightF (madeL l) (NI (ordQ (madeL l))) (NI (mem w2.toNat 7)))) (rightP_l A16 (madeL l) c16 hs16 hh16 (Nat.le_trans (made6 l) (by decide)) (fun i => Nat.le_trans (madeL_row l i) (by decide)) (ordQ (madeL l)).length (mem w2.toNat 7).length (NI (ordQ (madeL l))) (NI (mem w2.toNat 7)) A18 B c18 d (NI_len _) (NI_len _) (by omega) (by omega)) (fun _ _ _ h => h.1) rfl ⟨(Has.r 4 rfl), (Has.r 5 rfl), (Has.r 2 rfl), (Has.r 0 rfl), trivial⟩ rfl ?_
        refine LQ.yes rfl ?_
        refine LQ.step (Ev.pure rfl) rfl ?_
        refine LQ.yes rfl ?_
        refine LQ.step (Ev.fieldAddr rfl rfl rfl rfl rfl rfl (Src.r 6 rfl) (Nat.zero_lt_succ _) rfl) rfl ?_
        refine LQ.yes rfl ?_
        refine LQ.step (Ev.load rfl rfl rfl (Src.r 6 rfl) rfl) rfl ?_
        refine LQ.yes rfl ?_
        refine LQ.step (Ev.pure rfl) rfl ?_
        refine LQ.yes rfl ?_
        refine LQ.call (.bool (rightF (madeL l) (NI (ordQ (madeL l))) (NI (mem w2.toNat 7)))) (rightF_l A16 (madeL l) c16 hs16 hh16 (Nat.le_trans (made6 l) (by decide)) (fun i => Nat.le_trans (madeL_row l i) (by decide)) (ordQ (madeL l)).length (mem w2.toNat 7).length (NI (ordQ (madeL l))) (NI (mem w2.toNat 7)) A18 B c18 d (NI_len _) (NI_len _) (by omega) (by omega)) (fun _ _ _ h => h.1) rfl ⟨(Has.r 4 rfl), (Has.r 5 rfl), (Has.r 2 rfl), (Has.r 0 rfl), trivial⟩ rfl ?_
        refine LQ.yes rfl ?_
        refine LQ.step (Ev.eqBool rfl rfl rfl rfl) rfl ?_
        refine LQ.step (Ev.pure rfl) rfl ?_
        refine LQ.step (Ev.pure rfl) rfl ?_
        refine LQ.bool 111 rfl (fun hg111 => ?_) (fun hg111 => ?_)
        · skip
          refine LQ.yes rfl ?_
          refine LQ.step (Ev.pure rfl) rfl ?_
          refine LQ.yes rfl ?_
          refine LQ.step (Ev.fieldAddr rfl rfl rfl rfl rfl rfl (Src.r 6 rfl) (Nat.zero_lt_succ _) rfl) rfl ?_
          refine LQ.yes rfl ?_
          refine LQ.step (Ev.load rfl rfl rfl (Src.r 6 rfl) rfl) rfl ?_
          refine LQ.yes rfl ?_
          refine LQ.step (Ev.sliceL (l := 1) rfl rfl rfl rfl rfl rfl (by omega)) rfl ?_
          refine LQ.yes rfl ?_
          refine LQ.step (Ev.fieldAddr rfl rfl rfl rfl rfl rfl (Src.r 6 rfl) (Nat.zero_lt_succ _) rfl) rfl ?_
          refine LQ.yes rfl ?_
          refine LQ.step (Ev.load rfl rfl rfl (Src.r 6 rfl) rfl) rfl ?_
          refine LQ.yes rfl ?_
          refine LQ.call (.bool false) (rightS_c A16 (madeL l) c16 hs16 hh16 (Nat.le_trans (made6 l) (by decide)) (fun i => Nat.le_trans (madeL_row l i) (by decide)) ((ordQ (madeL l)).length - 1) (subA A18 c18 1 1) (c18 - 1) (.slice B18 (ordH (madeL l)).length e18) (by omega)) (fun _ _ _ h => h.1) rfl ⟨(Has.r 4 rfl), (Has.r 5 rfl), trivial⟩ rfl ?_
          refine LQ.yes rfl ?_
          refine LQ.step (Ev.pure rfl) rfl ?_
          refine LQ.yes rfl ?_
          refine LQ.step (Ev.pure rfl) rfl ?_
          refine LQ.yes rfl ?_
          refine LQ.step (Ev.eqBool rfl rfl rfl rfl) rfl ?_
          refine LQ.step (Ev.pure rfl) rfl ?_
          refine LQ.step (Ev.pure rfl) rfl ?_
          refine LQ.bool 123 rfl (fun hg123 => ?_) (fun hg123 => ?_)
          · skip
            refine LQ.yes rfl ?_
            refine LQ.step (Ev.pure rfl) rfl ?_
            refine LQ.step (Ev.pure rfl) rfl ?_
            refine LQ.step (Ev.pure rfl) rfl ?_
            refine LQ.nil ?_
            refine QE.seq ?_
            refine C.ret ?_
            refine QE.ret (js := []) (hs := []) (vs := [_]) rfl ⟨rfl, trivial⟩ (by decide) ?_
            exact ⟨rfl, rfl, rfl⟩
          · skip
            rw [show ((((madeL l).length : Nat) : Int) == 0) = false from beq_eq_false_iff_ne.2 (by omega)] at hg123
            cases hg123
        · skip
          simp at hg111
      · skip
        simp at hg98

end Go.Proofs.Ytklbkaefjjonmaa
