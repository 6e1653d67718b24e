/-
  OrderShrinks.
-/
import Derived.Test.YtklbkaefjjonmaaUWOrO
import Derived.Test.YtklbkaefjjonmaaUSlW
namespace Go.Proofs.Ytklbkaefjjonmaa
open Go.Sl

set_option maxHeartbeats 1000000 in
theorem oShrinks_c (LA : Option Addr) (l : List UInt8) (lc : Nat) (hl : l.length ≤ 9223372036854775807) (hlc : l.length ≤ lc) (w0 w1 : UInt8) :
    Ctr X 8 [.slice LA l.length lc, .agg (List.toArray [.int .u8 (w0.toNat : Int), .int .u8 (w1.toNat : Int)])] [Rd LA (U8 l)] [] (fun v R' H' => v = .bool true ∧ R' = [] ∧ H' = []) := by
  refine Ctr.of (X := X) (fn := Try.f8) Try.func8 rfl (by kernel_rfl) rfl ?_
  intro β
  refine C.seq ?_
  refine C.region ?_
  refine L.boxA rfl rfl (fun A3 => ?_)
  refine L.step (Ev.pure rfl) rfl ?_
  refine L.nil ?_
  refine QE.seq ?_
  refine C.seq ?_
  refine C.freeze 0 rfl [] (by decide) (by decide) ?_
  refine C.region ?_
  refine L.call (js := []) (js' := []) (sanity18_c) rfl rfl rfl (by decide) trivial rfl ?_
  rintro _ _ _ ⟨rfl, rfl, rfl⟩
  refine L.step (Ev.pure rfl) rfl ?_
  refine L.nil ?_
  refine QE.seq ?_
  refine C.seq ?_
  refine C.region ?_
  refine L.lit rfl rfl rfl rfl rfl (by rfl) (by rfl) (by rfl) rfl rfl (fun A11 => ?_)
  refine L.step (Ev.pure rfl) rfl ?_
  refine L.step (Ev.pure rfl) rfl ?_
  refine L.step (Ev.pure rfl) rfl ?_
  refine L.step (Ev.cast (u := .int .i64 (((min l.length 6) : Nat) : Int)) (Ev.pure rfl) (congrArg (Value.int .i64) (by simp only [Bool.false_eq_true, if_false]; split <;> omega))) rfl ?_
  refine L.step (Ev.sliceH (h := min l.length 6) rfl rfl rfl rfl rfl rfl (by omega)) rfl ?_
  refine L.append (j := 0) rfl rfl rfl rfl (by decide) rfl rfl rfl rfl (Src.take (Src.r 1 rfl) (min l.length 6)) (by rw [List.length_take, U8_len]; show _ = _ * 1; omega) (fun v hv => U8_one _ v (List.mem_of_mem_take hv)) (by omega) (by show _ * 1 ≤ _; omega) rfl (fun A17 cc17 => ?_)
  refine L.step (Ev.pure rfl) rfl ?_
  refine L.nil ?_
  refine QE.seq ?_
  refine C.seq ?_
  refine C.seq ?_
  have hl6 : 0 + min l.length 6 = (l.take 6).length := by rw [List.length_take]; omega
  refine C.le (Γ' := [(0, .slice A17 (l.take 6).length cc17), (3, ptrOf A3 0), (5, .bool true)]) (R' := [Rd LA (U8 l), Rd A3 [.int .u8 (w0.toNat : Int), .int .u8 (w1.toNat : Int)]]) (H' := [Own 5 1 A17 (l.take 6).length cc17 (U8 (l.take 6))]) (by exact Le.mk' (rs := [1, 0]) (hs := [0]) ⟨(congrArg (fun n => some (Value.slice A17 n cc17)) hl6), rfl, rfl, trivial⟩ ⟨rfl, rfl, trivial⟩ ⟨(congrArg some (own_eq hl6 (by rw [List.nil_append, U8_take, take_six]))), trivial⟩ (by decide)) ?_
  refine C.region ?_
  refine L.step (Ev.pure rfl) rfl ?_
  refine L.step (Ev.pure rfl) rfl ?_
  refine L.step (Ev.pure rfl) rfl ?_
  refine L.nil ?_
  refine QE.seq ?_
  refine C.condB 20 rfl (fun hc20 => ?_) (fun hc20 => ?_)
  · skip
    replace hc20 := i_eq hc20
    refine C.seq ?_
    refine C.region ?_
    refine L.step (Ev.pure rfl) rfl ?_
    refine L.step (Ev.pure rfl) rfl ?_
    refine L.nil ?_
    refine QE.seq ?_
    refine C.ret ?_
    refine QE.tR ?_
    refine QE.ret (js := []) (hs := []) (vs := [_]) rfl ⟨rfl, trivial⟩ (by decide) ?_
    exact ⟨rfl, rfl, rfl⟩
  · skip
    replace hc20 := i_ne hc20
    refine C.skip ?_
    refine QE.seq ?_
    refine C.seq ?_
    refine C.freeze 0 rfl [] (by decide) (by decide) ?_
    have h66 : (l.take 6).length ≤ 6 := by rw [List.length_take]; omega
    have h60 : 0 < (l.take 6).length := by omega
    have hi6 : (w0.toNat % (l.take 6).length) < (l.take 6).length := Nat.mod_lt _ h60
    have hb6 : (w1.toNat % 6) < 6 := Nat.mod_lt _ (by decide)
    have hb8 : 1 * 2 ^ (w1.toNat % 6) < 256 := by
      have := Nat.pow_lt_pow_right (a := 2) (by decide) hb6
      omega
    have hc8 : (UInt8.ofNat (1 * 2 ^ (w1.toNat % 6))).toNat = 1 * 2 ^ (w1.toNat % 6) := by
      rw [UInt8.toNat_ofNat']
      exact Nat.mod_eq_of_lt hb8
    obtain ⟨⟨e1, e2⟩, e3, e4⟩ := shrinks (less_set hi6 (by rw [hc8, Nat.one_mul])) hb6
    refine C.region ?_
    refine L.lit rfl rfl rfl rfl rfl (by rfl) (by rfl) (by rfl) rfl rfl (fun A22 => ?_)
    refine L.step (Ev.pure rfl) rfl ?_
    refine L.append (j := 0) rfl rfl rfl rfl (by decide) rfl rfl rfl rfl (Src.r 0 rfl) (by rw [U8_len]; exact (Nat.mul_one _).symm) (U8_one _) (by omega) (by show _ * 1 ≤ _; omega) rfl (fun A24 cc24 => ?_)
    refine L.step (Ev.pure rfl) rfl ?_
    refine L.nil ?_
    refine QE.seq ?_
    refine C.seq ?_
    refine C.region ?_
    refine L.step (Ev.idxArr (k := 0) (m := 0) rfl rfl rfl rfl rfl rfl (by decide) (Src.r 2 rfl) (Nat.zero_lt_succ _) rfl) rfl ?_
    refine L.step (Ev.load rfl rfl rfl (Src.r 2 rfl) rfl) rfl ?_
    first | refine L.step (Ev.byteInt rfl rfl rfl rfl) rfl ?_ | refine L.step (Ev.toInt rfl rfl rfl rfl (by omega) (by omega)) rfl ?_
    refine L.step (Ev.pure rfl) rfl ?_
    refine L.step (Ev.pure rfl) rfl ?_
    refine L.step (Ev.cast (u := .int .i64 (((w0.toNat % (l.take 6).length) : Nat) : Int)) (Ev.rem rfl rfl (by omega) (by omega)) (congrArg (Value.int .i64) (Int.natCast_emod _ _).symm)) rfl ?_
    refine L.step (Ev.pure rfl) rfl ?_
    refine L.nil ?_
    refine QE.seq ?_
    refine C.seq ?_
    refine C.regionM [Rd A17 (U8 (l.take 6)), Rd LA (U8 l), Rd A3 [.int .u8 (w0.toNat : Int), .int .u8 (w1.toNat : Int)]] ⟨Has.r 0 rfl, Has.r 1 rfl, Has.r 2 rfl, trivial⟩ ?_
    refine LM.q 0 rfl (by kernel_rfl) (Ev.pure rfl) rfl ⟨Has.r 0 rfl, Has.r 1 rfl, Has.r 2 rfl, trivial⟩ ?_
    refine LM.q 1 rfl (by kernel_rfl) (Ev.pure rfl) rfl ⟨Has.r 0 rfl, Has.r 1 rfl, Has.r 2 rfl, trivial⟩ ?_
    refine LM.q 2 rfl (by kernel_rfl) (Ev.pure rfl) rfl ⟨Has.r 0 rfl, Has.r 1 rfl, Has.r 2 rfl, trivial⟩ ?_
    refine LM.q 3 rfl (by kernel_rfl) (Ev.pure rfl) rfl ⟨Has.r 0 rfl, Has.r 1 rfl, Has.r 2 rfl, trivial⟩ ?_
    refine LM.q 4 rfl (by kernel_rfl) (Ev.idx1 (k := (w0.toNat % (l.take 6).length)) rfl rfl rfl rfl rfl rfl rfl hi6 (Src.r 0 rfl) (by rw [U8_len]; omega)) rfl ⟨Has.r 0 rfl, Has.r 1 rfl, Has.r 2 rfl, trivial⟩ ?_
    refine LM.q 5 rfl (by kernel_rfl) (Ev.load rfl rfl rfl (Src.r 0 rfl) (U8_get hi6)) rfl ⟨Has.r 0 rfl, Has.r 1 rfl, Has.r 2 rfl, trivial⟩ ?_
    refine LM.f 6 rfl (by kernel_rfl) ⟨Has.r 0 rfl, Has.r 1 rfl, Has.r 2 rfl, trivial⟩ ?_
    refine L.step (Ev.idxArr (k := 1) (m := 1) rfl rfl rfl rfl rfl rfl (by decide) (Src.r 2 rfl) (Nat.zero_lt_succ _) rfl) rfl ?_
    refine L.nil (QE.m (by kernel_rfl) ?_)
    refine LM.f 7 rfl (by kernel_rfl) ⟨Has.r 0 rfl, Has.r 1 rfl, Has.r 2 rfl, trivial⟩ ?_
    refine L.step (Ev.load rfl rfl rfl (Src.r 2 rfl) rfl) rfl ?_
    refine L.nil (QE.m (by kernel_rfl) ?_)
    refine LM.f 8 rfl (by kernel_rfl) ⟨Has.r 0 rfl, Has.r 1 rfl, Has.r 2 rfl, trivial⟩ ?_
    refine L.step (Ev.cast (u := .int .u8 (((w1.toNat % 6) : Nat) : Int)) (Ev.rem rfl rfl (by omega) (by decide)) (congrArg (Value.int .u8) (by rw [Int.natCast_emod]; rfl))) rfl ?_
    refine L.nil (QE.m (by kernel_rfl) ?_)
    refine LM.f 9 rfl (by kernel_rfl) ⟨Has.r 0 rfl, Has.r 1 rfl, Has.r 2 rfl, trivial⟩ ?_
    refine L.step (Ev.cast (u := .int .u8 ((UInt8.ofNat (1 * 2 ^ (w1.toNat % 6))).toNat : Int)) (Ev.shl8 (m := 1) (k := (w1.toNat % 6)) rfl rfl (by omega) hb8) (by rw [hc8])) rfl ?_
    refine L.nil (QE.m (by kernel_rfl) ?_)
    refine LM.f 10 rfl (by kernel_rfl) ⟨Has.r 0 rfl, Has.r 1 rfl, Has.r 2 rfl, trivial⟩ ?_
    refine L.step (Ev.andNot8 rfl rfl) rfl ?_
    refine L.nil (QE.m (by kernel_rfl) ?_)
    refine LM.cut [] (by kernel_rfl) ⟨Has.r 0 rfl, Has.r 1 rfl, Has.r 2 rfl, trivial⟩ ?_
    refine LM.f 11 rfl (by kernel_rfl) trivial ?_
    refine L.step (Ev.idx1 (k := (w0.toNat % (l.take 6).length)) rfl rfl rfl rfl rfl rfl rfl (by omega) (Src.o 0 rfl) (by rw [List.nil_append, U8_len]; omega)) rfl ?_
    refine L.nil (QE.m (by kernel_rfl) ?_)
    refine LM.f 12 rfl (by kernel_rfl) trivial ?_
    refine L.store (j := 0) rfl rfl rfl rfl rfl rfl rfl (by exact U8_get hi6) ?_
    refine L.nil (QE.m (by kernel_rfl) ?_)
    refine LM.nil (by kernel_rfl) trivial ?_
    refine QE.seq ?_
    refine C.seq ?_
    have hlf : 0 + (l.take 6).length = ((l.take 6).set (w0.toNat % (l.take 6).length) ((l.take 6).getD (w0.toNat % (l.take 6).length) 0 &&& ~~~(UInt8.ofNat (1 * 2 ^ (w1.toNat % 6))))).length := by rw [List.length_set]; omega
    refine C.le (Γ' := [(0, .slice A17 (l.take 6).length cc17), (5, .bool true), (6, .slice A24 ((l.take 6).set (w0.toNat % (l.take 6).length) ((l.take 6).getD (w0.toNat % (l.take 6).length) 0 &&& ~~~(UInt8.ofNat (1 * 2 ^ (w1.toNat % 6))))).length cc24)]) (R' := [Rd LA (U8 l), Rd A17 (U8 (l.take 6))]) (H' := [Own 5 1 A24 ((l.take 6).set (w0.toNat % (l.take 6).length) ((l.take 6).getD (w0.toNat % (l.take 6).length) 0 &&& ~~~(UInt8.ofNat (1 * 2 ^ (w1.toNat % 6))))).length cc24 (U8 ((l.take 6).set (w0.toNat % (l.take 6).length) ((l.take 6).getD (w0.toNat % (l.take 6).length) 0 &&& ~~~(UInt8.ofNat (1 * 2 ^ (w1.toNat % 6))))))]) (by exact Le.mk' (rs := [1, 0]) (hs := [0]) ⟨rfl, rfl, (congrArg (fun n => some (Value.slice A24 n cc24)) hlf), trivial⟩ ⟨rfl, rfl, trivial⟩ ⟨(congrArg some (own_eq hlf (by rw [List.nil_append, U8_set]))), trivial⟩ (by decide)) ?_
    refine C.freeze 0 rfl [] (by decide) (by decide) ?_
    refine C.region ?_
    refine L.step (Ev.pure rfl) rfl ?_
    refine L.callR (js := []) (js' := []) (made18_c A17 (l.take 6) cc17 (by omega)) rfl rfl rfl (by decide) ⟨(Has.r 2 rfl), trivial⟩ rfl ?_
    rintro _ _ _ ⟨A44, c44, hs44, rfl, rfl, rfl, hh44⟩
    refine L.callR (js := []) (js' := []) (ordered_c A44 (madeL (l.take 6)) c44 hs44 hh44 (Nat.le_trans (made6 (l.take 6)) (by decide)) (fun i => Nat.le_trans (madeL_row (l.take 6) i) (by decide))) rfl rfl rfl (by decide) ⟨(Has.r 0 rfl), (Has.r 1 rfl), trivial⟩ rfl ?_
    rintro _ _ _ ⟨A45, B45, c45, e45, rfl, rfl, rfl⟩
    refine L.step (Ev.pure rfl) rfl ?_
    refine L.callR (js := []) (js' := []) (made18_c A24 ((l.take 6).set (w0.toNat % (l.take 6).length) ((l.take 6).getD (w0.toNat % (l.take 6).length) 0 &&& ~~~(UInt8.ofNat (1 * 2 ^ (w1.toNat % 6))))) cc24 (by rw [List.length_set]; omega)) rfl rfl rfl (by decide) ⟨(Has.r 4 rfl), trivial⟩ rfl ?_
    rintro _ _ _ ⟨A47, c47, hs47, rfl, rfl, rfl, hh47⟩
    refine L.callR (js := []) (js' := []) (ordered_c A47 (madeL ((l.take 6).set (w0.toNat % (l.take 6).length) ((l.take 6).getD (w0.toNat % (l.take 6).length) 0 &&& ~~~(UInt8.ofNat (1 * 2 ^ (w1.toNat % 6)))))) c47 hs47 hh47 (Nat.le_trans (made6 ((l.take 6).set (w0.toNat % (l.take 6).length) ((l.take 6).getD (w0.toNat % (l.take 6).length) 0 &&& ~~~(UInt8.ofNat (1 * 2 ^ (w1.toNat % 6)))))) (by decide)) (fun i => Nat.le_trans (madeL_row ((l.take 6).set (w0.toNat % (l.take 6).length) ((l.take 6).getD (w0.toNat % (l.take 6).length) 0 &&& ~~~(UInt8.ofNat (1 * 2 ^ (w1.toNat % 6))))) i) (by decide))) rfl rfl rfl (by decide) ⟨(Has.r 0 rfl), (Has.r 1 rfl), trivial⟩ rfl ?_
    rintro _ _ _ ⟨A48, B48, c48, e48, rfl, rfl, rfl⟩
    refine L.alloc rfl rfl rfl (fun A8 => ?_)
    refine L.alloc rfl rfl rfl (fun A9 => ?_)
    refine L.storeA (j := 0) rfl rfl rfl rfl rfl (Nat.zero_lt_succ _) rfl rfl ?_
    refine L.storeA (j := 1) rfl rfl rfl rfl rfl (Nat.zero_lt_succ _) rfl rfl ?_
    refine L.nil ?_
    refine QE.seq ?_
    refine C.seq ?_
    refine C.freeze 0 rfl [1] (by decide) (by decide) ?_
    refine C.norm (H' := [_]) [0] ⟨rfl, trivial⟩ (by decide) ?_
    refine C.freeze 0 rfl [] (by decide) (by decide) ?_
    have hB1 := (ord_small (made6 (l.take 6))).1
    have hB2 := (ord_small (made6 ((l.take 6).set (w0.toNat % (l.take 6).length) ((l.take 6).getD (w0.toNat % (l.take 6).length) 0 &&& ~~~(UInt8.ofNat (1 * 2 ^ (w1.toNat % 6))))))).1
    refine C.region ?_
    refine L.step (Ev.fieldAddr rfl rfl rfl rfl rfl rfl (Src.r 1 rfl) (Nat.zero_lt_succ _) rfl) rfl ?_
    refine L.step (Ev.load rfl rfl rfl (Src.r 1 rfl) rfl) rfl ?_
    refine L.step (Ev.pure rfl) rfl ?_
    refine L.step (Ev.pure rfl) rfl ?_
    refine L.bool 52 rfl (fun hg52 => ?_) (fun hg52 => ?_)
    · skip
      replace hg52 := i_eq hg52
      refine L.yes rfl ?_
      refine L.step (Ev.fieldAddr rfl rfl rfl rfl rfl rfl (Src.r 0 rfl) (Nat.zero_lt_succ _) rfl) rfl ?_
      refine L.yes rfl ?_
      refine L.step (Ev.load rfl rfl rfl (Src.r 0 rfl) rfl) rfl ?_
      refine L.yes rfl ?_
      refine L.step (Ev.pure rfl) rfl ?_
      refine L.step (Ev.pure rfl) rfl ?_
      refine L.step (Ev.pure rfl) rfl ?_
      refine L.bool 57 rfl (fun hg57 => ?_) (fun hg57 => ?_)
      · skip
        replace hg57 := i_eq hg57
        refine L.yes rfl ?_
        refine L.step (Ev.fieldAddr rfl rfl rfl rfl rfl rfl (Src.r 0 rfl) (Nat.zero_lt_succ _) rfl) rfl ?_
        refine L.yes rfl ?_
        refine L.step (Ev.load rfl rfl rfl (Src.r 0 rfl) rfl) rfl ?_
        refine L.yes rfl ?_
        refine L.step (Ev.pure rfl) rfl ?_
        refine L.yes rfl ?_
        refine L.step (Ev.fieldAddr rfl rfl rfl rfl rfl rfl (Src.r 1 rfl) (Nat.zero_lt_succ _) rfl) rfl ?_
        refine L.yes rfl ?_
        refine L.step (Ev.load rfl rfl rfl (Src.r 1 rfl) rfl) rfl ?_
        refine L.yes rfl ?_
        refine L.step (Ev.pure rfl) rfl ?_
        refine L.yes rfl ?_
        refine L.step (Ev.pure rfl) rfl ?_
        refine L.step (Ev.pure rfl) rfl ?_
        refine L.step (Ev.pure rfl) rfl ?_
        refine L.bool 66 rfl (fun hg66 => ?_) (fun hg66 => ?_)
        · skip
          replace hg66 := of_decide_eq_true hg66
          refine L.yes rfl ?_
          refine L.step (Ev.fieldAddr rfl rfl rfl rfl rfl rfl (Src.r 1 rfl) (Nat.zero_lt_succ _) rfl) rfl ?_
          refine L.yes rfl ?_
          refine L.step (Ev.load rfl rfl rfl (Src.r 1 rfl) rfl) rfl ?_
          refine L.yes rfl ?_
          refine L.step (Ev.pure rfl) rfl ?_
          refine L.yes rfl ?_
          refine L.step (Ev.fieldAddr rfl rfl rfl rfl rfl rfl (Src.r 0 rfl) (Nat.zero_lt_succ _) rfl) rfl ?_
          refine L.yes rfl ?_
          refine L.step (Ev.load rfl rfl rfl (Src.r 0 rfl) rfl) rfl ?_
          refine L.yes rfl ?_
          refine L.step (Ev.pure rfl) rfl ?_
          refine L.yes rfl ?_
          refine L.step (Ev.add rfl rfl (by omega) (by omega)) rfl ?_
          refine L.yes rfl ?_
          refine L.step (Ev.pure rfl) rfl ?_
          refine L.step (Ev.pure rfl) rfl ?_
          refine L.step (Ev.pure rfl) rfl ?_
          refine L.bool 76 rfl (fun hg76 => ?_) (fun hg76 => ?_)
          · skip
            replace hg76 := of_decide_eq_true hg76
            refine L.yes rfl ?_
            refine L.step (Ev.pure rfl) rfl ?_
            refine L.step (Ev.pure rfl) rfl ?_
            refine L.step (Ev.pure rfl) rfl ?_
            refine L.nil ?_
            refine QE.seq ?_
            refine C.ret ?_
            refine QE.ret (js := []) (hs := []) (vs := [_]) rfl ⟨rfl, trivial⟩ (by decide) ?_
            exact ⟨rfl, rfl, rfl⟩
          · skip
            replace hg76 := of_decide_eq_false hg76
            omega
        · skip
          replace hg66 := of_decide_eq_false hg66
          omega
      · skip
        replace hg57 := i_ne hg57
        exact absurd e2 hg57
    · skip
      replace hg52 := i_ne hg52
      exact absurd e1 hg52

end Go.Proofs.Ytklbkaefjjonmaa
