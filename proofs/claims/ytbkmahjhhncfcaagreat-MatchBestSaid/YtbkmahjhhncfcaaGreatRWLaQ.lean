/-
  Made words, labels and links, in the reference.
-/
import Derived.Test.YtbkmahjhhncfcaaGreatRWLaP
namespace Go.Proofs.YtbkmahjhhncfcaaGreat
open Go.Sl

theorem I64_take2 (l : List Int) (m : Nat) : (I64 l).take m = I64 (l.take m) := by simp [I64, List.map_take]
theorem I64_drop2 (l : List Int) (m : Nat) : (I64 l).drop m = I64 (l.drop m) := by simp [I64, List.map_drop]
theorem high24 {w : Nat} (h : w < 4294967296) : w &&& 4278190080 = w / 16777216 * 16777216 := by
 have e := clr_bits (a := w) (k := 24) (by decide) h
 rw [show ~~~BitVec.ofNat 32 (2 ^ 24 - 1) = BitVec.ofNat 32 4278190080 by decide, BitVec.toNat_and, BitVec.toNat_ofNat, BitVec.toNat_ofNat, Nat.mod_eq_of_lt h] at e
 exact e
theorem high16 {w : Nat} (h : w < 4294967296) : w &&& 4294901760 = w / 65536 * 65536 := by
 have e := clr_bits (a := w) (k := 16) (by decide) h
 rw [show ~~~BitVec.ofNat 32 (2 ^ 16 - 1) = BitVec.ofNat 32 4294901760 by decide, BitVec.toNat_and, BitVec.toNat_ofNat, BitVec.toNat_ofNat, Nat.mod_eq_of_lt h] at e
 exact e

set_option maxHeartbeats 1000000 in
theorem made2_c (r : List UInt8) (hr : r.length = 4) :
   Ctr X 31 [.agg (List.toArray (U8 r))] [] [] (fun v R' H' => v = .int .u32 ((madeW r : Nat) : Int) ∧ R' = [] ∧ H' = []) := by
 have h0 := UInt8.toNat_lt (r.getD 0 0)
 have h1 := UInt8.toNat_lt (r.getD 1 0)
 have h2 := UInt8.toNat_lt (r.getD 2 0)
 have h3 := UInt8.toNat_lt (r.getD 3 0)
 have hmd := md_lt r
 have hO : mdO r = (r.getD 0 0).toNat % 10 := rfl
 refine Ctr.of (X := X) (fn := Tryz.f31) Tryz.func31 rfl (by kernel_rfl) rfl ?_
 intro β
 refine C.seq (C.region ?_)
 refine L.boxA rfl rfl (fun A1 => ?_)
 refine Lpu rfl rfl ?_; refine L.nil (QE.seq (C.seq ?_)); refine C.freeze 0 rfl [] (by decide) (by decide) ?_; refine C.regionQ (by kernel_rfl) ?_; refine LQ.step (Ev.idxArr (k := 0) (m := 0) rfl rfl rfl rfl rfl rfl (by decide) (Src.r 0 rfl) (by rw [U8_len]; omega) rfl) rfl ?_; refine LQ.step (Ev.load rfl rfl rfl (Src.r 0 rfl) (U8_get (by omega))) rfl ?_; refine LQ.step (Ev.cast (u := .int .u8 ((((r.getD 0 0).toNat % 10 : Nat)) : Int)) (Ev.rem rfl rfl (by omega) (by decide)) (congrArg (Value.int .u8) (by omega))) rfl ?_; refine LQ.step (Ev.toU32 (q := mdO r) rfl rfl rfl rfl (by omega)) rfl ?_; refine LQ.step (Ev.idxArr (k := 1) (m := 1) rfl rfl rfl rfl rfl rfl (by decide) (Src.r 0 rfl) (by rw [U8_len]; omega) rfl) rfl ?_; refine LQ.step (Ev.load rfl rfl rfl (Src.r 0 rfl) (U8_get (by omega))) rfl ?_; refine LQ.step (Ev.toU32 (q := (r.getD 1 0).toNat) rfl rfl rfl rfl (by omega)) rfl ?_; refine LQ.step (Ev.pure rfl) rfl ?_; refine LQ.step (Ev.pure rfl) rfl ?_; refine LQ.nil ?_; refine QE.seq ?_; refine C.seqJ (fun u : Unit => [(1, ptrOf A1 0), (3, .int .u32 ((mdO r : Nat) : Int)), (4, .int .u32 ((mdA r : Nat) : Int))]) (fun u : Unit => [Rd A1 (U8 r)]) (fun u : Unit => []) (fun u : Unit => True) ?_ ?_
 ·
  refine C.seq (C.region ?_); refine L.step (Ev.idxArr (k := 0) (m := 0) rfl rfl rfl rfl rfl rfl (by decide) (Src.r 0 rfl) (by rw [U8_len]; omega) rfl) rfl ?_; refine L.step (Ev.load rfl rfl rfl (Src.r 0 rfl) (U8_get (by omega))) rfl ?_; refine Lpu rfl rfl ?_; refine L.nil (QE.seq ?_)
  refine C.condB 16 rfl (fun hc16 => ?_) (fun hc16 => ?_)
  ·
   replace hc16 := of_decide_eq_true hc16
   refine C.region ?_; refine Lpu rfl rfl ?_; refine L.step (Ev.cast (u := .int .u32 (((r.getD 1 0).toNat % 16 : Nat) : Int)) (Ev.rem rfl rfl (by omega) (by decide)) (congrArg (Value.int .u32) (by omega))) rfl ?_; refine Lpu rfl rfl ?_; refine L.nil ?_
   refine QE.join (()) (by exact trivial) (by exact Le.mk' (rs := [0]) (hs := []) ⟨rfl, rfl, (by rw [show mdA r = (r.getD 1 0).toNat % 16 from if_pos (by omega)]; rfl), trivial⟩ ⟨rfl, trivial⟩ trivial (by decide))
  ·
   replace hc16 := of_decide_eq_false hc16
   refine C.skip ?_
   refine QE.join (()) (by exact trivial) (by exact Le.mk' (rs := [0]) (hs := []) ⟨rfl, rfl, (by rw [show mdA r = (r.getD 1 0).toNat from if_neg (by omega)]; rfl), trivial⟩ ⟨rfl, trivial⟩ trivial (by decide))
 ·
  intro _ _
  refine C.seq ?_; refine C.regionQ (by kernel_rfl) ?_; refine LQ.step (Ev.idxArr (k := 2) (m := 2) rfl rfl rfl rfl rfl rfl (by decide) (Src.r 0 rfl) (by rw [U8_len]; omega) rfl) rfl ?_; refine LQ.step (Ev.load rfl rfl rfl (Src.r 0 rfl) (U8_get (by omega))) rfl ?_; refine LQ.step (Ev.toU32 (q := (r.getD 2 0).toNat) rfl rfl rfl rfl (by omega)) rfl ?_; refine LQ.step (Ev.idxArr (k := 3) (m := 3) rfl rfl rfl rfl rfl rfl (by decide) (Src.r 0 rfl) (by rw [U8_len]; omega) rfl) rfl ?_; refine LQ.step (Ev.load rfl rfl rfl (Src.r 0 rfl) (U8_get (by omega))) rfl ?_; refine LQ.step (Ev.toU32 (q := (r.getD 3 0).toNat) rfl rfl rfl rfl (by omega)) rfl ?_; refine LQ.step (Ev.pure rfl) rfl ?_; refine LQ.step (Ev.pure rfl) rfl ?_; refine LQ.nil ?_; refine QE.seq ?_; refine C.seqJ (fun u : Unit => [(3, .int .u32 ((mdO r : Nat) : Int)), (4, .int .u32 ((mdA r : Nat) : Int)), (5, .int .u32 ((mdLB r : Nat) : Int)), (6, .int .u32 ((mdLC r : Nat) : Int))]) (fun u : Unit => []) (fun u : Unit => []) (fun u : Unit => True) ?_ ?_
  ·
   refine C.seq (C.region ?_); refine Lpu rfl rfl ?_; refine Lpu rfl rfl ?_; refine Lpu rfl rfl ?_
   refine L.bool 27 rfl (fun hg27 => ?_) (fun hg27 => ?_)
   ·
    replace hg27 := i_eq hg27
    refine L.no rfl rfl rfl ?_; refine L.no rfl rfl rfl ?_; refine Lpu rfl rfl ?_; refine Lpu rfl rfl ?_; refine L.no rfl rfl rfl ?_; refine L.no rfl rfl rfl ?_; refine Lpu rfl rfl ?_; refine L.nil (QE.seq ?_)
    refine C.cond rfl (fun _ => ?_) (fun h => by cases h)
    refine C.region ?_; refine Lpu rfl rfl ?_; refine L.step (Ev.cast (u := .int .u32 (((r.getD 2 0).toNat % 17 : Nat) : Int)) (Ev.rem rfl rfl (by omega) (by decide)) (congrArg (Value.int .u32) (by omega))) rfl ?_; refine Lpu rfl rfl ?_; refine L.step (Ev.cast (u := .int .u32 (((r.getD 3 0).toNat % 17 : Nat) : Int)) (Ev.rem rfl rfl (by omega) (by decide)) (congrArg (Value.int .u32) (by omega))) rfl ?_; refine Lpu rfl rfl ?_; refine Lpu rfl rfl ?_; refine L.nil ?_
    have h3t : md3 (mdO r) := by unfold md3; omega
    refine QE.join (()) (by exact trivial) (by exact Le.mk' (rs := []) (hs := []) ⟨rfl, rfl, (by rw [show mdLB r = (r.getD 2 0).toNat % 17 from if_pos h3t]; rfl), (by rw [show mdLC r = (r.getD 3 0).toNat % 17 from if_pos h3t]; rfl), trivial⟩ trivial trivial (by decide))
   ·
    replace hg27 := i_ne hg27
    refine L.yes rfl ?_; refine Lpu rfl rfl ?_; refine L.yes rfl ?_; refine Lpu rfl rfl ?_; refine Lpu rfl rfl ?_; refine Lpu rfl rfl ?_
    refine L.bool 31 rfl (fun hg31 => ?_) (fun hg31 => ?_)
    ·
     replace hg31 := i_eq hg31
     refine L.no rfl rfl rfl ?_; refine L.no rfl rfl rfl ?_; refine Lpu rfl rfl ?_; refine L.nil (QE.seq ?_)
     refine C.cond rfl (fun _ => ?_) (fun h => by cases h)
     refine C.region ?_; refine Lpu rfl rfl ?_; refine L.step (Ev.cast (u := .int .u32 (((r.getD 2 0).toNat % 17 : Nat) : Int)) (Ev.rem rfl rfl (by omega) (by decide)) (congrArg (Value.int .u32) (by omega))) rfl ?_; refine Lpu rfl rfl ?_; refine L.step (Ev.cast (u := .int .u32 (((r.getD 3 0).toNat % 17 : Nat) : Int)) (Ev.rem rfl rfl (by omega) (by decide)) (congrArg (Value.int .u32) (by omega))) rfl ?_; refine Lpu rfl rfl ?_; refine Lpu rfl rfl ?_; refine L.nil ?_
     have h3t : md3 (mdO r) := by unfold md3; omega
     refine QE.join (()) (by exact trivial) (by exact Le.mk' (rs := []) (hs := []) ⟨rfl, rfl, (by rw [show mdLB r = (r.getD 2 0).toNat % 17 from if_pos h3t]; rfl), (by rw [show mdLC r = (r.getD 3 0).toNat % 17 from if_pos h3t]; rfl), trivial⟩ trivial trivial (by decide))
    ·
     replace hg31 := i_ne hg31
     refine L.yes rfl ?_; refine Lpu rfl rfl ?_; refine L.yes rfl ?_; refine Lpu rfl rfl ?_; refine Lpu rfl rfl ?_; refine L.nil (QE.seq ?_)
     refine C.condB 34 rfl (fun hc34 => ?_) (fun hc34 => ?_)
     ·
      replace hc34 := i_eq hc34
      refine C.region ?_; refine Lpu rfl rfl ?_; refine L.step (Ev.cast (u := .int .u32 (((r.getD 2 0).toNat % 17 : Nat) : Int)) (Ev.rem rfl rfl (by omega) (by decide)) (congrArg (Value.int .u32) (by omega))) rfl ?_; refine Lpu rfl rfl ?_; refine L.step (Ev.cast (u := .int .u32 (((r.getD 3 0).toNat % 17 : Nat) : Int)) (Ev.rem rfl rfl (by omega) (by decide)) (congrArg (Value.int .u32) (by omega))) rfl ?_; refine Lpu rfl rfl ?_; refine Lpu rfl rfl ?_; refine L.nil ?_
      have h3t : md3 (mdO r) := by unfold md3; omega
      refine QE.join (()) (by exact trivial) (by exact Le.mk' (rs := []) (hs := []) ⟨rfl, rfl, (by rw [show mdLB r = (r.getD 2 0).toNat % 17 from if_pos h3t]; rfl), (by rw [show mdLC r = (r.getD 3 0).toNat % 17 from if_pos h3t]; rfl), trivial⟩ trivial trivial (by decide))
     ·
      replace hc34 := i_ne hc34
      refine C.skip ?_
      have h3f : ¬ md3 (mdO r) := by unfold md3; omega
      refine QE.join (()) (by exact trivial) (by exact Le.mk' (rs := []) (hs := []) ⟨rfl, rfl, (by rw [show mdLB r = (r.getD 2 0).toNat from if_neg h3f]; rfl), (by rw [show mdLC r = (r.getD 3 0).toNat from if_neg h3f]; rfl), trivial⟩ trivial trivial (by decide))
  ·
   intro _ _
   refine C.seq (C.region ?_); refine Lpu rfl rfl ?_; refine L.step (Ev.shl32 (k := 24) (q := mdO r * 16777216) rfl rfl rfl (by decide) rfl (by omega)) rfl ?_; refine Lpu rfl rfl ?_; refine L.step (Ev.shl32 (k := 16) (q := mdA r * 65536) rfl rfl rfl (by decide) rfl (by omega)) rfl ?_; refine L.step (Ev.beside32 24 (p := 16777216) rfl (c := mdO r) (q := mdO r * 16777216 + mdA r * 65536) rfl rfl rfl (by omega) (by omega) (by omega) rfl) rfl ?_; refine Lpu rfl rfl ?_; refine L.step (Ev.shl32 (k := 8) (q := mdLB r * 256) rfl rfl rfl (by decide) rfl (by omega)) rfl ?_; refine L.step (Ev.beside32 16 (p := 65536) rfl (c := mdO r * 256 + mdA r) (q := mdO r * 16777216 + mdA r * 65536 + mdLB r * 256) rfl rfl (by omega) (by omega) (by omega) (by omega) rfl) rfl ?_; refine Lpu rfl rfl ?_; refine L.step (Ev.beside32 8 (p := 256) rfl (c := mdO r * 65536 + mdA r * 256 + mdLB r) (q := madeW r) rfl rfl (by omega) (by omega) (by omega) (by omega) rfl) rfl ?_; refine Lpu rfl rfl ?_; refine L.nil (QE.seq (C.ret ?_)); refine QE.ret (js := []) (hs := []) (vs := [_]) rfl ⟨rfl, trivial⟩ (by decide) ?_
   exact ⟨rfl, rfl, rfl⟩

theorem isCode_c (B : Option Addr) (b : List UInt8) (bc : Nat) (hl : b.length ≤ 1000000) :
   Ctr X 45 [.slice B b.length bc] [] [] (fun v R' H' => v = .bool (decide (codeB b)) ∧ R' = [] ∧ H' = []) := by
 refine Ctr.of (X := X) (fn := Tryz.f45) Tryz.func45 rfl (by kernel_rfl) rfl ?_
 intro β
 refine C.seq (C.region ?_); refine Lpu rfl rfl ?_; refine L.nil (QE.seq (C.seq (C.region ?_))); refine Lpu rfl rfl ?_; refine Lpu rfl rfl ?_; refine L.step (Ev.rem rfl rfl (by omega) (by decide)) rfl ?_; refine Lpu rfl rfl ?_; refine Lpu rfl rfl ?_
 refine L.bool 7 rfl (fun hg7 => ?_) (fun hg7 => ?_)
 ·
  replace hg7 := i_eq hg7
  refine L.yes rfl ?_; refine Lpu rfl rfl ?_; refine L.yes rfl ?_; refine Lpu rfl rfl ?_; refine L.yes rfl ?_; refine Lpu rfl rfl ?_; refine Lpu rfl rfl ?_; refine Lpu rfl rfl ?_; refine L.nil (QE.seq (C.ret ?_)); refine QE.ret (js := []) (hs := []) (vs := [_]) rfl ⟨rfl, trivial⟩ (by decide) ?_
  refine ⟨congrArg Value.bool ?_, rfl, rfl⟩
  rw [Bool.eq_iff_iff]
  simp only [decide_eq_true_eq]
  unfold codeB
  omega
 ·
  replace hg7 := i_ne hg7
  refine L.no rfl rfl rfl ?_; refine L.no rfl rfl rfl ?_; refine L.no rfl rfl rfl ?_; refine Lpu rfl rfl ?_; refine Lpu rfl rfl ?_; refine L.nil (QE.seq (C.ret ?_)); refine QE.ret (js := []) (hs := []) (vs := [_]) rfl ⟨rfl, trivial⟩ (by decide) ?_
  refine ⟨congrArg Value.bool (decide_eq_false (fun h => ?_)).symm, rfl, rfl⟩
  have := h.1
  omega

theorem linkedR_c (x : Ins) (n : Int) :
   Ctr X 48 [.agg (List.toArray (in5 x)), .int .i64 n] [] [] (fun v R' H' => v = .bool (linkB x n) ∧ R' = [] ∧ H' = []) := by
 refine Ctr.of (X := X) (fn := Tryz.f48) Tryz.func48 rfl (by kernel_rfl) rfl ?_
 intro β
 refine C.seq (C.region ?_)
 refine L.boxA rfl rfl (fun A2 => ?_)
 refine Lpu rfl rfl ?_; refine L.nil (QE.seq (C.seq ?_)); refine C.freeze 0 rfl [] (by decide) (by decide) ?_; refine C.region ?_; refine L.step (Ev.fieldAddr rfl rfl rfl rfl rfl rfl (Src.r 0 rfl) (Nat.zero_lt_succ _) rfl) rfl ?_; refine L.step (Ev.load rfl rfl rfl (Src.r 0 rfl) rfl) rfl ?_; refine Lpu rfl rfl ?_; refine Lpu rfl rfl ?_
 refine L.bool 8 rfl (fun hg8 => ?_) (fun hg8 => ?_)
 ·
  replace hg8 := of_decide_eq_true hg8
  refine L.yes rfl ?_; refine L.step (Ev.fieldAddr rfl rfl rfl rfl rfl rfl (Src.r 0 rfl) (Nat.zero_lt_succ _) rfl) rfl ?_; refine L.yes rfl ?_; refine L.step (Ev.load rfl rfl rfl (Src.r 0 rfl) rfl) rfl ?_; refine L.yes rfl ?_; refine Lpu rfl rfl ?_; refine Lpu rfl rfl ?_; refine Lpu rfl rfl ?_
  refine L.bool 13 rfl (fun hg13 => ?_) (fun hg13 => ?_)
  ·
   replace hg13 := of_decide_eq_true hg13
   refine L.yes rfl ?_; refine L.step (Ev.fieldAddr rfl rfl rfl rfl rfl rfl (Src.r 0 rfl) (Nat.zero_lt_succ _) rfl) rfl ?_; refine L.yes rfl ?_; refine L.step (Ev.load rfl rfl rfl (Src.r 0 rfl) rfl) rfl ?_; refine L.yes rfl ?_; refine Lpu rfl rfl ?_; refine Lpu rfl rfl ?_; refine Lpu rfl rfl ?_
   refine L.bool 18 rfl (fun hg18 => ?_) (fun hg18 => ?_)
   ·
    replace hg18 := of_decide_eq_true hg18
    refine L.yes rfl ?_; refine L.step (Ev.fieldAddr rfl rfl rfl rfl rfl rfl (Src.r 0 rfl) (Nat.zero_lt_succ _) rfl) rfl ?_; refine L.yes rfl ?_; refine L.step (Ev.load rfl rfl rfl (Src.r 0 rfl) rfl) rfl ?_; refine L.yes rfl ?_; refine Lpu rfl rfl ?_; refine L.yes rfl ?_; refine Lpu rfl rfl ?_; refine Lpu rfl rfl ?_; refine Lpu rfl rfl ?_; refine L.nil (QE.seq (C.ret ?_)); refine QE.ret (js := []) (hs := []) (vs := [_]) rfl ⟨rfl, trivial⟩ (by decide) ?_
    refine ⟨congrArg Value.bool ?_, rfl, rfl⟩
    unfold linkB
    rw [Bool.eq_iff_iff]
    simp only [decide_eq_true_eq]
    omega
   ·
    replace hg18 := of_decide_eq_false hg18
    refine L.no rfl rfl rfl ?_; refine L.no rfl rfl rfl ?_; refine L.no rfl rfl rfl ?_; refine L.no rfl rfl rfl ?_; refine Lpu rfl rfl ?_; refine Lpu rfl rfl ?_; refine L.nil (QE.seq (C.ret ?_)); refine QE.ret (js := []) (hs := []) (vs := [_]) rfl ⟨rfl, trivial⟩ (by decide) ?_
    refine ⟨congrArg Value.bool ?_, rfl, rfl⟩
    unfold linkB
    exact (decide_eq_false (by omega)).symm
  ·
   replace hg13 := of_decide_eq_false hg13
   refine L.no rfl rfl rfl ?_; refine L.no rfl rfl rfl ?_; refine L.no rfl rfl rfl ?_; refine Lpu rfl rfl ?_; refine Lpu rfl rfl ?_; refine L.no rfl rfl rfl ?_; refine L.no rfl rfl rfl ?_; refine L.no rfl rfl rfl ?_; refine L.no rfl rfl rfl ?_; refine Lpu rfl rfl ?_; refine Lpu rfl rfl ?_; refine L.nil (QE.seq (C.ret ?_)); refine QE.ret (js := []) (hs := []) (vs := [_]) rfl ⟨rfl, trivial⟩ (by decide) ?_
   refine ⟨congrArg Value.bool ?_, rfl, rfl⟩
   unfold linkB
   exact (decide_eq_false (by omega)).symm
 ·
  replace hg8 := of_decide_eq_false hg8
  refine L.no rfl rfl rfl ?_; refine L.no rfl rfl rfl ?_; refine L.no rfl rfl rfl ?_; refine Lpu rfl rfl ?_; refine Lpu rfl rfl ?_; refine L.no rfl rfl rfl ?_; refine L.no rfl rfl rfl ?_; refine L.no rfl rfl rfl ?_; refine Lpu rfl rfl ?_; refine Lpu rfl rfl ?_; refine L.no rfl rfl rfl ?_; refine L.no rfl rfl rfl ?_; refine L.no rfl rfl rfl ?_; refine L.no rfl rfl rfl ?_; refine Lpu rfl rfl ?_; refine Lpu rfl rfl ?_; refine L.nil (QE.seq (C.ret ?_)); refine QE.ret (js := []) (hs := []) (vs := [_]) rfl ⟨rfl, trivial⟩ (by decide) ?_
  refine ⟨congrArg Value.bool ?_, rfl, rfl⟩
  unfold linkB
  exact (decide_eq_false (by omega)).symm

theorem index_c (LA : Option Addr) (l : List Int) (lc : Nat) (n : Int) (hl : l.length ≤ 1000000) :
   Ctr X 51 [.slice LA l.length lc, .int .i64 n] [Rd LA (I64 l)] [] (fun v R' H' => v = .int .i64 (idxI l n) ∧ R' = [] ∧ H' = []) := by
 refine Ctr.of (X := X) (fn := Tryz.f51) Tryz.func51 rfl (by kernel_rfl) rfl ?_
 intro β
 refine C.seq (C.region ?_); refine Lpu rfl rfl ?_; refine L.nil (QE.seq (C.seq (C.seq (C.region ?_)))); refine Lpu rfl rfl ?_; refine L.nil (QE.seq (C.block ?_)); refine C.loop (fun k : Nat => [(0, .slice LA l.length lc), (1, .int .i64 n), (5, .int .i64 (k : Int))]) (fun k : Nat => [Rd LA (I64 l)]) (fun k : Nat => []) (fun k : Nat => k ≤ l.length ∧ ∀ i, i < k → l.getD i 0 ≠ n) (fun k : Nat => l.length - k) 0 ⟨Nat.zero_le _, fun i hi => absurd hi (Nat.not_lt_zero _)⟩ (by exact Le.mk' (rs := [0]) (hs := []) ⟨rfl, rfl, rfl, trivial⟩ ⟨rfl, trivial⟩ trivial (by decide)) ?_
 rintro k ⟨hk, hb⟩
 refine C.seq (C.seq (C.region ?_)); refine Lpu rfl rfl ?_; refine Lpu rfl rfl ?_; refine Lpu rfl rfl ?_; refine Lpu rfl rfl ?_; refine L.nil (QE.seq ?_)
 refine C.condB 9 rfl (fun hc9 => ?_) (fun hc9 => ?_)
 ·
  replace hc9 := of_decide_eq_true hc9
  refine C.skip (QE.seq (C.seq (C.block (C.seq (C.region ?_))))); refine Lpu rfl rfl ?_; refine Lpu rfl rfl ?_; refine L.step (Ev.idx1 (k := k) rfl rfl rfl rfl rfl rfl rfl (by omega) (Src.r 0 rfl) (by rw [I64_len]; omega)) rfl ?_; refine L.step (Ev.load rfl rfl rfl (Src.r 0 rfl) (I64_get (by omega))) rfl ?_; refine Lpu rfl rfl ?_; refine Lpu rfl rfl ?_; refine L.nil (QE.seq ?_)
  refine C.condB 17 rfl (fun hc17 => ?_) (fun hc17 => ?_)
  ·
   replace hc17 := i_eq hc17
   refine C.seq (C.region ?_); refine Lpu rfl rfl ?_; refine Lpu rfl rfl ?_; refine L.nil (QE.seq (C.ret (QE.bR (QE.tR (QE.tR (QE.bR (QE.tR ?_))))))); refine QE.ret (js := []) (hs := []) (vs := [_]) rfl ⟨rfl, trivial⟩ (by decide) ?_
   rw [idxI_some (by omega) hc17 hb]
   exact ⟨rfl, rfl, rfl⟩
  ·
   replace hc17 := i_ne hc17
   refine C.skip ?_; refine QE.blkN ?_; refine QE.seq (C.region ?_); refine Lpu rfl rfl ?_; refine L.step (Ev.add rfl rfl (by omega) (by omega)) rfl ?_; refine Lpu rfl rfl ?_; refine L.nil ?_
   have hb2 : ∀ i, i < k + 1 → l.getD i 0 ≠ n := by
     intro i hi
     by_cases e : i < k
     · exact hb i e
     · obtain rfl : i = k := by omega
       exact hc17
   refine QE.round (k + 1) (by exact ⟨by omega, hb2⟩) (by omega) (by exact Le.mk' (rs := [0]) (hs := []) ⟨rfl, rfl, rfl, trivial⟩ ⟨rfl, trivial⟩ trivial (by decide))
 ·
  replace hc9 := of_decide_eq_false hc9
  refine C.exit ?_; refine QE.tX ?_; refine QE.tX ?_; refine QE.blk ?_; refine QE.seq (C.seq (C.region ?_)); refine Lpu rfl rfl ?_; refine L.nil (QE.seq (C.ret ?_)); refine QE.ret (js := []) (hs := []) (vs := [_]) rfl ⟨rfl, trivial⟩ (by decide) ?_
  rw [idxI_none (fun i hi => hb i (by omega))]
  exact ⟨rfl, rfl, rfl⟩

set_option maxHeartbeats 1000000 in
theorem insertR_c (LA : Option Addr) (l : List Int) (lc : Nat) (n : Int) (hl : l.length ≤ 1000000) (hs : l.Pairwise (· < ·)) :
   Ctr X 49 [.slice LA l.length lc, .int .i64 n] [] [Own 3 1 LA l.length lc (I64 l)] (fun v R' H' => ∃ (A : Option Addr) (c : Nat), v = .slice A (insS l n).length c ∧ R' = [] ∧ H' = [Own 3 1 A (insS l n).length c (I64 (insS l n))]) := by
 refine Ctr.of (X := X) (fn := Tryz.f49) Tryz.func49 rfl (by kernel_rfl) rfl ?_
 intro β
 refine C.seq (C.region ?_); refine Lpu rfl rfl ?_; refine L.nil (QE.seq (C.seq (C.seq (C.region ?_)))); refine Lpu rfl rfl ?_; refine Lpu rfl rfl ?_; refine L.call (js := []) (js' := [0]) (index_c LA l lc n hl) rfl rfl rfl (by decide) ⟨(Has.o 0 rfl), trivial⟩ rfl ?_
 rintro _ _ _ ⟨rfl, rfl, rfl⟩
 refine L.norm (H' := [_]) [0] ⟨rfl, trivial⟩ (by decide) ?_; refine Lpu rfl rfl ?_; refine L.nil (QE.seq ?_)
 refine C.condB 10 rfl (fun hc10 => ?_) (fun hc10 => ?_)
 ·
  replace hc10 := of_decide_eq_true hc10
  refine C.seq (C.region ?_); refine Lpu rfl rfl ?_; refine Lpu rfl rfl ?_; refine L.nil (QE.seq (C.ret (QE.tR ?_))); refine QE.ret (js := []) (hs := [0]) (vs := [_]) rfl ⟨rfl, trivial⟩ (by decide) ?_
  rw [insS_in hs (idxI_in.1 (by omega))]
  exact ⟨LA, lc, rfl, rfl, rfl⟩
 ·
  replace hc10 := of_decide_eq_false hc10
  have hni : n ∉ l := fun h => by have := idxI_in.2 h; omega
  refine C.skip (QE.seq (C.seq (C.region ?_))); refine Lpu rfl rfl ?_; refine L.nil (QE.seq ?_); refine C.seqJ (fun k : Nat => [(0, .slice LA l.length lc), (1, .int .i64 n), (5, .int .i64 (k : Int))]) (fun k : Nat => []) (fun k : Nat => [Own 3 1 LA l.length lc (I64 l)]) (fun k : Nat => k ≤ l.length ∧ insS l n = l.take k ++ [n] ++ l.drop k) ?_ ?_
  ·
   refine C.block ?_; refine C.loop (fun k : Nat => [(0, .slice LA l.length lc), (1, .int .i64 n), (5, .int .i64 (k : Int))]) (fun k : Nat => []) (fun k : Nat => [Own 3 1 LA l.length lc (I64 l)]) (fun k : Nat => k ≤ l.length ∧ ∀ i, i < k → l.getD i 0 < n) (fun k : Nat => l.length - k) 0 ⟨Nat.zero_le _, fun i hi => absurd hi (Nat.not_lt_zero _)⟩ (by exact Le.mk' (rs := []) (hs := [0]) ⟨rfl, rfl, rfl, trivial⟩ trivial ⟨rfl, trivial⟩ (by decide)) ?_
   rintro k ⟨hk, hb⟩
   refine C.seq (C.seq (C.region ?_)); refine Lpu rfl rfl ?_; refine Lpu rfl rfl ?_; refine Lpu rfl rfl ?_; refine Lpu rfl rfl ?_; refine Lpu rfl rfl ?_
   refine L.bool 16 rfl (fun hg16 => ?_) (fun hg16 => ?_)
   ·
    replace hg16 := of_decide_eq_true hg16
    refine L.yes rfl ?_; refine Lpu rfl rfl ?_; refine L.yes rfl ?_; refine Lpu rfl rfl ?_; refine L.yes rfl ?_; refine L.step (Ev.idx1 (k := k) rfl rfl rfl rfl rfl rfl rfl (by omega) (Src.o 0 rfl) (by rw [I64_len]; omega)) rfl ?_; refine L.yes rfl ?_; refine L.step (Ev.load rfl rfl rfl (Src.o 0 rfl) (I64_get (by omega))) rfl ?_; refine L.yes rfl ?_; refine Lpu rfl rfl ?_; refine L.yes rfl ?_; refine Lpu rfl rfl ?_; refine Lpu rfl rfl ?_; refine L.nil (QE.seq ?_)
    refine C.condB 23 rfl (fun hc23 => ?_) (fun hc23 => ?_)
    ·
     replace hc23 := of_decide_eq_true hc23
     refine C.skip (QE.seq (C.block (C.region ?_))); refine Lpu rfl rfl ?_; refine L.step (Ev.add rfl rfl (by omega) (by omega)) rfl ?_; refine Lpu rfl rfl ?_; refine L.nil ?_; refine QE.blkN ?_
     have hb2 : ∀ i, i < k + 1 → l.getD i 0 < n := by
       intro i hi
       by_cases e : i < k
       · exact hb i e
       · obtain rfl : i = k := by omega
         omega
     refine QE.round (k + 1) (by exact ⟨by omega, hb2⟩) (by omega) (by exact Le.mk' (rs := []) (hs := [0]) ⟨rfl, rfl, rfl, trivial⟩ trivial ⟨rfl, trivial⟩ (by decide))
    ·
     replace hc23 := of_decide_eq_false hc23
     refine C.exit ?_; refine QE.tX ?_; refine QE.tX ?_; refine QE.blk ?_
     refine QE.join (k) (by exact ⟨hk, insS_at hk hb (fun h => by have h2 : l.getD k 0 ≠ n := fun e => hni (by rw [← e, List.getD_eq_getElem?_getD, List.getElem?_eq_getElem h]; exact List.getElem_mem h); omega)⟩) (by exact Le.mk' (rs := []) (hs := [0]) ⟨rfl, rfl, rfl, trivial⟩ trivial ⟨rfl, trivial⟩ (by decide))
   ·
    replace hg16 := of_decide_eq_false hg16
    refine L.no rfl rfl rfl ?_; refine L.no rfl rfl rfl ?_; refine L.no rfl rfl rfl ?_; refine L.no rfl rfl rfl ?_; refine L.no rfl rfl rfl ?_; refine L.no rfl rfl rfl ?_; refine Lpu rfl rfl ?_; refine L.nil (QE.seq ?_)
    refine C.cond rfl (fun h => by cases h) (fun _ => ?_)
    refine C.exit ?_; refine QE.tX ?_; refine QE.tX ?_; refine QE.blk ?_
    refine QE.join (k) (by exact ⟨hk, insS_at hk hb (fun h => by omega)⟩) (by exact Le.mk' (rs := []) (hs := [0]) ⟨rfl, rfl, rfl, trivial⟩ trivial ⟨rfl, trivial⟩ (by decide))
  ·
   rintro k ⟨hk, hins⟩
   refine C.seq ?_
   refine C.cap 0 rfl (fun hcap => ?_)
   refine C.region ?_
   refine L.lit0S rfl rfl rfl rfl (fun A26 => ?_)
   refine Lpu rfl rfl ?_; refine Lpu rfl rfl ?_; refine L.step (Ev.sliceH (h := k) rfl rfl rfl rfl rfl rfl (by omega)) rfl ?_
   refine L.append (j := 1) rfl rfl rfl rfl (by decide) rfl rfl rfl rfl ((Src.take (Src.o 0 rfl) k).cast (I64_take2 l k)) (by rw [I64_len, List.length_take]; show _ = k * 1; omega) (I64_one _) (by omega) (by show _ * 8 ≤ _; omega) rfl (fun A30 cc30 => ?_)
   refine Lpu rfl rfl ?_; refine L.nil (QE.seq (C.seq (C.region ?_))); refine Lpu rfl rfl ?_; refine Lpu rfl rfl ?_
   refine L.lit rfl rfl rfl rfl rfl (by rfl) (by rfl) (by rfl) rfl rfl (fun A33 => ?_)
   refine L.append (j := 1) rfl rfl rfl rfl (by decide) rfl rfl rfl rfl (Src.o 2 rfl) rfl (I64_one [n]) (by omega) (by show _ * 8 ≤ _; omega) rfl (fun A34 cc34 => ?_)
   refine Lpu rfl rfl ?_; refine L.nil (QE.seq (C.seq (C.region ?_))); refine Lpu rfl rfl ?_; refine Lpu rfl rfl ?_; refine Lpu rfl rfl ?_; refine L.step (Ev.sliceL (l := k) rfl rfl rfl rfl rfl rfl (by omega)) rfl ?_
   refine L.append (j := 1) rfl rfl rfl rfl (by decide) rfl rfl rfl rfl ((Src.sub (Src.o 0 rfl) lc k 1 (by rw [I64_len]; omega)).cast (by rw [Nat.mul_one, I64_drop2])) (by rw [I64_len, List.length_drop]; exact (Nat.mul_one _).symm) (I64_one _) (by omega) (by show _ * 8 ≤ _; omega) rfl (fun A39 cc39 => ?_)
   refine Lpu rfl rfl ?_; refine L.nil (QE.seq (C.ret ?_)); refine QE.ret (js := []) (hs := [1]) (vs := [_]) rfl ⟨rfl, trivial⟩ (by decide) ?_
   refine ⟨A39, cc39, ?_, rfl, ?_⟩
   · rw [hins, List.length_append, List.length_append, List.length_take, List.length_drop, Nat.min_eq_left hk]
     refine congrArg (fun z => Value.slice A39 z cc39) ?_
     show 0 + k + 1 + _ = k + 1 + _
     omega
   · refine congrArg (fun z => [z]) (own_eq2 ?_ ?_)
     · rw [hins, List.length_append, List.length_append, List.length_take, List.length_drop, Nat.min_eq_left hk]
       show 0 + k + 1 + _ = k + 1 + _
       omega
     · rw [hins, ← I64_app, ← I64_app]
       rfl

theorem numbered_c (w o n : Nat) (hw : w < 4294967296) (hn : n < 65536) :
   Ctr X 50 [.int .u32 (w : Int), .int .i64 (o : Int), .int .i64 (n : Int)] [] [] (fun v R' H' => v = .int .u32 ((numW w (o : Int) n : Nat) : Int) ∧ R' = [] ∧ H' = []) := by
 refine Ctr.of (X := X) (fn := Tryz.f50) Tryz.func50 rfl (by kernel_rfl) rfl ?_
 intro β
 refine C.seq (C.region ?_); refine Lpu rfl rfl ?_; refine L.nil (QE.seq (C.seq (C.seq (C.region ?_)))); refine Lpu rfl rfl ?_; refine Lpu rfl rfl ?_; refine Lpu rfl rfl ?_
 refine L.bool 9 rfl (fun hg9 => ?_) (fun hg9 => ?_)
 ·
  replace hg9 := i_eq hg9
  refine L.no rfl rfl rfl ?_; refine L.no rfl rfl rfl ?_; refine Lpu rfl rfl ?_; refine L.nil (QE.seq ?_)
  refine C.cond rfl (fun _ => ?_) (fun h => by cases h)
  refine C.seq (C.region ?_); refine Lpu rfl rfl ?_; refine L.step (Ev.and32 (b := 4278190080) (q := w / 16777216 * 16777216) rfl rfl rfl hw (by decide) (high24 hw)) rfl ?_; refine Lpu rfl rfl ?_; refine L.step (Ev.toU32 (q := n) rfl rfl rfl rfl (by omega)) rfl ?_; refine L.step (Ev.beside32 24 (p := 16777216) rfl (c := w / 16777216) (q := w / 16777216 * 16777216 + n) rfl rfl rfl (by omega) (by omega) (by omega) rfl) rfl ?_; refine Lpu rfl rfl ?_; refine L.nil (QE.seq (C.ret (QE.tR ?_))); refine QE.ret (js := []) (hs := []) (vs := [_]) rfl ⟨rfl, trivial⟩ (by decide) ?_
  refine ⟨congrArg (fun z : Nat => Value.int .u32 (z : Int)) ?_, rfl, rfl⟩
  unfold numW
  rw [show fldF ((o : Int).toNat) = 24 by unfold fldF; rw [Int.toNat_natCast, if_pos (by omega)]]
 ·
  replace hg9 := i_ne hg9
  refine L.yes rfl ?_; refine Lpu rfl rfl ?_; refine L.yes rfl ?_; refine Lpu rfl rfl ?_; refine Lpu rfl rfl ?_; refine L.nil (QE.seq ?_)
  refine C.condB 12 rfl (fun hc12 => ?_) (fun hc12 => ?_)
  ·
   replace hc12 := i_eq hc12
   refine C.seq (C.region ?_); refine Lpu rfl rfl ?_; refine L.step (Ev.and32 (b := 4278190080) (q := w / 16777216 * 16777216) rfl rfl rfl hw (by decide) (high24 hw)) rfl ?_; refine Lpu rfl rfl ?_; refine L.step (Ev.toU32 (q := n) rfl rfl rfl rfl (by omega)) rfl ?_; refine L.step (Ev.beside32 24 (p := 16777216) rfl (c := w / 16777216) (q := w / 16777216 * 16777216 + n) rfl rfl rfl (by omega) (by omega) (by omega) rfl) rfl ?_; refine Lpu rfl rfl ?_; refine L.nil (QE.seq (C.ret (QE.tR ?_))); refine QE.ret (js := []) (hs := []) (vs := [_]) rfl ⟨rfl, trivial⟩ (by decide) ?_
   refine ⟨congrArg (fun z : Nat => Value.int .u32 (z : Int)) ?_, rfl, rfl⟩
   unfold numW
   rw [show fldF ((o : Int).toNat) = 24 by unfold fldF; rw [Int.toNat_natCast, if_pos (by omega)]]
  ·
   replace hc12 := i_ne hc12
   refine C.skip (QE.seq (C.seq (C.region ?_))); refine Lpu rfl rfl ?_; refine L.step (Ev.and32 (b := 4294901760) (q := w / 65536 * 65536) rfl rfl rfl hw (by decide) (high16 hw)) rfl ?_; refine Lpu rfl rfl ?_; refine L.step (Ev.toU32 (q := n) rfl rfl rfl rfl (by omega)) rfl ?_; refine L.step (Ev.beside32 16 (p := 65536) rfl (c := w / 65536) (q := w / 65536 * 65536 + n) rfl rfl rfl (by omega) (by omega) (by omega) rfl) rfl ?_; refine Lpu rfl rfl ?_; refine L.nil (QE.seq (C.ret ?_)); refine QE.ret (js := []) (hs := []) (vs := [_]) rfl ⟨rfl, trivial⟩ (by decide) ?_
   refine ⟨congrArg (fun z : Nat => Value.int .u32 (z : Int)) ?_, rfl, rfl⟩
   unfold numW
   rw [show fldF ((o : Int).toNat) = 16 by unfold fldF; rw [Int.toNat_natCast, if_neg (by omega)]]

end Go.Proofs.YtbkmahjhhncfcaaGreat
