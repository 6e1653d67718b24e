/-
  Plans: sizes, the sectors that change.
-/
import Derived.Test.YtpccfdnmnnnboaaGreatQWOyB
import Derived.Test.YtpccfdnmnnnboaaGreatQSlS
namespace Go.Proofs.YtpccfdnmnnnboaaGreat
open Go.Sl

theorem NI_at {l : List Nat} {i : Nat} (h : i < l.length) : (I64 (NI l))[i]? = some (.int .i64 ((l.getD i 0 : Nat) : Int)) := by simp [I64, NI, h]

theorem in19_c (a b : Int) :
   Ctr X 84 [.int .i64 a, .int .i64 b] [] [] (fun v R' H' => v = .bool (decide (1 ≤ a) && decide (a ≤ b)) ∧ R' = [] ∧ H' = []) := by
 refine Ctr.of (X := X) (fn := Tryz.f84) Tryz.func84 rfl (by kernel_rfl) rfl ?_
 intro β
 refine C.seq (C.region ?_); refine Lpu rfl rfl ?_; refine L.nil (QE.seq (C.seq (C.region ?_))); refine Lpu rfl rfl ?_; refine Lpu rfl rfl ?_; refine Lpu rfl rfl ?_
 refine L.bool 7 rfl (fun hg7 => ?_) (fun hg7 => ?_)
 ·
  replace hg7 := of_decide_eq_true hg7
  refine L.yes rfl ?_; refine Lpu rfl rfl ?_; refine L.yes rfl ?_; refine Lpu rfl rfl ?_; refine L.yes rfl ?_; refine Lpu rfl rfl ?_; refine Lpu rfl rfl ?_; refine Lpu rfl rfl ?_; refine L.nil (QE.seq (C.ret ?_)); refine QE.ret (js := []) (hs := []) (vs := [_]) rfl ⟨rfl, trivial⟩ (by decide) ?_
  refine ⟨congrArg Value.bool ?_, rfl, rfl⟩
  simp [*]
 ·
  replace hg7 := of_decide_eq_false hg7
  refine L.no rfl rfl rfl ?_; refine L.no rfl rfl rfl ?_; refine L.no rfl rfl rfl ?_; refine Lpu rfl rfl ?_; refine Lpu rfl rfl ?_; refine L.nil (QE.seq (C.ret ?_)); refine QE.ret (js := []) (hs := []) (vs := [_]) rfl ⟨rfl, trivial⟩ (by decide) ?_
  refine ⟨congrArg Value.bool ?_, rfl, rfl⟩
  simp [*]

theorem sized_c (sz n : Int) (lf : Bool) (inn out : Int) (ops : List Po) (OA : Option Addr) (oc : Nat) (qv hv : Value) :
   Ctr X 43 [.agg (List.toArray [.int .i64 sz, .int .i64 n, .bool lf, .int .i64 inn, .int .i64 out, .slice OA ops.length oc, qv, hv])] [] [] (fun v R' H' => v = .bool (sizB sz n inn out) ∧ R' = [] ∧ H' = []) := by
 refine Ctr.of (X := X) (fn := Tryz.f43) Tryz.func43 rfl (by kernel_rfl) rfl ?_
 intro β
 refine C.seq (C.region ?_)
 refine L.boxA rfl rfl (fun A1 => ?_)
 refine Lpu rfl rfl ?_; refine L.nil (QE.seq (C.seq ?_)); refine C.freeze 0 rfl [] (by decide) (by decide) ?_; refine C.region ?_; refine Lpu rfl rfl ?_; refine L.nil (QE.seq (C.seq (C.region ?_))); refine Lpu rfl rfl ?_; refine L.step (Ev.fieldAddr rfl rfl rfl rfl rfl rfl (Src.r 0 rfl) (Nat.zero_lt_succ _) rfl) rfl ?_; refine L.step (Ev.load rfl rfl rfl (Src.r 0 rfl) rfl) rfl ?_; refine L.callv (js := []) (js' := []) (in19_c sz 4096) rfl rfl rfl rfl rfl (by decide) trivial rfl ?_
 rintro _ _ _ ⟨rfl, rfl, rfl⟩
 refine Lpu rfl rfl ?_
 refine L.bool 8 rfl (fun hg8 => ?_) (fun hg8 => ?_)
 ·
  simp only [Bool.and_eq_true, decide_eq_true_eq] at hg8
  refine L.yes rfl ?_; refine Lpu rfl rfl ?_; refine L.yes rfl ?_; refine L.step (Ev.fieldAddr rfl rfl rfl rfl rfl rfl (Src.r 0 rfl) (Nat.zero_lt_succ _) rfl) rfl ?_; refine L.yes rfl ?_; refine L.step (Ev.load rfl rfl rfl (Src.r 0 rfl) rfl) rfl ?_; refine L.yes rfl ?_; refine L.callv (js := []) (js' := []) (in19_c n 64) rfl rfl rfl rfl rfl (by decide) trivial rfl ?_
  rintro _ _ _ ⟨rfl, rfl, rfl⟩
  refine Lpu rfl rfl ?_; refine Lpu rfl rfl ?_
  refine L.bool 14 rfl (fun hg14 => ?_) (fun hg14 => ?_)
  ·
   simp only [Bool.and_eq_true, decide_eq_true_eq] at hg14
   have hp := prod_le hg8.1 hg8.2 hg14.1 hg14.2
   refine L.yes rfl ?_; refine L.step (Ev.fieldAddr rfl rfl rfl rfl rfl rfl (Src.r 0 rfl) (Nat.zero_lt_succ _) rfl) rfl ?_; refine L.yes rfl ?_; refine L.step (Ev.fieldAddr rfl rfl rfl rfl rfl rfl (Src.r 0 rfl) (Nat.zero_lt_succ _) rfl) rfl ?_; refine L.yes rfl ?_; refine L.step (Ev.load rfl rfl rfl (Src.r 0 rfl) rfl) rfl ?_; refine L.yes rfl ?_; refine L.step (Ev.fieldAddr rfl rfl rfl rfl rfl rfl (Src.r 0 rfl) (Nat.zero_lt_succ _) rfl) rfl ?_; refine L.yes rfl ?_; refine L.step (Ev.fieldAddr rfl rfl rfl rfl rfl rfl (Src.r 0 rfl) (Nat.zero_lt_succ _) rfl) rfl ?_; refine L.yes rfl ?_; refine L.step (Ev.load rfl rfl rfl (Src.r 0 rfl) rfl) rfl ?_; refine L.yes rfl ?_; refine L.step (Ev.cast (u := .int .i64 (max inn out)) (Ev.pure rfl) (congrArg (Value.int .i64) (by simp only [if_true]; split <;> omega))) rfl ?_; refine L.yes rfl ?_; refine L.step (Ev.fieldAddr rfl rfl rfl rfl rfl rfl (Src.r 0 rfl) (Nat.zero_lt_succ _) rfl) rfl ?_; refine L.yes rfl ?_; refine L.step (Ev.load rfl rfl rfl (Src.r 0 rfl) rfl) rfl ?_; refine L.yes rfl ?_; refine L.step (Ev.fieldAddr rfl rfl rfl rfl rfl rfl (Src.r 0 rfl) (Nat.zero_lt_succ _) rfl) rfl ?_; refine L.yes rfl ?_; refine L.step (Ev.load rfl rfl rfl (Src.r 0 rfl) rfl) rfl ?_; refine L.yes rfl ?_; refine L.step (Ev.mul rfl rfl (by omega) (by omega)) rfl ?_; refine L.yes rfl ?_; refine Lpu rfl rfl ?_; refine Lpu rfl rfl ?_; refine Lpu rfl rfl ?_; refine L.nil (QE.seq (C.ret ?_)); refine QE.ret (js := []) (hs := []) (vs := [_]) rfl ⟨rfl, trivial⟩ (by decide) ?_
   exact ⟨congrArg Value.bool (by rw [Bool.eq_iff_iff, sizB_iff, decide_eq_true_eq]; omega), rfl, rfl⟩
  ·
   first
     | simp only [Bool.and_eq_false_iff, decide_eq_false_iff_not] at hg14
     | skip
   refine L.no rfl rfl rfl ?_; refine L.no rfl rfl rfl ?_; refine L.no rfl rfl rfl ?_; refine L.no rfl rfl rfl ?_; refine L.no rfl rfl rfl ?_; refine L.no rfl rfl rfl ?_; refine L.no rfl rfl rfl ?_; refine L.no rfl rfl rfl ?_; refine L.no rfl rfl rfl ?_; refine L.no rfl rfl rfl ?_; refine L.no rfl rfl rfl ?_; refine L.no rfl rfl rfl ?_; refine L.no rfl rfl rfl ?_; refine Lpu rfl rfl ?_; refine Lpu rfl rfl ?_; refine L.nil (QE.seq (C.ret ?_)); refine QE.ret (js := []) (hs := []) (vs := [_]) rfl ⟨rfl, trivial⟩ (by decide) ?_
   exact ⟨congrArg Value.bool ((sizB_no (by omega)).symm), rfl, rfl⟩
 ·
  simp only [Bool.and_eq_false_iff, decide_eq_false_iff_not] at hg8
  refine L.no rfl rfl rfl ?_; refine L.no rfl rfl rfl ?_; refine L.no rfl rfl rfl ?_; refine L.no rfl rfl rfl ?_; refine Lpu rfl rfl ?_; refine Lpu rfl rfl ?_; refine L.no rfl rfl rfl ?_; refine L.no rfl rfl rfl ?_; refine L.no rfl rfl rfl ?_; refine L.no rfl rfl rfl ?_; refine L.no rfl rfl rfl ?_; refine L.no rfl rfl rfl ?_; refine L.no rfl rfl rfl ?_; refine L.no rfl rfl rfl ?_; refine L.no rfl rfl rfl ?_; refine L.no rfl rfl rfl ?_; refine L.no rfl rfl rfl ?_; refine L.no rfl rfl rfl ?_; refine L.no rfl rfl rfl ?_; refine Lpu rfl rfl ?_; refine Lpu rfl rfl ?_; refine L.nil (QE.seq (C.ret ?_)); refine QE.ret (js := []) (hs := []) (vs := [_]) rfl ⟨rfl, trivial⟩ (by decide) ?_
  exact ⟨congrArg Value.bool ((sizB_no (by omega)).symm), rfl, rfl⟩

set_option maxHeartbeats 1000000 in
theorem sizes_c (sz n : Int) (lf : Bool) (inn out : Int) (ops : List Po) (OA : Option Addr) (oc : Nat) (qv hv : Value) :
   Ctr X 48 [.agg (List.toArray [.int .i64 sz, .int .i64 n, .bool lf, .int .i64 inn, .int .i64 out, .slice OA ops.length oc, qv, hv])] [] [] (fun v R' H' => v = .bool (sizB sz n inn out) ∧ R' = [] ∧ H' = []) := by
 refine Ctr.of (X := X) (fn := Tryz.f48) Tryz.func48 rfl (by kernel_rfl) rfl ?_
 intro β
 refine C.seq (C.region ?_)
 refine L.boxA rfl rfl (fun A1 => ?_)
 refine Lpu rfl rfl ?_; refine L.nil (QE.seq (C.seq ?_)); refine C.freeze 0 rfl [] (by decide) (by decide) ?_; refine C.region ?_; refine L.step (Ev.fieldAddr rfl rfl rfl rfl rfl rfl (Src.r 0 rfl) (Nat.zero_lt_succ _) rfl) rfl ?_; refine L.step (Ev.load rfl rfl rfl (Src.r 0 rfl) rfl) rfl ?_; refine Lpu rfl rfl ?_; refine Lpu rfl rfl ?_
 refine L.bool 6 rfl (fun hg6 => ?_) (fun hg6 => ?_)
 ·
  replace hg6 := of_decide_eq_true hg6
  refine L.yes rfl ?_; refine L.step (Ev.fieldAddr rfl rfl rfl rfl rfl rfl (Src.r 0 rfl) (Nat.zero_lt_succ _) rfl) rfl ?_; refine L.yes rfl ?_; refine L.step (Ev.load rfl rfl rfl (Src.r 0 rfl) rfl) rfl ?_; refine L.yes rfl ?_; refine Lpu rfl rfl ?_; refine Lpu rfl rfl ?_; refine Lpu rfl rfl ?_
  refine L.bool 11 rfl (fun hg11 => ?_) (fun hg11 => ?_)
  ·
   replace hg11 := of_decide_eq_true hg11
   refine L.yes rfl ?_; refine L.step (Ev.fieldAddr rfl rfl rfl rfl rfl rfl (Src.r 0 rfl) (Nat.zero_lt_succ _) rfl) rfl ?_; refine L.yes rfl ?_; refine L.step (Ev.load rfl rfl rfl (Src.r 0 rfl) rfl) rfl ?_; refine L.yes rfl ?_; refine Lpu rfl rfl ?_; refine Lpu rfl rfl ?_; refine Lpu rfl rfl ?_
   refine L.bool 16 rfl (fun hg16 => ?_) (fun hg16 => ?_)
   ·
    replace hg16 := of_decide_eq_true hg16
    refine L.yes rfl ?_; refine L.step (Ev.fieldAddr rfl rfl rfl rfl rfl rfl (Src.r 0 rfl) (Nat.zero_lt_succ _) rfl) rfl ?_; refine L.yes rfl ?_; refine L.step (Ev.load rfl rfl rfl (Src.r 0 rfl) rfl) rfl ?_; refine L.yes rfl ?_; refine Lpu rfl rfl ?_; refine Lpu rfl rfl ?_; refine Lpu rfl rfl ?_
    refine L.bool 21 rfl (fun hg21 => ?_) (fun hg21 => ?_)
    ·
     replace hg21 := of_decide_eq_true hg21
     have hp := prod_le (a := sz) (b := n) (by omega) (by omega) (by omega) (by omega)
     refine L.yes rfl ?_; refine L.step (Ev.fieldAddr rfl rfl rfl rfl rfl rfl (Src.r 0 rfl) (Nat.zero_lt_succ _) rfl) rfl ?_; refine L.yes rfl ?_; refine L.step (Ev.fieldAddr rfl rfl rfl rfl rfl rfl (Src.r 0 rfl) (Nat.zero_lt_succ _) rfl) rfl ?_; refine L.yes rfl ?_; refine L.step (Ev.load rfl rfl rfl (Src.r 0 rfl) rfl) rfl ?_; refine L.yes rfl ?_; refine L.step (Ev.fieldAddr rfl rfl rfl rfl rfl rfl (Src.r 0 rfl) (Nat.zero_lt_succ _) rfl) rfl ?_; refine L.yes rfl ?_; refine L.step (Ev.load rfl rfl rfl (Src.r 0 rfl) rfl) rfl ?_; refine L.yes rfl ?_; refine L.step (Ev.fieldAddr rfl rfl rfl rfl rfl rfl (Src.r 0 rfl) (Nat.zero_lt_succ _) rfl) rfl ?_; refine L.yes rfl ?_; refine L.step (Ev.load rfl rfl rfl (Src.r 0 rfl) rfl) rfl ?_; refine L.yes rfl ?_; refine L.step (Ev.mul rfl rfl (by omega) (by omega)) rfl ?_; refine L.yes rfl ?_; refine Lpu rfl rfl ?_; refine Lpu rfl rfl ?_; refine Lpu rfl rfl ?_
     refine L.bool 32 rfl (fun hg32 => ?_) (fun hg32 => ?_)
     ·
      replace hg32 := of_decide_eq_true hg32
      refine L.yes rfl ?_; refine L.step (Ev.fieldAddr rfl rfl rfl rfl rfl rfl (Src.r 0 rfl) (Nat.zero_lt_succ _) rfl) rfl ?_; refine L.yes rfl ?_; refine L.step (Ev.fieldAddr rfl rfl rfl rfl rfl rfl (Src.r 0 rfl) (Nat.zero_lt_succ _) rfl) rfl ?_; refine L.yes rfl ?_; refine L.step (Ev.load rfl rfl rfl (Src.r 0 rfl) rfl) rfl ?_; refine L.yes rfl ?_; refine L.step (Ev.fieldAddr rfl rfl rfl rfl rfl rfl (Src.r 0 rfl) (Nat.zero_lt_succ _) rfl) rfl ?_; refine L.yes rfl ?_; refine L.step (Ev.load rfl rfl rfl (Src.r 0 rfl) rfl) rfl ?_; refine L.yes rfl ?_; refine L.step (Ev.fieldAddr rfl rfl rfl rfl rfl rfl (Src.r 0 rfl) (Nat.zero_lt_succ _) rfl) rfl ?_; refine L.yes rfl ?_; refine L.step (Ev.load rfl rfl rfl (Src.r 0 rfl) rfl) rfl ?_; refine L.yes rfl ?_; refine L.step (Ev.mul rfl rfl (by omega) (by omega)) rfl ?_; refine L.yes rfl ?_; refine Lpu rfl rfl ?_; refine Lpu rfl rfl ?_; refine Lpu rfl rfl ?_; refine L.nil (QE.seq (C.ret ?_)); refine QE.ret (js := []) (hs := []) (vs := [_]) rfl ⟨rfl, trivial⟩ (by decide) ?_
      exact ⟨congrArg Value.bool (by rw [Bool.eq_iff_iff, sizB_iff, decide_eq_true_eq]; omega), rfl, rfl⟩
     ·
      replace hg32 := of_decide_eq_false hg32
      refine L.no rfl rfl rfl ?_; refine L.no rfl rfl rfl ?_; refine L.no rfl rfl rfl ?_; refine L.no rfl rfl rfl ?_; refine L.no rfl rfl rfl ?_; refine L.no rfl rfl rfl ?_; refine L.no rfl rfl rfl ?_; refine L.no rfl rfl rfl ?_; refine L.no rfl rfl rfl ?_; refine Lpu rfl rfl ?_; refine Lpu rfl rfl ?_; refine L.nil (QE.seq (C.ret ?_)); refine QE.ret (js := []) (hs := []) (vs := [_]) rfl ⟨rfl, trivial⟩ (by decide) ?_
      exact ⟨congrArg Value.bool ((sizB_no (by omega)).symm), rfl, rfl⟩
    ·
     replace hg21 := of_decide_eq_false hg21
     refine L.no rfl rfl rfl ?_; refine L.no rfl rfl rfl ?_; refine L.no rfl rfl rfl ?_; refine L.no rfl rfl rfl ?_; refine L.no rfl rfl rfl ?_; refine L.no rfl rfl rfl ?_; refine L.no rfl rfl rfl ?_; refine L.no rfl rfl rfl ?_; refine L.no rfl rfl rfl ?_; refine Lpu rfl rfl ?_; refine Lpu rfl rfl ?_; refine L.no rfl rfl rfl ?_; refine L.no rfl rfl rfl ?_; refine L.no rfl rfl rfl ?_; refine L.no rfl rfl rfl ?_; refine L.no rfl rfl rfl ?_; refine L.no rfl rfl rfl ?_; refine L.no rfl rfl rfl ?_; refine L.no rfl rfl rfl ?_; refine L.no rfl rfl rfl ?_; refine Lpu rfl rfl ?_; refine Lpu rfl rfl ?_; refine L.nil (QE.seq (C.ret ?_)); refine QE.ret (js := []) (hs := []) (vs := [_]) rfl ⟨rfl, trivial⟩ (by decide) ?_
     exact ⟨congrArg Value.bool ((sizB_no (by omega)).symm), rfl, rfl⟩
   ·
    replace hg16 := of_decide_eq_false hg16
    refine L.no rfl rfl rfl ?_; refine L.no rfl rfl rfl ?_; refine L.no rfl rfl rfl ?_; refine Lpu rfl rfl ?_; refine Lpu rfl rfl ?_; refine L.no rfl rfl rfl ?_; refine L.no rfl rfl rfl ?_; refine L.no rfl rfl rfl ?_; refine L.no rfl rfl rfl ?_; refine L.no rfl rfl rfl ?_; refine L.no rfl rfl rfl ?_; refine L.no rfl rfl rfl ?_; refine L.no rfl rfl rfl ?_; refine L.no rfl rfl rfl ?_; refine Lpu rfl rfl ?_; refine Lpu rfl rfl ?_; refine L.no rfl rfl rfl ?_; refine L.no rfl rfl rfl ?_; refine L.no rfl rfl rfl ?_; refine L.no rfl rfl rfl ?_; refine L.no rfl rfl rfl ?_; refine L.no rfl rfl rfl ?_; refine L.no rfl rfl rfl ?_; refine L.no rfl rfl rfl ?_; refine L.no rfl rfl rfl ?_; refine Lpu rfl rfl ?_; refine Lpu rfl rfl ?_; refine L.nil (QE.seq (C.ret ?_)); refine QE.ret (js := []) (hs := []) (vs := [_]) rfl ⟨rfl, trivial⟩ (by decide) ?_
    exact ⟨congrArg Value.bool ((sizB_no (by omega)).symm), rfl, rfl⟩
  ·
   replace hg11 := of_decide_eq_false hg11
   refine L.no rfl rfl rfl ?_; refine L.no rfl rfl rfl ?_; refine L.no rfl rfl rfl ?_; refine Lpu rfl rfl ?_; refine Lpu rfl rfl ?_; refine L.no rfl rfl rfl ?_; refine L.no rfl rfl rfl ?_; refine L.no rfl rfl rfl ?_; refine Lpu rfl rfl ?_; refine Lpu rfl rfl ?_; refine L.no rfl rfl rfl ?_; refine L.no rfl rfl rfl ?_; refine L.no rfl rfl rfl ?_; refine L.no rfl rfl rfl ?_; refine L.no rfl rfl rfl ?_; refine L.no rfl rfl rfl ?_; refine L.no rfl rfl rfl ?_; refine L.no rfl rfl rfl ?_; refine L.no rfl rfl rfl ?_; refine Lpu rfl rfl ?_; refine Lpu rfl rfl ?_; refine L.no rfl rfl rfl ?_; refine L.no rfl rfl rfl ?_; refine L.no rfl rfl rfl ?_; refine L.no rfl rfl rfl ?_; refine L.no rfl rfl rfl ?_; refine L.no rfl rfl rfl ?_; refine L.no rfl rfl rfl ?_; refine L.no rfl rfl rfl ?_; refine L.no rfl rfl rfl ?_; refine Lpu rfl rfl ?_; refine Lpu rfl rfl ?_; refine L.nil (QE.seq (C.ret ?_)); refine QE.ret (js := []) (hs := []) (vs := [_]) rfl ⟨rfl, trivial⟩ (by decide) ?_
   exact ⟨congrArg Value.bool ((sizB_no (by omega)).symm), rfl, rfl⟩
 ·
  replace hg6 := of_decide_eq_false hg6
  refine L.no rfl rfl rfl ?_; refine L.no rfl rfl rfl ?_; refine L.no rfl rfl rfl ?_; refine Lpu rfl rfl ?_; refine Lpu rfl rfl ?_; refine L.no rfl rfl rfl ?_; refine L.no rfl rfl rfl ?_; refine L.no rfl rfl rfl ?_; refine Lpu rfl rfl ?_; refine Lpu rfl rfl ?_; refine L.no rfl rfl rfl ?_; refine L.no rfl rfl rfl ?_; refine L.no rfl rfl rfl ?_; refine Lpu rfl rfl ?_; refine Lpu rfl rfl ?_; refine L.no rfl rfl rfl ?_; refine L.no rfl rfl rfl ?_; refine L.no rfl rfl rfl ?_; refine L.no rfl rfl rfl ?_; refine L.no rfl rfl rfl ?_; refine L.no rfl rfl rfl ?_; refine L.no rfl rfl rfl ?_; refine L.no rfl rfl rfl ?_; refine L.no rfl rfl rfl ?_; refine Lpu rfl rfl ?_; refine Lpu rfl rfl ?_; refine L.no rfl rfl rfl ?_; refine L.no rfl rfl rfl ?_; refine L.no rfl rfl rfl ?_; refine L.no rfl rfl rfl ?_; refine L.no rfl rfl rfl ?_; refine L.no rfl rfl rfl ?_; refine L.no rfl rfl rfl ?_; refine L.no rfl rfl rfl ?_; refine L.no rfl rfl rfl ?_; refine Lpu rfl rfl ?_; refine Lpu rfl rfl ?_; refine L.nil (QE.seq (C.ret ?_)); refine QE.ret (js := []) (hs := []) (vs := [_]) rfl ⟨rfl, trivial⟩ (by decide) ?_
  exact ⟨congrArg Value.bool ((sizB_no (by omega)).symm), rfl, rfl⟩

theorem index19_c (A : Option Addr) (l : List Int) (c : Nat) (n : Int) (hl : l.length ≤ 9223372036854775807) :
   Ctr X 72 [.slice A l.length c, .int .i64 n] [Rd A (I64 l)] [] (fun v R' H' => v = .int .i64 (idxJ l n) ∧ R' = [] ∧ H' = []) := by
 refine Ctr.of (X := X) (fn := Tryz.f72) Tryz.func72 rfl (by kernel_rfl) rfl ?_
 intro β
 refine C.seq (C.region ?_); refine Lpu rfl rfl ?_; refine L.nil (QE.seq (C.seq (C.seq (C.region ?_)))); refine Lpu rfl rfl ?_; refine L.nil (QE.seq (C.block ?_)); refine C.loop (fun k : Nat => [(0, .slice A l.length c), (1, .int .i64 n), (5, .int .i64 (k : Int))]) (fun k : Nat => [Rd A (I64 l)]) (fun k : Nat => []) (fun k : Nat => k ≤ l.length ∧ ∀ i, i < k → l.getD i 0 ≠ n) (fun k : Nat => l.length - k) 0 ⟨Nat.zero_le _, all_zero⟩ (by exact Le.mk' (rs := [0]) (hs := []) ⟨rfl, rfl, rfl, trivial⟩ ⟨rfl, trivial⟩ trivial (by decide)) ?_
 rintro k ⟨hk, hno⟩
 refine C.seq (C.seq (C.region ?_)); refine Lpu rfl rfl ?_; refine Lpu rfl rfl ?_; refine Lpu rfl rfl ?_; refine Lpu rfl rfl ?_; refine L.nil (QE.seq ?_)
 refine C.condB 9 rfl (fun hc9 => ?_) (fun hc9 => ?_)
 ·
  replace hc9 := of_decide_eq_true hc9
  refine C.skip (QE.seq (C.seq (C.block (C.seq (C.region ?_))))); refine Lpu rfl rfl ?_; refine Lpu rfl rfl ?_; refine L.step (Ev.idx1 (k := k) rfl rfl rfl rfl rfl rfl rfl (by omega) (Src.r 0 rfl) (by rw [I64_len]; omega)) rfl ?_; refine L.step (Ev.load rfl rfl rfl (Src.r 0 rfl) (I64_get (by omega))) rfl ?_; refine Lpu rfl rfl ?_; refine Lpu rfl rfl ?_; refine L.nil (QE.seq ?_)
  refine C.condB 17 rfl (fun hc17 => ?_) (fun hc17 => ?_)
  ·
   replace hc17 := i_eq hc17
   refine C.seq (C.region ?_); refine Lpu rfl rfl ?_; refine Lpu rfl rfl ?_; refine L.nil (QE.seq (C.ret (QE.bR (QE.tR (QE.tR (QE.bR (QE.tR ?_))))))); refine QE.ret (js := []) (hs := []) (vs := [_]) rfl ⟨rfl, trivial⟩ (by decide) ?_
   exact ⟨congrArg (Value.int .i64) (idxJ_yes (by omega) hno hc17).symm, rfl, rfl⟩
  ·
   replace hc17 := i_ne hc17
   refine C.skip ?_; refine QE.blkN ?_; refine QE.seq (C.region ?_); refine Lpu rfl rfl ?_; refine L.step (Ev.add rfl rfl (by omega) (by omega)) rfl ?_; refine Lpu rfl rfl ?_; refine L.nil ?_
   refine QE.round (k + 1) (by exact ⟨by omega, all_step hno hc17⟩) (by omega) (by exact Le.mk' (rs := [0]) (hs := []) ⟨rfl, rfl, rfl, trivial⟩ ⟨rfl, trivial⟩ trivial (by decide))
 ·
  replace hc9 := of_decide_eq_false hc9
  refine C.exit ?_; refine QE.tX ?_; refine QE.tX ?_; refine QE.blk ?_; refine QE.seq (C.seq (C.region ?_)); refine Lpu rfl rfl ?_; refine L.nil (QE.seq (C.ret ?_)); refine QE.ret (js := []) (hs := []) (vs := [_]) rfl ⟨rfl, trivial⟩ (by decide) ?_
  exact ⟨congrArg (Value.int .i64) (idxJ_no (fun i hi => hno i (by omega))).symm, rfl, rfl⟩

theorem named_c (CA LA : Option Addr) (cs l : List Nat) (cc lc : Nat) (hcl : cs.length ≤ 1000000) (hl : l.length ≤ 1000000) (hlt : ∀ i, i < l.length → l.getD i 0 < cs.length) :
   Ctr X 51 [.slice CA cs.length cc, .slice LA l.length lc] [Rd CA (I64 (NI cs)), Rd LA (I64 (NI l))] [] (fun v R' H' => ∃ (A : Option Addr) (c : Nat), v = .slice A (namL cs l).length c ∧ R' = [] ∧ H' = [Own 3 1 A (namL cs l).length c (I64 (NI (namL cs l)))]) := by
 refine Ctr.of (X := X) (fn := Tryz.f51) Tryz.func51 rfl (by kernel_rfl) rfl ?_
 intro β
 refine C.seq (C.region ?_); refine Lpu rfl rfl ?_; refine L.nil (QE.seq (C.seq (C.region ?_)))
 refine L.lit rfl rfl rfl rfl rfl (by rfl) (by rfl) (by rfl) rfl rfl (fun A7 => ?_)
 refine Lpu rfl rfl ?_; refine L.nil (QE.seq (C.seq (C.seq (C.region ?_)))); refine Lpu rfl rfl ?_; refine L.nil (QE.seq (C.block ?_)); refine C.loop (fun q : Nat × Option Addr × Nat => [(0, .slice CA cs.length cc), (1, .slice LA l.length lc), (6, .int .i64 (q.1 : Int)), (5, .slice q.2.1 (namL cs (l.take q.1)).length q.2.2)]) (fun q : Nat × Option Addr × Nat => [Rd CA (I64 (NI cs)), Rd LA (I64 (NI l))]) (fun q : Nat × Option Addr × Nat => [Own 3 1 q.2.1 (namL cs (l.take q.1)).length q.2.2 (I64 (NI (namL cs (l.take q.1))))]) (fun q : Nat × Option Addr × Nat => q.1 ≤ l.length) (fun q : Nat × Option Addr × Nat => l.length - q.1) (0, A7, 0) (Nat.zero_le _) (by exact Le.mk' (rs := [0, 1]) (hs := [0]) ⟨rfl, rfl, rfl, rfl, trivial⟩ ⟨rfl, rfl, trivial⟩ ⟨rfl, trivial⟩ (by decide)) ?_
 rintro ⟨i, A, c⟩ hi
 dsimp only at hi ⊢
 refine C.seq (C.seq (C.region ?_)); refine Lpu rfl rfl ?_; refine Lpu rfl rfl ?_; refine Lpu rfl rfl ?_; refine Lpu rfl rfl ?_; refine L.nil (QE.seq ?_)
 refine C.condB 11 rfl (fun hc11 => ?_) (fun hc11 => ?_)
 ·
  replace hc11 := of_decide_eq_true hc11
  refine C.skip (QE.seq (C.seq (C.block ?_)))
  have hli := hlt i (by omega)
  have hrl := namL_len cs (l.take i)
  rw [List.length_take] at hrl
  refine C.region ?_; refine Lpu rfl rfl ?_; refine Lpu rfl rfl ?_; refine Lpu rfl rfl ?_; refine Lpu rfl rfl ?_; refine L.step (Ev.idx1 (k := i) rfl rfl rfl rfl rfl rfl rfl (by omega) (Src.r 1 rfl) (by rw [I64_len, NI_len]; omega)) rfl ?_; refine L.step (Ev.load rfl rfl rfl (Src.r 1 rfl) (NI_at (by omega))) rfl ?_; refine L.step (Ev.idx1 (k := (l.getD i 0)) rfl rfl rfl rfl rfl rfl rfl hli (Src.r 0 rfl) (by rw [I64_len, NI_len]; omega)) rfl ?_; refine L.step (Ev.load rfl rfl rfl (Src.r 0 rfl) (NI_at hli)) rfl ?_
  refine L.lit rfl rfl rfl rfl rfl (by rfl) (by rfl) (by rfl) rfl rfl (fun A22 => ?_)
  refine L.append (j := 0) rfl rfl rfl rfl (by decide) rfl rfl rfl rfl (Src.o 1 rfl) rfl (allOne rfl) (by rw [namL_len, List.length_take]; omega) (by show _ * 8 ≤ _; omega) rfl (fun A23 cc23 => ?_)
  refine Lpu rfl rfl ?_; refine L.nil ?_; refine QE.blkN ?_; refine QE.seq (C.region ?_); refine Lpu rfl rfl ?_; refine L.step (Ev.add rfl rfl (by omega) (by omega)) rfl ?_; refine Lpu rfl rfl ?_; refine L.nil ?_
  have he := namL_snoc cs l (i := i) (by omega)
  have hel : (namL cs (l.take (i + 1))).length = (namL cs (l.take i)).length + 1 := by rw [he, List.length_append]; rfl
  refine QE.round (i := (i, A, c)) ((i + 1, A23, cc23)) (by dsimp only; omega) (by dsimp only; omega) (by exact Le.mk' (rs := [0, 1]) (hs := [0]) ⟨rfl, rfl, rfl, (by dsimp only; rw [hel]; rfl), trivial⟩ ⟨rfl, rfl, trivial⟩ ⟨(congrArg some (own_eq hel.symm (by dsimp only; rw [he, NI_app, ← I64_app]; rfl))), trivial⟩ (by decide))
 ·
  replace hc11 := of_decide_eq_false hc11
  refine C.exit ?_; refine QE.tX ?_; refine QE.tX ?_; refine QE.blk ?_; refine QE.seq (C.seq (C.region ?_)); refine Lpu rfl rfl ?_; refine Lpu rfl rfl ?_; refine L.nil (QE.seq (C.ret ?_)); refine QE.ret (js := []) (hs := [0]) (vs := [_]) rfl ⟨rfl, trivial⟩ (by decide) ?_
  obtain rfl : i = l.length := by omega
  rw [List.take_length]
  exact ⟨A, c, rfl, rfl, rfl⟩

set_option maxHeartbeats 1000000 in
theorem changing_c (S n : Nat) (lf : Bool) (inn out : Int) (ops : List Po) (OA : Option Addr) (oc : Nat) (qv hv : Value) (hops : ops.length ≤ 9223372036854775807)(hS1 : 1 ≤ S) (hS2 : S ≤ 4096) (hn1 : 1 ≤ n) (hn2 : n ≤ 64) (hE : chkE inn out ops = 0) :
   Ctr X 44 [.agg (List.toArray [.int .i64 (S : Int), .int .i64 (n : Int), .bool lf, .int .i64 inn, .int .i64 out, .slice OA ops.length oc, qv, hv])] [Rd OA (opsV ops)] [] (fun v R' H' => ∃ (A : Option Addr) (c : Nat), v = .slice A (chgL (symL ops) inn S n).length c ∧ R' = [] ∧ H' = [Own 3 1 A (chgL (symL ops) inn S n).length c (I64 (NI (chgL (symL ops) inn S n)))]) := by
 refine Ctr.of (X := X) (fn := Tryz.f44) Tryz.func44 rfl (by kernel_rfl) rfl ?_
 intro β
 obtain ⟨k1, k2, k3, k4, k5, k6⟩ := chkE_ok hE
 have hsy : syS inn out ops = symL ops := by unfold syS; rw [if_pos hE]
 have hsl : ((symL ops).length : Int) = out := chkG_tot ops out k3 k6
 have hnS : n * S ≤ 64 * 4096 := Nat.mul_le_mul hn2 hS2
 refine C.seq (C.region ?_)
 refine L.boxA rfl rfl (fun A1 => ?_)
 refine Lpu rfl rfl ?_; refine L.nil (QE.seq (C.seq ?_)); refine C.freeze 0 rfl [] (by decide) (by decide) ?_; refine C.region ?_; refine L.step (Ev.fieldAddr rfl rfl rfl rfl rfl rfl (Src.r 0 rfl) (Nat.zero_lt_succ _) rfl) rfl ?_; refine L.step (Ev.loadA (vs := [.bool lf, .int .i64 inn, .int .i64 out, .slice OA ops.length oc]) rfl rfl rfl (Src.r 0 rfl) rfl rfl (by decide)) rfl ?_; refine L.call (js := []) (js' := []) (symbols_c lf inn out ops OA oc hops) rfl rfl rfl (by decide) (Hq [1] rfl) rfl ?_
 rw [hsy]
 rintro _ _ _ ⟨SA, sc, rfl, rfl, rfl⟩
 refine L.norm (H' := [_]) [0] ⟨rfl, trivial⟩ (by decide) ?_; refine Lpu rfl rfl ?_; refine Lpu rfl rfl ?_; refine Lpu rfl rfl ?_; refine Lpu rfl rfl ?_; refine Lpu rfl rfl ?_; refine L.nil (QE.seq (C.seq ?_)); refine C.freeze 0 rfl [] (by decide) (by decide) ?_; refine C.region ?_; refine Lpu rfl rfl ?_; refine L.nil (QE.seq (C.seq (C.seq ?_))); refine C.own0 3 1 ?_; refine C.region ?_; refine L.step (Ev.fieldAddr rfl rfl rfl rfl rfl rfl (Src.r 1 rfl) (Nat.zero_lt_succ _) rfl) rfl ?_; refine L.step (Ev.load rfl rfl rfl (Src.r 1 rfl) rfl) rfl ?_; refine Lpu rfl rfl ?_; refine L.nil (QE.seq (C.block ?_)); refine C.loop (fun q : Nat × Option Addr × Nat => [(1, ptrOf A1 0), (3, .slice SA (symL ops).length sc), (15, .int .i64 (n : Int)), (16, .int .i64 (q.1 : Int)), (5, .slice q.2.1 (chgL (symL ops) inn S q.1).length q.2.2)]) (fun q : Nat × Option Addr × Nat => [Rd SA (symsV (symL ops)), Rd A1 [.int .i64 (S : Int), .int .i64 (n : Int), .bool lf, .int .i64 inn, .int .i64 out, .slice OA ops.length oc, qv, hv], Rd OA (opsV ops)]) (fun q : Nat × Option Addr × Nat => [Own 3 1 q.2.1 (chgL (symL ops) inn S q.1).length q.2.2 (I64 (NI (chgL (symL ops) inn S q.1)))]) (fun q : Nat × Option Addr × Nat => q.1 ≤ n) (fun q : Nat × Option Addr × Nat => n - q.1) (0, none, 0) (Nat.zero_le _) (by exact Le.mk' (rs := [0, 1, 2]) (hs := [0]) ⟨rfl, rfl, rfl, rfl, rfl, trivial⟩ ⟨rfl, rfl, rfl, trivial⟩ ⟨rfl, trivial⟩ (by decide)) ?_
 rintro ⟨t, A, c⟩ hi
 dsimp only at hi ⊢
 refine C.seq (C.region ?_); refine Lpu rfl rfl ?_; refine L.nil (QE.seq (C.seq ?_))
 refine C.condB 17 rfl (fun hc17 => ?_) (fun hc17 => ?_)
 ·
  replace hc17 := of_decide_eq_true hc17
  refine C.skip (QE.seq (C.seq (C.block (C.seq (C.region ?_))))); refine Lpu rfl rfl ?_; refine Lpu rfl rfl ?_; refine L.nil (QE.seq (C.seq ?_))
  have hlt := sec_lt (S := S) (show t < n by omega)
  have m1 : (t : Int) * (S : Int) = ((t * S : Nat) : Int) := (Int.natCast_mul t S).symm
  have m2 : ((t + 1 : Nat) : Int) * (S : Int) = (((t + 1) * S : Nat) : Int) := (Int.natCast_mul (t + 1) S).symm
  have hb2 : (t + 1) * S = t * S + S := Nat.succ_mul t S
  refine C.region ?_; refine Lpu rfl rfl ?_; refine L.step (Ev.fieldAddr rfl rfl rfl rfl rfl rfl (Src.r 1 rfl) (Nat.zero_lt_succ _) rfl) rfl ?_; refine L.step (Ev.load rfl rfl rfl (Src.r 1 rfl) rfl) rfl ?_; refine L.step (Ev.cast (u := .int .i64 (((t * S : Nat)) : Int)) (Ev.mul rfl rfl (by rw [m1]; omega) (by rw [m1]; omega)) (congrArg (Value.int .i64) m1)) rfl ?_; refine Lpu rfl rfl ?_; refine L.nil (QE.seq (C.block ?_)); refine C.loop (fun j : Nat => [(1, ptrOf A1 0), (3, .slice SA (symL ops).length sc), (15, .int .i64 (n : Int)), (16, .int .i64 (t : Int)), (6, .int .i64 (t : Int)), (5, .slice A (chgL (symL ops) inn S t).length c), (7, .int .i64 (((t * S + j) : Nat) : Int))]) (fun j : Nat => [Rd SA (symsV (symL ops)), Rd A1 [.int .i64 (S : Int), .int .i64 (n : Int), .bool lf, .int .i64 inn, .int .i64 out, .slice OA ops.length oc, qv, hv], Rd OA (opsV ops)]) (fun j : Nat => [Own 3 1 A (chgL (symL ops) inn S t).length c (I64 (NI (chgL (symL ops) inn S t)))]) (fun j : Nat => j ≤ S ∧ ∀ a, a < j → chY (symL ops) inn (t * S + a) = false) (fun j : Nat => S - j) 0 ⟨Nat.zero_le _, all_zero⟩ (by exact Le.mk' (rs := [0, 1, 2]) (hs := [0]) ⟨rfl, rfl, rfl, rfl, rfl, rfl, rfl, trivial⟩ ⟨rfl, rfl, rfl, trivial⟩ ⟨rfl, trivial⟩ (by decide)) ?_
  rintro j ⟨hj, hno⟩
  refine C.seq (C.seq (C.region ?_)); refine Lpu rfl rfl ?_; refine Lpu rfl rfl ?_; refine L.step (Ev.cast (u := .int .i64 (((t + 1) : Nat) : Int)) (Ev.add rfl rfl (by omega) (by omega)) (congrArg (Value.int .i64) (by omega))) rfl ?_; refine L.step (Ev.fieldAddr rfl rfl rfl rfl rfl rfl (Src.r 1 rfl) (Nat.zero_lt_succ _) rfl) rfl ?_; refine L.step (Ev.load rfl rfl rfl (Src.r 1 rfl) rfl) rfl ?_; refine L.step (Ev.cast (u := .int .i64 ((((t + 1) * S : Nat)) : Int)) (Ev.mul rfl rfl (by rw [m2]; omega) (by rw [m2]; omega)) (congrArg (Value.int .i64) m2)) rfl ?_; refine Lpu rfl rfl ?_; refine Lpu rfl rfl ?_; refine L.step (Ev.fieldAddr rfl rfl rfl rfl rfl rfl (Src.r 1 rfl) (Nat.zero_lt_succ _) rfl) rfl ?_; refine L.step (Ev.fieldAddr rfl rfl rfl rfl rfl rfl (Src.r 1 rfl) (Nat.zero_lt_succ _) rfl) rfl ?_; refine L.step (Ev.load rfl rfl rfl (Src.r 1 rfl) rfl) rfl ?_; refine L.step (Ev.cast (u := .int .i64 (max ((symL ops).length : Int) inn)) (Ev.pure rfl) (congrArg (Value.int .i64) (by simp only [if_true]; split <;> omega))) rfl ?_; refine L.step (Ev.cast (u := .int .i64 (min (((t + 1) * S : Nat) : Int) (max ((symL ops).length : Int) inn))) (Ev.pure rfl) (congrArg (Value.int .i64) (by simp only [Bool.false_eq_true, if_false]; split <;> omega))) rfl ?_; refine Lpu rfl rfl ?_; refine L.nil (QE.seq ?_)
  refine C.condB 36 rfl (fun hc36 => ?_) (fun hc36 => ?_)
  ·
   replace hc36 := of_decide_eq_true hc36
   refine C.skip (QE.seq (C.seq (C.block (C.seq (C.region ?_))))); refine Lpu rfl rfl ?_; refine Lpu rfl rfl ?_; refine Lpu rfl rfl ?_; refine Lpu rfl rfl ?_; refine Lpu rfl rfl ?_
   refine L.bool 43 rfl (fun hg43 => ?_) (fun hg43 => ?_)
   ·
    replace hg43 := of_decide_eq_true hg43
    have hx : chY (symL ops) inn (t * S + j) = true := by unfold chY; rw [if_neg (by omega)]; exact decide_eq_true (by omega)
    refine L.no rfl rfl rfl ?_; refine L.no rfl rfl rfl ?_; refine L.no rfl rfl rfl ?_; refine L.no rfl rfl rfl ?_; refine L.no rfl rfl rfl ?_; refine L.no rfl rfl rfl ?_; refine L.no rfl rfl rfl ?_; refine Lpu rfl rfl ?_; refine L.nil (QE.seq ?_)
    refine C.cond rfl (fun _ => ?_) (fun h => by cases h)
    refine C.seq ?_
    have hrl := chgL_len (symL ops) inn S t
    refine C.region ?_; refine Lpu rfl rfl ?_; refine Lpu rfl rfl ?_
    refine L.lit rfl rfl rfl rfl rfl (by rfl) (by rfl) (by rfl) rfl rfl (fun A54 => ?_)
    refine L.append (j := 0) rfl rfl rfl rfl (by decide) rfl rfl rfl rfl (Src.o 1 rfl) rfl (allOne rfl) (by omega) (by show _ * 8 ≤ _; omega) rfl (fun A55 cc55 => ?_)
    refine Lpu rfl rfl ?_; refine L.nil (QE.seq ?_); refine C.exit ?_; refine QE.blkX rfl ?_; refine QE.tX ?_; refine QE.tX ?_; refine QE.blk ?_; refine QE.blkN ?_; refine QE.seq (C.region ?_); refine L.step (Ev.add rfl rfl (by omega) (by omega)) rfl ?_; refine Lpu rfl rfl ?_; refine L.nil ?_
    have hx0 : chgB (symL ops) inn S t = true := any_yes (p := fun a => chY (symL ops) inn (t * S + a)) (k := j) (by omega) hx
    have he := chgL_yes hx0
    have hel : (chgL (symL ops) inn S (t + 1)).length = (chgL (symL ops) inn S t).length + 1 := by rw [he, List.length_append]; rfl
    refine QE.round (i := (t, A, c)) ((t + 1, A55, cc55)) (by dsimp only; omega) (by dsimp only; omega) (by exact Le.mk' (rs := [0, 1, 2]) (hs := [0]) ⟨rfl, rfl, rfl, rfl, (by dsimp only; rw [hel]; rfl), trivial⟩ ⟨rfl, rfl, rfl, trivial⟩ ⟨(congrArg some (own_eq hel.symm (by dsimp only; rw [he, NI_app, ← I64_app]; rfl))), trivial⟩ (by decide))
   ·
    replace hg43 := of_decide_eq_false hg43
    refine L.yes rfl ?_; refine Lpu rfl rfl ?_; refine L.yes rfl ?_; refine Lpu rfl rfl ?_; refine L.yes rfl ?_; refine L.step (Ev.idx (k := (t * S + j)) (m := (t * S + j) * 3) rfl rfl rfl rfl rfl rfl (by omega) (Src.r 0 rfl) (syms_pos (k := (t * S + j)) (by omega)) rfl) rfl ?_; refine L.yes rfl ?_; refine L.step (Ev.loadA (vs := Sy.cells ((symL ops).getD (t * S + j) Sy.zero)) rfl rfl rfl (Src.r 0 rfl) (symsV_at (symL ops) (t * S + j) (by omega)) rfl (by decide)) rfl ?_; refine L.yes rfl ?_; refine Lpu rfl rfl ?_; refine L.yes rfl ?_; refine L.step (Ev.build rfl rfl rfl rfl rfl rfl rfl) rfl ?_; refine L.yes rfl ?_; refine L.step (Ev.neSym (a := ((symL ops).getD (t * S + j) Sy.zero)) (b := ⟨true, (((t * S + j) : Nat) : Int), 0⟩) rfl rfl) rfl ?_; refine Lpu rfl rfl ?_; refine L.nil (QE.seq ?_)
    refine C.condB 51 rfl (fun hc51 => ?_) (fun hc51 => ?_)
    ·
     have hx : chY (symL ops) inn (t * S + j) = true := by unfold chY; rw [if_pos (by omega)]; exact hc51
     refine C.seq ?_
     have hrl := chgL_len (symL ops) inn S t
     refine C.region ?_; refine Lpu rfl rfl ?_; refine Lpu rfl rfl ?_
     refine L.lit rfl rfl rfl rfl rfl (by rfl) (by rfl) (by rfl) rfl rfl (fun A54 => ?_)
     refine L.append (j := 0) rfl rfl rfl rfl (by decide) rfl rfl rfl rfl (Src.o 1 rfl) rfl (allOne rfl) (by omega) (by show _ * 8 ≤ _; omega) rfl (fun A55 cc55 => ?_)
     refine Lpu rfl rfl ?_; refine L.nil (QE.seq ?_); refine C.exit ?_; refine QE.blkX rfl ?_; refine QE.tX ?_; refine QE.tX ?_; refine QE.blk ?_; refine QE.blkN ?_; refine QE.seq (C.region ?_); refine L.step (Ev.add rfl rfl (by omega) (by omega)) rfl ?_; refine Lpu rfl rfl ?_; refine L.nil ?_
     have hx0 : chgB (symL ops) inn S t = true := any_yes (p := fun a => chY (symL ops) inn (t * S + a)) (k := j) (by omega) hx
     have he := chgL_yes hx0
     have hel : (chgL (symL ops) inn S (t + 1)).length = (chgL (symL ops) inn S t).length + 1 := by rw [he, List.length_append]; rfl
     refine QE.round (i := (t, A, c)) ((t + 1, A55, cc55)) (by dsimp only; omega) (by dsimp only; omega) (by exact Le.mk' (rs := [0, 1, 2]) (hs := [0]) ⟨rfl, rfl, rfl, rfl, (by dsimp only; rw [hel]; rfl), trivial⟩ ⟨rfl, rfl, rfl, trivial⟩ ⟨(congrArg some (own_eq hel.symm (by dsimp only; rw [he, NI_app, ← I64_app]; rfl))), trivial⟩ (by decide))
    ·
     have hx : chY (symL ops) inn (t * S + j) = false := by unfold chY; rw [if_pos (by omega)]; exact hc51
     refine C.skip ?_; refine QE.blkN ?_; refine QE.seq (C.region ?_); refine Lpu rfl rfl ?_; refine L.step (Ev.add rfl rfl (by omega) (by omega)) rfl ?_; refine Lpu rfl rfl ?_; refine L.nil ?_
     refine QE.round (j + 1) (by exact ⟨by omega, all_step hno hx⟩) (by omega) (by exact Le.mk' (rs := [0, 1, 2]) (hs := [0]) ⟨rfl, rfl, rfl, rfl, rfl, rfl, rfl, trivial⟩ ⟨rfl, rfl, rfl, trivial⟩ ⟨rfl, trivial⟩ (by decide))
  ·
   replace hc36 := of_decide_eq_false hc36
   refine C.exit ?_; refine QE.tX ?_; refine QE.tX ?_; refine QE.blk ?_; refine QE.blkN ?_; refine QE.seq (C.region ?_); refine L.step (Ev.add rfl rfl (by omega) (by omega)) rfl ?_; refine Lpu rfl rfl ?_; refine L.nil ?_
   have hx0 : chgB (symL ops) inn S t = false := chg_end hno (by omega)
   have he := chgL_no hx0
   refine QE.round (i := (t, A, c)) ((t + 1, A, c)) (by dsimp only; omega) (by dsimp only; omega) (by exact Le.mk' (rs := [0, 1, 2]) (hs := [0]) ⟨rfl, rfl, rfl, rfl, (by dsimp only; rw [he]; rfl), trivial⟩ ⟨rfl, rfl, rfl, trivial⟩ ⟨(congrArg some (by dsimp only; rw [he])), trivial⟩ (by decide))
 ·
  replace hc17 := of_decide_eq_false hc17
  refine C.exit ?_; refine QE.tX ?_; refine QE.tX ?_; refine QE.blk ?_; refine QE.seq (C.seq (C.region ?_)); refine Lpu rfl rfl ?_; refine Lpu rfl rfl ?_; refine L.nil (QE.seq (C.ret ?_)); refine QE.ret (js := []) (hs := [0]) (vs := [_]) rfl ⟨rfl, trivial⟩ (by decide) ?_
  obtain rfl : t = n := by omega
  exact ⟨A, c, rfl, rfl, rfl⟩

set_option maxHeartbeats 1000000 in
theorem changes19_c (S n : Nat) (lf : Bool) (inn out : Int) (ops : List Po) (OA : Option Addr) (oc : Nat) (qv hv : Value) (hops : ops.length ≤ 9223372036854775807)(hS1 : 1 ≤ S) (hS2 : S ≤ 4096) (hn1 : 1 ≤ n) (hn2 : n ≤ 64) (hE : chkE inn out ops = 0) :
   Ctr X 20 [.agg (List.toArray [.int .i64 (S : Int), .int .i64 (n : Int), .bool lf, .int .i64 inn, .int .i64 out, .slice OA ops.length oc, qv, hv])] [Rd OA (opsV ops)] [] (fun v R' H' => ∃ (A : Option Addr) (c : Nat), v = .slice A (chgL (symL ops) inn S n).length c ∧ R' = [] ∧ H' = [Own 3 1 A (chgL (symL ops) inn S n).length c (I64 (NI (chgL (symL ops) inn S n)))]) := by
 refine Ctr.of (X := X) (fn := Tryz.f20) Tryz.func20 rfl (by kernel_rfl) rfl ?_
 intro β
 obtain ⟨k1, k2, k3, k4, k5, k6⟩ := chkE_ok hE
 have hsy : syS inn out ops = symL ops := by unfold syS; rw [if_pos hE]
 have hsl : ((symL ops).length : Int) = out := chkG_tot ops out k3 k6
 have hnS : n * S ≤ 64 * 4096 := Nat.mul_le_mul hn2 hS2
 refine C.seq (C.region ?_)
 refine L.boxA rfl rfl (fun A1 => ?_)
 refine Lpu rfl rfl ?_; refine L.nil (QE.seq (C.seq ?_)); refine C.freeze 0 rfl [] (by decide) (by decide) ?_; refine C.region ?_; refine L.step (Ev.fieldAddr rfl rfl rfl rfl rfl rfl (Src.r 0 rfl) (Nat.zero_lt_succ _) rfl) rfl ?_; refine L.step (Ev.loadA (vs := [.bool lf, .int .i64 inn, .int .i64 out, .slice OA ops.length oc]) rfl rfl rfl (Src.r 0 rfl) rfl rfl (by decide)) rfl ?_; refine L.call (js := []) (js' := []) (symbols06_c lf inn out ops OA oc hops) rfl rfl rfl (by decide) (Hq [1] rfl) rfl ?_
 rw [hsy]
 rintro _ _ _ ⟨SA, sc, rfl, rfl, rfl⟩
 refine L.norm (H' := [_]) [0] ⟨rfl, trivial⟩ (by decide) ?_; refine Lpu rfl rfl ?_; refine Lpu rfl rfl ?_; refine Lpu rfl rfl ?_; refine Lpu rfl rfl ?_; refine Lpu rfl rfl ?_; refine L.nil (QE.seq (C.seq ?_)); refine C.freeze 0 rfl [] (by decide) (by decide) ?_; refine C.region ?_
 refine L.lit rfl rfl rfl rfl rfl (by rfl) (by rfl) (by rfl) rfl rfl (fun A13 => ?_)
 refine Lpu rfl rfl ?_; refine L.nil (QE.seq (C.seq (C.seq (C.region ?_)))); refine Lpu rfl rfl ?_; refine L.nil (QE.seq (C.block ?_)); refine C.loop (fun q : Nat × Option Addr × Nat => [(1, ptrOf A1 0), (3, .slice SA (symL ops).length sc), (6, .int .i64 (q.1 : Int)), (5, .slice q.2.1 (chgL (symL ops) inn S q.1).length q.2.2)]) (fun q : Nat × Option Addr × Nat => [Rd SA (symsV (symL ops)), Rd A1 [.int .i64 (S : Int), .int .i64 (n : Int), .bool lf, .int .i64 inn, .int .i64 out, .slice OA ops.length oc, qv, hv], Rd OA (opsV ops)]) (fun q : Nat × Option Addr × Nat => [Own 3 1 q.2.1 (chgL (symL ops) inn S q.1).length q.2.2 (I64 (NI (chgL (symL ops) inn S q.1)))]) (fun q : Nat × Option Addr × Nat => q.1 ≤ n) (fun q : Nat × Option Addr × Nat => n - q.1) (0, A13, 0) (Nat.zero_le _) (by exact Le.mk' (rs := [0, 1, 2]) (hs := [0]) ⟨rfl, rfl, rfl, rfl, trivial⟩ ⟨rfl, rfl, rfl, trivial⟩ ⟨rfl, trivial⟩ (by decide)) ?_
 rintro ⟨t, A, c⟩ hi
 dsimp only at hi ⊢
 refine C.seq (C.seq (C.region ?_)); refine Lpu rfl rfl ?_; refine L.step (Ev.fieldAddr rfl rfl rfl rfl rfl rfl (Src.r 1 rfl) (Nat.zero_lt_succ _) rfl) rfl ?_; refine L.step (Ev.load rfl rfl rfl (Src.r 1 rfl) rfl) rfl ?_; refine Lpu rfl rfl ?_; refine L.nil (QE.seq ?_)
 refine C.condB 17 rfl (fun hc17 => ?_) (fun hc17 => ?_)
 ·
  replace hc17 := of_decide_eq_true hc17
  refine C.skip (QE.seq (C.seq (C.block (C.seq ?_))))
  have hlt := sec_lt (S := S) (show t < n by omega)
  have hb2 : (t + 1) * S = t * S + S := Nat.succ_mul t S
  refine C.region ?_; refine Lpu rfl rfl ?_; refine L.step (Ev.fieldAddr rfl rfl rfl rfl rfl rfl (Src.r 1 rfl) (Nat.zero_lt_succ _) rfl) rfl ?_; refine L.step (Ev.fieldAddr rfl rfl rfl rfl rfl rfl (Src.r 1 rfl) (Nat.zero_lt_succ _) rfl) rfl ?_; refine L.step (Ev.load rfl rfl rfl (Src.r 1 rfl) rfl) rfl ?_; refine L.step (Ev.fieldAddr rfl rfl rfl rfl rfl rfl (Src.r 1 rfl) (Nat.zero_lt_succ _) rfl) rfl ?_; refine L.step (Ev.load rfl rfl rfl (Src.r 1 rfl) rfl) rfl ?_; refine L.step (Ev.build rfl rfl rfl rfl rfl rfl rfl) rfl ?_; refine Lpu rfl rfl ?_; refine L.call (js := []) (js' := [0]) (changes18_c SA (symL ops) sc inn S hS1 t (by omega) (by omega) (by omega)) rfl rfl rfl (by decide) (Hq [0] rfl) rfl ?_
  rintro _ _ _ ⟨rfl, rfl, rfl⟩
  refine L.norm (H' := [_]) [0] ⟨rfl, trivial⟩ (by decide) ?_; refine L.nil (QE.seq ?_)
  refine C.condB 28 rfl (fun hc28 => ?_) (fun hc28 => ?_)
  ·
   have hrl := chgL_len (symL ops) inn S t
   refine C.region ?_; refine Lpu rfl rfl ?_; refine Lpu rfl rfl ?_
   refine L.lit rfl rfl rfl rfl rfl (by rfl) (by rfl) (by rfl) rfl rfl (fun A31 => ?_)
   refine L.append (j := 0) rfl rfl rfl rfl (by decide) rfl rfl rfl rfl (Src.o 1 rfl) rfl (allOne rfl) (by omega) (by show _ * 8 ≤ _; omega) rfl (fun A32 cc32 => ?_)
   refine Lpu rfl rfl ?_; refine L.nil ?_; refine QE.blkN ?_; refine QE.seq (C.region ?_); refine Lpu rfl rfl ?_; refine L.step (Ev.add rfl rfl (by omega) (by omega)) rfl ?_; refine Lpu rfl rfl ?_; refine L.nil ?_
   have he := chgL_yes hc28
   have hel : (chgL (symL ops) inn S (t + 1)).length = (chgL (symL ops) inn S t).length + 1 := by rw [he, List.length_append]; rfl
   refine QE.round (i := (t, A, c)) ((t + 1, A32, cc32)) (by dsimp only; omega) (by dsimp only; omega) (by exact Le.mk' (rs := [0, 1, 2]) (hs := [0]) ⟨rfl, rfl, rfl, (by dsimp only; rw [hel]; rfl), trivial⟩ ⟨rfl, rfl, rfl, trivial⟩ ⟨(congrArg some (own_eq hel.symm (by dsimp only; rw [he, NI_app, ← I64_app]; rfl))), trivial⟩ (by decide))
  ·
   refine C.skip ?_; refine QE.blkN ?_; refine QE.seq (C.region ?_); refine Lpu rfl rfl ?_; refine L.step (Ev.add rfl rfl (by omega) (by omega)) rfl ?_; refine Lpu rfl rfl ?_; refine L.nil ?_
   have he := chgL_no hc28
   refine QE.round (i := (t, A, c)) ((t + 1, A, c)) (by dsimp only; omega) (by dsimp only; omega) (by exact Le.mk' (rs := [0, 1, 2]) (hs := [0]) ⟨rfl, rfl, rfl, (by dsimp only; rw [he]; rfl), trivial⟩ ⟨rfl, rfl, rfl, trivial⟩ ⟨(congrArg some (by dsimp only; rw [he])), trivial⟩ (by decide))
 ·
  replace hc17 := of_decide_eq_false hc17
  refine C.exit ?_; refine QE.tX ?_; refine QE.tX ?_; refine QE.blk ?_; refine QE.seq (C.seq (C.region ?_)); refine Lpu rfl rfl ?_; refine Lpu rfl rfl ?_; refine L.nil (QE.seq (C.ret ?_)); refine QE.ret (js := []) (hs := [0]) (vs := [_]) rfl ⟨rfl, trivial⟩ (by decide) ?_
  obtain rfl : t = n := by omega
  exact ⟨A, c, rfl, rfl, rfl⟩

end Go.Proofs.YtpccfdnmnnnboaaGreat
