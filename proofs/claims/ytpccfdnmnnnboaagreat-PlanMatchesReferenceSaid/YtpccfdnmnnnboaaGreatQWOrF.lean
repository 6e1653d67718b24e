/-
  The contracts of patches.
-/
import Derived.Test.YtpccfdnmnnnboaaGreatQOe
namespace Go.Proofs.YtpccfdnmnnnboaaGreat
open Go.Sl

theorem inside_c (x : Po) (size : Int) (hs1 : -100000 ≤ size - x.ln) (hs2 : size - x.ln ≤ 100000) :
   Ctr X 197 [.agg (List.toArray x.cells), .int .i64 size] [] [] (fun v R' H' => v = .bool (insB x size) ∧ R' = [] ∧ H' = []) := by
 refine Ctr.of (X := X) (fn := Tryz.f197) Tryz.func197 rfl (by kernel_rfl) rfl ?_
 intro β
 refine C.seq (C.region ?_)
 refine L.boxA rfl rfl (fun A2 => ?_)
 refine Lpu rfl rfl ?_; refine L.nil (QE.seq (C.seq ?_)); refine C.freeze 0 rfl [] (by decide) (by decide) ?_; refine C.region ?_; refine L.step (Ev.fieldAddr rfl rfl rfl rfl rfl rfl (Src.r 0 rfl) (Nat.zero_lt_succ _) rfl) rfl ?_; refine L.step (Ev.load rfl rfl rfl (Src.r 0 rfl) rfl) rfl ?_; refine Lpu rfl rfl ?_; refine Lpu rfl rfl ?_
 refine L.bool 8 rfl (fun hg8 => ?_) (fun hg8 => ?_)
 ·
  replace hg8 := of_decide_eq_true hg8
  refine L.yes rfl ?_; refine L.step (Ev.fieldAddr rfl rfl rfl rfl rfl rfl (Src.r 0 rfl) (Nat.zero_lt_succ _) rfl) rfl ?_; refine L.yes rfl ?_; refine L.step (Ev.load rfl rfl rfl (Src.r 0 rfl) rfl) rfl ?_; refine L.yes rfl ?_; refine Lpu rfl rfl ?_; refine L.yes rfl ?_; refine L.step (Ev.fieldAddr rfl rfl rfl rfl rfl rfl (Src.r 0 rfl) (Nat.zero_lt_succ _) rfl) rfl ?_; refine L.yes rfl ?_; refine L.step (Ev.load rfl rfl rfl (Src.r 0 rfl) rfl) rfl ?_; refine L.yes rfl ?_; refine L.step (Ev.sub rfl rfl (by omega) (by omega)) rfl ?_; refine L.yes rfl ?_; refine Lpu rfl rfl ?_; refine Lpu rfl rfl ?_; refine Lpu rfl rfl ?_; refine L.nil (QE.seq (C.ret ?_)); refine QE.ret (js := []) (hs := []) (vs := [_]) rfl ⟨rfl, trivial⟩ (by decide) ?_
  exact ⟨congrArg Value.bool (by unfold insB; rw [Bool.eq_iff_iff]; simp; omega), rfl, rfl⟩
 ·
  replace hg8 := of_decide_eq_false hg8
  refine L.no rfl rfl rfl ?_; refine L.no rfl rfl rfl ?_; refine L.no rfl rfl rfl ?_; refine L.no rfl rfl rfl ?_; refine L.no rfl rfl rfl ?_; refine L.no rfl rfl rfl ?_; refine L.no rfl rfl rfl ?_; refine Lpu rfl rfl ?_; refine Lpu rfl rfl ?_; refine L.nil (QE.seq (C.ret ?_)); refine QE.ret (js := []) (hs := []) (vs := [_]) rfl ⟨rfl, trivial⟩ (by decide) ?_
  exact ⟨congrArg Value.bool (by unfold insB; rw [Bool.eq_iff_iff]; simp; omega), rfl, rfl⟩

theorem right1_c (x : Po) (size : Int) (hs1 : -100000 ≤ size - x.ln) (hs2 : size - x.ln ≤ 100000) :
   Ctr X 195 [.agg (List.toArray x.cells), .int .i64 size] [] [] (fun v R' H' => v = .bool (insB x size && decide ((x.b.toNat : Int) = 0)) ∧ R' = [] ∧ H' = []) := by
 refine Ctr.of (X := X) (fn := Tryz.f195) Tryz.func195 rfl (by kernel_rfl) rfl ?_
 intro β
 refine C.seq (C.region ?_)
 refine L.boxA rfl rfl (fun A2 => ?_)
 refine Lpu rfl rfl ?_; refine L.nil (QE.seq (C.seq ?_)); refine C.freeze 0 rfl [] (by decide) (by decide) ?_; refine C.region ?_; refine L.step (Ev.loadA rfl rfl rfl (Src.r 0 rfl) rfl rfl (by decide)) rfl ?_; refine Lpu rfl rfl ?_; refine L.call (js := []) (js' := []) (inside_c x size hs1 hs2) rfl rfl rfl (by decide) trivial rfl ?_
 rintro _ _ _ ⟨rfl, rfl, rfl⟩
 refine Lpu rfl rfl ?_
 refine L.bool 8 rfl (fun hg8 => ?_) (fun hg8 => ?_)
 ·
  refine L.yes rfl ?_; refine L.step (Ev.fieldAddr rfl rfl rfl rfl rfl rfl (Src.r 0 rfl) (Nat.zero_lt_succ _) rfl) rfl ?_; refine L.yes rfl ?_; refine L.step (Ev.load rfl rfl rfl (Src.r 0 rfl) rfl) rfl ?_; refine L.yes rfl ?_; refine Lpu rfl rfl ?_; refine Lpu rfl rfl ?_; refine Lpu rfl rfl ?_
  refine L.bool 13 rfl (fun hg13 => ?_) (fun hg13 => ?_)
  ·
   replace hg13 := i_eq hg13
   refine L.yes rfl ?_; refine L.step (Ev.fieldAddr rfl rfl rfl rfl rfl rfl (Src.r 0 rfl) (Nat.zero_lt_succ _) rfl) rfl ?_; refine L.yes rfl ?_; refine L.step (Ev.load rfl rfl rfl (Src.r 0 rfl) rfl) rfl ?_; refine L.yes rfl ?_; refine Lpu rfl rfl ?_; refine L.yes rfl ?_; refine Lpu rfl rfl ?_; refine Lpu rfl rfl ?_; refine Lpu rfl rfl ?_; refine L.nil (QE.seq (C.ret ?_)); refine QE.ret (js := []) (hs := []) (vs := [_]) rfl ⟨rfl, trivial⟩ (by decide) ?_
   refine ⟨congrArg Value.bool ?_, rfl, rfl⟩
   rw [Bool.eq_iff_iff]
   simp [*]
   try omega
  ·
   replace hg13 := i_ne hg13
   refine L.no rfl rfl rfl ?_; refine L.no rfl rfl rfl ?_; refine L.no rfl rfl rfl ?_; refine L.no rfl rfl rfl ?_; refine Lpu rfl rfl ?_; refine Lpu rfl rfl ?_; refine L.nil (QE.seq (C.ret ?_)); refine QE.ret (js := []) (hs := []) (vs := [_]) rfl ⟨rfl, trivial⟩ (by decide) ?_
   refine ⟨congrArg Value.bool ?_, rfl, rfl⟩
   rw [Bool.eq_iff_iff]
   simp [*]
   try omega
 ·
  refine L.no rfl rfl rfl ?_; refine L.no rfl rfl rfl ?_; refine L.no rfl rfl rfl ?_; refine Lpu rfl rfl ?_; refine Lpu rfl rfl ?_; refine L.no rfl rfl rfl ?_; refine L.no rfl rfl rfl ?_; refine L.no rfl rfl rfl ?_; refine L.no rfl rfl rfl ?_; refine Lpu rfl rfl ?_; refine Lpu rfl rfl ?_; refine L.nil (QE.seq (C.ret ?_)); refine QE.ret (js := []) (hs := []) (vs := [_]) rfl ⟨rfl, trivial⟩ (by decide) ?_
  refine ⟨congrArg Value.bool ?_, rfl, rfl⟩
  rw [Bool.eq_iff_iff]
  simp [*]
  try omega

theorem right2_c (x : Po) (size : Int) (hs1 : -100000 ≤ size - x.ln) (hs2 : size - x.ln ≤ 100000) :
   Ctr X 199 [.agg (List.toArray x.cells), .int .i64 size] [] [] (fun v R' H' => v = .bool (insB x size && decide ((x.b.toNat : Int) = 0) && decide (x.ln = 0)) ∧ R' = [] ∧ H' = []) := by
 refine Ctr.of (X := X) (fn := Tryz.f199) Tryz.func199 rfl (by kernel_rfl) rfl ?_
 intro β
 refine C.seq (C.region ?_)
 refine L.boxA rfl rfl (fun A2 => ?_)
 refine Lpu rfl rfl ?_; refine L.nil (QE.seq (C.seq ?_)); refine C.freeze 0 rfl [] (by decide) (by decide) ?_; refine C.region ?_; refine L.step (Ev.loadA rfl rfl rfl (Src.r 0 rfl) rfl rfl (by decide)) rfl ?_; refine Lpu rfl rfl ?_; refine L.call (js := []) (js' := []) (inside_c x size hs1 hs2) rfl rfl rfl (by decide) trivial rfl ?_
 rintro _ _ _ ⟨rfl, rfl, rfl⟩
 refine Lpu rfl rfl ?_
 refine L.bool 8 rfl (fun hg8 => ?_) (fun hg8 => ?_)
 ·
  refine L.yes rfl ?_; refine L.step (Ev.fieldAddr rfl rfl rfl rfl rfl rfl (Src.r 0 rfl) (Nat.zero_lt_succ _) rfl) rfl ?_; refine L.yes rfl ?_; refine L.step (Ev.load rfl rfl rfl (Src.r 0 rfl) rfl) rfl ?_; refine L.yes rfl ?_; refine Lpu rfl rfl ?_; refine Lpu rfl rfl ?_; refine Lpu rfl rfl ?_
  refine L.bool 13 rfl (fun hg13 => ?_) (fun hg13 => ?_)
  ·
   replace hg13 := i_eq hg13
   refine L.yes rfl ?_; refine L.step (Ev.fieldAddr rfl rfl rfl rfl rfl rfl (Src.r 0 rfl) (Nat.zero_lt_succ _) rfl) rfl ?_; refine L.yes rfl ?_; refine L.step (Ev.load rfl rfl rfl (Src.r 0 rfl) rfl) rfl ?_; refine L.yes rfl ?_; refine Lpu rfl rfl ?_; refine L.yes rfl ?_; refine L.step (Ev.fieldAddr rfl rfl rfl rfl rfl rfl (Src.r 0 rfl) (Nat.zero_lt_succ _) rfl) rfl ?_; refine L.yes rfl ?_; refine L.step (Ev.load rfl rfl rfl (Src.r 0 rfl) rfl) rfl ?_; refine L.yes rfl ?_; refine Lpu rfl rfl ?_; refine Lpu rfl rfl ?_; refine Lpu rfl rfl ?_; refine L.nil (QE.seq (C.ret ?_)); refine QE.ret (js := []) (hs := []) (vs := [_]) rfl ⟨rfl, trivial⟩ (by decide) ?_
   refine ⟨congrArg Value.bool ?_, rfl, rfl⟩
   rw [Bool.eq_iff_iff]
   simp [*]
   try omega
  ·
   replace hg13 := i_ne hg13
   refine L.no rfl rfl rfl ?_; refine L.no rfl rfl rfl ?_; refine L.no rfl rfl rfl ?_; refine L.no rfl rfl rfl ?_; refine L.no rfl rfl rfl ?_; refine L.no rfl rfl rfl ?_; refine Lpu rfl rfl ?_; refine Lpu rfl rfl ?_; refine L.nil (QE.seq (C.ret ?_)); refine QE.ret (js := []) (hs := []) (vs := [_]) rfl ⟨rfl, trivial⟩ (by decide) ?_
   refine ⟨congrArg Value.bool ?_, rfl, rfl⟩
   rw [Bool.eq_iff_iff]
   simp [*]
   try omega
 ·
  refine L.no rfl rfl rfl ?_; refine L.no rfl rfl rfl ?_; refine L.no rfl rfl rfl ?_; refine Lpu rfl rfl ?_; refine Lpu rfl rfl ?_; refine L.no rfl rfl rfl ?_; refine L.no rfl rfl rfl ?_; refine L.no rfl rfl rfl ?_; refine L.no rfl rfl rfl ?_; refine L.no rfl rfl rfl ?_; refine L.no rfl rfl rfl ?_; refine Lpu rfl rfl ?_; refine Lpu rfl rfl ?_; refine L.nil (QE.seq (C.ret ?_)); refine QE.ret (js := []) (hs := []) (vs := [_]) rfl ⟨rfl, trivial⟩ (by decide) ?_
  refine ⟨congrArg Value.bool ?_, rfl, rfl⟩
  rw [Bool.eq_iff_iff]
  simp [*]
  try omega

theorem right3_c (x : Po) (size : Int) (_hs1 : -100000 ≤ size - x.ln) (_hs2 : size - x.ln ≤ 100000) :
   Ctr X 202 [.agg (List.toArray x.cells), .int .i64 size] [] [] (fun v R' H' => v = .bool (decide (x.fr = 0)) ∧ R' = [] ∧ H' = []) := by
 refine Ctr.of (X := X) (fn := Tryz.f202) Tryz.func202 rfl (by kernel_rfl) rfl ?_
 intro β
 refine C.seq (C.region ?_)
 refine L.boxA rfl rfl (fun A2 => ?_)
 refine Lpu rfl rfl ?_; refine L.nil (QE.seq (C.seq ?_)); refine C.freeze 0 rfl [] (by decide) (by decide) ?_; refine C.region ?_; refine L.step (Ev.fieldAddr rfl rfl rfl rfl rfl rfl (Src.r 0 rfl) (Nat.zero_lt_succ _) rfl) rfl ?_; refine L.step (Ev.load rfl rfl rfl (Src.r 0 rfl) rfl) rfl ?_; refine Lpu rfl rfl ?_; refine Lpu rfl rfl ?_
 refine L.bool 8 rfl (fun hg8 => ?_) (fun hg8 => ?_)
 ·
  replace hg8 := i_eq hg8
  refine L.yes rfl ?_; refine L.step (Ev.fieldAddr rfl rfl rfl rfl rfl rfl (Src.r 0 rfl) (Nat.zero_lt_succ _) rfl) rfl ?_; refine L.yes rfl ?_; refine L.step (Ev.load rfl rfl rfl (Src.r 0 rfl) rfl) rfl ?_; refine L.yes rfl ?_; refine Lpu rfl rfl ?_; refine L.yes rfl ?_; refine Lpu rfl rfl ?_; refine Lpu rfl rfl ?_; refine Lpu rfl rfl ?_; refine L.nil (QE.seq (C.ret ?_)); refine QE.ret (js := []) (hs := []) (vs := [_]) rfl ⟨rfl, trivial⟩ (by decide) ?_
  refine ⟨congrArg Value.bool ?_, rfl, rfl⟩
  rw [Bool.eq_iff_iff]
  simp [*]
  try omega
 ·
  replace hg8 := i_ne hg8
  refine L.no rfl rfl rfl ?_; refine L.no rfl rfl rfl ?_; refine L.no rfl rfl rfl ?_; refine L.no rfl rfl rfl ?_; refine Lpu rfl rfl ?_; refine Lpu rfl rfl ?_; refine L.nil (QE.seq (C.ret ?_)); refine QE.ret (js := []) (hs := []) (vs := [_]) rfl ⟨rfl, trivial⟩ (by decide) ?_
  refine ⟨congrArg Value.bool ?_, rfl, rfl⟩
  rw [Bool.eq_iff_iff]
  simp [*]
  try omega

theorem right4_c (x : Po) (size : Int) (_hs1 : -100000 ≤ size - x.ln) (_hs2 : size - x.ln ≤ 100000) :
   Ctr X 205 [.agg (List.toArray x.cells), .int .i64 size] [] [] (fun v R' H' => v = .bool (decide (x.fr = 0) && decide ((x.b.toNat : Int) = 0) && decide (x.ln = 0)) ∧ R' = [] ∧ H' = []) := by
 refine Ctr.of (X := X) (fn := Tryz.f205) Tryz.func205 rfl (by kernel_rfl) rfl ?_
 intro β
 refine C.seq (C.region ?_)
 refine L.boxA rfl rfl (fun A2 => ?_)
 refine Lpu rfl rfl ?_; refine L.nil (QE.seq (C.seq ?_)); refine C.freeze 0 rfl [] (by decide) (by decide) ?_; refine C.region ?_; refine L.step (Ev.fieldAddr rfl rfl rfl rfl rfl rfl (Src.r 0 rfl) (Nat.zero_lt_succ _) rfl) rfl ?_; refine L.step (Ev.load rfl rfl rfl (Src.r 0 rfl) rfl) rfl ?_; refine Lpu rfl rfl ?_; refine Lpu rfl rfl ?_
 refine L.bool 8 rfl (fun hg8 => ?_) (fun hg8 => ?_)
 ·
  replace hg8 := i_eq hg8
  refine L.yes rfl ?_; refine L.step (Ev.fieldAddr rfl rfl rfl rfl rfl rfl (Src.r 0 rfl) (Nat.zero_lt_succ _) rfl) rfl ?_; refine L.yes rfl ?_; refine L.step (Ev.load rfl rfl rfl (Src.r 0 rfl) rfl) rfl ?_; refine L.yes rfl ?_; refine Lpu rfl rfl ?_; refine Lpu rfl rfl ?_; refine Lpu rfl rfl ?_
  refine L.bool 13 rfl (fun hg13 => ?_) (fun hg13 => ?_)
  ·
   replace hg13 := i_eq hg13
   refine L.yes rfl ?_; refine L.step (Ev.fieldAddr rfl rfl rfl rfl rfl rfl (Src.r 0 rfl) (Nat.zero_lt_succ _) rfl) rfl ?_; refine L.yes rfl ?_; refine L.step (Ev.load rfl rfl rfl (Src.r 0 rfl) rfl) rfl ?_; refine L.yes rfl ?_; refine Lpu rfl rfl ?_; refine L.yes rfl ?_; refine L.step (Ev.fieldAddr rfl rfl rfl rfl rfl rfl (Src.r 0 rfl) (Nat.zero_lt_succ _) rfl) rfl ?_; refine L.yes rfl ?_; refine L.step (Ev.load rfl rfl rfl (Src.r 0 rfl) rfl) rfl ?_; refine L.yes rfl ?_; refine Lpu rfl rfl ?_; refine Lpu rfl rfl ?_; refine Lpu rfl rfl ?_; refine L.nil (QE.seq (C.ret ?_)); refine QE.ret (js := []) (hs := []) (vs := [_]) rfl ⟨rfl, trivial⟩ (by decide) ?_
   refine ⟨congrArg Value.bool ?_, rfl, rfl⟩
   rw [Bool.eq_iff_iff]
   simp [*]
   try omega
  ·
   replace hg13 := i_ne hg13
   refine L.no rfl rfl rfl ?_; refine L.no rfl rfl rfl ?_; refine L.no rfl rfl rfl ?_; refine L.no rfl rfl rfl ?_; refine L.no rfl rfl rfl ?_; refine L.no rfl rfl rfl ?_; refine Lpu rfl rfl ?_; refine Lpu rfl rfl ?_; refine L.nil (QE.seq (C.ret ?_)); refine QE.ret (js := []) (hs := []) (vs := [_]) rfl ⟨rfl, trivial⟩ (by decide) ?_
   refine ⟨congrArg Value.bool ?_, rfl, rfl⟩
   rw [Bool.eq_iff_iff]
   simp [*]
   try omega
 ·
  replace hg8 := i_ne hg8
  refine L.no rfl rfl rfl ?_; refine L.no rfl rfl rfl ?_; refine L.no rfl rfl rfl ?_; refine Lpu rfl rfl ?_; refine Lpu rfl rfl ?_; refine L.no rfl rfl rfl ?_; refine L.no rfl rfl rfl ?_; refine L.no rfl rfl rfl ?_; refine L.no rfl rfl rfl ?_; refine L.no rfl rfl rfl ?_; refine L.no rfl rfl rfl ?_; refine Lpu rfl rfl ?_; refine Lpu rfl rfl ?_; refine L.nil (QE.seq (C.ret ?_)); refine QE.ret (js := []) (hs := []) (vs := [_]) rfl ⟨rfl, trivial⟩ (by decide) ?_
  refine ⟨congrArg Value.bool ?_, rfl, rfl⟩
  rw [Bool.eq_iff_iff]
  simp [*]
  try omega

theorem right0_c (size : Int) :
   Ctr X 208 [.agg (List.toArray []), .int .i64 size] [] [] (fun v R' H' => v = .bool false ∧ R' = [] ∧ H' = []) := by
 refine Ctr.of (X := X) (fn := Tryz.f208) Tryz.func208 rfl (by kernel_rfl) rfl ?_
 intro β
 refine C.seq (C.region ?_)
 refine L.boxA rfl rfl (fun A2 => ?_)
 refine Lpu rfl rfl ?_; refine L.nil (QE.seq (C.seq (C.region ?_))); refine Lpu rfl rfl ?_; refine L.nil (QE.seq (C.ret ?_)); refine QE.ret (js := []) (hs := []) (vs := [_]) rfl ⟨rfl, trivial⟩ (by decide) ?_
 exact ⟨rfl, rfl, rfl⟩

theorem sym1_c (x : Po) (i : Nat) (h1 : 0 ≤ x.fr + (i : Int)) (h2 : x.fr + (i : Int) ≤ 100000) (_h3 : 0 ≤ x.fr) :
   Ctr X 196 [.agg (List.toArray x.cells), .int .i64 (i : Int)] [] [] (fun v R' H' => v = .agg (List.toArray (Sy.cells ⟨true, x.fr + (i : Int), 0⟩)) ∧ R' = [] ∧ H' = []) := by
 refine Ctr.of (X := X) (fn := Tryz.f196) Tryz.func196 rfl (by kernel_rfl) rfl ?_
 intro β
 refine C.seq (C.region ?_)
 refine L.boxA rfl rfl (fun A2 => ?_)
 refine L.alloc rfl rfl rfl (fun A4 => ?_)
 refine L.nil (QE.seq (C.seq ?_)); refine C.freeze 0 rfl [1] (by decide) (by decide) ?_; refine C.region ?_; refine L.step (Ev.fieldAddr rfl rfl rfl rfl rfl rfl (Src.r 0 rfl) (Nat.zero_lt_succ _) rfl) rfl ?_; refine L.step (Ev.load rfl rfl rfl (Src.r 0 rfl) rfl) rfl ?_; refine Lpu rfl rfl ?_; refine L.step (Ev.add rfl rfl (by omega) (by omega)) rfl ?_; refine L.step (Ev.build rfl rfl rfl rfl rfl rfl rfl) rfl ?_; refine L.storeA (j := 0) rfl rfl rfl rfl rfl (Nat.zero_lt_succ _) rfl rfl ?_; refine L.nil (QE.seq (C.ret ?_)); refine QE.ret (js := []) (hs := []) (vs := [_]) rfl ⟨⟨_, _, 0, _, rfl, rfl, Src.o 0 rfl, .inl ⟨rfl, by decide, _, rfl, rfl, rfl⟩⟩, trivial⟩ (by decide) ?_
 exact ⟨rfl, rfl, rfl⟩

theorem sym3_c (x : Po) (i : Nat) (_h1 : 0 ≤ x.fr + (i : Int)) (_h2 : x.fr + (i : Int) ≤ 100000) (_h3 : 0 ≤ x.fr) :
   Ctr X 203 [.agg (List.toArray x.cells), .int .i64 (i : Int)] [] [] (fun v R' H' => v = .agg (List.toArray (Sy.cells ⟨false, 0, x.b⟩)) ∧ R' = [] ∧ H' = []) := by
 refine Ctr.of (X := X) (fn := Tryz.f203) Tryz.func203 rfl (by kernel_rfl) rfl ?_
 intro β
 refine C.seq (C.region ?_)
 refine L.boxA rfl rfl (fun A2 => ?_)
 refine L.alloc rfl rfl rfl (fun A4 => ?_)
 refine L.nil (QE.seq (C.seq ?_)); refine C.freeze 0 rfl [1] (by decide) (by decide) ?_; refine C.region ?_; refine L.step (Ev.fieldAddr rfl rfl rfl rfl rfl rfl (Src.r 0 rfl) (Nat.zero_lt_succ _) rfl) rfl ?_; refine L.step (Ev.load rfl rfl rfl (Src.r 0 rfl) rfl) rfl ?_; refine L.step (Ev.build rfl rfl rfl rfl rfl rfl rfl) rfl ?_; refine L.storeA (j := 0) rfl rfl rfl rfl rfl (Nat.zero_lt_succ _) rfl rfl ?_; refine L.nil (QE.seq (C.ret ?_)); refine QE.ret (js := []) (hs := []) (vs := [_]) rfl ⟨⟨_, _, 0, _, rfl, rfl, Src.o 0 rfl, .inl ⟨rfl, by decide, _, rfl, rfl, rfl⟩⟩, trivial⟩ (by decide) ?_
 exact ⟨rfl, rfl, rfl⟩

theorem of_c (x : Po) :
   Ctr X 83 [.agg (List.toArray x.cells)] [] [] (fun v R' H' => v = .iface (kindT x 194 195 196 197 199) (kindP x) ∧ R' = [] ∧ H' = []) := by
 refine Ctr.of (X := X) (fn := Tryz.f83) Tryz.func83 rfl (by kernel_rfl) rfl ?_
 intro β
 refine C.seq (C.region ?_)
 refine L.boxA rfl rfl (fun A1 => ?_)
 refine Lpu rfl rfl ?_; refine L.nil (QE.seq (C.seq (C.seq ?_))); refine C.freeze 0 rfl [] (by decide) (by decide) ?_; refine C.region ?_; refine L.step (Ev.fieldAddr rfl rfl rfl rfl rfl rfl (Src.r 0 rfl) (Nat.zero_lt_succ _) rfl) rfl ?_; refine L.step (Ev.load rfl rfl rfl (Src.r 0 rfl) rfl) rfl ?_; refine L.nil (QE.seq (C.block (C.seq (C.region ?_)))); refine Lpu rfl rfl ?_; refine Lpu rfl rfl ?_; refine L.nil (QE.seq ?_)
 refine C.condB 5 rfl (fun hc5 => ?_) (fun hc5 => ?_)
 ·
  replace hc5 := i_eq hc5
  refine C.seq (C.region ?_); refine L.step (Ev.loadA rfl rfl rfl (Src.r 0 rfl) rfl rfl (by decide)) rfl ?_; refine Lpu rfl rfl ?_; refine Lpu rfl rfl ?_; refine L.nil (QE.seq (C.ret (QE.bR (QE.tR ?_)))); refine QE.ret (js := []) (hs := []) (vs := [_]) rfl ⟨rfl, trivial⟩ (by decide) ?_
  have hT : kindT x 194 195 196 197 199 = 194 := by unfold kindT; simp [*]
  refine ⟨?_, rfl, rfl⟩
  rw [hT]
  unfold kindP
  rw [if_pos (by omega)]
  rfl
 ·
  replace hc5 := i_ne hc5
  refine C.seq (C.region ?_); refine Lpu rfl rfl ?_; refine Lpu rfl rfl ?_; refine L.nil (QE.seq ?_)
  refine C.condB 9 rfl (fun hc9 => ?_) (fun hc9 => ?_)
  ·
   replace hc9 := i_eq hc9
   refine C.seq (C.region ?_); refine L.step (Ev.loadA rfl rfl rfl (Src.r 0 rfl) rfl rfl (by decide)) rfl ?_; refine Lpu rfl rfl ?_; refine Lpu rfl rfl ?_; refine L.nil (QE.seq (C.ret (QE.bR (QE.tR ?_)))); refine QE.ret (js := []) (hs := []) (vs := [_]) rfl ⟨rfl, trivial⟩ (by decide) ?_
   have hT : kindT x 194 195 196 197 199 = 195 := by unfold kindT; simp [*]
   refine ⟨?_, rfl, rfl⟩
   rw [hT]
   unfold kindP
   rw [if_pos (by omega)]
   rfl
  ·
   replace hc9 := i_ne hc9
   refine C.seq (C.region ?_); refine Lpu rfl rfl ?_; refine Lpu rfl rfl ?_; refine L.nil (QE.seq ?_)
   refine C.condB 13 rfl (fun hc13 => ?_) (fun hc13 => ?_)
   ·
    replace hc13 := i_eq hc13
    refine C.seq (C.region ?_); refine L.step (Ev.loadA rfl rfl rfl (Src.r 0 rfl) rfl rfl (by decide)) rfl ?_; refine Lpu rfl rfl ?_; refine Lpu rfl rfl ?_; refine L.nil (QE.seq (C.ret (QE.bR (QE.tR ?_)))); refine QE.ret (js := []) (hs := []) (vs := [_]) rfl ⟨rfl, trivial⟩ (by decide) ?_
    have hT : kindT x 194 195 196 197 199 = 196 := by unfold kindT; simp [*]
    refine ⟨?_, rfl, rfl⟩
    rw [hT]
    unfold kindP
    rw [if_pos (by omega)]
    rfl
   ·
    replace hc13 := i_ne hc13
    refine C.seq (C.region ?_); refine Lpu rfl rfl ?_; refine Lpu rfl rfl ?_; refine L.nil (QE.seq ?_)
    refine C.condB 17 rfl (fun hc17 => ?_) (fun hc17 => ?_)
    ·
     replace hc17 := i_eq hc17
     refine C.seq (C.region ?_); refine L.step (Ev.loadA rfl rfl rfl (Src.r 0 rfl) rfl rfl (by decide)) rfl ?_; refine Lpu rfl rfl ?_; refine Lpu rfl rfl ?_; refine L.nil (QE.seq (C.ret (QE.bR (QE.tR ?_)))); refine QE.ret (js := []) (hs := []) (vs := [_]) rfl ⟨rfl, trivial⟩ (by decide) ?_
     have hT : kindT x 194 195 196 197 199 = 197 := by unfold kindT; simp [*]
     refine ⟨?_, rfl, rfl⟩
     rw [hT]
     unfold kindP
     rw [if_pos (by omega)]
     rfl
    ·
     replace hc17 := i_ne hc17
     refine C.skip ?_; refine QE.blkN ?_; refine QE.seq (C.seq (C.region ?_)); refine L.step (Ev.build rfl rfl rfl rfl rfl rfl rfl) rfl ?_; refine Lpu rfl rfl ?_; refine Lpu rfl rfl ?_; refine L.nil (QE.seq (C.ret ?_)); refine QE.ret (js := []) (hs := []) (vs := [_]) rfl ⟨rfl, trivial⟩ (by decide) ?_
     have hT : kindT x 194 195 196 197 199 = 199 := by unfold kindT; rw [if_neg hc5, if_neg hc9, if_neg hc13, if_neg hc17]
     refine ⟨?_, rfl, rfl⟩
     rw [hT]
     unfold kindP
     rw [if_neg (by omega)]
     rfl

end Go.Proofs.YtpccfdnmnnnboaaGreat
