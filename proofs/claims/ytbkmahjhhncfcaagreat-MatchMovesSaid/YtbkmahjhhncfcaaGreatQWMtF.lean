/-
  Patches whose operations may have bytes of their own: the operations.
-/
import Derived.Test.YtbkmahjhhncfcaaGreatQWMtE
import Derived.Test.YtbkmahjhhncfcaaGreatQPl
namespace Go.Proofs.YtbkmahjhhncfcaaGreat
open Go.Sl

theorem insideQ_c (x : Pq) (size : Int) (hs1 : -100000 ≤ size - x.ln) (hs2 : size - x.ln ≤ 100000) :
   Ctr X 155 [.agg (List.toArray x.cells), .int .i64 size] [] [] (fun v R' H' => v = .bool (insQ x size) ∧ R' = [] ∧ H' = []) := by
 refine Ctr.of (X := X) (fn := Tryz.f155) Tryz.func155 rfl (by kernel_rfl) rfl ?_
 intro β
 refine C.seq (C.region ?_)
 refine L.boxA rfl rfl (fun A2 => ?_)
 refine Lpu rfl rfl ?_; refine L.nil (QE.seq (C.seq ?_)); refine C.freeze 0 rfl [] (by decide) (by decide) ?_; refine C.region ?_; refine L.step (Ev.fieldAddr rfl rfl rfl rfl rfl rfl (Src.r 0 rfl) (Nat.zero_lt_succ _) rfl) rfl ?_; refine L.step (Ev.load rfl rfl rfl (Src.r 0 rfl) rfl) rfl ?_; refine Lpu rfl rfl ?_; refine Lpu rfl rfl ?_
 refine L.bool 8 rfl (fun hg8 => ?_) (fun hg8 => ?_)
 ·
  replace hg8 := of_decide_eq_true hg8
  refine L.yes rfl ?_; refine L.step (Ev.fieldAddr rfl rfl rfl rfl rfl rfl (Src.r 0 rfl) (Nat.zero_lt_succ _) rfl) rfl ?_; refine L.yes rfl ?_; refine L.step (Ev.load rfl rfl rfl (Src.r 0 rfl) rfl) rfl ?_; refine L.yes rfl ?_; refine Lpu rfl rfl ?_; refine L.yes rfl ?_; refine L.step (Ev.fieldAddr rfl rfl rfl rfl rfl rfl (Src.r 0 rfl) (Nat.zero_lt_succ _) rfl) rfl ?_; refine L.yes rfl ?_; refine L.step (Ev.load rfl rfl rfl (Src.r 0 rfl) rfl) rfl ?_; refine L.yes rfl ?_; refine L.step (Ev.sub rfl rfl (by omega) (by omega)) rfl ?_; refine L.yes rfl ?_; refine Lpu rfl rfl ?_; refine Lpu rfl rfl ?_; refine Lpu rfl rfl ?_; refine L.nil (QE.seq (C.ret ?_)); refine QE.ret (js := []) (hs := []) (vs := [_]) rfl ⟨rfl, trivial⟩ (by decide) ?_
  exact ⟨congrArg Value.bool (by unfold insQ; rw [Bool.eq_iff_iff]; simp; omega), rfl, rfl⟩
 ·
  replace hg8 := of_decide_eq_false hg8
  refine L.no rfl rfl rfl ?_; refine L.no rfl rfl rfl ?_; refine L.no rfl rfl rfl ?_; refine L.no rfl rfl rfl ?_; refine L.no rfl rfl rfl ?_; refine L.no rfl rfl rfl ?_; refine L.no rfl rfl rfl ?_; refine Lpu rfl rfl ?_; refine Lpu rfl rfl ?_; refine L.nil (QE.seq (C.ret ?_)); refine QE.ret (js := []) (hs := []) (vs := [_]) rfl ⟨rfl, trivial⟩ (by decide) ?_
  exact ⟨congrArg Value.bool (by unfold insQ; rw [Bool.eq_iff_iff]; simp; omega), rfl, rfl⟩

theorem right1Q_c (x : Pq) (size : Int) (hs1 : -100000 ≤ size - x.ln) (hs2 : size - x.ln ≤ 100000) :
   Ctr X 153 [.agg (List.toArray x.cells), .int .i64 size] [] [] (fun v R' H' => v = .bool (insQ x size && decide ((x.b.toNat : Int) = 0) && decide ((x.d.length : Int) = 0)) ∧ R' = [] ∧ H' = []) := by
 refine Ctr.of (X := X) (fn := Tryz.f153) Tryz.func153 rfl (by kernel_rfl) rfl ?_
 intro β
 refine C.seq (C.region ?_)
 refine L.boxA rfl rfl (fun A2 => ?_)
 refine Lpu rfl rfl ?_; refine L.nil (QE.seq (C.seq ?_)); refine C.freeze 0 rfl [] (by decide) (by decide) ?_; refine C.region ?_; refine L.step (Ev.loadA rfl rfl rfl (Src.r 0 rfl) rfl rfl (by decide)) rfl ?_; refine Lpu rfl rfl ?_; refine L.call (js := []) (js' := []) (insideQ_c x size hs1 hs2) rfl rfl rfl (by decide) trivial rfl ?_
 rintro _ _ _ ⟨rfl, rfl, rfl⟩
 refine Lpu rfl rfl ?_
 refine L.bool 8 rfl (fun hg8 => ?_) (fun hg8 => ?_)
 ·
  refine L.yes rfl ?_; refine L.step (Ev.fieldAddr rfl rfl rfl rfl rfl rfl (Src.r 0 rfl) (Nat.zero_lt_succ _) rfl) rfl ?_; refine L.yes rfl ?_; refine L.step (Ev.load rfl rfl rfl (Src.r 0 rfl) rfl) rfl ?_; refine L.yes rfl ?_; refine Lpu rfl rfl ?_; refine Lpu rfl rfl ?_; refine Lpu rfl rfl ?_
  refine L.bool 13 rfl (fun hg13 => ?_) (fun hg13 => ?_)
  ·
   replace hg13 := i_eq hg13
   refine L.yes rfl ?_; refine L.step (Ev.fieldAddr rfl rfl rfl rfl rfl rfl (Src.r 0 rfl) (Nat.zero_lt_succ _) rfl) rfl ?_; refine L.yes rfl ?_; refine L.step (Ev.load rfl rfl rfl (Src.r 0 rfl) rfl) rfl ?_; refine L.yes rfl ?_; refine Lpu rfl rfl ?_; refine L.yes rfl ?_; refine Lpu rfl rfl ?_; refine Lpu rfl rfl ?_; refine Lpu rfl rfl ?_; refine L.nil (QE.seq (C.ret ?_)); refine QE.ret (js := []) (hs := []) (vs := [_]) rfl ⟨rfl, trivial⟩ (by decide) ?_
   refine ⟨congrArg Value.bool ?_, rfl, rfl⟩
   rw [Bool.eq_iff_iff]
   simp [*]
   try omega
  ·
   replace hg13 := i_ne hg13
   refine L.no rfl rfl rfl ?_; refine L.no rfl rfl rfl ?_; refine L.no rfl rfl rfl ?_; refine L.no rfl rfl rfl ?_; refine Lpu rfl rfl ?_; refine Lpu rfl rfl ?_; refine L.nil (QE.seq (C.ret ?_)); refine QE.ret (js := []) (hs := []) (vs := [_]) rfl ⟨rfl, trivial⟩ (by decide) ?_
   refine ⟨congrArg Value.bool ?_, rfl, rfl⟩
   rw [Bool.eq_iff_iff]
   simp [*]
   try omega
 ·
  refine L.no rfl rfl rfl ?_; refine L.no rfl rfl rfl ?_; refine L.no rfl rfl rfl ?_; refine Lpu rfl rfl ?_; refine Lpu rfl rfl ?_; refine L.no rfl rfl rfl ?_; refine L.no rfl rfl rfl ?_; refine L.no rfl rfl rfl ?_; refine L.no rfl rfl rfl ?_; refine Lpu rfl rfl ?_; refine Lpu rfl rfl ?_; refine L.nil (QE.seq (C.ret ?_)); refine QE.ret (js := []) (hs := []) (vs := [_]) rfl ⟨rfl, trivial⟩ (by decide) ?_
  refine ⟨congrArg Value.bool ?_, rfl, rfl⟩
  rw [Bool.eq_iff_iff]
  simp [*]
  try omega

theorem right2Q_c (x : Pq) (size : Int) (hs1 : -100000 ≤ size - x.ln) (hs2 : size - x.ln ≤ 100000) :
   Ctr X 157 [.agg (List.toArray x.cells), .int .i64 size] [] [] (fun v R' H' => v = .bool (insQ x size && decide ((x.b.toNat : Int) = 0) && decide ((x.d.length : Int) = x.ln)) ∧ R' = [] ∧ H' = []) := by
 refine Ctr.of (X := X) (fn := Tryz.f157) Tryz.func157 rfl (by kernel_rfl) rfl ?_
 intro β
 refine C.seq (C.region ?_)
 refine L.boxA rfl rfl (fun A2 => ?_)
 refine Lpu rfl rfl ?_; refine L.nil (QE.seq (C.seq ?_)); refine C.freeze 0 rfl [] (by decide) (by decide) ?_; refine C.region ?_; refine L.step (Ev.loadA rfl rfl rfl (Src.r 0 rfl) rfl rfl (by decide)) rfl ?_; refine Lpu rfl rfl ?_; refine L.call (js := []) (js' := []) (insideQ_c x size hs1 hs2) rfl rfl rfl (by decide) trivial rfl ?_
 rintro _ _ _ ⟨rfl, rfl, rfl⟩
 refine Lpu rfl rfl ?_
 refine L.bool 8 rfl (fun hg8 => ?_) (fun hg8 => ?_)
 ·
  refine L.yes rfl ?_; refine L.step (Ev.fieldAddr rfl rfl rfl rfl rfl rfl (Src.r 0 rfl) (Nat.zero_lt_succ _) rfl) rfl ?_; refine L.yes rfl ?_; refine L.step (Ev.load rfl rfl rfl (Src.r 0 rfl) rfl) rfl ?_; refine L.yes rfl ?_; refine Lpu rfl rfl ?_; refine Lpu rfl rfl ?_; refine Lpu rfl rfl ?_
  refine L.bool 13 rfl (fun hg13 => ?_) (fun hg13 => ?_)
  ·
   replace hg13 := i_eq hg13
   refine L.yes rfl ?_; refine L.step (Ev.fieldAddr rfl rfl rfl rfl rfl rfl (Src.r 0 rfl) (Nat.zero_lt_succ _) rfl) rfl ?_; refine L.yes rfl ?_; refine L.step (Ev.load rfl rfl rfl (Src.r 0 rfl) rfl) rfl ?_; refine L.yes rfl ?_; refine Lpu rfl rfl ?_; refine L.yes rfl ?_; refine L.step (Ev.fieldAddr rfl rfl rfl rfl rfl rfl (Src.r 0 rfl) (Nat.zero_lt_succ _) rfl) rfl ?_; refine L.yes rfl ?_; refine L.step (Ev.load rfl rfl rfl (Src.r 0 rfl) rfl) rfl ?_; refine L.yes rfl ?_; refine Lpu rfl rfl ?_; refine Lpu rfl rfl ?_; refine Lpu rfl rfl ?_; refine L.nil (QE.seq (C.ret ?_)); refine QE.ret (js := []) (hs := []) (vs := [_]) rfl ⟨rfl, trivial⟩ (by decide) ?_
   refine ⟨congrArg Value.bool ?_, rfl, rfl⟩
   rw [Bool.eq_iff_iff]
   simp [*]
   try omega
  ·
   replace hg13 := i_ne hg13
   refine L.no rfl rfl rfl ?_; refine L.no rfl rfl rfl ?_; refine L.no rfl rfl rfl ?_; refine L.no rfl rfl rfl ?_; refine L.no rfl rfl rfl ?_; refine L.no rfl rfl rfl ?_; refine Lpu rfl rfl ?_; refine Lpu rfl rfl ?_; refine L.nil (QE.seq (C.ret ?_)); refine QE.ret (js := []) (hs := []) (vs := [_]) rfl ⟨rfl, trivial⟩ (by decide) ?_
   refine ⟨congrArg Value.bool ?_, rfl, rfl⟩
   rw [Bool.eq_iff_iff]
   simp [*]
   try omega
 ·
  refine L.no rfl rfl rfl ?_; refine L.no rfl rfl rfl ?_; refine L.no rfl rfl rfl ?_; refine Lpu rfl rfl ?_; refine Lpu rfl rfl ?_; refine L.no rfl rfl rfl ?_; refine L.no rfl rfl rfl ?_; refine L.no rfl rfl rfl ?_; refine L.no rfl rfl rfl ?_; refine L.no rfl rfl rfl ?_; refine L.no rfl rfl rfl ?_; refine Lpu rfl rfl ?_; refine Lpu rfl rfl ?_; refine L.nil (QE.seq (C.ret ?_)); refine QE.ret (js := []) (hs := []) (vs := [_]) rfl ⟨rfl, trivial⟩ (by decide) ?_
  refine ⟨congrArg Value.bool ?_, rfl, rfl⟩
  rw [Bool.eq_iff_iff]
  simp [*]
  try omega

theorem right3Q_c (x : Pq) (size : Int) (_hs1 : -100000 ≤ size - x.ln) (_hs2 : size - x.ln ≤ 100000) :
   Ctr X 160 [.agg (List.toArray x.cells), .int .i64 size] [] [] (fun v R' H' => v = .bool (decide (x.fr = 0) && decide ((x.d.length : Int) = 0)) ∧ R' = [] ∧ H' = []) := by
 refine Ctr.of (X := X) (fn := Tryz.f160) Tryz.func160 rfl (by kernel_rfl) rfl ?_
 intro β
 refine C.seq (C.region ?_)
 refine L.boxA rfl rfl (fun A2 => ?_)
 refine Lpu rfl rfl ?_; refine L.nil (QE.seq (C.seq ?_)); refine C.freeze 0 rfl [] (by decide) (by decide) ?_; refine C.region ?_; refine L.step (Ev.fieldAddr rfl rfl rfl rfl rfl rfl (Src.r 0 rfl) (Nat.zero_lt_succ _) rfl) rfl ?_; refine L.step (Ev.load rfl rfl rfl (Src.r 0 rfl) rfl) rfl ?_; refine Lpu rfl rfl ?_; refine Lpu rfl rfl ?_
 refine L.bool 8 rfl (fun hg8 => ?_) (fun hg8 => ?_)
 ·
  replace hg8 := i_eq hg8
  refine L.yes rfl ?_; refine L.step (Ev.fieldAddr rfl rfl rfl rfl rfl rfl (Src.r 0 rfl) (Nat.zero_lt_succ _) rfl) rfl ?_; refine L.yes rfl ?_; refine L.step (Ev.load rfl rfl rfl (Src.r 0 rfl) rfl) rfl ?_; refine L.yes rfl ?_; refine Lpu rfl rfl ?_; refine L.yes rfl ?_; refine Lpu rfl rfl ?_; refine Lpu rfl rfl ?_; refine Lpu rfl rfl ?_; refine L.nil (QE.seq (C.ret ?_)); refine QE.ret (js := []) (hs := []) (vs := [_]) rfl ⟨rfl, trivial⟩ (by decide) ?_
  refine ⟨congrArg Value.bool ?_, rfl, rfl⟩
  rw [Bool.eq_iff_iff]
  simp [*]
  try omega
 ·
  replace hg8 := i_ne hg8
  refine L.no rfl rfl rfl ?_; refine L.no rfl rfl rfl ?_; refine L.no rfl rfl rfl ?_; refine L.no rfl rfl rfl ?_; refine Lpu rfl rfl ?_; refine Lpu rfl rfl ?_; refine L.nil (QE.seq (C.ret ?_)); refine QE.ret (js := []) (hs := []) (vs := [_]) rfl ⟨rfl, trivial⟩ (by decide) ?_
  refine ⟨congrArg Value.bool ?_, rfl, rfl⟩
  rw [Bool.eq_iff_iff]
  simp [*]
  try omega

theorem right4Q_c (x : Pq) (size : Int) (_hs1 : -100000 ≤ size - x.ln) (_hs2 : size - x.ln ≤ 100000) :
   Ctr X 163 [.agg (List.toArray x.cells), .int .i64 size] [] [] (fun v R' H' => v = .bool (decide (x.fr = 0) && decide ((x.b.toNat : Int) = 0) && decide ((x.d.length : Int) = x.ln)) ∧ R' = [] ∧ H' = []) := by
 refine Ctr.of (X := X) (fn := Tryz.f163) Tryz.func163 rfl (by kernel_rfl) rfl ?_
 intro β
 refine C.seq (C.region ?_)
 refine L.boxA rfl rfl (fun A2 => ?_)
 refine Lpu rfl rfl ?_; refine L.nil (QE.seq (C.seq ?_)); refine C.freeze 0 rfl [] (by decide) (by decide) ?_; refine C.region ?_; refine L.step (Ev.fieldAddr rfl rfl rfl rfl rfl rfl (Src.r 0 rfl) (Nat.zero_lt_succ _) rfl) rfl ?_; refine L.step (Ev.load rfl rfl rfl (Src.r 0 rfl) rfl) rfl ?_; refine Lpu rfl rfl ?_; refine Lpu rfl rfl ?_
 refine L.bool 8 rfl (fun hg8 => ?_) (fun hg8 => ?_)
 ·
  replace hg8 := i_eq hg8
  refine L.yes rfl ?_; refine L.step (Ev.fieldAddr rfl rfl rfl rfl rfl rfl (Src.r 0 rfl) (Nat.zero_lt_succ _) rfl) rfl ?_; refine L.yes rfl ?_; refine L.step (Ev.load rfl rfl rfl (Src.r 0 rfl) rfl) rfl ?_; refine L.yes rfl ?_; refine Lpu rfl rfl ?_; refine Lpu rfl rfl ?_; refine Lpu rfl rfl ?_
  refine L.bool 13 rfl (fun hg13 => ?_) (fun hg13 => ?_)
  ·
   replace hg13 := i_eq hg13
   refine L.yes rfl ?_; refine L.step (Ev.fieldAddr rfl rfl rfl rfl rfl rfl (Src.r 0 rfl) (Nat.zero_lt_succ _) rfl) rfl ?_; refine L.yes rfl ?_; refine L.step (Ev.load rfl rfl rfl (Src.r 0 rfl) rfl) rfl ?_; refine L.yes rfl ?_; refine Lpu rfl rfl ?_; refine L.yes rfl ?_; refine L.step (Ev.fieldAddr rfl rfl rfl rfl rfl rfl (Src.r 0 rfl) (Nat.zero_lt_succ _) rfl) rfl ?_; refine L.yes rfl ?_; refine L.step (Ev.load rfl rfl rfl (Src.r 0 rfl) rfl) rfl ?_; refine L.yes rfl ?_; refine Lpu rfl rfl ?_; refine Lpu rfl rfl ?_; refine Lpu rfl rfl ?_; refine L.nil (QE.seq (C.ret ?_)); refine QE.ret (js := []) (hs := []) (vs := [_]) rfl ⟨rfl, trivial⟩ (by decide) ?_
   refine ⟨congrArg Value.bool ?_, rfl, rfl⟩
   rw [Bool.eq_iff_iff]
   simp [*]
   try omega
  ·
   replace hg13 := i_ne hg13
   refine L.no rfl rfl rfl ?_; refine L.no rfl rfl rfl ?_; refine L.no rfl rfl rfl ?_; refine L.no rfl rfl rfl ?_; refine L.no rfl rfl rfl ?_; refine L.no rfl rfl rfl ?_; refine Lpu rfl rfl ?_; refine Lpu rfl rfl ?_; refine L.nil (QE.seq (C.ret ?_)); refine QE.ret (js := []) (hs := []) (vs := [_]) rfl ⟨rfl, trivial⟩ (by decide) ?_
   refine ⟨congrArg Value.bool ?_, rfl, rfl⟩
   rw [Bool.eq_iff_iff]
   simp [*]
   try omega
 ·
  replace hg8 := i_ne hg8
  refine L.no rfl rfl rfl ?_; refine L.no rfl rfl rfl ?_; refine L.no rfl rfl rfl ?_; refine Lpu rfl rfl ?_; refine Lpu rfl rfl ?_; refine L.no rfl rfl rfl ?_; refine L.no rfl rfl rfl ?_; refine L.no rfl rfl rfl ?_; refine L.no rfl rfl rfl ?_; refine L.no rfl rfl rfl ?_; refine L.no rfl rfl rfl ?_; refine Lpu rfl rfl ?_; refine Lpu rfl rfl ?_; refine L.nil (QE.seq (C.ret ?_)); refine QE.ret (js := []) (hs := []) (vs := [_]) rfl ⟨rfl, trivial⟩ (by decide) ?_
  refine ⟨congrArg Value.bool ?_, rfl, rfl⟩
  rw [Bool.eq_iff_iff]
  simp [*]
  try omega

theorem right0Q_c (size : Int) :
   Ctr X 166 [.agg (List.toArray []), .int .i64 size] [] [] (fun v R' H' => v = .bool false ∧ R' = [] ∧ H' = []) := by
 refine Ctr.of (X := X) (fn := Tryz.f166) Tryz.func166 rfl (by kernel_rfl) rfl ?_
 intro β
 refine C.seq (C.region ?_)
 refine L.boxA rfl rfl (fun A2 => ?_)
 refine Lpu rfl rfl ?_; refine L.nil (QE.seq (C.seq (C.region ?_))); refine Lpu rfl rfl ?_; refine L.nil (QE.seq (C.ret ?_)); refine QE.ret (js := []) (hs := []) (vs := [_]) rfl ⟨rfl, trivial⟩ (by decide) ?_
 exact ⟨rfl, rfl, rfl⟩

theorem sym1Q_c (x : Pq) (i : Nat) (size : Int) (hr : rigQ x size = true) (hk : x.k = 1) (hl : (i : Int) < x.ln) (hs : size ≤ 65536) (hi : (i : Int) ≤ 65536) :
   Ctr X 154 [.agg (List.toArray x.cells), .int .i64 (i : Int)] [Rd x.A (U8 x.d)] [] (fun v R' H' => v = .agg (List.toArray (Sy.cells (symQ x i))) ∧ R' = [] ∧ H' = []) := by
 refine Ctr.of (X := X) (fn := Tryz.f154) Tryz.func154 rfl (by kernel_rfl) rfl ?_
 intro β
 have hin := rigQ_in hr (by omega)
 refine C.seq (C.region ?_)
 refine L.boxA rfl rfl (fun A2 => ?_)
 refine L.alloc rfl rfl rfl (fun A4 => ?_)
 refine L.nil (QE.seq (C.seq ?_)); refine C.freeze 0 rfl [1] (by decide) (by decide) ?_; refine C.region ?_; refine L.step (Ev.fieldAddr rfl rfl rfl rfl rfl rfl (Src.r 0 rfl) (Nat.zero_lt_succ _) rfl) rfl ?_; refine L.step (Ev.load rfl rfl rfl (Src.r 0 rfl) rfl) rfl ?_; refine Lpu rfl rfl ?_; refine L.step (Ev.add rfl rfl (by omega) (by omega)) rfl ?_; refine L.step (Ev.build rfl rfl rfl rfl rfl rfl rfl) rfl ?_; refine L.storeA (j := 0) rfl rfl rfl rfl rfl (Nat.zero_lt_succ _) rfl rfl ?_; refine L.nil (QE.seq (C.ret ?_)); refine QE.ret (js := []) (hs := []) (vs := [_]) rfl ⟨⟨_, _, 0, _, rfl, rfl, Src.o 0 rfl, .inl ⟨rfl, by decide, _, rfl, rfl, rfl⟩⟩, trivial⟩ (by decide) ?_
 exact ⟨by unfold symQ; rw [if_pos hk] <;> rfl, rfl, rfl⟩

theorem sym2Q_c (x : Pq) (i : Nat) (size : Int) (hr : rigQ x size = true) (hk : x.k = 2) (hl : (i : Int) < x.ln) (hs : size ≤ 65536) (hi : (i : Int) ≤ 65536) :
   Ctr X 158 [.agg (List.toArray x.cells), .int .i64 (i : Int)] [Rd x.A (U8 x.d)] [] (fun v R' H' => v = .agg (List.toArray (Sy.cells (symQ x i))) ∧ R' = [] ∧ H' = []) := by
 refine Ctr.of (X := X) (fn := Tryz.f158) Tryz.func158 rfl (by kernel_rfl) rfl ?_
 intro β
 have hdl := rigQ_data hr (by omega)
 have hin := rigQ_in hr (by omega)
 refine C.seq (C.region ?_)
 refine L.boxA rfl rfl (fun A2 => ?_)
 refine L.alloc rfl rfl rfl (fun A4 => ?_)
 refine L.nil (QE.seq (C.seq ?_)); refine C.freeze 0 rfl [1] (by decide) (by decide) ?_; refine C.regionM [Rd A2 [.int .i64 x.k, .int .i64 x.fr, .int .i64 x.ln, .int .u8 (x.b.toNat : Int), .slice x.A x.d.length x.c], Rd x.A (U8 x.d)] (Hq [0, 1] rfl) ?_; refine LM.q 0 rfl (by kernel_rfl) (Ev.fieldAddr rfl rfl rfl rfl rfl rfl (Src.r 0 rfl) (Nat.zero_lt_succ _) rfl) rfl (Hq [0, 1] rfl) ?_; refine LM.q 1 rfl (by kernel_rfl) (Ev.load rfl rfl rfl (Src.r 0 rfl) rfl) rfl (Hq [0, 1] rfl) ?_; refine LM.q 2 rfl (by kernel_rfl) (Ev.pure rfl) rfl (Hq [0, 1] rfl) ?_; refine LM.q 3 rfl (by kernel_rfl) (Ev.add rfl rfl (by omega) (by omega)) rfl (Hq [0, 1] rfl) ?_; refine LM.q 4 rfl (by kernel_rfl) (Ev.fieldAddr rfl rfl rfl rfl rfl rfl (Src.r 0 rfl) (Nat.zero_lt_succ _) rfl) rfl (Hq [0, 1] rfl) ?_; refine LM.q 5 rfl (by kernel_rfl) (Ev.load rfl rfl rfl (Src.r 0 rfl) rfl) rfl (Hq [0, 1] rfl) ?_; refine LM.f 6 rfl (by kernel_rfl) (Hq [0, 1] rfl) ?_; refine Lpu rfl rfl ?_
 refine L.nil (QE.m (by kernel_rfl) ?_)
 refine LM.f 7 rfl (by kernel_rfl) (Hq [0, 1] rfl) ?_; refine L.step (Ev.idx1 (k := i) rfl rfl rfl rfl rfl rfl rfl (by omega) (Src.r 1 rfl) (by rw [U8_len]; omega)) rfl ?_
 refine L.nil (QE.m (by kernel_rfl) ?_)
 refine LM.f 8 rfl (by kernel_rfl) (Hq [0, 1] rfl) ?_; refine L.step (Ev.load rfl rfl rfl (Src.r 1 rfl) (U8_get (by omega))) rfl ?_
 refine L.nil (QE.m (by kernel_rfl) ?_)
 refine LM.cut [] (by kernel_rfl) (Hq [0, 1] rfl) ?_; refine LM.f 9 rfl (by kernel_rfl) trivial ?_; refine L.step (Ev.build rfl rfl rfl rfl rfl rfl rfl) rfl ?_
 refine L.nil (QE.m (by kernel_rfl) ?_)
 refine LM.f 10 rfl (by kernel_rfl) trivial ?_; refine L.storeA (j := 0) rfl rfl rfl rfl rfl (Nat.zero_lt_succ _) rfl rfl ?_
 refine L.nil (QE.m (by kernel_rfl) ?_)
 refine LM.nil (by kernel_rfl) trivial ?_; refine QE.seq (C.ret ?_); refine QE.ret (js := []) (hs := []) (vs := [_]) rfl ⟨⟨_, _, 0, _, rfl, rfl, Src.o 0 rfl, .inl ⟨rfl, by decide, _, rfl, rfl, rfl⟩⟩, trivial⟩ (by decide) ?_
 exact ⟨by unfold symQ; rw [if_neg (by omega), if_pos hk] <;> rfl, rfl, rfl⟩

theorem sym3Q_c (x : Pq) (i : Nat) (size : Int) (_hr : rigQ x size = true) (hk : x.k = 3) (_hl : (i : Int) < x.ln) (_hs : size ≤ 65536) (_hi : (i : Int) ≤ 65536) :
   Ctr X 161 [.agg (List.toArray x.cells), .int .i64 (i : Int)] [Rd x.A (U8 x.d)] [] (fun v R' H' => v = .agg (List.toArray (Sy.cells (symQ x i))) ∧ R' = [] ∧ H' = []) := by
 refine Ctr.of (X := X) (fn := Tryz.f161) Tryz.func161 rfl (by kernel_rfl) rfl ?_
 intro β
 refine C.seq (C.region ?_)
 refine L.boxA rfl rfl (fun A2 => ?_)
 refine L.alloc rfl rfl rfl (fun A4 => ?_)
 refine L.nil (QE.seq (C.seq ?_)); refine C.freeze 0 rfl [1] (by decide) (by decide) ?_; refine C.region ?_; refine L.step (Ev.fieldAddr rfl rfl rfl rfl rfl rfl (Src.r 0 rfl) (Nat.zero_lt_succ _) rfl) rfl ?_; refine L.step (Ev.load rfl rfl rfl (Src.r 0 rfl) rfl) rfl ?_; refine L.step (Ev.build rfl rfl rfl rfl rfl rfl rfl) rfl ?_; refine L.storeA (j := 0) rfl rfl rfl rfl rfl (Nat.zero_lt_succ _) rfl rfl ?_; refine L.nil (QE.seq (C.ret ?_)); refine QE.ret (js := []) (hs := []) (vs := [_]) rfl ⟨⟨_, _, 0, _, rfl, rfl, Src.o 0 rfl, .inl ⟨rfl, by decide, _, rfl, rfl, rfl⟩⟩, trivial⟩ (by decide) ?_
 exact ⟨by unfold symQ; rw [if_neg (by omega), if_neg (by omega), if_pos hk] <;> rfl, rfl, rfl⟩

theorem sym4Q_c (x : Pq) (i : Nat) (size : Int) (hr : rigQ x size = true) (hk : x.k = 4) (hl : (i : Int) < x.ln) (_hs : size ≤ 65536) (hi : (i : Int) ≤ 65536) :
   Ctr X 164 [.agg (List.toArray x.cells), .int .i64 (i : Int)] [Rd x.A (U8 x.d)] [] (fun v R' H' => v = .agg (List.toArray (Sy.cells (symQ x i))) ∧ R' = [] ∧ H' = []) := by
 refine Ctr.of (X := X) (fn := Tryz.f164) Tryz.func164 rfl (by kernel_rfl) rfl ?_
 intro β
 have hdl := rigQ_data hr (by omega)
 refine C.seq (C.region ?_)
 refine L.boxA rfl rfl (fun A2 => ?_)
 refine L.alloc rfl rfl rfl (fun A4 => ?_)
 refine L.nil (QE.seq (C.seq ?_)); refine C.freeze 0 rfl [1] (by decide) (by decide) ?_; refine C.region ?_; refine L.step (Ev.fieldAddr rfl rfl rfl rfl rfl rfl (Src.r 0 rfl) (Nat.zero_lt_succ _) rfl) rfl ?_; refine L.step (Ev.load rfl rfl rfl (Src.r 0 rfl) rfl) rfl ?_; refine Lpu rfl rfl ?_; refine L.step (Ev.idx1 (k := i) rfl rfl rfl rfl rfl rfl rfl (by omega) (Src.r 1 rfl) (by rw [U8_len]; omega)) rfl ?_; refine L.step (Ev.load rfl rfl rfl (Src.r 1 rfl) (U8_get (by omega))) rfl ?_; refine L.step (Ev.build rfl rfl rfl rfl rfl rfl rfl) rfl ?_; refine L.storeA (j := 0) rfl rfl rfl rfl rfl (Nat.zero_lt_succ _) rfl rfl ?_; refine L.nil (QE.seq (C.ret ?_)); refine QE.ret (js := []) (hs := []) (vs := [_]) rfl ⟨⟨_, _, 0, _, rfl, rfl, Src.o 0 rfl, .inl ⟨rfl, by decide, _, rfl, rfl, rfl⟩⟩, trivial⟩ (by decide) ?_
 exact ⟨by unfold symQ; rw [if_neg (by omega), if_neg (by omega), if_neg (by omega)] <;> rfl, rfl, rfl⟩

theorem ofQ_c (x : Pq) :
   Ctr X 88 [.agg (List.toArray x.cells)] [] [] (fun v R' H' => v = .iface (kitQ x 171 172 173 174 176) (kinQ x) ∧ R' = [] ∧ H' = []) := by
 refine Ctr.of (X := X) (fn := Tryz.f88) Tryz.func88 rfl (by kernel_rfl) rfl ?_
 intro β
 refine C.seq (C.region ?_)
 refine L.boxA rfl rfl (fun A1 => ?_)
 refine Lpu rfl rfl ?_; refine L.nil (QE.seq (C.seq (C.seq ?_))); refine C.freeze 0 rfl [] (by decide) (by decide) ?_; refine C.region ?_; refine L.step (Ev.fieldAddr rfl rfl rfl rfl rfl rfl (Src.r 0 rfl) (Nat.zero_lt_succ _) rfl) rfl ?_; refine L.step (Ev.load rfl rfl rfl (Src.r 0 rfl) rfl) rfl ?_; refine L.nil (QE.seq (C.block (C.seq (C.region ?_)))); refine Lpu rfl rfl ?_; refine Lpu rfl rfl ?_; refine L.nil (QE.seq ?_)
 refine C.condB 5 rfl (fun hc5 => ?_) (fun hc5 => ?_)
 ·
  replace hc5 := i_eq hc5
  refine C.seq (C.region ?_); refine L.step (Ev.loadA rfl rfl rfl (Src.r 0 rfl) rfl rfl (by decide)) rfl ?_; refine Lpu rfl rfl ?_; refine Lpu rfl rfl ?_; refine L.nil (QE.seq (C.ret (QE.bR (QE.tR ?_)))); refine QE.ret (js := []) (hs := []) (vs := [_]) rfl ⟨rfl, trivial⟩ (by decide) ?_
  have hT : kitQ x 171 172 173 174 176 = 171 := by unfold kitQ; simp [*]
  refine ⟨?_, rfl, rfl⟩
  rw [hT]
  unfold kinQ
  rw [if_pos (by omega)]
  rfl
 ·
  replace hc5 := i_ne hc5
  refine C.seq (C.region ?_); refine Lpu rfl rfl ?_; refine Lpu rfl rfl ?_; refine L.nil (QE.seq ?_)
  refine C.condB 9 rfl (fun hc9 => ?_) (fun hc9 => ?_)
  ·
   replace hc9 := i_eq hc9
   refine C.seq (C.region ?_); refine L.step (Ev.loadA rfl rfl rfl (Src.r 0 rfl) rfl rfl (by decide)) rfl ?_; refine Lpu rfl rfl ?_; refine Lpu rfl rfl ?_; refine L.nil (QE.seq (C.ret (QE.bR (QE.tR ?_)))); refine QE.ret (js := []) (hs := []) (vs := [_]) rfl ⟨rfl, trivial⟩ (by decide) ?_
   have hT : kitQ x 171 172 173 174 176 = 172 := by unfold kitQ; simp [*]
   refine ⟨?_, rfl, rfl⟩
   rw [hT]
   unfold kinQ
   rw [if_pos (by omega)]
   rfl
  ·
   replace hc9 := i_ne hc9
   refine C.seq (C.region ?_); refine Lpu rfl rfl ?_; refine Lpu rfl rfl ?_; refine L.nil (QE.seq ?_)
   refine C.condB 13 rfl (fun hc13 => ?_) (fun hc13 => ?_)
   ·
    replace hc13 := i_eq hc13
    refine C.seq (C.region ?_); refine L.step (Ev.loadA rfl rfl rfl (Src.r 0 rfl) rfl rfl (by decide)) rfl ?_; refine Lpu rfl rfl ?_; refine Lpu rfl rfl ?_; refine L.nil (QE.seq (C.ret (QE.bR (QE.tR ?_)))); refine QE.ret (js := []) (hs := []) (vs := [_]) rfl ⟨rfl, trivial⟩ (by decide) ?_
    have hT : kitQ x 171 172 173 174 176 = 173 := by unfold kitQ; simp [*]
    refine ⟨?_, rfl, rfl⟩
    rw [hT]
    unfold kinQ
    rw [if_pos (by omega)]
    rfl
   ·
    replace hc13 := i_ne hc13
    refine C.seq (C.region ?_); refine Lpu rfl rfl ?_; refine Lpu rfl rfl ?_; refine L.nil (QE.seq ?_)
    refine C.condB 17 rfl (fun hc17 => ?_) (fun hc17 => ?_)
    ·
     replace hc17 := i_eq hc17
     refine C.seq (C.region ?_); refine L.step (Ev.loadA rfl rfl rfl (Src.r 0 rfl) rfl rfl (by decide)) rfl ?_; refine Lpu rfl rfl ?_; refine Lpu rfl rfl ?_; refine L.nil (QE.seq (C.ret (QE.bR (QE.tR ?_)))); refine QE.ret (js := []) (hs := []) (vs := [_]) rfl ⟨rfl, trivial⟩ (by decide) ?_
     have hT : kitQ x 171 172 173 174 176 = 174 := by unfold kitQ; simp [*]
     refine ⟨?_, rfl, rfl⟩
     rw [hT]
     unfold kinQ
     rw [if_pos (by omega)]
     rfl
    ·
     replace hc17 := i_ne hc17
     refine C.skip ?_; refine QE.blkN ?_; refine QE.seq (C.seq (C.region ?_)); refine L.step (Ev.build rfl rfl rfl rfl rfl rfl rfl) rfl ?_; refine Lpu rfl rfl ?_; refine Lpu rfl rfl ?_; refine L.nil (QE.seq (C.ret ?_)); refine QE.ret (js := []) (hs := []) (vs := [_]) rfl ⟨rfl, trivial⟩ (by decide) ?_
     have hT : kitQ x 171 172 173 174 176 = 176 := by unfold kitQ; rw [if_neg hc5, if_neg hc9, if_neg hc13, if_neg hc17]
     refine ⟨?_, rfl, rfl⟩
     rw [hT]
     unfold kinQ
     rw [if_neg (by omega)]
     rfl

end Go.Proofs.YtbkmahjhhncfcaaGreat
