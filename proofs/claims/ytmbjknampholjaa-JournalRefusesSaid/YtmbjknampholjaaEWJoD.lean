/-
  The contracts of fits, find, Read.
-/
import Derived.Test.YtmbjknampholjaaEPu
import Derived.Test.YtmbjknampholjaaESlN
namespace Go.Proofs.Ytmbjknampholjaa
open Go.Sl

theorem fitsP_c (f : Fl) (a : Fa) (_ok : f.Ok) (_hh : a.hs.length = f.data.length) (y : Ly) :
   Ctr X 49 [.agg (List.toArray [.int .i64 (f.size : Int), .slice a.D f.data.length a.cD, .slice a.W f.wear.length a.cW, .int .i64 f.limit, .slice a.E f.dead.length a.cE]), .agg (List.toArray [.int .i64 y.n, .int .i64 y.a, .int .i64 y.b, .int .i64 y.s0, .int .i64 y.s1, .slice y.T y.tn y.tc, .slice y.U y.un y.uc, .slice y.V y.vn y.vc])] [Rd a.D (rowsV a.hs (B8 f.data)), KidsR a.hs (B8 f.data), Rd a.W (I64 f.wear), Rd a.E (Bs f.dead)] [] (fun v R' H' => v = .bool (fitsF f y.a y.b) ∧ R' = [] ∧ H' = []) := by
 refine Ctr.of (X := X) (fn := Try.f49) Try.func49 rfl (by kernel_rfl) rfl ?_
 intro β
 refine C.seq (C.region ?_)
 refine L.boxA rfl rfl (fun A2 => ?_)
 refine L.boxA rfl rfl (fun A3 => ?_)
 refine Lpu rfl rfl ?_; refine L.nil (QE.seq (C.seq ?_)); refine C.freeze 0 rfl [1] (by decide) (by decide) ?_; refine C.freeze 0 rfl [] (by decide) (by decide) ?_; refine C.regionQ (by kernel_rfl) ?_; refine LQ.step (Ev.fieldAddr rfl rfl rfl rfl rfl rfl (Src.r 0 rfl) (Nat.zero_lt_succ _) rfl) rfl ?_; refine LQ.step (Ev.idxArr (k := 0) (m := 1) rfl rfl rfl rfl rfl rfl (by decide) (Src.r 0 rfl) (by exact Nat.zero_lt_succ _) rfl) rfl ?_; refine LQ.step (Ev.load rfl rfl rfl (Src.r 0 rfl) rfl) rfl ?_; refine LQ.step (Ev.fieldAddr rfl rfl rfl rfl rfl rfl (Src.r 0 rfl) (Nat.zero_lt_succ _) rfl) rfl ?_; refine LQ.step (Ev.idxArr (k := 1) (m := 2) rfl rfl rfl rfl rfl rfl (by decide) (Src.r 0 rfl) (by exact Nat.zero_lt_succ _) rfl) rfl ?_; refine LQ.step (Ev.load rfl rfl rfl (Src.r 0 rfl) rfl) rfl ?_; refine LQ.step (Ev.pure rfl) rfl ?_; refine LQ.step (Ev.pure rfl) rfl ?_; refine LQ.nil ?_; refine QE.seq (C.seq (C.region ?_)); refine Lpu rfl rfl ?_; refine Lpu rfl rfl ?_; refine Lpu rfl rfl ?_; refine Lpu rfl rfl ?_
 refine L.bool 16 rfl (fun hg16 => ?_) (fun hg16 => ?_)
 ·
  replace hg16 := b_ne hg16
  refine L.yes rfl ?_; refine Lpu rfl rfl ?_; refine L.yes rfl ?_; refine Lpu rfl rfl ?_; refine L.yes rfl ?_; refine Lpu rfl rfl ?_; refine L.yes rfl ?_; refine Lpu rfl rfl ?_; refine Lpu rfl rfl ?_; refine Lpu rfl rfl ?_
  refine L.bool 22 rfl (fun hg22 => ?_) (fun hg22 => ?_)
  ·
   replace hg22 := of_decide_eq_true hg22
   have q22 : 0 ≤ y.a ∧ 0 ≤ y.b := by simp only [Bool.false_eq_true, if_false] at hg22; split at hg22 <;> omega
   refine L.yes rfl ?_; refine Lpu rfl rfl ?_; refine L.yes rfl ?_; refine Lpu rfl rfl ?_; refine L.yes rfl ?_; refine Lpu rfl rfl ?_; refine L.yes rfl ?_; refine L.step (Ev.fieldAddr rfl rfl rfl rfl rfl rfl (Src.r 1 rfl) (Nat.zero_lt_succ _) rfl) rfl ?_; refine L.yes rfl ?_; refine L.step (Ev.load rfl rfl rfl (Src.r 1 rfl) rfl) rfl ?_; refine L.yes rfl ?_; refine Lpu rfl rfl ?_; refine L.yes rfl ?_; refine Lpu rfl rfl ?_; refine Lpu rfl rfl ?_; refine Lpu rfl rfl ?_
   refine L.bool 31 rfl (fun hg31 => ?_) (fun hg31 => ?_)
   ·
    replace hg31 := of_decide_eq_true hg31
    have q31 : y.a < f.data.length ∧ y.b < f.data.length := by simp only [if_true] at hg31; split at hg31 <;> omega
    refine L.yes rfl ?_; refine L.step (Ev.fieldAddr rfl rfl rfl rfl rfl rfl (Src.r 1 rfl) (Nat.zero_lt_succ _) rfl) rfl ?_; refine L.yes rfl ?_; refine L.step (Ev.load rfl rfl rfl (Src.r 1 rfl) rfl) rfl ?_; refine L.yes rfl ?_; refine Lpu rfl rfl ?_; refine Lpu rfl rfl ?_; refine Lpu rfl rfl ?_; refine L.nil (QE.seq (C.ret ?_)); refine QE.ret (js := []) (hs := []) (vs := [_]) rfl ⟨rfl, trivial⟩ (by decide) ?_
    refine ⟨congrArg Value.bool ?_, rfl, rfl⟩
    unfold fitsF
    symm
    first | exact decide_eq_false (by omega) | (rw [decide_eq_decide]; omega)
   ·
    replace hg31 := of_decide_eq_false hg31
    have q31 : ¬(y.a < f.data.length ∧ y.b < f.data.length) := by simp only [if_true] at hg31; split at hg31 <;> omega
    refine L.no rfl rfl rfl ?_; refine L.no rfl rfl rfl ?_; refine L.no rfl rfl rfl ?_; refine Lpu rfl rfl ?_; refine Lpu rfl rfl ?_; refine L.nil (QE.seq (C.ret ?_)); refine QE.ret (js := []) (hs := []) (vs := [_]) rfl ⟨rfl, trivial⟩ (by decide) ?_
    refine ⟨congrArg Value.bool ?_, rfl, rfl⟩
    unfold fitsF
    symm
    first | exact decide_eq_false (by omega) | (rw [decide_eq_decide]; omega)
  ·
   replace hg22 := of_decide_eq_false hg22
   have q22 : ¬(0 ≤ y.a ∧ 0 ≤ y.b) := by simp only [Bool.false_eq_true, if_false] at hg22; split at hg22 <;> omega
   refine L.no rfl rfl rfl ?_; refine L.no rfl rfl rfl ?_; refine L.no rfl rfl rfl ?_; refine L.no rfl rfl rfl ?_; refine L.no rfl rfl rfl ?_; refine L.no rfl rfl rfl ?_; refine L.no rfl rfl rfl ?_; refine Lpu rfl rfl ?_; refine Lpu rfl rfl ?_; refine L.no rfl rfl rfl ?_; refine L.no rfl rfl rfl ?_; refine L.no rfl rfl rfl ?_; refine Lpu rfl rfl ?_; refine Lpu rfl rfl ?_; refine L.nil (QE.seq (C.ret ?_)); refine QE.ret (js := []) (hs := []) (vs := [_]) rfl ⟨rfl, trivial⟩ (by decide) ?_
   refine ⟨congrArg Value.bool ?_, rfl, rfl⟩
   unfold fitsF
   symm
   first | exact decide_eq_false (by omega) | (rw [decide_eq_decide]; omega)
 ·
  replace hg16 := b_eq hg16
  refine L.no rfl rfl rfl ?_; refine L.no rfl rfl rfl ?_; refine L.no rfl rfl rfl ?_; refine L.no rfl rfl rfl ?_; refine Lpu rfl rfl ?_; refine Lpu rfl rfl ?_; refine L.no rfl rfl rfl ?_; refine L.no rfl rfl rfl ?_; refine L.no rfl rfl rfl ?_; refine L.no rfl rfl rfl ?_; refine L.no rfl rfl rfl ?_; refine L.no rfl rfl rfl ?_; refine L.no rfl rfl rfl ?_; refine Lpu rfl rfl ?_; refine Lpu rfl rfl ?_; refine L.no rfl rfl rfl ?_; refine L.no rfl rfl rfl ?_; refine L.no rfl rfl rfl ?_; refine Lpu rfl rfl ?_; refine Lpu rfl rfl ?_; refine L.nil (QE.seq (C.ret ?_)); refine QE.ret (js := []) (hs := []) (vs := [_]) rfl ⟨rfl, trivial⟩ (by decide) ?_
  refine ⟨congrArg Value.bool ?_, rfl, rfl⟩
  unfold fitsF
  symm
  first | exact decide_eq_false (by omega) | (rw [decide_eq_decide]; omega)

set_option maxHeartbeats 1000000 in
theorem findP_c (f : Fl) (a : Fa) (ok : f.Ok) (hh : a.hs.length = f.data.length) (y : Ly) (hcap : Caps f a) :
   Ctr X 64 [.agg (List.toArray [.int .i64 (f.size : Int), .slice a.D f.data.length a.cD, .slice a.W f.wear.length a.cW, .int .i64 f.limit, .slice a.E f.dead.length a.cE]), .agg (List.toArray [.int .i64 y.n, .int .i64 y.a, .int .i64 y.b, .int .i64 y.s0, .int .i64 y.s1, .slice y.T y.tn y.tc, .slice y.U y.un y.uc, .slice y.V y.vn y.vc])] [Rd a.D (rowsV a.hs (B8 f.data)), KidsR a.hs (B8 f.data), Rd a.W (I64 f.wear), Rd a.E (Bs f.dead)] [] (fun v R' H' => v = .tuple #[.agg (List.toArray [.int .i64 (findP f y.a y.b).sec, .int .i64 (findP f y.a y.b).oth, .int .i64 (findP f y.a y.b).gen, .int .i64 ((findP f y.a y.b).s.getD 0 0), .int .i64 ((findP f y.a y.b).s.getD 1 0), .int .i64 ((findP f y.a y.b).s.getD 2 0), .int .i64 ((findP f y.a y.b).s.getD 3 0), .int .i64 ((findP f y.a y.b).s.getD 4 0), .int .i64 ((findP f y.a y.b).s.getD 5 0), .int .i64 ((findP f y.a y.b).s.getD 6 0), .int .i64 ((findP f y.a y.b).s.getD 7 0), .int .i64 ((findP f y.a y.b).s.getD 8 0), .bool (findP f y.a y.b).found, .int .i64 ((findP f y.a y.b).free : Int), .int .i64 (lgP f y.a y.b : Int), .int .i64 ((findP f y.a y.b).torn : Int)]), .bool (findP f y.a y.b).found] ∧ R' = [] ∧ H' = []) := by
 have hok := ok
 obtain ⟨os1, os2, on1, on2, owl, odl, orows, ol1, ol2, owear⟩ := ok
 refine Ctr.of (X := X) (fn := Try.f64) Try.func64 rfl (by kernel_rfl) rfl ?_
 intro β
 refine C.seq (C.region ?_)
 refine L.boxA rfl rfl (fun A2 => ?_)
 refine L.boxA rfl rfl (fun A3 => ?_)
 refine L.alloc rfl rfl rfl (fun A4 => ?_)
 refine Lpu rfl rfl ?_; refine L.nil (QE.seq (C.seq (C.seq ?_))); refine C.freeze 0 rfl [1, 2] (by decide) (by decide) ?_; refine C.norm (H' := [_, _]) [0, 1] ⟨rfl, rfl, trivial⟩ (by decide) ?_; refine C.freeze 0 rfl [1] (by decide) (by decide) ?_; refine C.norm (H' := [_]) [0] ⟨rfl, trivial⟩ (by decide) ?_; refine C.region ?_; refine L.step (Ev.loadA rfl rfl rfl (Src.r 1 rfl) rfl rfl (by decide)) rfl ?_; refine L.step (Ev.loadA rfl rfl rfl (Src.r 0 rfl) rfl rfl (by decide)) rfl ?_; refine L.call (js := []) (js' := [0]) (fitsP_c f a hok hh y) rfl rfl rfl (by decide) (Hq [2, 3, 4, 5] rfl) rfl ?_
 rintro _ _ _ ⟨rfl, rfl, rfl⟩
 refine L.norm (H' := [_]) [0] ⟨rfl, trivial⟩ (by decide) ?_; refine Lpu rfl rfl ?_; refine L.nil (QE.seq ?_)
 refine C.condB 15 rfl (fun hc15 => ?_) (fun hc15 => ?_)
 ·
  have hno : fitsF f y.a y.b = false := by simpa using hc15
  refine C.seq (C.region ?_); refine L.step (Ev.build rfl rfl rfl rfl rfl rfl rfl) rfl ?_; refine L.storeA (j := 0) rfl rfl rfl rfl rfl (Nat.zero_lt_succ _) rfl rfl ?_; refine Lpu rfl rfl ?_; refine L.nil (QE.seq (C.ret (QE.tR ?_))); refine QE.ret (js := []) (hs := []) (vs := [_, _]) rfl ⟨⟨_, _, 0, _, rfl, rfl, Src.o 0 rfl, .inl ⟨rfl, by decide, _, rfl, rfl, rfl⟩⟩, rfl, trivial⟩ (by decide) ?_
  refine ⟨?_, rfl, rfl⟩
  rw [show findP f y.a y.b = lg0 from by unfold findP; rw [if_neg (by rw [hno]; exact Bool.false_ne_true)], show lgP f y.a y.b = 0 from by unfold lgP; rw [if_neg (by rw [hno]; exact Bool.false_ne_true)]]
  rfl
 ·
  have hft0 : fitsF f y.a y.b = true := by simpa using hc15
  have hft := fitsF_ok hft0
  have hps := pickL_sec hft0
  have hrow := orows (pickL f y.a y.b).sec.toNat (by omega)
  have hcp := hcap (pickL f y.a y.b).sec.toNat (by omega)
  refine C.skip (QE.seq (C.seq (C.region ?_))); refine L.step (Ev.fieldAddr rfl rfl rfl rfl rfl rfl (Src.r 0 rfl) (Nat.zero_lt_succ _) rfl) rfl ?_; refine L.step (Ev.idxArr (k := 0) (m := 1) rfl rfl rfl rfl rfl rfl (by decide) (Src.r 0 rfl) (by exact Nat.zero_lt_succ _) rfl) rfl ?_; refine L.step (Ev.load rfl rfl rfl (Src.r 0 rfl) rfl) rfl ?_; refine L.step (Ev.fieldAddr rfl rfl rfl rfl rfl rfl (Src.r 0 rfl) (Nat.zero_lt_succ _) rfl) rfl ?_; refine L.step (Ev.idxArr (k := 1) (m := 2) rfl rfl rfl rfl rfl rfl (by decide) (Src.r 0 rfl) (by exact Nat.zero_lt_succ _) rfl) rfl ?_; refine L.step (Ev.load rfl rfl rfl (Src.r 0 rfl) rfl) rfl ?_; refine L.step (Ev.fieldAddr rfl rfl rfl rfl rfl rfl (Src.r 1 rfl) (Nat.zero_lt_succ _) rfl) rfl ?_; refine L.step (Ev.load rfl rfl rfl (Src.r 1 rfl) rfl) rfl ?_; refine L.step (Ev.sub rfl rfl (by omega) (by omega)) rfl ?_; refine L.step (Ev.cast (u := .int .i64 ((plcs f : Nat) : Int)) (Ev.quo rfl rfl (by omega) (by omega) (by omega)) (congrArg (Value.int .i64) (by unfold plcs; omega))) rfl ?_; refine L.step (Ev.build rfl rfl rfl rfl rfl rfl rfl) rfl ?_
  refine L.alloc rfl rfl rfl (fun A6 => ?_)
  refine L.storeA (j := 1) rfl rfl rfl rfl rfl (Nat.zero_lt_succ _) rfl rfl ?_; refine L.nil (QE.seq (C.seq (C.region ?_))); refine L.step (Ev.loadA rfl rfl rfl (Src.r 1 rfl) rfl rfl (by decide)) rfl ?_; refine L.step (Ev.fieldAddr rfl rfl rfl rfl rfl rfl (Src.o 1 rfl) (Nat.zero_lt_succ _) rfl) rfl ?_; refine L.step (Ev.load rfl rfl rfl (Src.o 1 rfl) rfl) rfl ?_; refine L.call (js := []) (js' := [0, 1]) (genP_c f a hok hh y.a ⟨hft.2.1, hft.2.2.2.1⟩ (by omega) hcap) rfl rfl rfl (by decide) (Hq [2, 3, 4, 5] rfl) rfl ?_
  rintro _ _ _ ⟨rfl, rfl, rfl⟩
  refine L.norm (H' := [_, _]) [0, 1] ⟨rfl, rfl, trivial⟩ (by decide) ?_; refine L.step (Ev.fieldAddr rfl rfl rfl rfl rfl rfl (Src.o 1 rfl) (Nat.zero_lt_succ _) rfl) rfl ?_; refine L.store (j := 1) rfl rfl rfl rfl rfl rfl rfl rfl ?_; refine L.nil (QE.seq ?_); refine C.seqJ (fun q : Unit => [(2, ptrOf A2 0), (3, ptrOf A3 0), (4, ptrOf A4 0), (6, ptrOf A6 0)]) (fun q : Unit => [Rd A3 [.int .i64 y.n, .int .i64 y.a, .int .i64 y.b, .int .i64 y.s0, .int .i64 y.s1, .slice y.T y.tn y.tc, .slice y.U y.un y.uc, .slice y.V y.vn y.vc], Rd A2 [.int .i64 (f.size : Int), .slice a.D f.data.length a.cD, .slice a.W f.wear.length a.cW, .int .i64 f.limit, .slice a.E f.dead.length a.cE], Rd a.D (rowsV a.hs (B8 f.data)), KidsR a.hs (B8 f.data), Rd a.W (I64 f.wear), Rd a.E (Bs f.dead)]) (fun q : Unit => [Own 121 16 A4 1 1 [.int .i64 0, .int .i64 0, .int .i64 0, .int .i64 0, .int .i64 0, .int .i64 0, .int .i64 0, .int .i64 0, .int .i64 0, .int .i64 0, .int .i64 0, .int .i64 0, .bool false, .int .i64 0, .int .i64 0, .int .i64 0], Own 121 16 A6 1 1 [.int .i64 (pickL f y.a y.b).sec, .int .i64 (pickL f y.a y.b).oth, .int .i64 (pickL f y.a y.b).gen, .int .i64 ((pickL f y.a y.b).s.getD 0 0), .int .i64 ((pickL f y.a y.b).s.getD 1 0), .int .i64 ((pickL f y.a y.b).s.getD 2 0), .int .i64 ((pickL f y.a y.b).s.getD 3 0), .int .i64 ((pickL f y.a y.b).s.getD 4 0), .int .i64 ((pickL f y.a y.b).s.getD 5 0), .int .i64 ((pickL f y.a y.b).s.getD 6 0), .int .i64 ((pickL f y.a y.b).s.getD 7 0), .int .i64 ((pickL f y.a y.b).s.getD 8 0), .bool (pickL f y.a y.b).found, .int .i64 ((pickL f y.a y.b).free : Int), .int .i64 (plcs f : Int), .int .i64 ((pickL f y.a y.b).torn : Int)]]) (fun q : Unit => True) ?_ ?_
  ·
   refine C.seq (C.region ?_); refine L.step (Ev.loadA rfl rfl rfl (Src.r 1 rfl) rfl rfl (by decide)) rfl ?_; refine L.step (Ev.fieldAddr rfl rfl rfl rfl rfl rfl (Src.o 1 rfl) (Nat.zero_lt_succ _) rfl) rfl ?_; refine L.step (Ev.load rfl rfl rfl (Src.o 1 rfl) rfl) rfl ?_; refine L.call (js := []) (js' := [0, 1]) (genP_c f a hok hh y.b ⟨hft.2.2.1, hft.2.2.2.2.1⟩ (by omega) hcap) rfl rfl rfl (by decide) (Hq [2, 3, 4, 5] rfl) rfl ?_
   rintro _ _ _ ⟨rfl, rfl, rfl⟩
   refine L.norm (H' := [_, _]) [0, 1] ⟨rfl, rfl, trivial⟩ (by decide) ?_; refine Lpu rfl rfl ?_; refine L.nil (QE.seq (C.seq (C.region ?_))); refine Lpu rfl rfl ?_; refine L.step (Ev.fieldAddr rfl rfl rfl rfl rfl rfl (Src.o 1 rfl) (Nat.zero_lt_succ _) rfl) rfl ?_; refine L.step (Ev.load rfl rfl rfl (Src.o 1 rfl) rfl) rfl ?_; refine Lpu rfl rfl ?_; refine L.nil (QE.seq ?_)
   refine C.condB 40 rfl (fun hc40 => ?_) (fun hc40 => ?_)
   ·
    replace hc40 := of_decide_eq_true hc40
    refine C.region ?_; refine L.step (Ev.fieldAddr rfl rfl rfl rfl rfl rfl (Src.o 1 rfl) (Nat.zero_lt_succ _) rfl) rfl ?_; refine L.step (Ev.load rfl rfl rfl (Src.o 1 rfl) rfl) rfl ?_; refine L.step (Ev.fieldAddr rfl rfl rfl rfl rfl rfl (Src.o 1 rfl) (Nat.zero_lt_succ _) rfl) rfl ?_; refine L.step (Ev.load rfl rfl rfl (Src.o 1 rfl) rfl) rfl ?_; refine Lpu rfl rfl ?_; refine L.step (Ev.fieldAddr rfl rfl rfl rfl rfl rfl (Src.o 1 rfl) (Nat.zero_lt_succ _) rfl) rfl ?_; refine L.store (j := 1) rfl rfl rfl rfl rfl rfl rfl rfl ?_; refine L.step (Ev.fieldAddr rfl rfl rfl rfl rfl rfl (Src.o 1 rfl) (Nat.zero_lt_succ _) rfl) rfl ?_; refine L.store (j := 1) rfl rfl rfl rfl rfl rfl rfl rfl ?_; refine L.step (Ev.fieldAddr rfl rfl rfl rfl rfl rfl (Src.o 1 rfl) (Nat.zero_lt_succ _) rfl) rfl ?_; refine L.store (j := 1) rfl rfl rfl rfl rfl rfl rfl rfl ?_; refine L.nil ?_
    refine QE.join (()) (by exact trivial) (by exact Le.mk' (rs := [0, 1, 2, 3, 4, 5]) (hs := [0, 1]) ⟨rfl, rfl, rfl, rfl, trivial⟩ ⟨rfl, rfl, rfl, rfl, rfl, rfl, trivial⟩ ⟨rfl, (by unfold pickL; rw [if_pos hc40]; rfl), trivial⟩ (by decide))
   ·
    replace hc40 := of_decide_eq_false hc40
    refine C.skip ?_
    refine QE.join (()) (by exact trivial) (by exact Le.mk' (rs := [0, 1, 2, 3, 4, 5]) (hs := [0, 1]) ⟨rfl, rfl, rfl, rfl, trivial⟩ ⟨rfl, rfl, rfl, rfl, rfl, rfl, trivial⟩ ⟨rfl, (by unfold pickL; rw [if_neg hc40]; rfl), trivial⟩ (by decide))
  ·
   rintro _ _
   refine C.seq (C.seq (C.region ?_)); refine L.step (Ev.fieldAddr rfl rfl rfl rfl rfl rfl (Src.o 1 rfl) (Nat.zero_lt_succ _) rfl) rfl ?_; refine L.step (Ev.load rfl rfl rfl (Src.o 1 rfl) rfl) rfl ?_; refine Lpu rfl rfl ?_; refine L.nil (QE.seq ?_)
   refine C.condB 51 rfl (fun hc51 => ?_) (fun hc51 => ?_)
   ·
    replace hc51 := of_decide_eq_true hc51
    refine C.seq (C.region ?_); refine L.step (Ev.build rfl rfl rfl rfl rfl rfl rfl) rfl ?_; refine L.storeA (j := 0) rfl rfl rfl rfl rfl (Nat.zero_lt_succ _) rfl rfl ?_; refine Lpu rfl rfl ?_; refine L.nil (QE.seq (C.ret (QE.tR ?_))); refine QE.ret (js := []) (hs := []) (vs := [_, _]) rfl ⟨⟨_, _, 0, _, rfl, rfl, Src.o 0 rfl, .inl ⟨rfl, by decide, _, rfl, rfl, rfl⟩⟩, rfl, trivial⟩ (by decide) ?_
    refine ⟨?_, rfl, rfl⟩
    rw [show findP f y.a y.b = lg0 from by unfold findP; rw [if_pos hft0, if_pos hc51], show lgP f y.a y.b = 0 from by unfold lgP; rw [if_pos hft0, if_pos hc51]]
    rfl
   ·
    replace hc51 := of_decide_eq_false hc51
    refine C.skip (QE.seq (C.seq (C.seq (C.region ?_)))); refine L.step (Ev.fieldAddr rfl rfl rfl rfl rfl rfl (Src.o 1 rfl) (Nat.zero_lt_succ _) rfl) rfl ?_; refine L.step (Ev.load rfl rfl rfl (Src.o 1 rfl) rfl) rfl ?_; refine Lpu rfl rfl ?_; refine L.nil (QE.seq (C.block ?_)); refine C.loop (fun k : Nat => [(2, ptrOf A2 0), (3, ptrOf A3 0), (4, ptrOf A4 0), (6, ptrOf A6 0), (54, .int .i64 (plcs f : Int)), (55, .int .i64 (k : Int))]) (fun k : Nat => [Rd A3 [.int .i64 y.n, .int .i64 y.a, .int .i64 y.b, .int .i64 y.s0, .int .i64 y.s1, .slice y.T y.tn y.tc, .slice y.U y.un y.uc, .slice y.V y.vn y.vc], Rd A2 [.int .i64 (f.size : Int), .slice a.D f.data.length a.cD, .slice a.W f.wear.length a.cW, .int .i64 f.limit, .slice a.E f.dead.length a.cE], Rd a.D (rowsV a.hs (B8 f.data)), KidsR a.hs (B8 f.data), Rd a.W (I64 f.wear), Rd a.E (Bs f.dead)]) (fun k : Nat => [Own 121 16 A4 1 1 [.int .i64 0, .int .i64 0, .int .i64 0, .int .i64 0, .int .i64 0, .int .i64 0, .int .i64 0, .int .i64 0, .int .i64 0, .int .i64 0, .int .i64 0, .int .i64 0, .bool false, .int .i64 0, .int .i64 0, .int .i64 0], Own 121 16 A6 1 1 [.int .i64 (scanL (f.data.getD (pickL f y.a y.b).sec.toNat []) (pickL f y.a y.b) (k)).sec, .int .i64 (scanL (f.data.getD (pickL f y.a y.b).sec.toNat []) (pickL f y.a y.b) (k)).oth, .int .i64 (scanL (f.data.getD (pickL f y.a y.b).sec.toNat []) (pickL f y.a y.b) (k)).gen, .int .i64 ((scanL (f.data.getD (pickL f y.a y.b).sec.toNat []) (pickL f y.a y.b) (k)).s.getD 0 0), .int .i64 ((scanL (f.data.getD (pickL f y.a y.b).sec.toNat []) (pickL f y.a y.b) (k)).s.getD 1 0), .int .i64 ((scanL (f.data.getD (pickL f y.a y.b).sec.toNat []) (pickL f y.a y.b) (k)).s.getD 2 0), .int .i64 ((scanL (f.data.getD (pickL f y.a y.b).sec.toNat []) (pickL f y.a y.b) (k)).s.getD 3 0), .int .i64 ((scanL (f.data.getD (pickL f y.a y.b).sec.toNat []) (pickL f y.a y.b) (k)).s.getD 4 0), .int .i64 ((scanL (f.data.getD (pickL f y.a y.b).sec.toNat []) (pickL f y.a y.b) (k)).s.getD 5 0), .int .i64 ((scanL (f.data.getD (pickL f y.a y.b).sec.toNat []) (pickL f y.a y.b) (k)).s.getD 6 0), .int .i64 ((scanL (f.data.getD (pickL f y.a y.b).sec.toNat []) (pickL f y.a y.b) (k)).s.getD 7 0), .int .i64 ((scanL (f.data.getD (pickL f y.a y.b).sec.toNat []) (pickL f y.a y.b) (k)).s.getD 8 0), .bool (scanL (f.data.getD (pickL f y.a y.b).sec.toNat []) (pickL f y.a y.b) (k)).found, .int .i64 ((scanL (f.data.getD (pickL f y.a y.b).sec.toNat []) (pickL f y.a y.b) (k)).free : Int), .int .i64 (plcs f : Int), .int .i64 ((scanL (f.data.getD (pickL f y.a y.b).sec.toNat []) (pickL f y.a y.b) (k)).torn : Int)]]) (fun k : Nat => k ≤ plcs f) (fun k : Nat => plcs f - k) 0 (Nat.zero_le _) (by exact Le.mk' (rs := [0, 1, 2, 3, 4, 5]) (hs := [0, 1]) ⟨rfl, rfl, rfl, rfl, rfl, rfl, trivial⟩ ⟨rfl, rfl, rfl, rfl, rfl, rfl, trivial⟩ ⟨rfl, rfl, trivial⟩ (by decide)) ?_
    intro k hk
    refine C.seq (C.region ?_); refine Lpu rfl rfl ?_; refine L.nil (QE.seq (C.seq ?_))
    refine C.condB 56 rfl (fun hc56 => ?_) (fun hc56 => ?_)
    ·
     replace hc56 := of_decide_eq_true hc56
     have hkp := scanL_keep (f.data.getD (pickL f y.a y.b).sec.toNat []) (pickL f y.a y.b) k
     have hsl := slotAt_len (f := f) (row := (f.data.getD (pickL f y.a y.b).sec.toNat [])) (i := k) hrow (by omega)
     have hkl : (scanL (f.data.getD (pickL f y.a y.b).sec.toNat []) (pickL f y.a y.b) (k)).free ≤ k ∧ (scanL (f.data.getD (pickL f y.a y.b).sec.toNat []) (pickL f y.a y.b) (k)).torn ≤ k := scanL_free pickL_free.1 pickL_free.2 k
     have hpl : plcs f ≤ 137 := plcs_le hok
     refine C.skip (QE.seq (C.seq (C.block (C.seq (C.region ?_))))); refine Lpu rfl rfl ?_; refine Lpu rfl rfl ?_; refine L.nil (QE.seq (C.seq (C.region ?_))); refine L.step (Ev.fieldAddr rfl rfl rfl rfl rfl rfl (Src.r 1 rfl) (Nat.zero_lt_succ _) rfl) rfl ?_; refine L.step (Ev.load rfl rfl rfl (Src.r 1 rfl) rfl) rfl ?_; refine L.step (Ev.fieldAddr rfl rfl rfl rfl rfl rfl (Src.o 1 rfl) (Nat.zero_lt_succ _) rfl) rfl ?_; refine L.step (Ev.load rfl rfl rfl (Src.o 1 rfl) rfl) rfl ?_; refine L.step (Ev.idx1 (k := (pickL f y.a y.b).sec.toNat) rfl rfl rfl rfl rfl rfl (by rw [hkp.1]; omega) (by omega) (Src.r 2 rfl) (by rw [rowsV_len (by rw [B8_len]; exact hh), B8_len]; omega)) rfl ?_; refine L.step (Ev.load rfl rfl rfl (Src.r 2 rfl) (rows8_get hh (by omega))) rfl ?_; refine Lpu rfl rfl ?_; refine L.step (Ev.mul rfl rfl (by omega) (by omega)) rfl ?_; refine L.step (Ev.cast (u := .int .i64 ((8 + 30 * k : Nat) : Int)) (Ev.add rfl rfl (by omega) (by omega)) (congrArg (Value.int .i64) (by omega))) rfl ?_; refine L.step (Ev.sliceL (l := 8 + 30 * k) rfl rfl rfl rfl rfl rfl (by omega)) rfl ?_; refine L.step (Ev.cast (u := .slice (subA (a.hs.getD (pickL f y.a y.b).sec.toNat (none, 0)).1 (a.hs.getD (pickL f y.a y.b).sec.toNat (none, 0)).2 (8 + 30 * k) 1) (slotAt (f.data.getD (pickL f y.a y.b).sec.toNat []) k).length ((a.hs.getD (pickL f y.a y.b).sec.toNat (none, 0)).2 - (8 + 30 * k))) (Ev.sliceH (h := 30) rfl rfl rfl rfl rfl rfl (by omega)) (by rw [hsl.1]; rfl)) rfl ?_; refine Lpu rfl rfl ?_; refine L.nil (QE.seq (C.seq (C.seq ?_))); refine C.more (r := Rd (subA (a.hs.getD (pickL f y.a y.b).sec.toNat (none, 0)).1 (a.hs.getD (pickL f y.a y.b).sec.toNat (none, 0)).2 (8 + 30 * k) 1) (U8 (slotAt (f.data.getD (pickL f y.a y.b).sec.toNat []) k))) ((((Has.dropU (((Has.kid 3 rfl (by rw [B8_len]; exact hh) ((pickL f y.a y.b).sec.toNat) (by rw [B8_len]; omega)).cast (B8_get _))) (a.hs.getD (pickL f y.a y.b).sec.toNat (none, 0)).2 (8 + 30 * k) (by omega)).take 30).cast (U8_take _ _))) ?_; refine C.region ?_; refine Lpu rfl rfl ?_; refine L.call (js := []) (js' := [0, 1]) (blankP_c (subA (a.hs.getD (pickL f y.a y.b).sec.toNat (none, 0)).1 (a.hs.getD (pickL f y.a y.b).sec.toNat (none, 0)).2 (8 + 30 * k) 1) ((a.hs.getD (pickL f y.a y.b).sec.toNat (none, 0)).2 - (8 + 30 * k)) (slotAt (f.data.getD (pickL f y.a y.b).sec.toNat []) k)) rfl rfl rfl (by decide) (Hq [0] rfl) rfl ?_
     rintro _ _ _ ⟨rfl, rfl, rfl⟩
     refine L.norm (H' := [_, _]) [0, 1] ⟨rfl, rfl, trivial⟩ (by decide) ?_; refine L.nil (QE.seq ?_)
     refine C.condB 70 rfl (fun hc70 => ?_) (fun hc70 => ?_)
     ·
      refine C.exit ?_; refine QE.tX ?_; refine QE.blk ?_; refine QE.seq (C.region ?_); refine L.step (Ev.add rfl rfl (by omega) (by omega)) rfl ?_; refine Lpu rfl rfl ?_; refine L.nil ?_
      refine QE.round (k + 1) (by omega) (by omega) (by exact Le.mk' (rs := [1, 2, 3, 4, 5, 6]) (hs := [0, 1]) ⟨rfl, rfl, rfl, rfl, rfl, rfl, trivial⟩ ⟨rfl, rfl, rfl, rfl, rfl, rfl, trivial⟩ ⟨rfl, (by rw [scanL_succ, stepL_b hc70]; rfl), trivial⟩ (by decide))
     ·
      refine C.skip (QE.seq (C.seq (C.region ?_))); refine Lpu rfl rfl ?_; refine L.step (Ev.add rfl rfl (by omega) (by omega)) rfl ?_; refine L.step (Ev.fieldAddr rfl rfl rfl rfl rfl rfl (Src.o 1 rfl) (Nat.zero_lt_succ _) rfl) rfl ?_; refine L.store (j := 1) rfl rfl rfl rfl rfl rfl rfl rfl ?_; refine L.nil (QE.seq (C.seq (C.region ?_))); refine Lpu rfl rfl ?_; refine L.call (js := []) (js' := [0, 1]) (stP_c (subA (a.hs.getD (pickL f y.a y.b).sec.toNat (none, 0)).1 (a.hs.getD (pickL f y.a y.b).sec.toNat (none, 0)).2 (8 + 30 * k) 1) ((a.hs.getD (pickL f y.a y.b).sec.toNat (none, 0)).2 - (8 + 30 * k)) (slotAt (f.data.getD (pickL f y.a y.b).sec.toNat []) k) (by omega) (by omega)) rfl rfl rfl (by decide) (Hq [0] rfl) rfl ?_
      rintro _ _ _ ⟨rfl, rfl, rfl⟩
      refine L.norm (H' := [_, _]) [0, 1] ⟨rfl, rfl, trivial⟩ (by decide) ?_; refine Lpu rfl rfl ?_; refine Lpu rfl rfl ?_; refine Lpu rfl rfl ?_
      refine L.alloc rfl rfl rfl (fun A10 => ?_)
      refine L.storeA (j := 2) rfl rfl rfl rfl rfl (Nat.zero_lt_succ _) rfl rfl ?_; refine Lpu rfl rfl ?_; refine L.nil (QE.seq (C.seq (C.region ?_))); refine Lpu rfl rfl ?_; refine L.nil (QE.seq ?_)
      refine C.condB 79 rfl (fun hc79 => ?_) (fun hc79 => ?_)
      ·
       obtain ⟨s1, hs1⟩ := Option.isSome_iff_exists.1 hc79
       refine C.region ?_; refine L.step (Ev.loadA rfl rfl rfl (Src.o 2 rfl) rfl rfl (by decide)) rfl ?_; refine L.step (Ev.fieldAddr rfl rfl rfl rfl rfl rfl (Src.o 1 rfl) (Nat.zero_lt_succ _) rfl) rfl ?_; refine L.storeA (j := 1) rfl rfl rfl rfl rfl (Nat.zero_lt_succ _) rfl rfl ?_; refine L.step (Ev.fieldAddr rfl rfl rfl rfl rfl rfl (Src.o 1 rfl) (Nat.zero_lt_succ _) rfl) rfl ?_; refine L.store (j := 1) rfl rfl rfl rfl rfl rfl rfl rfl ?_; refine L.nil ?_; refine QE.blkN ?_; refine QE.seq (C.region ?_); refine L.step (Ev.add rfl rfl (by omega) (by omega)) rfl ?_; refine Lpu rfl rfl ?_; refine L.nil ?_
       refine QE.round (k + 1) (by omega) (by omega) (by exact Le.mk' (rs := [1, 2, 3, 4, 5, 6]) (hs := [0, 1]) ⟨rfl, rfl, rfl, rfl, rfl, rfl, trivial⟩ ⟨rfl, rfl, rfl, rfl, rfl, rfl, trivial⟩ ⟨rfl, (by rw [scanL_succ, stepL_s hc70 hs1, hs1]; rfl), trivial⟩ (by decide))
      ·
       refine C.region ?_; refine L.step (Ev.fieldAddr rfl rfl rfl rfl rfl rfl (Src.o 1 rfl) (Nat.zero_lt_succ _) rfl) rfl ?_; refine L.step (Ev.load rfl rfl rfl (Src.o 1 rfl) rfl) rfl ?_; refine L.step (Ev.add rfl rfl (by omega) (by omega)) rfl ?_; refine L.step (Ev.fieldAddr rfl rfl rfl rfl rfl rfl (Src.o 1 rfl) (Nat.zero_lt_succ _) rfl) rfl ?_; refine L.store (j := 1) rfl rfl rfl rfl rfl rfl rfl rfl ?_; refine L.nil ?_; refine QE.blkN ?_; refine QE.seq (C.region ?_); refine L.step (Ev.add rfl rfl (by omega) (by omega)) rfl ?_; refine Lpu rfl rfl ?_; refine L.nil ?_
       refine QE.round (k + 1) (by omega) (by omega) (by exact Le.mk' (rs := [1, 2, 3, 4, 5, 6]) (hs := [0, 1]) ⟨rfl, rfl, rfl, rfl, rfl, rfl, trivial⟩ ⟨rfl, rfl, rfl, rfl, rfl, rfl, trivial⟩ ⟨rfl, (by rw [scanL_succ, stepL_t hc70 (Option.not_isSome_iff_eq_none.1 (by rw [hc79]; exact Bool.false_ne_true))]; rfl), trivial⟩ (by decide))
    ·
     replace hc56 := of_decide_eq_false hc56
     refine C.exit ?_; refine QE.tX ?_; refine QE.tX ?_; refine QE.blk ?_; refine QE.seq (C.seq ?_); refine C.regionM [Rd A3 [.int .i64 y.n, .int .i64 y.a, .int .i64 y.b, .int .i64 y.s0, .int .i64 y.s1, .slice y.T y.tn y.tc, .slice y.U y.un y.uc, .slice y.V y.vn y.vc], Rd A2 [.int .i64 (f.size : Int), .slice a.D f.data.length a.cD, .slice a.W f.wear.length a.cW, .int .i64 f.limit, .slice a.E f.dead.length a.cE], Rd a.D (rowsV a.hs (B8 f.data)), KidsR a.hs (B8 f.data), Rd a.W (I64 f.wear), Rd a.E (Bs f.dead), Rd A6 [.int .i64 (scanL (f.data.getD (pickL f y.a y.b).sec.toNat []) (pickL f y.a y.b) (k)).sec, .int .i64 (scanL (f.data.getD (pickL f y.a y.b).sec.toNat []) (pickL f y.a y.b) (k)).oth, .int .i64 (scanL (f.data.getD (pickL f y.a y.b).sec.toNat []) (pickL f y.a y.b) (k)).gen, .int .i64 ((scanL (f.data.getD (pickL f y.a y.b).sec.toNat []) (pickL f y.a y.b) (k)).s.getD 0 0), .int .i64 ((scanL (f.data.getD (pickL f y.a y.b).sec.toNat []) (pickL f y.a y.b) (k)).s.getD 1 0), .int .i64 ((scanL (f.data.getD (pickL f y.a y.b).sec.toNat []) (pickL f y.a y.b) (k)).s.getD 2 0), .int .i64 ((scanL (f.data.getD (pickL f y.a y.b).sec.toNat []) (pickL f y.a y.b) (k)).s.getD 3 0), .int .i64 ((scanL (f.data.getD (pickL f y.a y.b).sec.toNat []) (pickL f y.a y.b) (k)).s.getD 4 0), .int .i64 ((scanL (f.data.getD (pickL f y.a y.b).sec.toNat []) (pickL f y.a y.b) (k)).s.getD 5 0), .int .i64 ((scanL (f.data.getD (pickL f y.a y.b).sec.toNat []) (pickL f y.a y.b) (k)).s.getD 6 0), .int .i64 ((scanL (f.data.getD (pickL f y.a y.b).sec.toNat []) (pickL f y.a y.b) (k)).s.getD 7 0), .int .i64 ((scanL (f.data.getD (pickL f y.a y.b).sec.toNat []) (pickL f y.a y.b) (k)).s.getD 8 0), .bool (scanL (f.data.getD (pickL f y.a y.b).sec.toNat []) (pickL f y.a y.b) (k)).found, .int .i64 ((scanL (f.data.getD (pickL f y.a y.b).sec.toNat []) (pickL f y.a y.b) (k)).free : Int), .int .i64 (plcs f : Int), .int .i64 ((scanL (f.data.getD (pickL f y.a y.b).sec.toNat []) (pickL f y.a y.b) (k)).torn : Int)]] ⟨Has.r 0 rfl, Has.r 1 rfl, Has.r 2 rfl, Has.r 3 rfl, Has.r 4 rfl, Has.r 5 rfl, Has.o 1 rfl, trivial⟩ ?_; refine LM.q 0 rfl (by kernel_rfl) (Ev.loadA rfl rfl rfl (Src.r 6 rfl) rfl rfl (by decide)) rfl ⟨Has.r 0 rfl, Has.r 1 rfl, Has.r 2 rfl, Has.r 3 rfl, Has.r 4 rfl, Has.r 5 rfl, Has.o 1 rfl, trivial⟩ ?_; refine LM.q 1 rfl (by kernel_rfl) (Ev.fieldAddr rfl rfl rfl rfl rfl rfl (Src.r 6 rfl) (Nat.zero_lt_succ _) rfl) rfl ⟨Has.r 0 rfl, Has.r 1 rfl, Has.r 2 rfl, Has.r 3 rfl, Has.r 4 rfl, Has.r 5 rfl, Has.o 1 rfl, trivial⟩ ?_; refine LM.q 2 rfl (by kernel_rfl) (Ev.load rfl rfl rfl (Src.r 6 rfl) rfl) rfl ⟨Has.r 0 rfl, Has.r 1 rfl, Has.r 2 rfl, Has.r 3 rfl, Has.r 4 rfl, Has.r 5 rfl, Has.o 1 rfl, trivial⟩ ?_; refine LM.f 3 rfl (by kernel_rfl) ⟨Has.r 0 rfl, Has.r 1 rfl, Has.r 2 rfl, Has.r 3 rfl, Has.r 4 rfl, Has.r 5 rfl, Has.o 1 rfl, trivial⟩ ?_; refine L.storeA (j := 0) rfl rfl rfl rfl rfl (Nat.zero_lt_succ _) rfl rfl ?_
     refine L.nil (QE.m (by kernel_rfl) ?_)
     refine LM.cut [] (by kernel_rfl) ⟨Has.r 0 rfl, Has.r 1 rfl, Has.r 2 rfl, Has.r 3 rfl, Has.r 4 rfl, Has.r 5 rfl, Has.o 1 rfl, trivial⟩ ?_; refine LM.f 4 rfl (by kernel_rfl) trivial ?_; refine Lpu rfl rfl ?_
     refine L.nil (QE.m (by kernel_rfl) ?_)
     refine LM.nil (by kernel_rfl) trivial ?_; refine QE.seq (C.ret ?_); refine QE.ret (js := []) (hs := []) (vs := [_, _]) rfl ⟨⟨_, _, 0, _, rfl, rfl, Src.o 0 rfl, .inl ⟨rfl, by decide, _, rfl, rfl, rfl⟩⟩, rfl, trivial⟩ (by decide) ?_
     obtain rfl : k = plcs f := by omega
     refine ⟨?_, rfl, rfl⟩
     rw [show findP f y.a y.b = (scanL (f.data.getD (pickL f y.a y.b).sec.toNat []) (pickL f y.a y.b) (plcs f)) from by unfold findP secR; rw [if_pos hft0, if_neg hc51], show lgP f y.a y.b = plcs f from by unfold lgP; rw [if_pos hft0, if_neg hc51]]
     rfl

end Go.Proofs.Ytmbjknampholjaa
