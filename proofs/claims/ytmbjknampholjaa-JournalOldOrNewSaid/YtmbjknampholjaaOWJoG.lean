/-
  The contracts of Find and Read of the reference, and of Read of the program.
-/
import Derived.Test.YtmbjknampholjaaOWJoF
namespace Go.Proofs.Ytmbjknampholjaa
open Go.Sl

set_option maxHeartbeats 1000000 in
theorem findR_c (f : Fl) (a : Fa) (ok : f.Ok) (hh : a.hs.length = f.data.length) (y : Ly) (hcap : Caps f a) :
   Ctr X 28 [.agg (List.toArray [.int .i64 (f.size : Int), .slice a.D f.data.length a.cD, .slice a.W f.wear.length a.cW, .int .i64 f.limit, .slice a.E f.dead.length a.cE]), .agg (List.toArray [.int .i64 y.n, .int .i64 y.a, .int .i64 y.b, .int .i64 y.s0, .int .i64 y.s1, .slice y.T y.tn y.tc, .slice y.U y.un y.uc, .slice y.V y.vn y.vc])] [Rd a.D (rowsV a.hs (B8 f.data)), KidsR a.hs (B8 f.data), Rd a.W (I64 f.wear), Rd a.E (Bs f.dead)] [] (fun v R' H' => v = .agg (List.toArray [.int .i64 (findF f y.a y.b).sec, .int .i64 (findF f y.a y.b).oth, .int .i64 (findF f y.a y.b).gen, .int .i64 ((findF f y.a y.b).s.getD 0 0), .int .i64 ((findF f y.a y.b).s.getD 1 0), .int .i64 ((findF f y.a y.b).s.getD 2 0), .int .i64 ((findF f y.a y.b).s.getD 3 0), .int .i64 ((findF f y.a y.b).s.getD 4 0), .int .i64 ((findF f y.a y.b).s.getD 5 0), .int .i64 ((findF f y.a y.b).s.getD 6 0), .int .i64 ((findF f y.a y.b).s.getD 7 0), .int .i64 ((findF f y.a y.b).s.getD 8 0), .int .i64 ((findF f y.a y.b).free : Int), .int .i64 ((findF f y.a y.b).torn : Int), .bool (findF f y.a y.b).found]) ∧ R' = [] ∧ H' = []) := by
 have hok := ok
 obtain ⟨os1, os2, on1, on2, owl, odl, orows, ol1, ol2, owear⟩ := ok
 refine Ctr.of (X := X) (fn := Try.f28) Try.func28 rfl (by kernel_rfl) rfl ?_
 intro β
 refine C.seq (C.region ?_)
 refine L.boxA rfl rfl (fun A2 => ?_)
 refine L.boxA rfl rfl (fun A3 => ?_)
 refine L.alloc rfl rfl rfl (fun A4 => ?_)
 refine L.nil (QE.seq (C.seq (C.seq ?_))); refine C.freeze 0 rfl [1, 2] (by decide) (by decide) ?_; refine C.freeze 0 rfl [1] (by decide) (by decide) ?_; refine C.region ?_; refine L.step (Ev.loadA rfl rfl rfl (Src.r 1 rfl) rfl rfl (by decide)) rfl ?_; refine L.step (Ev.loadA rfl rfl rfl (Src.r 0 rfl) rfl rfl (by decide)) rfl ?_; refine L.call (js := []) (js' := [0]) (fitsR_c f a hok hh y) rfl rfl rfl (by decide) (Hq [2, 3, 4, 5] rfl) rfl ?_
 rintro _ _ _ ⟨rfl, rfl, rfl⟩
 refine Lpu rfl rfl ?_; refine L.nil (QE.seq ?_)
 refine C.condB 13 rfl (fun hc13 => ?_) (fun hc13 => ?_)
 ·
  have hno : fitsF f y.a y.b = false := by simpa using hc13
  refine C.seq (C.region ?_); refine L.step (Ev.build rfl rfl rfl rfl rfl rfl rfl) rfl ?_; refine L.storeA (j := 0) rfl rfl rfl rfl rfl (Nat.zero_lt_succ _) rfl rfl ?_; refine L.nil (QE.seq (C.ret (QE.tR ?_))); refine QE.ret (js := []) (hs := []) (vs := [_]) rfl ⟨⟨_, _, 0, _, rfl, rfl, Src.o 0 rfl, .inl ⟨rfl, by decide, _, rfl, rfl, rfl⟩⟩, trivial⟩ (by decide) ?_
  refine ⟨?_, rfl, rfl⟩
  rw [show findF f y.a y.b = lg0 from by unfold findF; rw [if_neg (by rw [hno]; exact Bool.false_ne_true)]]
  rfl
 ·
  have hft0 : fitsF f y.a y.b = true := by simpa using hc13
  have hft := fitsF_ok hft0
  have hps := pickL_sec hft0
  have hrow := orows (pickL f y.a y.b).sec.toNat (by omega)
  have hcp := hcap (pickL f y.a y.b).sec.toNat (by omega)
  refine C.skip (QE.seq (C.seq ?_)); refine C.join (fun q : Option Addr => [(2, ptrOf A2 0), (3, ptrOf A3 0), (4, ptrOf A4 0), (5, ptrOf q 0)]) (fun q : Option Addr => [Rd A3 [.int .i64 y.n, .int .i64 y.a, .int .i64 y.b, .int .i64 y.s0, .int .i64 y.s1, .slice y.T y.tn y.tc, .slice y.U y.un y.uc, .slice y.V y.vn y.vc], Rd A2 [.int .i64 (f.size : Int), .slice a.D f.data.length a.cD, .slice a.W f.wear.length a.cW, .int .i64 f.limit, .slice a.E f.dead.length a.cE], Rd a.D (rowsV a.hs (B8 f.data)), KidsR a.hs (B8 f.data), Rd a.W (I64 f.wear), Rd a.E (Bs f.dead)]) (fun q : Option Addr => [Own 68 15 A4 1 1 [.int .i64 0, .int .i64 0, .int .i64 0, .int .i64 0, .int .i64 0, .int .i64 0, .int .i64 0, .int .i64 0, .int .i64 0, .int .i64 0, .int .i64 0, .int .i64 0, .int .i64 0, .int .i64 0, .bool false], Own 68 15 q 1 1 [.int .i64 y.a, .int .i64 y.b, .int .i64 (genF (secR f y.a)), .int .i64 0, .int .i64 0, .int .i64 0, .int .i64 0, .int .i64 0, .int .i64 0, .int .i64 0, .int .i64 0, .int .i64 0, .int .i64 0, .int .i64 0, .bool false]]) (fun q : Option Addr => True) ?_ ?_
  ·
   refine C.regionM [Rd A3 [.int .i64 y.n, .int .i64 y.a, .int .i64 y.b, .int .i64 y.s0, .int .i64 y.s1, .slice y.T y.tn y.tc, .slice y.U y.un y.uc, .slice y.V y.vn y.vc], Rd A2 [.int .i64 (f.size : Int), .slice a.D f.data.length a.cD, .slice a.W f.wear.length a.cW, .int .i64 f.limit, .slice a.E f.dead.length a.cE], Rd a.D (rowsV a.hs (B8 f.data)), KidsR a.hs (B8 f.data), Rd a.W (I64 f.wear), Rd a.E (Bs f.dead)] (Hq [0, 1, 2, 3, 4, 5] rfl) ?_; refine LM.q 0 rfl (by kernel_rfl) (Ev.fieldAddr rfl rfl rfl rfl rfl rfl (Src.r 0 rfl) (Nat.zero_lt_succ _) rfl) rfl (Hq [0, 1, 2, 3, 4, 5] rfl) ?_; refine LM.q 1 rfl (by kernel_rfl) (Ev.idxArr (k := 0) (m := 1) rfl rfl rfl rfl rfl rfl (by decide) (Src.r 0 rfl) (by exact Nat.zero_lt_succ _) rfl) rfl (Hq [0, 1, 2, 3, 4, 5] rfl) ?_; refine LM.q 2 rfl (by kernel_rfl) (Ev.load rfl rfl rfl (Src.r 0 rfl) rfl) rfl (Hq [0, 1, 2, 3, 4, 5] rfl) ?_; refine LM.q 3 rfl (by kernel_rfl) (Ev.fieldAddr rfl rfl rfl rfl rfl rfl (Src.r 0 rfl) (Nat.zero_lt_succ _) rfl) rfl (Hq [0, 1, 2, 3, 4, 5] rfl) ?_; refine LM.q 4 rfl (by kernel_rfl) (Ev.idxArr (k := 1) (m := 2) rfl rfl rfl rfl rfl rfl (by decide) (Src.r 0 rfl) (by exact Nat.zero_lt_succ _) rfl) rfl (Hq [0, 1, 2, 3, 4, 5] rfl) ?_; refine LM.q 5 rfl (by kernel_rfl) (Ev.load rfl rfl rfl (Src.r 0 rfl) rfl) rfl (Hq [0, 1, 2, 3, 4, 5] rfl) ?_; refine LM.q 6 rfl (by kernel_rfl) (Ev.loadA rfl rfl rfl (Src.r 1 rfl) rfl rfl (by decide)) rfl (Hq [0, 1, 2, 3, 4, 5] rfl) ?_; refine LM.q 7 rfl (by kernel_rfl) (Ev.fieldAddr rfl rfl rfl rfl rfl rfl (Src.r 0 rfl) (Nat.zero_lt_succ _) rfl) rfl (Hq [0, 1, 2, 3, 4, 5] rfl) ?_; refine LM.q 8 rfl (by kernel_rfl) (Ev.idxArr (k := 0) (m := 1) rfl rfl rfl rfl rfl rfl (by decide) (Src.r 0 rfl) (by exact Nat.zero_lt_succ _) rfl) rfl (Hq [0, 1, 2, 3, 4, 5] rfl) ?_; refine LM.q 9 rfl (by kernel_rfl) (Ev.load rfl rfl rfl (Src.r 0 rfl) rfl) rfl (Hq [0, 1, 2, 3, 4, 5] rfl) ?_
   refine LM.alt [10, 12] (by kernel_rfl) (by decide) (Hq [0, 1, 2, 3, 4, 5] rfl) ⟨⟨_, rfl, ?_⟩, ⟨_, rfl, ?_⟩, trivial⟩
   ·
    refine L.call (js := []) (js' := [0]) (genR_c f a hok hh y.a ⟨hft.2.1, hft.2.2.2.1⟩ (by omega) hcap) rfl rfl rfl (by decide) (Hq [2, 3, 4, 5] rfl) rfl ?_
    rintro _ _ _ ⟨rfl, rfl, rfl⟩
    refine L.nil (QE.m (by kernel_rfl) ?_)
    refine LM.q 11 rfl (by kernel_rfl) (Ev.build rfl rfl rfl rfl rfl rfl rfl) rfl (Hq [0, 1, 2, 3, 4, 5] rfl) ?_; refine LM.f 12 rfl (by kernel_rfl) (Hq [0, 1, 2, 3, 4, 5] rfl) ?_
    refine L.alloc rfl rfl rfl (fun A5 => ?_)
    refine L.nil (QE.m (by kernel_rfl) ?_)
    refine LM.cut [] (by kernel_rfl) (Hq [0, 1, 2, 3, 4, 5] rfl) ?_; refine LM.f 13 rfl (by kernel_rfl) trivial ?_; refine L.storeA (j := 1) rfl rfl rfl rfl rfl (Nat.zero_lt_succ _) rfl rfl ?_
    refine L.nil (QE.m (by kernel_rfl) ?_)
    refine LM.nil (by kernel_rfl) trivial ?_
    refine QE.joined (A5) (by exact trivial) (by exact Le.mk' (rs := [0, 1, 2, 3, 4, 5]) (hs := [0, 1]) ⟨rfl, rfl, rfl, rfl, trivial⟩ ⟨rfl, rfl, rfl, rfl, rfl, rfl, trivial⟩ ⟨rfl, rfl, trivial⟩ (by decide))
   ·
    refine L.alloc rfl rfl rfl (fun A5 => ?_)
    refine L.nil (QE.m (by kernel_rfl) ?_)
    refine LM.f 10 rfl (by kernel_rfl) (Hq [0, 1, 2, 3, 4, 5] rfl) ?_; refine L.call (js := []) (js' := [0, 1]) (genR_c f a hok hh y.a ⟨hft.2.1, hft.2.2.2.1⟩ (by omega) hcap) rfl rfl rfl (by decide) (Hq [2, 3, 4, 5] rfl) rfl ?_
    rintro _ _ _ ⟨rfl, rfl, rfl⟩
    refine L.nil (QE.m (by kernel_rfl) ?_)
    refine LM.f 11 rfl (by kernel_rfl) (Hq [0, 1, 2, 3, 4, 5] rfl) ?_; refine L.step (Ev.build rfl rfl rfl rfl rfl rfl rfl) rfl ?_
    refine L.nil (QE.m (by kernel_rfl) ?_)
    refine LM.cut [] (by kernel_rfl) (Hq [0, 1, 2, 3, 4, 5] rfl) ?_; refine LM.f 13 rfl (by kernel_rfl) trivial ?_; refine L.storeA (j := 1) rfl rfl rfl rfl rfl (Nat.zero_lt_succ _) rfl rfl ?_
    refine L.nil (QE.m (by kernel_rfl) ?_)
    refine LM.nil (by kernel_rfl) trivial ?_
    refine QE.joined (A5) (by exact trivial) (by exact Le.mk' (rs := [0, 1, 2, 3, 4, 5]) (hs := [0, 1]) ⟨rfl, rfl, rfl, rfl, trivial⟩ ⟨rfl, rfl, rfl, rfl, rfl, rfl, trivial⟩ ⟨rfl, rfl, trivial⟩ (by decide))
  ·
   rintro A5 _
   refine QE.seq ?_; refine C.seqJ (fun q : Unit => [(2, ptrOf A2 0), (3, ptrOf A3 0), (4, ptrOf A4 0), (5, ptrOf A5 0)]) (fun q : Unit => [Rd A3 [.int .i64 y.n, .int .i64 y.a, .int .i64 y.b, .int .i64 y.s0, .int .i64 y.s1, .slice y.T y.tn y.tc, .slice y.U y.un y.uc, .slice y.V y.vn y.vc], Rd A2 [.int .i64 (f.size : Int), .slice a.D f.data.length a.cD, .slice a.W f.wear.length a.cW, .int .i64 f.limit, .slice a.E f.dead.length a.cE], Rd a.D (rowsV a.hs (B8 f.data)), KidsR a.hs (B8 f.data), Rd a.W (I64 f.wear), Rd a.E (Bs f.dead)]) (fun q : Unit => [Own 68 15 A4 1 1 [.int .i64 0, .int .i64 0, .int .i64 0, .int .i64 0, .int .i64 0, .int .i64 0, .int .i64 0, .int .i64 0, .int .i64 0, .int .i64 0, .int .i64 0, .int .i64 0, .int .i64 0, .int .i64 0, .bool false], Own 68 15 A5 1 1 [.int .i64 (pickL f y.a y.b).sec, .int .i64 (pickL f y.a y.b).oth, .int .i64 (pickL f y.a y.b).gen, .int .i64 ((pickL f y.a y.b).s.getD 0 0), .int .i64 ((pickL f y.a y.b).s.getD 1 0), .int .i64 ((pickL f y.a y.b).s.getD 2 0), .int .i64 ((pickL f y.a y.b).s.getD 3 0), .int .i64 ((pickL f y.a y.b).s.getD 4 0), .int .i64 ((pickL f y.a y.b).s.getD 5 0), .int .i64 ((pickL f y.a y.b).s.getD 6 0), .int .i64 ((pickL f y.a y.b).s.getD 7 0), .int .i64 ((pickL f y.a y.b).s.getD 8 0), .int .i64 ((pickL f y.a y.b).free : Int), .int .i64 ((pickL f y.a y.b).torn : Int), .bool (pickL f y.a y.b).found]]) (fun q : Unit => True) ?_ ?_
   ·
    refine C.seq ?_; refine C.regionM [Rd A3 [.int .i64 y.n, .int .i64 y.a, .int .i64 y.b, .int .i64 y.s0, .int .i64 y.s1, .slice y.T y.tn y.tc, .slice y.U y.un y.uc, .slice y.V y.vn y.vc], Rd A2 [.int .i64 (f.size : Int), .slice a.D f.data.length a.cD, .slice a.W f.wear.length a.cW, .int .i64 f.limit, .slice a.E f.dead.length a.cE], Rd a.D (rowsV a.hs (B8 f.data)), KidsR a.hs (B8 f.data), Rd a.W (I64 f.wear), Rd a.E (Bs f.dead), Rd A5 [.int .i64 y.a, .int .i64 y.b, .int .i64 (genF (secR f y.a)), .int .i64 0, .int .i64 0, .int .i64 0, .int .i64 0, .int .i64 0, .int .i64 0, .int .i64 0, .int .i64 0, .int .i64 0, .int .i64 0, .int .i64 0, .bool false]] ⟨Has.r 0 rfl, Has.r 1 rfl, Has.r 2 rfl, Has.r 3 rfl, Has.r 4 rfl, Has.r 5 rfl, Has.o 1 rfl, trivial⟩ ?_; refine LM.q 0 rfl (by kernel_rfl) (Ev.loadA rfl rfl rfl (Src.r 1 rfl) rfl rfl (by decide)) rfl ⟨Has.r 0 rfl, Has.r 1 rfl, Has.r 2 rfl, Has.r 3 rfl, Has.r 4 rfl, Has.r 5 rfl, Has.o 1 rfl, trivial⟩ ?_; refine LM.q 1 rfl (by kernel_rfl) (Ev.fieldAddr rfl rfl rfl rfl rfl rfl (Src.r 0 rfl) (Nat.zero_lt_succ _) rfl) rfl ⟨Has.r 0 rfl, Has.r 1 rfl, Has.r 2 rfl, Has.r 3 rfl, Has.r 4 rfl, Has.r 5 rfl, Has.o 1 rfl, trivial⟩ ?_; refine LM.q 2 rfl (by kernel_rfl) (Ev.idxArr (k := 1) (m := 2) rfl rfl rfl rfl rfl rfl (by decide) (Src.r 0 rfl) (by exact Nat.zero_lt_succ _) rfl) rfl ⟨Has.r 0 rfl, Has.r 1 rfl, Has.r 2 rfl, Has.r 3 rfl, Has.r 4 rfl, Has.r 5 rfl, Has.o 1 rfl, trivial⟩ ?_; refine LM.q 3 rfl (by kernel_rfl) (Ev.load rfl rfl rfl (Src.r 0 rfl) rfl) rfl ⟨Has.r 0 rfl, Has.r 1 rfl, Has.r 2 rfl, Has.r 3 rfl, Has.r 4 rfl, Has.r 5 rfl, Has.o 1 rfl, trivial⟩ ?_; refine LM.q 5 rfl (by kernel_rfl) (Ev.fieldAddr rfl rfl rfl rfl rfl rfl (Src.r 6 rfl) (Nat.zero_lt_succ _) rfl) rfl ⟨Has.r 0 rfl, Has.r 1 rfl, Has.r 2 rfl, Has.r 3 rfl, Has.r 4 rfl, Has.r 5 rfl, Has.o 1 rfl, trivial⟩ ?_; refine LM.q 6 rfl (by kernel_rfl) (Ev.load rfl rfl rfl (Src.r 6 rfl) rfl) rfl ⟨Has.r 0 rfl, Has.r 1 rfl, Has.r 2 rfl, Has.r 3 rfl, Has.r 4 rfl, Has.r 5 rfl, Has.o 1 rfl, trivial⟩ ?_; refine LM.f 4 rfl (by kernel_rfl) ⟨Has.r 0 rfl, Has.r 1 rfl, Has.r 2 rfl, Has.r 3 rfl, Has.r 4 rfl, Has.r 5 rfl, Has.o 1 rfl, trivial⟩ ?_; refine L.call (js := []) (js' := [0, 1]) (genR_c f a hok hh y.b ⟨hft.2.2.1, hft.2.2.2.2.1⟩ (by omega) hcap) rfl rfl rfl (by decide) (Hq [2, 3, 4, 5] rfl) rfl ?_
    rintro _ _ _ ⟨rfl, rfl, rfl⟩
    refine L.nil (QE.m (by kernel_rfl) ?_)
    refine LM.cut [] (by kernel_rfl) ⟨Has.r 0 rfl, Has.r 1 rfl, Has.r 2 rfl, Has.r 3 rfl, Has.r 4 rfl, Has.r 5 rfl, Has.o 1 rfl, trivial⟩ ?_; refine LM.f 7 rfl (by kernel_rfl) trivial ?_; refine Lpu rfl rfl ?_
    refine L.nil (QE.m (by kernel_rfl) ?_)
    refine LM.nil (by kernel_rfl) trivial ?_; refine QE.seq ?_
    refine C.condB 34 rfl (fun hc34 => ?_) (fun hc34 => ?_)
    ·
     replace hc34 := of_decide_eq_true hc34
     refine C.regionM [Rd A3 [.int .i64 y.n, .int .i64 y.a, .int .i64 y.b, .int .i64 y.s0, .int .i64 y.s1, .slice y.T y.tn y.tc, .slice y.U y.un y.uc, .slice y.V y.vn y.vc], Rd A2 [.int .i64 (f.size : Int), .slice a.D f.data.length a.cD, .slice a.W f.wear.length a.cW, .int .i64 f.limit, .slice a.E f.dead.length a.cE], Rd a.D (rowsV a.hs (B8 f.data)), KidsR a.hs (B8 f.data), Rd a.W (I64 f.wear), Rd a.E (Bs f.dead)] (Hq [0, 1, 2, 3, 4, 5] rfl) ?_; refine LM.q 0 rfl (by kernel_rfl) (Ev.fieldAddr rfl rfl rfl rfl rfl rfl (Src.r 0 rfl) (Nat.zero_lt_succ _) rfl) rfl (Hq [0, 1, 2, 3, 4, 5] rfl) ?_; refine LM.q 1 rfl (by kernel_rfl) (Ev.idxArr (k := 1) (m := 2) rfl rfl rfl rfl rfl rfl (by decide) (Src.r 0 rfl) (by exact Nat.zero_lt_succ _) rfl) rfl (Hq [0, 1, 2, 3, 4, 5] rfl) ?_; refine LM.q 2 rfl (by kernel_rfl) (Ev.load rfl rfl rfl (Src.r 0 rfl) rfl) rfl (Hq [0, 1, 2, 3, 4, 5] rfl) ?_; refine LM.q 3 rfl (by kernel_rfl) (Ev.fieldAddr rfl rfl rfl rfl rfl rfl (Src.r 0 rfl) (Nat.zero_lt_succ _) rfl) rfl (Hq [0, 1, 2, 3, 4, 5] rfl) ?_; refine LM.q 4 rfl (by kernel_rfl) (Ev.idxArr (k := 0) (m := 1) rfl rfl rfl rfl rfl rfl (by decide) (Src.r 0 rfl) (by exact Nat.zero_lt_succ _) rfl) rfl (Hq [0, 1, 2, 3, 4, 5] rfl) ?_; refine LM.q 5 rfl (by kernel_rfl) (Ev.load rfl rfl rfl (Src.r 0 rfl) rfl) rfl (Hq [0, 1, 2, 3, 4, 5] rfl) ?_; refine LM.q 6 rfl (by kernel_rfl) (Ev.loadA rfl rfl rfl (Src.r 1 rfl) rfl rfl (by decide)) rfl (Hq [0, 1, 2, 3, 4, 5] rfl) ?_; refine LM.f 7 rfl (by kernel_rfl) (Hq [0, 1, 2, 3, 4, 5] rfl) ?_; refine L.step (Ev.fieldAddr rfl rfl rfl rfl rfl rfl (Src.r 0 rfl) (Nat.zero_lt_succ _) rfl) rfl ?_
     refine L.nil (QE.m (by kernel_rfl) ?_)
     refine LM.f 8 rfl (by kernel_rfl) (Hq [0, 1, 2, 3, 4, 5] rfl) ?_; refine L.step (Ev.idxArr (k := 1) (m := 2) rfl rfl rfl rfl rfl rfl (by decide) (Src.r 0 rfl) (by exact Nat.zero_lt_succ _) rfl) rfl ?_
     refine L.nil (QE.m (by kernel_rfl) ?_)
     refine LM.f 9 rfl (by kernel_rfl) (Hq [0, 1, 2, 3, 4, 5] rfl) ?_; refine L.step (Ev.load rfl rfl rfl (Src.r 0 rfl) rfl) rfl ?_
     refine L.nil (QE.m (by kernel_rfl) ?_)
     refine LM.f 10 rfl (by kernel_rfl) (Hq [0, 1, 2, 3, 4, 5] rfl) ?_; refine L.call (js := []) (js' := [0, 1]) (genR_c f a hok hh y.b ⟨hft.2.2.1, hft.2.2.2.2.1⟩ (by omega) hcap) rfl rfl rfl (by decide) (Hq [2, 3, 4, 5] rfl) rfl ?_
     rintro _ _ _ ⟨rfl, rfl, rfl⟩
     refine L.nil (QE.m (by kernel_rfl) ?_)
     refine LM.cut [] (by kernel_rfl) (Hq [0, 1, 2, 3, 4, 5] rfl) ?_; refine LM.f 11 rfl (by kernel_rfl) trivial ?_; refine L.step (Ev.build rfl rfl rfl rfl rfl rfl rfl) rfl ?_
     refine L.nil (QE.m (by kernel_rfl) ?_)
     refine LM.f 12 rfl (by kernel_rfl) trivial ?_; refine L.storeA (j := 1) rfl rfl rfl rfl rfl (Nat.zero_lt_succ _) rfl rfl ?_
     refine L.nil (QE.m (by kernel_rfl) ?_)
     refine LM.nil (by kernel_rfl) trivial ?_
     refine QE.join (()) (by exact trivial) (by exact Le.mk' (rs := [0, 1, 2, 3, 4, 5]) (hs := [0, 1]) ⟨rfl, rfl, rfl, rfl, trivial⟩ ⟨rfl, rfl, rfl, rfl, rfl, rfl, trivial⟩ ⟨rfl, (by unfold pickL; rw [if_pos hc34]; rfl), trivial⟩ (by decide))
    ·
     replace hc34 := of_decide_eq_false hc34
     refine C.skip ?_
     refine QE.join (()) (by exact trivial) (by exact Le.mk' (rs := [0, 1, 2, 3, 4, 5]) (hs := [0, 1]) ⟨rfl, rfl, rfl, rfl, trivial⟩ ⟨rfl, rfl, rfl, rfl, rfl, rfl, trivial⟩ ⟨rfl, (by unfold pickL; rw [if_neg hc34]; rfl), trivial⟩ (by decide))
   ·
    rintro _ _
    refine C.seq (C.seq (C.region ?_)); refine Lpu rfl rfl ?_; refine L.nil (QE.seq (C.block ?_)); refine C.loop (fun k : Nat => [(2, ptrOf A2 0), (3, ptrOf A3 0), (4, ptrOf A4 0), (5, ptrOf A5 0), (6, .int .i64 (k : Int))]) (fun k : Nat => [Rd A3 [.int .i64 y.n, .int .i64 y.a, .int .i64 y.b, .int .i64 y.s0, .int .i64 y.s1, .slice y.T y.tn y.tc, .slice y.U y.un y.uc, .slice y.V y.vn y.vc], Rd A2 [.int .i64 (f.size : Int), .slice a.D f.data.length a.cD, .slice a.W f.wear.length a.cW, .int .i64 f.limit, .slice a.E f.dead.length a.cE], Rd a.D (rowsV a.hs (B8 f.data)), KidsR a.hs (B8 f.data), Rd a.W (I64 f.wear), Rd a.E (Bs f.dead)]) (fun k : Nat => [Own 68 15 A4 1 1 [.int .i64 0, .int .i64 0, .int .i64 0, .int .i64 0, .int .i64 0, .int .i64 0, .int .i64 0, .int .i64 0, .int .i64 0, .int .i64 0, .int .i64 0, .int .i64 0, .int .i64 0, .int .i64 0, .bool false], Own 68 15 A5 1 1 [.int .i64 (scanL (f.data.getD (pickL f y.a y.b).sec.toNat []) (pickL f y.a y.b) (k)).sec, .int .i64 (scanL (f.data.getD (pickL f y.a y.b).sec.toNat []) (pickL f y.a y.b) (k)).oth, .int .i64 (scanL (f.data.getD (pickL f y.a y.b).sec.toNat []) (pickL f y.a y.b) (k)).gen, .int .i64 ((scanL (f.data.getD (pickL f y.a y.b).sec.toNat []) (pickL f y.a y.b) (k)).s.getD 0 0), .int .i64 ((scanL (f.data.getD (pickL f y.a y.b).sec.toNat []) (pickL f y.a y.b) (k)).s.getD 1 0), .int .i64 ((scanL (f.data.getD (pickL f y.a y.b).sec.toNat []) (pickL f y.a y.b) (k)).s.getD 2 0), .int .i64 ((scanL (f.data.getD (pickL f y.a y.b).sec.toNat []) (pickL f y.a y.b) (k)).s.getD 3 0), .int .i64 ((scanL (f.data.getD (pickL f y.a y.b).sec.toNat []) (pickL f y.a y.b) (k)).s.getD 4 0), .int .i64 ((scanL (f.data.getD (pickL f y.a y.b).sec.toNat []) (pickL f y.a y.b) (k)).s.getD 5 0), .int .i64 ((scanL (f.data.getD (pickL f y.a y.b).sec.toNat []) (pickL f y.a y.b) (k)).s.getD 6 0), .int .i64 ((scanL (f.data.getD (pickL f y.a y.b).sec.toNat []) (pickL f y.a y.b) (k)).s.getD 7 0), .int .i64 ((scanL (f.data.getD (pickL f y.a y.b).sec.toNat []) (pickL f y.a y.b) (k)).s.getD 8 0), .int .i64 ((scanL (f.data.getD (pickL f y.a y.b).sec.toNat []) (pickL f y.a y.b) (k)).free : Int), .int .i64 ((scanL (f.data.getD (pickL f y.a y.b).sec.toNat []) (pickL f y.a y.b) (k)).torn : Int), .bool (scanL (f.data.getD (pickL f y.a y.b).sec.toNat []) (pickL f y.a y.b) (k)).found]]) (fun k : Nat => k ≤ plcs f ∧ (k = 0 ∨ 0 ≤ (pickL f y.a y.b).gen)) (fun k : Nat => plcs f - k) 0 ⟨Nat.zero_le _, .inl rfl⟩ (by exact Le.mk' (rs := [0, 1, 2, 3, 4, 5]) (hs := [0, 1]) ⟨rfl, rfl, rfl, rfl, rfl, trivial⟩ ⟨rfl, rfl, rfl, rfl, rfl, rfl, trivial⟩ ⟨rfl, rfl, trivial⟩ (by decide)) ?_
    rintro k ⟨hk, hkg⟩
    refine C.seq (C.seq (C.region ?_)); refine Lpu rfl rfl ?_; refine L.step (Ev.loadA rfl rfl rfl (Src.r 1 rfl) rfl rfl (by decide)) rfl ?_; refine L.call (js := []) (js' := [0, 1]) (placesR_c f a hok hh hft.2.2.2.2.2) rfl rfl rfl (by decide) (Hq [2, 3, 4, 5] rfl) rfl ?_
    rintro _ _ _ ⟨rfl, rfl, rfl⟩
    refine Lpu rfl rfl ?_; refine Lpu rfl rfl ?_
    refine L.bool 51 rfl (fun hg51 => ?_) (fun hg51 => ?_)
    ·
     replace hg51 := of_decide_eq_true hg51
     have hkp := scanL_keep (f.data.getD (pickL f y.a y.b).sec.toNat []) (pickL f y.a y.b) k
     have hsl := slotAt_len (f := f) (row := (f.data.getD (pickL f y.a y.b).sec.toNat [])) (i := k) hrow (by omega)
     have hkl : (scanL (f.data.getD (pickL f y.a y.b).sec.toNat []) (pickL f y.a y.b) (k)).free ≤ k ∧ (scanL (f.data.getD (pickL f y.a y.b).sec.toNat []) (pickL f y.a y.b) (k)).torn ≤ k := scanL_free pickL_free.1 pickL_free.2 k
     have hpl : plcs f ≤ 137 := plcs_le hok
     refine L.yes rfl ?_; refine L.step (Ev.fieldAddr rfl rfl rfl rfl rfl rfl (Src.o 1 rfl) (Nat.zero_lt_succ _) rfl) rfl ?_; refine L.yes rfl ?_; refine L.step (Ev.load rfl rfl rfl (Src.o 1 rfl) rfl) rfl ?_; refine L.yes rfl ?_; refine Lpu rfl rfl ?_; refine Lpu rfl rfl ?_; refine L.nil (QE.seq ?_)
     refine C.condB 55 rfl (fun hc55 => ?_) (fun hc55 => ?_)
     ·
      replace hc55 := of_decide_eq_true hc55
      refine C.skip (QE.seq (C.seq (C.block (C.seq (C.region ?_))))); refine L.step (Ev.fieldAddr rfl rfl rfl rfl rfl rfl (Src.r 1 rfl) (Nat.zero_lt_succ _) rfl) rfl ?_; refine L.step (Ev.load rfl rfl rfl (Src.r 1 rfl) rfl) rfl ?_; refine L.step (Ev.fieldAddr rfl rfl rfl rfl rfl rfl (Src.o 1 rfl) (Nat.zero_lt_succ _) rfl) rfl ?_; refine L.step (Ev.load rfl rfl rfl (Src.o 1 rfl) rfl) rfl ?_; refine L.step (Ev.idx1 (k := (pickL f y.a y.b).sec.toNat) rfl rfl rfl rfl rfl rfl (by rw [hkp.1]; omega) (by omega) (Src.r 2 rfl) (by rw [rowsV_len (by rw [B8_len]; exact hh), B8_len]; omega)) rfl ?_; refine L.step (Ev.load rfl rfl rfl (Src.r 2 rfl) (rows8_get hh (by omega))) rfl ?_; refine Lpu rfl rfl ?_; refine L.step (Ev.mul rfl rfl (by omega) (by omega)) rfl ?_; refine L.step (Ev.cast (u := .int .i64 ((8 + 30 * k : Nat) : Int)) (Ev.add rfl rfl (by omega) (by omega)) (congrArg (Value.int .i64) (by omega))) rfl ?_; refine Lpu rfl rfl ?_; refine L.step (Ev.mul rfl rfl (by omega) (by omega)) rfl ?_; refine L.step (Ev.cast (u := .int .i64 ((38 + 30 * k : Nat) : Int)) (Ev.add rfl rfl (by omega) (by omega)) (congrArg (Value.int .i64) (by omega))) rfl ?_; refine L.step (Ev.cast (u := .slice (subA (a.hs.getD (pickL f y.a y.b).sec.toNat (none, 0)).1 (a.hs.getD (pickL f y.a y.b).sec.toNat (none, 0)).2 (8 + 30 * k) 1) (slotAt (f.data.getD (pickL f y.a y.b).sec.toNat []) k).length ((a.hs.getD (pickL f y.a y.b).sec.toNat (none, 0)).2 - (8 + 30 * k))) (Ev.sliceLH (l := 8 + 30 * k) (h := 38 + 30 * k) rfl rfl rfl rfl rfl rfl rfl rfl (by omega) (by omega)) (by rw [hsl.1, show 38 + 30 * k - (8 + 30 * k) = 30 by omega]; rfl)) rfl ?_; refine Lpu rfl rfl ?_; refine L.nil (QE.seq (C.seq ?_)); refine C.more (r := Rd (subA (a.hs.getD (pickL f y.a y.b).sec.toNat (none, 0)).1 (a.hs.getD (pickL f y.a y.b).sec.toNat (none, 0)).2 (8 + 30 * k) 1) (U8 (slotAt (f.data.getD (pickL f y.a y.b).sec.toNat []) k))) ((((Has.dropU (((Has.kid 3 rfl (by rw [B8_len]; exact hh) ((pickL f y.a y.b).sec.toNat) (by rw [B8_len]; omega)).cast (B8_get _))) (a.hs.getD (pickL f y.a y.b).sec.toNat (none, 0)).2 (8 + 30 * k) (by omega)).take 30).cast (U8_take _ _))) ?_; refine C.region ?_; refine Lpu rfl rfl ?_; refine L.call (js := []) (js' := [0, 1]) (stR_c (subA (a.hs.getD (pickL f y.a y.b).sec.toNat (none, 0)).1 (a.hs.getD (pickL f y.a y.b).sec.toNat (none, 0)).2 (8 + 30 * k) 1) ((a.hs.getD (pickL f y.a y.b).sec.toNat (none, 0)).2 - (8 + 30 * k)) (slotAt (f.data.getD (pickL f y.a y.b).sec.toNat []) k) hsl.1) rfl rfl rfl (by decide) (Hq [0] rfl) rfl ?_
      rintro _ _ _ ⟨rfl, rfl, rfl⟩
      refine Lpu rfl rfl ?_; refine Lpu rfl rfl ?_; refine Lpu rfl rfl ?_
      refine L.alloc rfl rfl rfl (fun A8 => ?_)
      refine L.storeA (j := 2) rfl rfl rfl rfl rfl (Nat.zero_lt_succ _) rfl rfl ?_; refine Lpu rfl rfl ?_; refine L.nil (QE.seq (C.seq (C.seq (C.region ?_)))); refine Lpu rfl rfl ?_; refine L.nil (QE.seq ?_)
      refine C.condB 76 rfl (fun hc76 => ?_) (fun hc76 => ?_)
      ·
       obtain ⟨s1, hs1⟩ := Option.isSome_iff_exists.1 hc76
       have hnb : blankB (slotAt (f.data.getD (pickL f y.a y.b).sec.toNat []) k) = false := by cases hb : blankB (slotAt (f.data.getD (pickL f y.a y.b).sec.toNat []) k) with | false => rfl | true => rw [blank_none (by omega) hb] at hs1; cases hs1
       refine C.region ?_; refine L.step (Ev.loadA rfl rfl rfl (Src.o 2 rfl) rfl rfl (by decide)) rfl ?_; refine L.step (Ev.fieldAddr rfl rfl rfl rfl rfl rfl (Src.o 1 rfl) (Nat.zero_lt_succ _) rfl) rfl ?_; refine L.storeA (j := 1) rfl rfl rfl rfl rfl (Nat.zero_lt_succ _) rfl rfl ?_; refine L.step (Ev.fieldAddr rfl rfl rfl rfl rfl rfl (Src.o 1 rfl) (Nat.zero_lt_succ _) rfl) rfl ?_; refine L.store (j := 1) rfl rfl rfl rfl rfl rfl rfl rfl ?_; refine L.nil (QE.seq (C.seq (C.seq (C.region ?_)))); refine Lpu rfl rfl ?_; refine Lpu rfl rfl ?_; refine Lpu rfl rfl ?_
       refine L.bool 82 rfl (fun hg82 => ?_) (fun hg82 => ?_)
       ·
        exact absurd hg82 (by rw [hc76]; exact Bool.false_ne_true)
       ·
        refine L.no rfl rfl rfl ?_; refine L.no rfl rfl rfl ?_; refine L.no rfl rfl rfl ?_; refine Lpu rfl rfl ?_; refine L.nil (QE.seq ?_)
        refine C.cond rfl (fun h => by cases h) (fun _ => ?_)
        refine C.skip (QE.seq (C.seq (C.region ?_))); refine Lpu rfl rfl ?_; refine L.call (js := []) (js' := [0, 1, 2]) (blankR_c (subA (a.hs.getD (pickL f y.a y.b).sec.toNat (none, 0)).1 (a.hs.getD (pickL f y.a y.b).sec.toNat (none, 0)).2 (8 + 30 * k) 1) ((a.hs.getD (pickL f y.a y.b).sec.toNat (none, 0)).2 - (8 + 30 * k)) (slotAt (f.data.getD (pickL f y.a y.b).sec.toNat []) k) (by omega)) rfl rfl rfl (by decide) (Hq [0] rfl) rfl ?_
        rintro _ _ _ ⟨rfl, rfl, rfl⟩
        refine Lpu rfl rfl ?_; refine L.nil (QE.seq ?_)
        refine C.condB 93 rfl (fun hc93 => ?_) (fun hc93 => ?_)
        ·
         refine C.region ?_; refine Lpu rfl rfl ?_; refine L.step (Ev.add rfl rfl (by omega) (by omega)) rfl ?_; refine L.step (Ev.fieldAddr rfl rfl rfl rfl rfl rfl (Src.o 1 rfl) (Nat.zero_lt_succ _) rfl) rfl ?_; refine L.store (j := 1) rfl rfl rfl rfl rfl rfl rfl rfl ?_; refine L.nil ?_; refine QE.blkN ?_; refine QE.seq (C.region ?_); refine Lpu rfl rfl ?_; refine L.step (Ev.add rfl rfl (by omega) (by omega)) rfl ?_; refine Lpu rfl rfl ?_; refine L.nil ?_
         refine QE.round (k + 1) (by exact ⟨by omega, .inr (by rw [← hkp.2.2]; omega)⟩) (by omega) (by exact Le.mk' (rs := [1, 2, 3, 4, 5, 6]) (hs := [0, 1]) ⟨rfl, rfl, rfl, rfl, rfl, trivial⟩ ⟨rfl, rfl, rfl, rfl, rfl, rfl, trivial⟩ ⟨rfl, (by rw [scanL_succ, stepL_s hnb hs1, hs1]; rfl), trivial⟩ (by decide))
        ·
         rw [hnb] at hc93; cases hc93
      ·
       have hsn : stateF (slotAt (f.data.getD (pickL f y.a y.b).sec.toNat []) k) = none := Option.not_isSome_iff_eq_none.1 (by rw [hc76]; exact Bool.false_ne_true)
       refine C.skip (QE.seq (C.seq (C.seq (C.region ?_)))); refine Lpu rfl rfl ?_; refine Lpu rfl rfl ?_; refine Lpu rfl rfl ?_
       refine L.bool 82 rfl (fun hg82 => ?_) (fun hg82 => ?_)
       ·
        refine L.yes rfl ?_; refine Lpu rfl rfl ?_; refine L.yes rfl ?_; refine L.call (js := []) (js' := [0, 1, 2]) (blankR_c (subA (a.hs.getD (pickL f y.a y.b).sec.toNat (none, 0)).1 (a.hs.getD (pickL f y.a y.b).sec.toNat (none, 0)).2 (8 + 30 * k) 1) ((a.hs.getD (pickL f y.a y.b).sec.toNat (none, 0)).2 - (8 + 30 * k)) (slotAt (f.data.getD (pickL f y.a y.b).sec.toNat []) k) (by omega)) rfl rfl rfl (by decide) (Hq [0] rfl) rfl ?_
        rintro _ _ _ ⟨rfl, rfl, rfl⟩
        refine L.yes rfl ?_; refine Lpu rfl rfl ?_; refine Lpu rfl rfl ?_; refine L.nil (QE.seq ?_)
        refine C.condB 86 rfl (fun hc86 => ?_) (fun hc86 => ?_)
        ·
         have hnb : blankB (slotAt (f.data.getD (pickL f y.a y.b).sec.toNat []) k) = false := by simpa using hc86
         refine C.region ?_; refine L.step (Ev.fieldAddr rfl rfl rfl rfl rfl rfl (Src.o 1 rfl) (Nat.zero_lt_succ _) rfl) rfl ?_; refine L.step (Ev.load rfl rfl rfl (Src.o 1 rfl) rfl) rfl ?_; refine L.step (Ev.add rfl rfl (by omega) (by omega)) rfl ?_; refine L.step (Ev.fieldAddr rfl rfl rfl rfl rfl rfl (Src.o 1 rfl) (Nat.zero_lt_succ _) rfl) rfl ?_; refine L.store (j := 1) rfl rfl rfl rfl rfl rfl rfl rfl ?_; refine L.nil (QE.seq (C.seq (C.region ?_))); refine Lpu rfl rfl ?_; refine L.call (js := []) (js' := [0, 1, 2]) (blankR_c (subA (a.hs.getD (pickL f y.a y.b).sec.toNat (none, 0)).1 (a.hs.getD (pickL f y.a y.b).sec.toNat (none, 0)).2 (8 + 30 * k) 1) ((a.hs.getD (pickL f y.a y.b).sec.toNat (none, 0)).2 - (8 + 30 * k)) (slotAt (f.data.getD (pickL f y.a y.b).sec.toNat []) k) (by omega)) rfl rfl rfl (by decide) (Hq [0] rfl) rfl ?_
         rintro _ _ _ ⟨rfl, rfl, rfl⟩
         refine Lpu rfl rfl ?_; refine L.nil (QE.seq ?_)
         refine C.condB 93 rfl (fun hc93 => ?_) (fun hc93 => ?_)
         ·
          refine C.region ?_; refine Lpu rfl rfl ?_; refine L.step (Ev.add rfl rfl (by omega) (by omega)) rfl ?_; refine L.step (Ev.fieldAddr rfl rfl rfl rfl rfl rfl (Src.o 1 rfl) (Nat.zero_lt_succ _) rfl) rfl ?_; refine L.store (j := 1) rfl rfl rfl rfl rfl rfl rfl rfl ?_; refine L.nil ?_; refine QE.blkN ?_; refine QE.seq (C.region ?_); refine Lpu rfl rfl ?_; refine L.step (Ev.add rfl rfl (by omega) (by omega)) rfl ?_; refine Lpu rfl rfl ?_; refine L.nil ?_
          refine QE.round (k + 1) (by exact ⟨by omega, .inr (by rw [← hkp.2.2]; omega)⟩) (by omega) (by exact Le.mk' (rs := [1, 2, 3, 4, 5, 6]) (hs := [0, 1]) ⟨rfl, rfl, rfl, rfl, rfl, trivial⟩ ⟨rfl, rfl, rfl, rfl, rfl, rfl, trivial⟩ ⟨rfl, (by rw [scanL_succ, stepL_t hnb hsn]; rfl), trivial⟩ (by decide))
         ·
          rw [hnb] at hc93; cases hc93
        ·
         have hbl : blankB (slotAt (f.data.getD (pickL f y.a y.b).sec.toNat []) k) = true := by simpa using hc86
         refine C.skip (QE.seq (C.seq (C.region ?_))); refine Lpu rfl rfl ?_; refine L.call (js := []) (js' := [0, 1, 2]) (blankR_c (subA (a.hs.getD (pickL f y.a y.b).sec.toNat (none, 0)).1 (a.hs.getD (pickL f y.a y.b).sec.toNat (none, 0)).2 (8 + 30 * k) 1) ((a.hs.getD (pickL f y.a y.b).sec.toNat (none, 0)).2 - (8 + 30 * k)) (slotAt (f.data.getD (pickL f y.a y.b).sec.toNat []) k) (by omega)) rfl rfl rfl (by decide) (Hq [0] rfl) rfl ?_
         rintro _ _ _ ⟨rfl, rfl, rfl⟩
         refine Lpu rfl rfl ?_; refine L.nil (QE.seq ?_)
         refine C.condB 93 rfl (fun hc93 => ?_) (fun hc93 => ?_)
         ·
          rw [hbl] at hc93; cases hc93
         ·
          refine C.skip ?_; refine QE.blkN ?_; refine QE.seq (C.region ?_); refine Lpu rfl rfl ?_; refine L.step (Ev.add rfl rfl (by omega) (by omega)) rfl ?_; refine Lpu rfl rfl ?_; refine L.nil ?_
          refine QE.round (k + 1) (by exact ⟨by omega, .inr (by rw [← hkp.2.2]; omega)⟩) (by omega) (by exact Le.mk' (rs := [1, 2, 3, 4, 5, 6]) (hs := [0, 1]) ⟨rfl, rfl, rfl, rfl, rfl, trivial⟩ ⟨rfl, rfl, rfl, rfl, rfl, rfl, trivial⟩ ⟨rfl, (by rw [scanL_succ, stepL_b hbl]; rfl), trivial⟩ (by decide))
       ·
        exact absurd hg82 (by rw [hc76]; exact fun h => by cases h)
     ·
      replace hc55 := of_decide_eq_false hc55
      refine C.exit ?_; refine QE.tX ?_; refine QE.tX ?_; refine QE.blk ?_; refine QE.seq (C.seq (C.region ?_)); refine L.step (Ev.loadA rfl rfl rfl (Src.o 1 rfl) rfl rfl (by decide)) rfl ?_; refine L.storeA (j := 0) rfl rfl rfl rfl rfl (Nat.zero_lt_succ _) rfl rfl ?_; refine L.nil (QE.seq (C.ret ?_)); refine QE.ret (js := []) (hs := []) (vs := [_]) rfl ⟨⟨_, _, 0, _, rfl, rfl, Src.o 0 rfl, .inl ⟨rfl, by decide, _, rfl, rfl, rfl⟩⟩, trivial⟩ (by decide) ?_
      obtain rfl : k = 0 := by rcases hkg with h | h; exact h; rw [hkp.2.2] at hc55; omega
      have hgn : (pickL f y.a y.b).gen < 0 := by rw [hkp.2.2] at hc55; omega
      refine ⟨?_, rfl, rfl⟩
      rw [show findF f y.a y.b = (pickL f y.a y.b) from by unfold findF; rw [if_pos hft0, if_pos hgn]]
      rfl
    ·
     replace hg51 := of_decide_eq_false hg51
     have hkp := scanL_keep (f.data.getD (pickL f y.a y.b).sec.toNat []) (pickL f y.a y.b) k
     refine L.no rfl rfl rfl ?_; refine L.no rfl rfl rfl ?_; refine L.no rfl rfl rfl ?_; refine Lpu rfl rfl ?_; refine L.nil (QE.seq ?_)
     refine C.cond rfl (fun h => by cases h) (fun _ => ?_)
     refine C.exit ?_; refine QE.tX ?_; refine QE.tX ?_; refine QE.blk ?_; refine QE.seq (C.seq (C.region ?_)); refine L.step (Ev.loadA rfl rfl rfl (Src.o 1 rfl) rfl rfl (by decide)) rfl ?_; refine L.storeA (j := 0) rfl rfl rfl rfl rfl (Nat.zero_lt_succ _) rfl rfl ?_; refine L.nil (QE.seq (C.ret ?_)); refine QE.ret (js := []) (hs := []) (vs := [_]) rfl ⟨⟨_, _, 0, _, rfl, rfl, Src.o 0 rfl, .inl ⟨rfl, by decide, _, rfl, rfl, rfl⟩⟩, trivial⟩ (by decide) ?_
     obtain rfl : k = plcs f := by omega
     have hp1 : 0 < plcs f := plcs_pos hft.2.2.2.2.2
     have hgn : ¬(pickL f y.a y.b).gen < 0 := by omega
     refine ⟨?_, rfl, rfl⟩
     rw [show findF f y.a y.b = (scanL (f.data.getD (pickL f y.a y.b).sec.toNat []) (pickL f y.a y.b) (plcs f)) from by unfold findF secR; rw [if_pos hft0, if_neg hgn]]
     rfl

theorem readP_c (f : Fl) (a : Fa) (ok : f.Ok) (hh : a.hs.length = f.data.length) (y : Ly) (hcap : Caps f a) :
   Ctr X 43 [.agg (List.toArray [.int .i64 (f.size : Int), .slice a.D f.data.length a.cD, .slice a.W f.wear.length a.cW, .int .i64 f.limit, .slice a.E f.dead.length a.cE]), .agg (List.toArray [.int .i64 y.n, .int .i64 y.a, .int .i64 y.b, .int .i64 y.s0, .int .i64 y.s1, .slice y.T y.tn y.tc, .slice y.U y.un y.uc, .slice y.V y.vn y.vc])] [Rd a.D (rowsV a.hs (B8 f.data)), KidsR a.hs (B8 f.data), Rd a.W (I64 f.wear), Rd a.E (Bs f.dead)] [] (fun v R' H' => v = .tuple #[.agg (List.toArray (st9 (readF f y.a y.b).1)), .int .i64 ((readF f y.a y.b).2.1 : Int), .int .i64 (readF f y.a y.b).2.2] ∧ R' = [] ∧ H' = []) := by
 have hok := ok
 obtain ⟨os1, os2, on1, on2, owl, odl, orows, ol1, ol2, owear⟩ := ok
 refine Ctr.of (X := X) (fn := Try.f43) Try.func43 rfl (by kernel_rfl) rfl ?_
 intro β
 refine C.seq (C.region ?_)
 refine L.boxA rfl rfl (fun A2 => ?_)
 refine L.boxA rfl rfl (fun A3 => ?_)
 refine L.alloc rfl rfl rfl (fun A4 => ?_)
 refine Lpu rfl rfl ?_; refine Lpu rfl rfl ?_; refine L.nil (QE.seq (C.seq ?_)); refine C.freeze 0 rfl [1, 2] (by decide) (by decide) ?_; refine C.freeze 0 rfl [1] (by decide) (by decide) ?_; refine C.region ?_; refine L.step (Ev.loadA rfl rfl rfl (Src.r 1 rfl) rfl rfl (by decide)) rfl ?_; refine L.step (Ev.loadA rfl rfl rfl (Src.r 0 rfl) rfl rfl (by decide)) rfl ?_; refine L.call (js := []) (js' := [0]) (findP_c f a hok hh y hcap) rfl rfl rfl (by decide) (Hq [2, 3, 4, 5] rfl) rfl ?_
 rintro _ _ _ ⟨rfl, rfl, rfl⟩
 refine Lpu rfl rfl ?_; refine Lpu rfl rfl ?_; refine Lpu rfl rfl ?_
 refine L.alloc rfl rfl rfl (fun A7 => ?_)
 refine L.storeA (j := 1) rfl rfl rfl rfl rfl (Nat.zero_lt_succ _) rfl rfl ?_; refine Lpu rfl rfl ?_; refine L.nil (QE.seq (C.seq (C.seq (C.region ?_)))); refine Lpu rfl rfl ?_; refine Lpu rfl rfl ?_; refine L.nil (QE.seq ?_)
 refine C.condB 16 rfl (fun hc16 => ?_) (fun hc16 => ?_)
 ·
  have hno : (findF f y.a y.b).found = false := by rw [← findP_found]; simpa using hc16
  refine C.seq (C.region ?_); refine L.step (Ev.build rfl rfl rfl rfl rfl rfl rfl) rfl ?_; refine L.storeA (j := 0) rfl rfl rfl rfl rfl (Nat.zero_lt_succ _) rfl rfl ?_; refine Lpu rfl rfl ?_; refine Lpu rfl rfl ?_; refine L.nil (QE.seq (C.ret (QE.tR ?_))); refine QE.ret (js := []) (hs := []) (vs := [_, _, _]) rfl ⟨⟨_, _, 0, _, rfl, rfl, Src.o 0 rfl, .inl ⟨rfl, by decide, _, rfl, rfl, rfl⟩⟩, rfl, rfl, trivial⟩ (by decide) ?_
  refine ⟨?_, rfl, rfl⟩
  rw [readF_no hno]
  rfl
 ·
  have hyes : (findF f y.a y.b).found = true := by rw [← findP_found]; simpa using hc16
  refine C.skip (QE.seq (C.seq ?_)); refine C.regionM [Rd A3 [.int .i64 y.n, .int .i64 y.a, .int .i64 y.b, .int .i64 y.s0, .int .i64 y.s1, .slice y.T y.tn y.tc, .slice y.U y.un y.uc, .slice y.V y.vn y.vc], Rd A2 [.int .i64 (f.size : Int), .slice a.D f.data.length a.cD, .slice a.W f.wear.length a.cW, .int .i64 f.limit, .slice a.E f.dead.length a.cE], Rd a.D (rowsV a.hs (B8 f.data)), KidsR a.hs (B8 f.data), Rd a.W (I64 f.wear), Rd a.E (Bs f.dead), Rd A7 [.int .i64 (findP f y.a y.b).sec, .int .i64 (findP f y.a y.b).oth, .int .i64 (findP f y.a y.b).gen, .int .i64 ((findP f y.a y.b).s.getD 0 0), .int .i64 ((findP f y.a y.b).s.getD 1 0), .int .i64 ((findP f y.a y.b).s.getD 2 0), .int .i64 ((findP f y.a y.b).s.getD 3 0), .int .i64 ((findP f y.a y.b).s.getD 4 0), .int .i64 ((findP f y.a y.b).s.getD 5 0), .int .i64 ((findP f y.a y.b).s.getD 6 0), .int .i64 ((findP f y.a y.b).s.getD 7 0), .int .i64 ((findP f y.a y.b).s.getD 8 0), .bool (findP f y.a y.b).found, .int .i64 ((findP f y.a y.b).free : Int), .int .i64 (lgP f y.a y.b : Int), .int .i64 ((findP f y.a y.b).torn : Int)]] ⟨Has.r 0 rfl, Has.r 1 rfl, Has.r 2 rfl, Has.r 3 rfl, Has.r 4 rfl, Has.r 5 rfl, Has.o 1 rfl, trivial⟩ ?_; refine LM.q 0 rfl (by kernel_rfl) (Ev.fieldAddr rfl rfl rfl rfl rfl rfl (Src.r 6 rfl) (Nat.zero_lt_succ _) rfl) rfl ⟨Has.r 0 rfl, Has.r 1 rfl, Has.r 2 rfl, Has.r 3 rfl, Has.r 4 rfl, Has.r 5 rfl, Has.o 1 rfl, trivial⟩ ?_; refine LM.q 1 rfl (by kernel_rfl) (Ev.loadA rfl rfl rfl (Src.r 6 rfl) rfl rfl (by decide)) rfl ⟨Has.r 0 rfl, Has.r 1 rfl, Has.r 2 rfl, Has.r 3 rfl, Has.r 4 rfl, Has.r 5 rfl, Has.o 1 rfl, trivial⟩ ?_; refine LM.q 2 rfl (by kernel_rfl) (Ev.fieldAddr rfl rfl rfl rfl rfl rfl (Src.r 6 rfl) (Nat.zero_lt_succ _) rfl) rfl ⟨Has.r 0 rfl, Has.r 1 rfl, Has.r 2 rfl, Has.r 3 rfl, Has.r 4 rfl, Has.r 5 rfl, Has.o 1 rfl, trivial⟩ ?_; refine LM.q 3 rfl (by kernel_rfl) (Ev.load rfl rfl rfl (Src.r 6 rfl) rfl) rfl ⟨Has.r 0 rfl, Has.r 1 rfl, Has.r 2 rfl, Has.r 3 rfl, Has.r 4 rfl, Has.r 5 rfl, Has.o 1 rfl, trivial⟩ ?_; refine LM.f 4 rfl (by kernel_rfl) ⟨Has.r 0 rfl, Has.r 1 rfl, Has.r 2 rfl, Has.r 3 rfl, Has.r 4 rfl, Has.r 5 rfl, Has.o 1 rfl, trivial⟩ ?_; refine L.storeA (j := 0) rfl rfl rfl rfl rfl (Nat.zero_lt_succ _) rfl rfl ?_
  refine L.nil (QE.m (by kernel_rfl) ?_)
  refine LM.cut [] (by kernel_rfl) ⟨Has.r 0 rfl, Has.r 1 rfl, Has.r 2 rfl, Has.r 3 rfl, Has.r 4 rfl, Has.r 5 rfl, Has.o 1 rfl, trivial⟩ ?_; refine LM.f 5 rfl (by kernel_rfl) trivial ?_; refine Lpu rfl rfl ?_
  refine L.nil (QE.m (by kernel_rfl) ?_)
  refine LM.f 6 rfl (by kernel_rfl) trivial ?_; refine Lpu rfl rfl ?_
  refine L.nil (QE.m (by kernel_rfl) ?_)
  refine LM.nil (by kernel_rfl) trivial ?_; refine QE.seq (C.ret ?_); refine QE.ret (js := []) (hs := []) (vs := [_, _, _]) rfl ⟨⟨_, _, 0, _, rfl, rfl, Src.o 0 rfl, .inl ⟨rfl, by decide, _, rfl, rfl, rfl⟩⟩, rfl, rfl, trivial⟩ (by decide) ?_
  refine ⟨?_, rfl, rfl⟩
  rw [readF_yes hyes, ← findP_eq hyes]
  rfl

end Go.Proofs.Ytmbjknampholjaa
