/-
  The contract of Next of the reference.
-/
import Derived.Test.YtmbjknampholjaaFWJoJ
namespace Go.Proofs.Ytmbjknampholjaa
open Go.Sl

set_option maxHeartbeats 1000000 in
theorem nextR_c (f : Fl) (a : Fa) (ok : f.Ok) (hh : a.hs.length = f.data.length) (y : Ly) (hcap : Caps f a) (s : List Int) (hs : s.length = 9) :
   Ctr X 21 [.agg (List.toArray [.int .i64 (f.size : Int), .slice a.D f.data.length a.cD, .slice a.W f.wear.length a.cW, .int .i64 f.limit, .slice a.E f.dead.length a.cE]), .agg (List.toArray [.int .i64 y.n, .int .i64 y.a, .int .i64 y.b, .int .i64 y.s0, .int .i64 y.s1, .slice y.T y.tn y.tc, .slice y.U y.un y.uc, .slice y.V y.vn y.vc]), .agg (List.toArray (st9 s))] [Rd a.D (rowsV a.hs (B8 f.data)), KidsR a.hs (B8 f.data), Rd a.W (I64 f.wear), Rd a.E (Bs f.dead)] [] (fun v R' H' => ∃ O oc, v = .agg (List.toArray [.int .i64 (nextF f y.a y.b s).x.kind, .int .i64 (nextF f y.a y.b s).x.sec, .int .i64 (nextF f y.a y.b s).x.at_, .slice O (nextF f y.a y.b s).x.data.length oc, .bool (nextF f y.a y.b s).done, .int .i64 (nextF f y.a y.b s).e]) ∧ R' = [Rd O (U8 (nextF f y.a y.b s).x.data)] ∧ H' = []) := by
 have hok := ok
 obtain ⟨os1, os2, on1, on2, owl, odl, orows, ol1, ol2, owear⟩ := ok
 refine Ctr.of (X := X) (fn := Try.f21) Try.func21 rfl (by kernel_rfl) rfl ?_
 intro β
 refine C.seq (C.region ?_)
 refine L.boxA rfl rfl (fun A3 => ?_)
 refine L.boxA rfl rfl (fun A4 => ?_)
 refine L.boxA rfl rfl (fun A5 => ?_)
 refine L.alloc rfl rfl rfl (fun A6 => ?_)
 refine L.nil (QE.seq (C.seq ?_)); refine C.freeze 0 rfl [1, 2, 3] (by decide) (by decide) ?_; refine C.norm (H' := [_, _, _]) [0, 1, 2] ⟨rfl, rfl, rfl, trivial⟩ (by decide) ?_; refine C.freeze 0 rfl [1, 2] (by decide) (by decide) ?_; refine C.norm (H' := [_, _]) [0, 1] ⟨rfl, rfl, trivial⟩ (by decide) ?_; refine C.freeze 0 rfl [1] (by decide) (by decide) ?_; refine C.norm (H' := [_]) [0] ⟨rfl, trivial⟩ (by decide) ?_; refine C.region ?_; refine L.step (Ev.loadA rfl rfl rfl (Src.r 2 rfl) rfl rfl (by decide)) rfl ?_; refine L.step (Ev.loadA rfl rfl rfl (Src.r 1 rfl) rfl rfl (by decide)) rfl ?_; refine L.call (js := []) (js' := [0]) (findR_c f a hok hh y hcap) rfl rfl rfl (by decide) (Hq [3, 4, 5, 6] rfl) rfl ?_
 rintro _ _ _ ⟨rfl, rfl, rfl⟩
 refine L.norm (H' := [_]) [0] ⟨rfl, trivial⟩ (by decide) ?_
 refine L.alloc rfl rfl rfl (fun A7 => ?_)
 refine L.storeA (j := 1) rfl rfl rfl rfl rfl (Nat.zero_lt_succ _) rfl rfl ?_; refine L.nil (QE.seq (C.seq (C.seq ?_))); refine C.freeze 1 rfl [0] (by decide) (by decide) ?_; refine C.norm (H' := [_]) [0] ⟨rfl, trivial⟩ (by decide) ?_; refine C.region ?_; refine L.step (Ev.fieldAddr rfl rfl rfl rfl rfl rfl (Src.r 0 rfl) (Nat.zero_lt_succ _) rfl) rfl ?_; refine L.step (Ev.load rfl rfl rfl (Src.r 0 rfl) rfl) rfl ?_; refine Lpu rfl rfl ?_; refine Lpu rfl rfl ?_
 refine L.bool 18 rfl (fun hg18 => ?_) (fun hg18 => ?_)
 ·
  have hno : (findF f y.a y.b).found = false := by simpa using hg18
  refine L.no rfl rfl rfl ?_; refine L.no rfl rfl rfl ?_; refine L.no rfl rfl rfl ?_; refine Lpu rfl rfl ?_; refine L.nil (QE.seq ?_)
  refine C.cond rfl (fun _ => ?_) (fun h => by cases h)
  refine C.seq (C.region ?_); refine L.step (Ev.build rfl rfl rfl rfl rfl rfl rfl) rfl ?_; refine L.storeA (j := 0) rfl rfl rfl rfl rfl (Nat.zero_lt_succ _) rfl rfl ?_; refine L.nil (QE.seq (C.ret (QE.tR ?_))); refine QE.more (r := Rd none []) (Has.nil) ?_; refine QE.ret (js := [0]) (hs := []) (vs := [_]) rfl ⟨⟨_, _, 0, _, rfl, rfl, Src.o 0 rfl, .inl ⟨rfl, by decide, _, rfl, rfl, rfl⟩⟩, trivial⟩ (by decide) ?_
  refine ⟨none, 0, ?_, ?_, rfl⟩
  · rw [nextF_1 (.inl hno)]; rfl
  · rw [nextF_1 (.inl hno)]; rfl
 ·
  have hyes : (findF f y.a y.b).found = true := by simpa using hg18
  have hfd := findF_fnd hyes
  have hg := hfd.gen
  have hft := fitsF_ok hfd.fits
  have hso := hfd.oth
  have hfr := hfd.free
  have hpl := plcs_le hok
  have hrow := orows (findF f y.a y.b).oth.toNat (by omega)
  have hcp := hcap (findF f y.a y.b).oth.toNat (by omega)
  have hfit : 8 + (slotF s).length ≤ f.size := slot_fit hft.2.2.2.2.2
  have hwl : (contF f.size ((findF f y.a y.b).gen + 1) (slotF s)).length = f.size := contF_len hfit
  have hw0 : (contF f.size 0 (slotF s)).length = f.size := contF_len hfit
  refine L.yes rfl ?_; refine L.step (Ev.loadA rfl rfl rfl (Src.r 1 rfl) rfl rfl (by decide)) rfl ?_; refine L.yes rfl ?_; refine L.call (js := []) (js' := [0]) (rightR_c s) rfl rfl rfl (by decide) trivial rfl ?_
  rintro _ _ _ ⟨rfl, rfl, rfl⟩
  refine L.norm (H' := [_]) [0] ⟨rfl, trivial⟩ (by decide) ?_; refine L.yes rfl ?_; refine Lpu rfl rfl ?_; refine Lpu rfl rfl ?_; refine L.nil (QE.seq ?_)
  refine C.condB 22 rfl (fun hc22 => ?_) (fun hc22 => ?_)
  ·
   have hno : rightS s = false := by simpa using hc22
   refine C.seq (C.region ?_); refine L.step (Ev.build rfl rfl rfl rfl rfl rfl rfl) rfl ?_; refine L.storeA (j := 0) rfl rfl rfl rfl rfl (Nat.zero_lt_succ _) rfl rfl ?_; refine L.nil (QE.seq (C.ret (QE.tR ?_))); refine QE.more (r := Rd none []) (Has.nil) ?_; refine QE.ret (js := [0]) (hs := []) (vs := [_]) rfl ⟨⟨_, _, 0, _, rfl, rfl, Src.o 0 rfl, .inl ⟨rfl, by decide, _, rfl, rfl, rfl⟩⟩, trivial⟩ (by decide) ?_
   refine ⟨none, 0, ?_, ?_, rfl⟩
   · rw [nextF_1 (.inr hno)]; rfl
   · rw [nextF_1 (.inr hno)]; rfl
  ·
   have hright : rightS s = true := by simpa using hc22
   refine C.skip (QE.seq (C.seq (C.seq (C.region ?_)))); refine L.step (Ev.fieldAddr rfl rfl rfl rfl rfl rfl (Src.r 0 rfl) (Nat.zero_lt_succ _) rfl) rfl ?_; refine L.step (Ev.loadA rfl rfl rfl (Src.r 0 rfl) rfl rfl (by decide)) rfl ?_; refine L.step (Ev.loadA rfl rfl rfl (Src.r 1 rfl) rfl rfl (by decide)) rfl ?_; refine L.step (Ev.eqS9 (xs := (findF f y.a y.b).s) rfl rfl (by kernel_rfl) (by kernel_rfl) rfl rfl rfl rfl (findF_len ..) hs) rfl ?_; refine L.nil (QE.seq ?_)
   refine C.condB 27 rfl (fun hc27 => ?_) (fun hc27 => ?_)
   ·
    replace hc27 := eq_of_beq hc27
    refine C.seq (C.region ?_); refine L.step (Ev.build rfl rfl rfl rfl rfl rfl rfl) rfl ?_; refine L.storeA (j := 0) rfl rfl rfl rfl rfl (Nat.zero_lt_succ _) rfl rfl ?_; refine L.nil (QE.seq (C.ret (QE.tR ?_))); refine QE.more (r := Rd none []) (Has.nil) ?_; refine QE.ret (js := [0]) (hs := []) (vs := [_]) rfl ⟨⟨_, _, 0, _, rfl, rfl, Src.o 0 rfl, .inl ⟨rfl, by decide, _, rfl, rfl, rfl⟩⟩, trivial⟩ (by decide) ?_
    refine ⟨none, 0, ?_, ?_, rfl⟩
    · rw [nextF_2 rfl hyes hright hc27]; rfl
    · rw [nextF_2 rfl hyes hright hc27]; rfl
   ·
    have hne := ne_of_beq_false hc27
    refine C.skip (QE.seq (C.seq (C.seq ?_))); refine C.regionM [Rd A7 [.int .i64 (findF f y.a y.b).sec, .int .i64 (findF f y.a y.b).oth, .int .i64 (findF f y.a y.b).gen, .int .i64 ((findF f y.a y.b).s.getD 0 0), .int .i64 ((findF f y.a y.b).s.getD 1 0), .int .i64 ((findF f y.a y.b).s.getD 2 0), .int .i64 ((findF f y.a y.b).s.getD 3 0), .int .i64 ((findF f y.a y.b).s.getD 4 0), .int .i64 ((findF f y.a y.b).s.getD 5 0), .int .i64 ((findF f y.a y.b).s.getD 6 0), .int .i64 ((findF f y.a y.b).s.getD 7 0), .int .i64 ((findF f y.a y.b).s.getD 8 0), .int .i64 ((findF f y.a y.b).free : Int), .int .i64 ((findF f y.a y.b).torn : Int), .bool (findF f y.a y.b).found], Rd A5 (st9 s), Rd A4 [.int .i64 y.n, .int .i64 y.a, .int .i64 y.b, .int .i64 y.s0, .int .i64 y.s1, .slice y.T y.tn y.tc, .slice y.U y.un y.uc, .slice y.V y.vn y.vc], Rd A3 [.int .i64 (f.size : Int), .slice a.D f.data.length a.cD, .slice a.W f.wear.length a.cW, .int .i64 f.limit, .slice a.E f.dead.length a.cE], Rd a.D (rowsV a.hs (B8 f.data)), KidsR a.hs (B8 f.data), Rd a.W (I64 f.wear), Rd a.E (Bs f.dead)] (Hq [0, 1, 2, 3, 4, 5, 6, 7] rfl) ?_; refine LM.q 0 rfl (by kernel_rfl) (Ev.fieldAddr rfl rfl rfl rfl rfl rfl (Src.r 0 rfl) (Nat.zero_lt_succ _) rfl) rfl (Hq [0, 1, 2, 3, 4, 5, 6, 7] rfl) ?_; refine LM.q 1 rfl (by kernel_rfl) (Ev.load rfl rfl rfl (Src.r 0 rfl) rfl) rfl (Hq [0, 1, 2, 3, 4, 5, 6, 7] rfl) ?_; refine LM.f 2 rfl (by kernel_rfl) (Hq [0, 1, 2, 3, 4, 5, 6, 7] rfl) ?_; refine L.step (Ev.loadA rfl rfl rfl (Src.r 3 rfl) rfl rfl (by decide)) rfl ?_
    refine L.nil (QE.m (by kernel_rfl) ?_)
    refine LM.f 3 rfl (by kernel_rfl) (Hq [0, 1, 2, 3, 4, 5, 6, 7] rfl) ?_; refine L.call (js := []) (js' := [0]) (placesR_c f a hok hh hft.2.2.2.2.2) rfl rfl rfl (by decide) (Hq [4, 5, 6, 7] rfl) rfl ?_
    rintro _ _ _ ⟨rfl, rfl, rfl⟩
    refine L.norm (H' := [_]) [0] ⟨rfl, trivial⟩ (by decide) ?_
    refine L.nil (QE.m (by kernel_rfl) ?_)
    refine LM.cut [] (by kernel_rfl) (Hq [0, 1, 2, 3, 4, 5, 6, 7] rfl) ?_; refine LM.f 4 rfl (by kernel_rfl) trivial ?_; refine Lpu rfl rfl ?_
    refine L.nil (QE.m (by kernel_rfl) ?_)
    refine LM.nil (by kernel_rfl) trivial ?_; refine QE.seq ?_
    refine C.condB 33 rfl (fun hc33 => ?_) (fun hc33 => ?_)
    ·
     replace hc33 := of_decide_eq_true hc33
     have hlt : (findF f y.a y.b).free < plcs f := by omega
     refine C.seq ?_; refine C.regionM [Rd A7 [.int .i64 (findF f y.a y.b).sec, .int .i64 (findF f y.a y.b).oth, .int .i64 (findF f y.a y.b).gen, .int .i64 ((findF f y.a y.b).s.getD 0 0), .int .i64 ((findF f y.a y.b).s.getD 1 0), .int .i64 ((findF f y.a y.b).s.getD 2 0), .int .i64 ((findF f y.a y.b).s.getD 3 0), .int .i64 ((findF f y.a y.b).s.getD 4 0), .int .i64 ((findF f y.a y.b).s.getD 5 0), .int .i64 ((findF f y.a y.b).s.getD 6 0), .int .i64 ((findF f y.a y.b).s.getD 7 0), .int .i64 ((findF f y.a y.b).s.getD 8 0), .int .i64 ((findF f y.a y.b).free : Int), .int .i64 ((findF f y.a y.b).torn : Int), .bool (findF f y.a y.b).found], Rd A5 (st9 s), Rd A4 [.int .i64 y.n, .int .i64 y.a, .int .i64 y.b, .int .i64 y.s0, .int .i64 y.s1, .slice y.T y.tn y.tc, .slice y.U y.un y.uc, .slice y.V y.vn y.vc], Rd A3 [.int .i64 (f.size : Int), .slice a.D f.data.length a.cD, .slice a.W f.wear.length a.cW, .int .i64 f.limit, .slice a.E f.dead.length a.cE], Rd a.D (rowsV a.hs (B8 f.data)), KidsR a.hs (B8 f.data), Rd a.W (I64 f.wear), Rd a.E (Bs f.dead)] (Hq [0, 1, 2, 3, 4, 5, 6, 7] rfl) ?_; refine LM.q 0 rfl (by kernel_rfl) (Ev.loadA rfl rfl rfl (Src.r 3 rfl) rfl rfl (by decide)) rfl (Hq [0, 1, 2, 3, 4, 5, 6, 7] rfl) ?_; refine LM.q 1 rfl (by kernel_rfl) (Ev.fieldAddr rfl rfl rfl rfl rfl rfl (Src.r 0 rfl) (Nat.zero_lt_succ _) rfl) rfl (Hq [0, 1, 2, 3, 4, 5, 6, 7] rfl) ?_; refine LM.q 2 rfl (by kernel_rfl) (Ev.load rfl rfl rfl (Src.r 0 rfl) rfl) rfl (Hq [0, 1, 2, 3, 4, 5, 6, 7] rfl) ?_; refine LM.q 3 rfl (by kernel_rfl) (Ev.fieldAddr rfl rfl rfl rfl rfl rfl (Src.r 0 rfl) (Nat.zero_lt_succ _) rfl) rfl (Hq [0, 1, 2, 3, 4, 5, 6, 7] rfl) ?_; refine LM.q 4 rfl (by kernel_rfl) (Ev.load rfl rfl rfl (Src.r 0 rfl) rfl) rfl (Hq [0, 1, 2, 3, 4, 5, 6, 7] rfl) ?_; refine LM.q 5 rfl (by kernel_rfl) (Ev.mul rfl rfl (by omega) (by omega)) rfl (Hq [0, 1, 2, 3, 4, 5, 6, 7] rfl) ?_; refine LM.q 6 rfl (by kernel_rfl) (Ev.add rfl rfl (by omega) (by omega)) rfl (Hq [0, 1, 2, 3, 4, 5, 6, 7] rfl) ?_; refine LM.f 7 rfl (by kernel_rfl) (Hq [0, 1, 2, 3, 4, 5, 6, 7] rfl) ?_; refine L.step (Ev.loadA rfl rfl rfl (Src.r 1 rfl) rfl rfl (by decide)) rfl ?_
     refine L.nil (QE.m (by kernel_rfl) ?_)
     refine LM.f 8 rfl (by kernel_rfl) (Hq [0, 1, 2, 3, 4, 5, 6, 7] rfl) ?_; refine L.call (js := []) (js' := [0]) (slotR_c s) rfl rfl rfl (by decide) trivial rfl ?_
     rintro _ _ _ ⟨SO, sc, rfl, rfl, rfl⟩
     refine L.norm (H' := [_, _]) [0, 1] ⟨rfl, rfl, trivial⟩ (by decide) ?_
     refine L.nil (QE.m (by kernel_rfl) ?_)
     refine LM.f 9 rfl (by kernel_rfl) (Hq [0, 1, 2, 3, 4, 5, 6, 7] rfl) ?_; refine L.step (Ev.build rfl rfl rfl rfl rfl rfl rfl) rfl ?_
     refine L.nil (QE.m (by kernel_rfl) ?_)
     refine LM.cut [] (by kernel_rfl) (Hq [0, 1, 2, 3, 4, 5, 6, 7] rfl) ?_; refine LM.f 10 rfl (by kernel_rfl) trivial ?_; refine L.freeze 0 rfl [1] (by decide) (by decide) ?_; refine L.norm (H' := [_]) [0] ⟨rfl, trivial⟩ (by decide) ?_; refine L.callR (js := []) (js' := [0]) (progR_c f a hok hh (findF f y.a y.b).sec (8 + 30 * ((findF f y.a y.b).free : Int)) (slotF s) SO sc hfd.sec) rfl rfl rfl (by decide) (Hq [5, 6, 7, 8, 0] rfl) rfl ?_
     rintro _ _ _ ⟨PO, pc, rfl, rfl, rfl⟩
     refine L.norm (H' := [_]) [0] ⟨rfl, trivial⟩ (by decide) ?_
     refine L.nil (QE.m (by kernel_rfl) ?_)
     refine LM.f 11 rfl (by kernel_rfl) trivial ?_; refine L.storeA (j := 0) rfl rfl rfl rfl rfl (Nat.zero_lt_succ _) rfl rfl ?_
     refine L.nil (QE.m (by kernel_rfl) ?_)
     refine LM.nil (by kernel_rfl) trivial ?_; refine QE.seq (C.ret (QE.tR ?_)); refine QE.ret (js := [0]) (hs := []) (vs := [_]) rfl ⟨⟨_, _, 0, _, rfl, rfl, Src.o 0 rfl, .inl ⟨rfl, by decide, _, rfl, rfl, rfl⟩⟩, trivial⟩ (by decide) ?_
     refine ⟨PO, pc, ?_, ?_, rfl⟩
     · rw [nextF_3 rfl hyes hright hne hlt]; rfl
     · rw [nextF_3 rfl hyes hright hne hlt]; rfl
    ·
     replace hc33 := of_decide_eq_false hc33
     have hlt : ¬(findF f y.a y.b).free < plcs f := by omega
     refine C.skip (QE.seq (C.seq ?_)); refine C.regionM [Rd A7 [.int .i64 (findF f y.a y.b).sec, .int .i64 (findF f y.a y.b).oth, .int .i64 (findF f y.a y.b).gen, .int .i64 ((findF f y.a y.b).s.getD 0 0), .int .i64 ((findF f y.a y.b).s.getD 1 0), .int .i64 ((findF f y.a y.b).s.getD 2 0), .int .i64 ((findF f y.a y.b).s.getD 3 0), .int .i64 ((findF f y.a y.b).s.getD 4 0), .int .i64 ((findF f y.a y.b).s.getD 5 0), .int .i64 ((findF f y.a y.b).s.getD 6 0), .int .i64 ((findF f y.a y.b).s.getD 7 0), .int .i64 ((findF f y.a y.b).s.getD 8 0), .int .i64 ((findF f y.a y.b).free : Int), .int .i64 ((findF f y.a y.b).torn : Int), .bool (findF f y.a y.b).found], Rd A5 (st9 s), Rd A4 [.int .i64 y.n, .int .i64 y.a, .int .i64 y.b, .int .i64 y.s0, .int .i64 y.s1, .slice y.T y.tn y.tc, .slice y.U y.un y.uc, .slice y.V y.vn y.vc], Rd A3 [.int .i64 (f.size : Int), .slice a.D f.data.length a.cD, .slice a.W f.wear.length a.cW, .int .i64 f.limit, .slice a.E f.dead.length a.cE], Rd a.D (rowsV a.hs (B8 f.data)), KidsR a.hs (B8 f.data), Rd a.W (I64 f.wear), Rd a.E (Bs f.dead)] (Hq [0, 1, 2, 3, 4, 5, 6, 7] rfl) ?_; refine LM.q 0 rfl (by kernel_rfl) (Ev.fieldAddr rfl rfl rfl rfl rfl rfl (Src.r 3 rfl) (Nat.zero_lt_succ _) rfl) rfl (Hq [0, 1, 2, 3, 4, 5, 6, 7] rfl) ?_; refine LM.q 1 rfl (by kernel_rfl) (Ev.load rfl rfl rfl (Src.r 3 rfl) rfl) rfl (Hq [0, 1, 2, 3, 4, 5, 6, 7] rfl) ?_; refine LM.q 2 rfl (by kernel_rfl) (Ev.fieldAddr rfl rfl rfl rfl rfl rfl (Src.r 0 rfl) (Nat.zero_lt_succ _) rfl) rfl (Hq [0, 1, 2, 3, 4, 5, 6, 7] rfl) ?_; refine LM.q 3 rfl (by kernel_rfl) (Ev.load rfl rfl rfl (Src.r 0 rfl) rfl) rfl (Hq [0, 1, 2, 3, 4, 5, 6, 7] rfl) ?_; refine LM.q 4 rfl (by kernel_rfl) (Ev.cast (u := .int .i64 ((((findF f y.a y.b).gen + 1).toNat : Nat) : Int)) (Ev.add rfl rfl (by omega) (by omega)) (congrArg (Value.int .i64) (by omega))) rfl (Hq [0, 1, 2, 3, 4, 5, 6, 7] rfl) ?_; refine LM.q 5 rfl (by kernel_rfl) (Ev.loadA rfl rfl rfl (Src.r 1 rfl) rfl rfl (by decide)) rfl (Hq [0, 1, 2, 3, 4, 5, 6, 7] rfl) ?_; refine LM.q 7 rfl (by kernel_rfl) (Ev.fieldAddr rfl rfl rfl rfl rfl rfl (Src.r 3 rfl) (Nat.zero_lt_succ _) rfl) rfl (Hq [0, 1, 2, 3, 4, 5, 6, 7] rfl) ?_; refine LM.q 8 rfl (by kernel_rfl) (Ev.load rfl rfl rfl (Src.r 3 rfl) rfl) rfl (Hq [0, 1, 2, 3, 4, 5, 6, 7] rfl) ?_; refine LM.q 9 rfl (by kernel_rfl) (Ev.fieldAddr rfl rfl rfl rfl rfl rfl (Src.r 0 rfl) (Nat.zero_lt_succ _) rfl) rfl (Hq [0, 1, 2, 3, 4, 5, 6, 7] rfl) ?_; refine LM.q 10 rfl (by kernel_rfl) (Ev.load rfl rfl rfl (Src.r 0 rfl) rfl) rfl (Hq [0, 1, 2, 3, 4, 5, 6, 7] rfl) ?_; refine LM.q 11 rfl (by kernel_rfl) (Ev.idx1 (k := (findF f y.a y.b).oth.toNat) rfl rfl rfl rfl rfl rfl (by omega) (by omega) (Src.r 4 rfl) (by rw [rowsV_len (by rw [B8_len]; exact hh), B8_len]; omega)) rfl (Hq [0, 1, 2, 3, 4, 5, 6, 7] rfl) ?_; refine LM.q 12 rfl (by kernel_rfl) (Ev.load rfl rfl rfl (Src.r 4 rfl) (rows8_get hh (by omega))) rfl (Hq [0, 1, 2, 3, 4, 5, 6, 7] rfl) ?_; refine LM.f 6 rfl (by kernel_rfl) (Hq [0, 1, 2, 3, 4, 5, 6, 7] rfl) ?_; refine L.call (js := []) (js' := [0]) (contR_c f.size ((findF f y.a y.b).gen + 1).toNat s os2 hft.2.2.2.2.2) rfl rfl rfl (by decide) trivial rfl ?_
     rintro _ _ _ ⟨WO, rfl, rfl, rfl⟩
     rw [show ((((findF f y.a y.b).gen + 1).toNat : Nat) : Int) = (findF f y.a y.b).gen + 1 from by omega]
     refine L.norm (H' := [_, _]) [0, 1] ⟨rfl, rfl, trivial⟩ (by decide) ?_
     refine L.nil (QE.m (by kernel_rfl) ?_)
     refine LM.f 13 rfl (by kernel_rfl) (Hq [0, 1, 2, 3, 4, 5, 6, 7] rfl) ?_; refine Lpu rfl rfl ?_
     refine L.nil (QE.m (by kernel_rfl) ?_)
     refine LM.cut [] (by kernel_rfl) (Hq [0, 1, 2, 3, 4, 5, 6, 7] rfl) ?_; refine LM.f 14 rfl (by kernel_rfl) trivial ?_; refine Lpu rfl rfl ?_
     refine L.nil (QE.m (by kernel_rfl) ?_)
     refine LM.nil (by kernel_rfl) trivial ?_; refine QE.seq (C.seq ?_); refine C.freeze 0 rfl [1] (by decide) (by decide) ?_; refine C.norm (H' := [_]) [0] ⟨rfl, trivial⟩ (by decide) ?_; refine C.regionM [Rd WO (U8 (contF f.size ((findF f y.a y.b).gen + 1) (slotF s))), Rd A7 [.int .i64 (findF f y.a y.b).sec, .int .i64 (findF f y.a y.b).oth, .int .i64 (findF f y.a y.b).gen, .int .i64 ((findF f y.a y.b).s.getD 0 0), .int .i64 ((findF f y.a y.b).s.getD 1 0), .int .i64 ((findF f y.a y.b).s.getD 2 0), .int .i64 ((findF f y.a y.b).s.getD 3 0), .int .i64 ((findF f y.a y.b).s.getD 4 0), .int .i64 ((findF f y.a y.b).s.getD 5 0), .int .i64 ((findF f y.a y.b).s.getD 6 0), .int .i64 ((findF f y.a y.b).s.getD 7 0), .int .i64 ((findF f y.a y.b).s.getD 8 0), .int .i64 ((findF f y.a y.b).free : Int), .int .i64 ((findF f y.a y.b).torn : Int), .bool (findF f y.a y.b).found], Rd A5 (st9 s), Rd A4 [.int .i64 y.n, .int .i64 y.a, .int .i64 y.b, .int .i64 y.s0, .int .i64 y.s1, .slice y.T y.tn y.tc, .slice y.U y.un y.uc, .slice y.V y.vn y.vc], Rd A3 [.int .i64 (f.size : Int), .slice a.D f.data.length a.cD, .slice a.W f.wear.length a.cW, .int .i64 f.limit, .slice a.E f.dead.length a.cE], Rd a.D (rowsV a.hs (B8 f.data)), KidsR a.hs (B8 f.data), Rd a.W (I64 f.wear), Rd a.E (Bs f.dead)] (Hq [0, 1, 2, 3, 4, 5, 6, 7, 8] rfl) ?_; refine LM.q 0 rfl (by kernel_rfl) (Ev.pure rfl) rfl (Hq [0, 1, 2, 3, 4, 5, 6, 7, 8] rfl) ?_; refine LM.q 1 rfl (by kernel_rfl) (Ev.cast (u := .slice (subA (a.hs.getD (findF f y.a y.b).oth.toNat (none, 0)).1 (a.hs.getD (findF f y.a y.b).oth.toNat (none, 0)).2 8 1) ((f.data.getD (findF f y.a y.b).oth.toNat []).drop 8).length ((a.hs.getD (findF f y.a y.b).oth.toNat (none, 0)).2 - 8)) (Ev.sliceL (l := 8) rfl rfl rfl rfl rfl rfl (by omega)) (by rw [List.length_drop]; rfl)) rfl (Hq [0, 1, 2, 3, 4, 5, 6, 7, 8] rfl) ?_; refine LM.f 2 rfl (by kernel_rfl) (Hq [0, 1, 2, 3, 4, 5, 6, 7, 8] rfl) ?_; refine Lpu rfl rfl ?_
     refine L.nil (QE.m (by kernel_rfl) ?_)
     refine LM.f 3 rfl (by kernel_rfl) (Hq [0, 1, 2, 3, 4, 5, 6, 7, 8] rfl) ?_; refine L.step (Ev.cast (u := .slice (subA WO f.size 8 1) ((contF f.size ((findF f y.a y.b).gen + 1) (slotF s)).drop 8).length (f.size - 8)) (Ev.sliceL (l := 8) rfl rfl rfl rfl rfl rfl (by omega)) (by rw [List.length_drop, hwl]; rfl)) rfl ?_
     refine L.nil (QE.m (by kernel_rfl) ?_)
     refine LM.cut [] (by kernel_rfl) (Hq [0, 1, 2, 3, 4, 5, 6, 7, 8] rfl) ?_; refine LM.f 4 rfl (by kernel_rfl) trivial ?_; refine L.call (js := []) (js' := [0]) (same_c (subA (a.hs.getD (findF f y.a y.b).oth.toNat (none, 0)).1 (a.hs.getD (findF f y.a y.b).oth.toNat (none, 0)).2 8 1) (subA WO f.size 8 1) ((a.hs.getD (findF f y.a y.b).oth.toNat (none, 0)).2 - 8) (f.size - 8) ((f.data.getD (findF f y.a y.b).oth.toNat []).drop 8) ((contF f.size ((findF f y.a y.b).gen + 1) (slotF s)).drop 8) (by rw [List.length_drop]; omega) (by rw [List.length_drop]; omega)) rfl rfl rfl (by decide) ⟨(Has.dropU (((Has.kid 6 rfl (by rw [B8_len]; exact hh) ((findF f y.a y.b).oth.toNat) (by rw [B8_len]; omega)).cast (B8_get _))) (a.hs.getD (findF f y.a y.b).oth.toNat (none, 0)).2 8 (by omega)), (Has.dropU (Has.r 0 rfl) f.size 8 (by omega)), trivial⟩ rfl ?_
     rintro _ _ _ ⟨rfl, rfl, rfl⟩
     refine L.norm (H' := [_]) [0] ⟨rfl, trivial⟩ (by decide) ?_
     refine L.nil (QE.m (by kernel_rfl) ?_)
     refine LM.f 5 rfl (by kernel_rfl) trivial ?_; refine Lpu rfl rfl ?_
     refine L.nil (QE.m (by kernel_rfl) ?_)
     refine LM.nil (by kernel_rfl) trivial ?_; refine QE.seq (C.seq (C.seq (C.region ?_))); refine Lpu rfl rfl ?_; refine L.nil (QE.seq (C.block ?_)); refine C.loop (fun k : Nat => [(3, ptrOf A3 0), (5, ptrOf A5 0), (6, ptrOf A6 0), (7, ptrOf A7 0), (8, .slice WO f.size f.size), (9, .slice (a.hs.getD (findF f y.a y.b).oth.toNat (none, 0)).1 (f.data.getD (findF f y.a y.b).oth.toNat []).length (a.hs.getD (findF f y.a y.b).oth.toNat (none, 0)).2), (10, .bool (((f.data.getD (findF f y.a y.b).oth.toNat []).drop 8 == (contF f.size ((findF f y.a y.b).gen + 1) (slotF s)).drop 8) && aboveTo (f.data.getD (findF f y.a y.b).oth.toNat []) (contF f.size ((findF f y.a y.b).gen + 1) (slotF s)) k)), (11, .int .i64 (k : Int))]) (fun k : Nat => [Rd WO (U8 (contF f.size ((findF f y.a y.b).gen + 1) (slotF s))), Rd A7 [.int .i64 (findF f y.a y.b).sec, .int .i64 (findF f y.a y.b).oth, .int .i64 (findF f y.a y.b).gen, .int .i64 ((findF f y.a y.b).s.getD 0 0), .int .i64 ((findF f y.a y.b).s.getD 1 0), .int .i64 ((findF f y.a y.b).s.getD 2 0), .int .i64 ((findF f y.a y.b).s.getD 3 0), .int .i64 ((findF f y.a y.b).s.getD 4 0), .int .i64 ((findF f y.a y.b).s.getD 5 0), .int .i64 ((findF f y.a y.b).s.getD 6 0), .int .i64 ((findF f y.a y.b).s.getD 7 0), .int .i64 ((findF f y.a y.b).s.getD 8 0), .int .i64 ((findF f y.a y.b).free : Int), .int .i64 ((findF f y.a y.b).torn : Int), .bool (findF f y.a y.b).found], Rd A5 (st9 s), Rd A4 [.int .i64 y.n, .int .i64 y.a, .int .i64 y.b, .int .i64 y.s0, .int .i64 y.s1, .slice y.T y.tn y.tc, .slice y.U y.un y.uc, .slice y.V y.vn y.vc], Rd A3 [.int .i64 (f.size : Int), .slice a.D f.data.length a.cD, .slice a.W f.wear.length a.cW, .int .i64 f.limit, .slice a.E f.dead.length a.cE], Rd a.D (rowsV a.hs (B8 f.data)), KidsR a.hs (B8 f.data), Rd a.W (I64 f.wear), Rd a.E (Bs f.dead)]) (fun k : Nat => [Own 55 6 A6 1 1 [.int .i64 0, .int .i64 0, .int .i64 0, .slice none 0 0, .bool false, .int .i64 0]]) (fun k : Nat => k ≤ 8) (fun k : Nat => 8 - k) 0 (by decide) (by exact Le.mk' (rs := [0, 1, 2, 3, 4, 5, 6, 7, 8]) (hs := [0]) ⟨rfl, rfl, rfl, rfl, rfl, rfl, (by exact congrArg some (congrArg Value.bool (Bool.and_true _).symm)), rfl, trivial⟩ ⟨rfl, rfl, rfl, rfl, rfl, rfl, rfl, rfl, rfl, trivial⟩ ⟨rfl, trivial⟩ (by decide)) ?_
     intro k hk
     refine C.seq (C.seq (C.region ?_)); refine Lpu rfl rfl ?_; refine Lpu rfl rfl ?_; refine L.nil (QE.seq ?_)
     refine C.condB 64 rfl (fun hc64 => ?_) (fun hc64 => ?_)
     ·
      replace hc64 := of_decide_eq_true hc64
      refine C.skip (QE.seq (C.seq (C.block ?_))); refine C.regionQ (by kernel_rfl) ?_; refine LQ.step (Ev.pure rfl) rfl ?_; refine LQ.step (Ev.pure rfl) rfl ?_
      refine LQ.bool 68 rfl (fun hg68 => ?_) (fun hg68 => ?_)
      ·
       refine LQ.yes rfl ?_; refine LQ.step (Ev.pure rfl) rfl ?_; refine LQ.yes rfl ?_; refine LQ.step (Ev.pure rfl) rfl ?_; refine LQ.yes rfl ?_; refine LQ.step (Ev.idx1 (k := k) rfl rfl rfl rfl rfl rfl rfl (by omega) ((Src.kid 6 rfl (by rw [B8_len]; exact hh) ((findF f y.a y.b).oth.toNat) (by rw [B8_len]; omega)).cast (B8_get _)) (by rw [U8_len]; omega)) rfl ?_; refine LQ.yes rfl ?_; refine LQ.step (Ev.load rfl rfl rfl ((Src.kid 6 rfl (by rw [B8_len]; exact hh) ((findF f y.a y.b).oth.toNat) (by rw [B8_len]; omega)).cast (B8_get _)) (U8_get (by omega))) rfl ?_; refine LQ.yes rfl ?_; refine LQ.step (Ev.pure rfl) rfl ?_; refine LQ.yes rfl ?_; refine LQ.step (Ev.pure rfl) rfl ?_; refine LQ.yes rfl ?_; refine LQ.step (Ev.idx1 (k := k) rfl rfl rfl rfl rfl rfl rfl (by omega) (Src.r 0 rfl) (by rw [U8_len]; omega)) rfl ?_; refine LQ.yes rfl ?_; refine LQ.step (Ev.load rfl rfl rfl (Src.r 0 rfl) (U8_get (by omega))) rfl ?_; refine LQ.yes rfl ?_
       first | refine LQ.step (Ev.and8 rfl rfl) rfl ?_ | refine LQ.step (Ev.pure rfl) rfl ?_
       refine LQ.yes rfl ?_; refine LQ.step (Ev.pure rfl) rfl ?_; refine LQ.yes rfl ?_; refine LQ.step (Ev.pure rfl) rfl ?_; refine LQ.yes rfl ?_; refine LQ.step (Ev.idx1 (k := k) rfl rfl rfl rfl rfl rfl rfl (by omega) (Src.r 0 rfl) (by rw [U8_len]; omega)) rfl ?_; refine LQ.yes rfl ?_; refine LQ.step (Ev.load rfl rfl rfl (Src.r 0 rfl) (U8_get (by omega))) rfl ?_; refine LQ.yes rfl ?_; refine LQ.step (Ev.cast (u := .bool ((f.data.getD (findF f y.a y.b).oth.toNat []).getD k 0 &&& (contF f.size ((findF f y.a y.b).gen + 1) (slotF s)).getD k 0 == (contF f.size ((findF f y.a y.b).gen + 1) (slotF s)).getD k 0)) (Ev.pure rfl) (congrArg Value.bool (by rw [Bool.eq_iff_iff, beq_iff_eq, beq_iff_eq]; exact u8_eq))) rfl ?_; refine LQ.step (Ev.pure rfl) rfl ?_; refine LQ.step (Ev.pure rfl) rfl ?_; refine LQ.nil ?_; refine QE.blkN ?_; refine QE.seq (C.region ?_); refine Lpu rfl rfl ?_; refine L.step (Ev.add rfl rfl (by omega) (by omega)) rfl ?_; refine Lpu rfl rfl ?_; refine L.nil ?_
       refine QE.round (k + 1) (by omega) (by omega) (by exact Le.mk' (rs := [0, 1, 2, 3, 4, 5, 6, 7, 8]) (hs := [0]) ⟨rfl, rfl, rfl, rfl, rfl, rfl, (by rw [aboveTo_succ, ← Bool.and_assoc, hg68, Bool.true_and]; rfl), rfl, trivial⟩ ⟨rfl, rfl, rfl, rfl, rfl, rfl, rfl, rfl, rfl, trivial⟩ ⟨rfl, trivial⟩ (by decide))
      ·
       refine LQ.no rfl rfl rfl ?_; refine LQ.no rfl rfl rfl ?_; refine LQ.no rfl rfl rfl ?_; refine LQ.no rfl rfl rfl ?_; refine LQ.no rfl rfl rfl ?_; refine LQ.no rfl rfl rfl ?_; refine LQ.no rfl rfl rfl ?_; refine LQ.no rfl rfl rfl ?_; refine LQ.no rfl rfl rfl ?_; refine LQ.no rfl rfl rfl ?_; refine LQ.no rfl rfl rfl ?_; refine LQ.no rfl rfl rfl ?_; refine LQ.no rfl rfl rfl ?_; refine LQ.no rfl rfl rfl ?_; refine LQ.step (Ev.pure rfl) rfl ?_; refine LQ.step (Ev.pure rfl) rfl ?_; refine LQ.nil ?_; refine QE.blkN ?_; refine QE.seq (C.region ?_); refine Lpu rfl rfl ?_; refine L.step (Ev.add rfl rfl (by omega) (by omega)) rfl ?_; refine Lpu rfl rfl ?_; refine L.nil ?_
       refine QE.round (k + 1) (by omega) (by omega) (by exact Le.mk' (rs := [0, 1, 2, 3, 4, 5, 6, 7, 8]) (hs := [0]) ⟨rfl, rfl, rfl, rfl, rfl, rfl, (by rw [aboveTo_succ, ← Bool.and_assoc, hg68, Bool.false_and]; rfl), rfl, trivial⟩ ⟨rfl, rfl, rfl, rfl, rfl, rfl, rfl, rfl, rfl, trivial⟩ ⟨rfl, trivial⟩ (by decide))
     ·
      replace hc64 := of_decide_eq_false hc64
      refine C.exit ?_; refine QE.tX ?_; refine QE.tX ?_; refine QE.blk ?_; refine QE.seq (C.seq (C.seq (C.region ?_))); refine Lpu rfl rfl ?_; refine L.nil (QE.seq ?_)
      refine C.condB 84 rfl (fun hc84 => ?_) (fun hc84 => ?_)
      ·
       have hab : aboveTo (f.data.getD (findF f y.a y.b).oth.toNat []) ((contF f.size ((findF f y.a y.b).gen + 1) (slotF s)).take 8) 8 = aboveTo (f.data.getD (findF f y.a y.b).oth.toNat []) (contF f.size ((findF f y.a y.b).gen + 1) (slotF s)) 8 := aboveTo_take (by decide)
       obtain rfl : k = 8 := by omega
       have hrd : readyB (secR f (findF f y.a y.b).oth) (contF f.size ((findF f y.a y.b).gen + 1) (slotF s)) = true := by unfold readyB secR; rw [hab]; exact hc84
       refine C.seq ?_; refine C.regionM [Rd WO (U8 (contF f.size ((findF f y.a y.b).gen + 1) (slotF s))), Rd A7 [.int .i64 (findF f y.a y.b).sec, .int .i64 (findF f y.a y.b).oth, .int .i64 (findF f y.a y.b).gen, .int .i64 ((findF f y.a y.b).s.getD 0 0), .int .i64 ((findF f y.a y.b).s.getD 1 0), .int .i64 ((findF f y.a y.b).s.getD 2 0), .int .i64 ((findF f y.a y.b).s.getD 3 0), .int .i64 ((findF f y.a y.b).s.getD 4 0), .int .i64 ((findF f y.a y.b).s.getD 5 0), .int .i64 ((findF f y.a y.b).s.getD 6 0), .int .i64 ((findF f y.a y.b).s.getD 7 0), .int .i64 ((findF f y.a y.b).s.getD 8 0), .int .i64 ((findF f y.a y.b).free : Int), .int .i64 ((findF f y.a y.b).torn : Int), .bool (findF f y.a y.b).found], Rd A5 (st9 s), Rd A4 [.int .i64 y.n, .int .i64 y.a, .int .i64 y.b, .int .i64 y.s0, .int .i64 y.s1, .slice y.T y.tn y.tc, .slice y.U y.un y.uc, .slice y.V y.vn y.vc], Rd A3 [.int .i64 (f.size : Int), .slice a.D f.data.length a.cD, .slice a.W f.wear.length a.cW, .int .i64 f.limit, .slice a.E f.dead.length a.cE], Rd a.D (rowsV a.hs (B8 f.data)), KidsR a.hs (B8 f.data), Rd a.W (I64 f.wear), Rd a.E (Bs f.dead)] (Hq [0, 1, 2, 3, 4, 5, 6, 7, 8] rfl) ?_; refine LM.q 0 rfl (by kernel_rfl) (Ev.loadA rfl rfl rfl (Src.r 4 rfl) rfl rfl (by decide)) rfl (Hq [0, 1, 2, 3, 4, 5, 6, 7, 8] rfl) ?_; refine LM.q 1 rfl (by kernel_rfl) (Ev.fieldAddr rfl rfl rfl rfl rfl rfl (Src.r 1 rfl) (Nat.zero_lt_succ _) rfl) rfl (Hq [0, 1, 2, 3, 4, 5, 6, 7, 8] rfl) ?_; refine LM.q 2 rfl (by kernel_rfl) (Ev.load rfl rfl rfl (Src.r 1 rfl) rfl) rfl (Hq [0, 1, 2, 3, 4, 5, 6, 7, 8] rfl) ?_; refine LM.f 3 rfl (by kernel_rfl) (Hq [0, 1, 2, 3, 4, 5, 6, 7, 8] rfl) ?_; refine Lpu rfl rfl ?_
       refine L.nil (QE.m (by kernel_rfl) ?_)
       refine LM.f 4 rfl (by kernel_rfl) (Hq [0, 1, 2, 3, 4, 5, 6, 7, 8] rfl) ?_; refine L.step (Ev.cast (u := .slice WO ((contF f.size ((findF f y.a y.b).gen + 1) (slotF s)).take 8).length f.size) (Ev.sliceH (h := 8) rfl rfl rfl rfl rfl rfl (by omega)) (by rw [List.length_take, hwl, Nat.min_eq_left (by omega)])) rfl ?_
       refine L.nil (QE.m (by kernel_rfl) ?_)
       refine LM.f 5 rfl (by kernel_rfl) (Hq [0, 1, 2, 3, 4, 5, 6, 7, 8] rfl) ?_; refine L.step (Ev.build rfl rfl rfl rfl rfl rfl rfl) rfl ?_
       refine L.nil (QE.m (by kernel_rfl) ?_)
       refine LM.cut [] (by kernel_rfl) (Hq [0, 1, 2, 3, 4, 5, 6, 7, 8] rfl) ?_; refine LM.f 6 rfl (by kernel_rfl) trivial ?_; refine L.callR (js := []) (js' := [0]) (progR_c f a hok hh (findF f y.a y.b).oth 0 ((contF f.size ((findF f y.a y.b).gen + 1) (slotF s)).take 8) WO f.size hfd.oth) rfl rfl rfl (by decide) ⟨(Has.r 5 rfl), (Has.r 6 rfl), (Has.r 7 rfl), (Has.r 8 rfl), ((Has.take (Has.r 0 rfl) 8).cast (U8_take _ _)), trivial⟩ rfl ?_
       rintro _ _ _ ⟨PO, pc, rfl, rfl, rfl⟩
       refine L.norm (H' := [_]) [0] ⟨rfl, trivial⟩ (by decide) ?_
       refine L.nil (QE.m (by kernel_rfl) ?_)
       refine LM.f 7 rfl (by kernel_rfl) trivial ?_; refine L.storeA (j := 0) rfl rfl rfl rfl rfl (Nat.zero_lt_succ _) rfl rfl ?_
       refine L.nil (QE.m (by kernel_rfl) ?_)
       refine LM.nil (by kernel_rfl) trivial ?_; refine QE.seq (C.ret (QE.tR ?_)); refine QE.ret (js := [0]) (hs := []) (vs := [_]) rfl ⟨⟨_, _, 0, _, rfl, rfl, Src.o 0 rfl, .inl ⟨rfl, by decide, _, rfl, rfl, rfl⟩⟩, trivial⟩ (by decide) ?_
       refine ⟨PO, pc, ?_, ?_, rfl⟩
       · rw [nextF_4 rfl hyes hright hne hlt hrd]; rfl
       · rw [nextF_4 rfl hyes hright hne hlt hrd]; rfl
      ·
       have hab : aboveTo (f.data.getD (findF f y.a y.b).oth.toNat []) ((contF f.size ((findF f y.a y.b).gen + 1) (slotF s)).take 8) 8 = aboveTo (f.data.getD (findF f y.a y.b).oth.toNat []) (contF f.size ((findF f y.a y.b).gen + 1) (slotF s)) 8 := aboveTo_take (by decide)
       obtain rfl : k = 8 := by omega
       have hrd : readyB (secR f (findF f y.a y.b).oth) (contF f.size ((findF f y.a y.b).gen + 1) (slotF s)) = false := by unfold readyB secR; rw [hab]; exact hc84
       refine C.skip (QE.seq (C.seq ?_)); refine C.regionM [Rd WO (U8 (contF f.size ((findF f y.a y.b).gen + 1) (slotF s))), Rd A7 [.int .i64 (findF f y.a y.b).sec, .int .i64 (findF f y.a y.b).oth, .int .i64 (findF f y.a y.b).gen, .int .i64 ((findF f y.a y.b).s.getD 0 0), .int .i64 ((findF f y.a y.b).s.getD 1 0), .int .i64 ((findF f y.a y.b).s.getD 2 0), .int .i64 ((findF f y.a y.b).s.getD 3 0), .int .i64 ((findF f y.a y.b).s.getD 4 0), .int .i64 ((findF f y.a y.b).s.getD 5 0), .int .i64 ((findF f y.a y.b).s.getD 6 0), .int .i64 ((findF f y.a y.b).s.getD 7 0), .int .i64 ((findF f y.a y.b).s.getD 8 0), .int .i64 ((findF f y.a y.b).free : Int), .int .i64 ((findF f y.a y.b).torn : Int), .bool (findF f y.a y.b).found], Rd A5 (st9 s), Rd A4 [.int .i64 y.n, .int .i64 y.a, .int .i64 y.b, .int .i64 y.s0, .int .i64 y.s1, .slice y.T y.tn y.tc, .slice y.U y.un y.uc, .slice y.V y.vn y.vc], Rd A3 [.int .i64 (f.size : Int), .slice a.D f.data.length a.cD, .slice a.W f.wear.length a.cW, .int .i64 f.limit, .slice a.E f.dead.length a.cE], Rd a.D (rowsV a.hs (B8 f.data)), KidsR a.hs (B8 f.data), Rd a.W (I64 f.wear), Rd a.E (Bs f.dead)] (Hq [0, 1, 2, 3, 4, 5, 6, 7, 8] rfl) ?_; refine LM.q 0 rfl (by kernel_rfl) (Ev.loadA rfl rfl rfl (Src.r 4 rfl) rfl rfl (by decide)) rfl (Hq [0, 1, 2, 3, 4, 5, 6, 7, 8] rfl) ?_; refine LM.q 1 rfl (by kernel_rfl) (Ev.fieldAddr rfl rfl rfl rfl rfl rfl (Src.r 1 rfl) (Nat.zero_lt_succ _) rfl) rfl (Hq [0, 1, 2, 3, 4, 5, 6, 7, 8] rfl) ?_; refine LM.q 2 rfl (by kernel_rfl) (Ev.load rfl rfl rfl (Src.r 1 rfl) rfl) rfl (Hq [0, 1, 2, 3, 4, 5, 6, 7, 8] rfl) ?_; refine LM.q 3 rfl (by kernel_rfl) (Ev.fieldAddr rfl rfl rfl rfl rfl rfl (Src.r 4 rfl) (Nat.zero_lt_succ _) rfl) rfl (Hq [0, 1, 2, 3, 4, 5, 6, 7, 8] rfl) ?_; refine LM.q 4 rfl (by kernel_rfl) (Ev.load rfl rfl rfl (Src.r 4 rfl) rfl) rfl (Hq [0, 1, 2, 3, 4, 5, 6, 7, 8] rfl) ?_; refine LM.f 5 rfl (by kernel_rfl) (Hq [0, 1, 2, 3, 4, 5, 6, 7, 8] rfl) ?_; refine L.step (Ev.loadA rfl rfl rfl (Src.r 2 rfl) rfl rfl (by decide)) rfl ?_
       refine L.nil (QE.m (by kernel_rfl) ?_)
       refine LM.f 6 rfl (by kernel_rfl) (Hq [0, 1, 2, 3, 4, 5, 6, 7, 8] rfl) ?_; refine L.call (js := []) (js' := [0]) (contR_c f.size 0 s os2 hft.2.2.2.2.2) rfl rfl rfl (by decide) trivial rfl ?_
       rintro _ _ _ ⟨QO, rfl, rfl, rfl⟩
       refine L.norm (H' := [_, _]) [0, 1] ⟨rfl, rfl, trivial⟩ (by decide) ?_
       refine L.nil (QE.m (by kernel_rfl) ?_)
       refine LM.cut [] (by kernel_rfl) (Hq [0, 1, 2, 3, 4, 5, 6, 7, 8] rfl) ?_; refine LM.f 7 rfl (by kernel_rfl) trivial ?_; refine L.freeze 0 rfl [1] (by decide) (by decide) ?_; refine L.norm (H' := [_]) [0] ⟨rfl, trivial⟩ (by decide) ?_; refine L.callR (js := []) (js' := [0]) (tow17_c2 f a hok hh (findF f y.a y.b).oth (contF f.size 0 (slotF s)) QO f.size f.size hw0 (by omega)) rfl rfl rfl (by decide) (Hq [6, 7, 8, 9, 0] rfl) rfl ?_
       rintro _ _ _ ⟨PO, pc, rfl, rfl, rfl⟩
       refine L.norm (H' := [_]) [0] ⟨rfl, trivial⟩ (by decide) ?_
       refine L.nil (QE.m (by kernel_rfl) ?_)
       refine LM.f 8 rfl (by kernel_rfl) trivial ?_; refine L.storeA (j := 0) rfl rfl rfl rfl rfl (Nat.zero_lt_succ _) rfl rfl ?_
       refine L.nil (QE.m (by kernel_rfl) ?_)
       refine LM.nil (by kernel_rfl) trivial ?_; refine QE.seq (C.ret ?_); refine QE.ret (js := [0]) (hs := []) (vs := [_]) rfl ⟨⟨_, _, 0, _, rfl, rfl, Src.o 0 rfl, .inl ⟨rfl, by decide, _, rfl, rfl, rfl⟩⟩, trivial⟩ (by decide) ?_
       refine ⟨PO, pc, ?_, ?_, rfl⟩
       · rw [nextF_5 rfl hyes hright hne hlt hrd]; rfl
       · rw [nextF_5 rfl hyes hright hne hlt hrd]; rfl

end Go.Proofs.Ytmbjknampholjaa
