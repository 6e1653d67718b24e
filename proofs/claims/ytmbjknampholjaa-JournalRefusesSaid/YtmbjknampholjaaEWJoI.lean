/-
  The contract of Next of the program.
-/
import Derived.Test.YtmbjknampholjaaEWJoH
import Derived.Test.YtmbjknampholjaaESlN
namespace Go.Proofs.Ytmbjknampholjaa
open Go.Sl

theorem towP_c2 (f : Fl) (a : Fa) (ok : f.Ok) (hh : a.hs.length = f.data.length) (sec : Int) (want : List UInt8) (W : Option Addr) (m wc : Nat) (hm : want.length = m) (hwl : m ≤ 1000000) :
   Ctr X 68 [.agg (List.toArray [.int .i64 (f.size : Int), .slice a.D f.data.length a.cD, .slice a.W f.wear.length a.cW, .int .i64 f.limit, .slice a.E f.dead.length a.cE]), .int .i64 sec, .slice W m wc] [Rd a.D (rowsV a.hs (B8 f.data)), KidsR a.hs (B8 f.data), Rd a.W (I64 f.wear), Rd a.E (Bs f.dead), Rd W (U8 want)] [] (fun v R' H' => ∃ A c, v = .tuple #[.agg (List.toArray [.int .i64 (towN f sec want).x.kind, .int .i64 (towN f sec want).x.sec, .int .i64 (towN f sec want).x.at_, .slice A (towN f sec want).x.data.length c]), .bool (towN f sec want).done, .int .i64 (towN f sec want).e] ∧ R' = [Rd A (U8 (towN f sec want).x.data)] ∧ H' = []) := by
 subst hm
 exact towP_c f a ok hh sec want W wc hwl
theorem tow17_c2 (f : Fl) (a : Fa) (ok : f.Ok) (hh : a.hs.length = f.data.length) (sec : Int) (want : List UInt8) (W : Option Addr) (m wc : Nat) (hm : want.length = m) (hwl : m ≤ 1000000) :
   Ctr X 48 [.agg (List.toArray [.int .i64 (f.size : Int), .slice a.D f.data.length a.cD, .slice a.W f.wear.length a.cW, .int .i64 f.limit, .slice a.E f.dead.length a.cE]), .int .i64 sec, .slice W m wc] [Rd a.D (rowsV a.hs (B8 f.data)), KidsR a.hs (B8 f.data), Rd a.W (I64 f.wear), Rd a.E (Bs f.dead), Rd W (U8 want)] [] (fun v R' H' => ∃ A c, v = .agg (List.toArray [.int .i64 (towN f sec want).x.kind, .int .i64 (towN f sec want).x.sec, .int .i64 (towN f sec want).x.at_, .slice A (towN f sec want).x.data.length c, .bool (towN f sec want).done, .int .i64 (towN f sec want).e]) ∧ R' = [Rd A (U8 (towN f sec want).x.data)] ∧ H' = []) := by
 subst hm
 exact tow17_c f a ok hh sec want W wc hwl

set_option maxHeartbeats 1000000 in
theorem nextP_c (f : Fl) (a : Fa) (ok : f.Ok) (hh : a.hs.length = f.data.length) (y : Ly) (hcap : Caps f a) (s : List Int) (hs : s.length = 9) :
   Ctr X 45 [.agg (List.toArray [.int .i64 (f.size : Int), .slice a.D f.data.length a.cD, .slice a.W f.wear.length a.cW, .int .i64 f.limit, .slice a.E f.dead.length a.cE]), .agg (List.toArray [.int .i64 y.n, .int .i64 y.a, .int .i64 y.b, .int .i64 y.s0, .int .i64 y.s1, .slice y.T y.tn y.tc, .slice y.U y.un y.uc, .slice y.V y.vn y.vc]), .agg (List.toArray (st9 s))] [Rd a.D (rowsV a.hs (B8 f.data)), KidsR a.hs (B8 f.data), Rd a.W (I64 f.wear), Rd a.E (Bs f.dead)] [] (fun v R' H' => ∃ O oc, v = .tuple #[.agg (List.toArray [.int .i64 (nextF f y.a y.b s).x.kind, .int .i64 (nextF f y.a y.b s).x.sec, .int .i64 (nextF f y.a y.b s).x.at_, .slice O (nextF f y.a y.b s).x.data.length oc]), .bool (nextF f y.a y.b s).done, .int .i64 (nextF f y.a y.b s).e] ∧ R' = [Rd O (U8 (nextF f y.a y.b s).x.data)] ∧ H' = []) := by
 have hok := ok
 obtain ⟨os1, os2, on1, on2, owl, odl, orows, ol1, ol2, owear⟩ := ok
 refine Ctr.of (X := X) (fn := Try.f45) Try.func45 rfl (by kernel_rfl) rfl ?_
 intro β
 refine C.seq (C.region ?_)
 refine L.boxA rfl rfl (fun A3 => ?_)
 refine L.boxA rfl rfl (fun A4 => ?_)
 refine L.boxA rfl rfl (fun A5 => ?_)
 refine L.alloc rfl rfl rfl (fun A6 => ?_)
 refine Lpu rfl rfl ?_; refine Lpu rfl rfl ?_; refine L.nil (QE.seq (C.seq ?_)); refine C.freeze 0 rfl [1, 2, 3] (by decide) (by decide) ?_; refine C.norm (H' := [_, _, _]) [0, 1, 2] ⟨rfl, rfl, rfl, trivial⟩ (by decide) ?_; refine C.freeze 0 rfl [1, 2] (by decide) (by decide) ?_; refine C.norm (H' := [_, _]) [0, 1] ⟨rfl, rfl, trivial⟩ (by decide) ?_; refine C.freeze 0 rfl [1] (by decide) (by decide) ?_; refine C.norm (H' := [_]) [0] ⟨rfl, trivial⟩ (by decide) ?_; refine C.region ?_; refine L.step (Ev.loadA rfl rfl rfl (Src.r 2 rfl) rfl rfl (by decide)) rfl ?_; refine L.step (Ev.loadA rfl rfl rfl (Src.r 1 rfl) rfl rfl (by decide)) rfl ?_; refine L.call (js := []) (js' := [0]) (findP_c f a hok hh y hcap) rfl rfl rfl (by decide) (Hq [3, 4, 5, 6] rfl) rfl ?_
 rintro _ _ _ ⟨rfl, rfl, rfl⟩
 refine L.norm (H' := [_]) [0] ⟨rfl, trivial⟩ (by decide) ?_; refine Lpu rfl rfl ?_; refine Lpu rfl rfl ?_; refine Lpu rfl rfl ?_
 refine L.alloc rfl rfl rfl (fun A9 => ?_)
 refine L.storeA (j := 1) rfl rfl rfl rfl rfl (Nat.zero_lt_succ _) rfl rfl ?_; refine Lpu rfl rfl ?_; refine L.nil (QE.seq (C.seq ?_)); refine C.freeze 1 rfl [0] (by decide) (by decide) ?_; refine C.norm (H' := [_]) [0] ⟨rfl, trivial⟩ (by decide) ?_; refine C.region ?_; refine L.step (Ev.loadA rfl rfl rfl (Src.r 1 rfl) rfl rfl (by decide)) rfl ?_; refine L.call (js := []) (js' := [0]) (slotP_c s hs) rfl rfl rfl (by decide) trivial rfl ?_
 rintro _ _ _ ⟨SO, sc, rfl, hsome, rfl, rfl⟩
 refine L.norm (H' := [_, _]) [0, 1] ⟨rfl, rfl, trivial⟩ (by decide) ?_; refine Lpu rfl rfl ?_; refine L.nil (QE.seq (C.seq (C.block (C.seq (C.region ?_))))); refine Lpu rfl rfl ?_; refine Lpu rfl rfl ?_; refine Lpu rfl rfl ?_
 refine L.bool 25 rfl (fun hg25 => ?_) (fun hg25 => ?_)
 ·
  have hno : (findF f y.a y.b).found = false := by rw [← findP_found]; simpa using hg25
  refine L.no rfl rfl rfl ?_; refine L.no rfl rfl rfl ?_; refine Lpu rfl rfl ?_; refine Lpu rfl rfl ?_; refine L.nil (QE.seq ?_)
  refine C.cond rfl (fun _ => ?_) (fun h => by cases h)
  refine C.seq (C.region ?_); refine L.step (Ev.build rfl rfl rfl rfl rfl rfl rfl) rfl ?_; refine L.storeA (j := 1) rfl rfl rfl rfl rfl (Nat.zero_lt_succ _) rfl rfl ?_; refine Lpu rfl rfl ?_; refine Lpu rfl rfl ?_; refine L.nil (QE.seq (C.ret (QE.bR (QE.tR ?_)))); refine QE.more (r := Rd none []) (Has.nil) ?_; refine QE.ret (js := [0]) (hs := []) (vs := [_, _, _]) rfl ⟨⟨_, _, 0, _, rfl, rfl, Src.o 1 rfl, .inl ⟨rfl, by decide, _, rfl, rfl, rfl⟩⟩, rfl, rfl, trivial⟩ (by decide) ?_
  refine ⟨none, 0, ?_, ?_, rfl⟩
  · rw [nextF_1 (.inl hno)]; rfl
  · rw [nextF_1 (.inl hno)]; rfl
 ·
  have hyes : (findF f y.a y.b).found = true := by rw [← findP_found]; simpa using hg25
  have hfd := findF_fnd hyes
  rw [← findP_eq hyes] at hfd
  have hg := hfd.gen
  have hft := fitsF_ok hfd.fits
  have hso := hfd.oth
  have hfr := hfd.free
  have hpl := plcs_le hok
  have hlp := lgP_eq hyes
  have hrow := orows (findP f y.a y.b).oth.toNat (by omega)
  have hcp := hcap (findP f y.a y.b).oth.toNat (by omega)
  refine L.yes rfl ?_; refine Lpu rfl rfl ?_; refine L.yes rfl ?_; refine L.step (Ev.eqNil rfl rfl rfl rfl) rfl ?_; refine Lpu rfl rfl ?_; refine Lpu rfl rfl ?_; refine L.nil (QE.seq ?_)
  refine C.condB 22 rfl (fun hc22 => ?_) (fun hc22 => ?_)
  ·
   have hno : rightS s = false := by rw [← hsome]; cases SO with | none => rfl | some _ => cases hc22
   refine C.seq (C.region ?_); refine L.step (Ev.build rfl rfl rfl rfl rfl rfl rfl) rfl ?_; refine L.storeA (j := 1) rfl rfl rfl rfl rfl (Nat.zero_lt_succ _) rfl rfl ?_; refine Lpu rfl rfl ?_; refine Lpu rfl rfl ?_; refine L.nil (QE.seq (C.ret (QE.bR (QE.tR ?_)))); refine QE.more (r := Rd none []) (Has.nil) ?_; refine QE.ret (js := [0]) (hs := []) (vs := [_, _, _]) rfl ⟨⟨_, _, 0, _, rfl, rfl, Src.o 1 rfl, .inl ⟨rfl, by decide, _, rfl, rfl, rfl⟩⟩, rfl, rfl, trivial⟩ (by decide) ?_
   refine ⟨none, 0, ?_, ?_, rfl⟩
   · rw [nextF_1 (.inr hno)]; rfl
   · rw [nextF_1 (.inr hno)]; rfl
  ·
   have hright : rightS s = true := by rw [← hsome]; cases SO with | none => cases hc22 | some _ => rfl
   have hfit : 8 + (slotF s).length ≤ f.size := slot_fit hft.2.2.2.2.2
   have hwl : (contF f.size ((findP f y.a y.b).gen + 1) (slotF s)).length = f.size := contF_len hfit
   have hw0 : (contF f.size 0 (slotF s)).length = f.size := contF_len hfit
   refine C.seq (C.region ?_); refine L.step (Ev.fieldAddr rfl rfl rfl rfl rfl rfl (Src.r 0 rfl) (Nat.zero_lt_succ _) rfl) rfl ?_; refine L.step (Ev.loadA rfl rfl rfl (Src.r 0 rfl) rfl rfl (by decide)) rfl ?_; refine L.step (Ev.loadA rfl rfl rfl (Src.r 1 rfl) rfl rfl (by decide)) rfl ?_; refine L.step (Ev.eqS9 (xs := (findP f y.a y.b).s) rfl rfl (by kernel_rfl) (by kernel_rfl) rfl rfl rfl rfl (findP_len ..) hs) rfl ?_; refine Lpu rfl rfl ?_; refine L.nil (QE.seq ?_)
   refine C.condB 30 rfl (fun hc30 => ?_) (fun hc30 => ?_)
   ·
    replace hc30 := eq_of_beq hc30
    refine C.seq (C.region ?_); refine L.step (Ev.build rfl rfl rfl rfl rfl rfl rfl) rfl ?_; refine L.storeA (j := 1) rfl rfl rfl rfl rfl (Nat.zero_lt_succ _) rfl rfl ?_; refine Lpu rfl rfl ?_; refine Lpu rfl rfl ?_; refine L.nil (QE.seq (C.ret (QE.bR (QE.tR ?_)))); refine QE.more (r := Rd none []) (Has.nil) ?_; refine QE.ret (js := [0]) (hs := []) (vs := [_, _, _]) rfl ⟨⟨_, _, 0, _, rfl, rfl, Src.o 1 rfl, .inl ⟨rfl, by decide, _, rfl, rfl, rfl⟩⟩, rfl, rfl, trivial⟩ (by decide) ?_
    refine ⟨none, 0, ?_, ?_, rfl⟩
    · rw [nextF_2 (show (findP f y.a y.b) = findF f y.a y.b from findP_eq hyes) (show (findP f y.a y.b).found = true by rw [findP_eq hyes]; exact hyes) hright hc30]; rfl
    · rw [nextF_2 (show (findP f y.a y.b) = findF f y.a y.b from findP_eq hyes) (show (findP f y.a y.b).found = true by rw [findP_eq hyes]; exact hyes) hright hc30]; rfl
   ·
    have hne := ne_of_beq_false hc30
    refine C.seq (C.region ?_); refine L.step (Ev.fieldAddr rfl rfl rfl rfl rfl rfl (Src.r 0 rfl) (Nat.zero_lt_succ _) rfl) rfl ?_; refine L.step (Ev.load rfl rfl rfl (Src.r 0 rfl) rfl) rfl ?_; refine L.step (Ev.fieldAddr rfl rfl rfl rfl rfl rfl (Src.r 0 rfl) (Nat.zero_lt_succ _) rfl) rfl ?_; refine L.step (Ev.load rfl rfl rfl (Src.r 0 rfl) rfl) rfl ?_; refine Lpu rfl rfl ?_; refine Lpu rfl rfl ?_; refine L.nil (QE.seq ?_)
    refine C.condB 36 rfl (fun hc36 => ?_) (fun hc36 => ?_)
    ·
     replace hc36 := of_decide_eq_true hc36
     have hlt : (findP f y.a y.b).free < plcs f := by omega
     refine C.seq ?_; refine C.freeze 0 rfl [1] (by decide) (by decide) ?_; refine C.norm (H' := [_]) [0] ⟨rfl, trivial⟩ (by decide) ?_; refine C.region ?_; refine L.step (Ev.loadA rfl rfl rfl (Src.r 4 rfl) rfl rfl (by decide)) rfl ?_; refine L.step (Ev.fieldAddr rfl rfl rfl rfl rfl rfl (Src.r 1 rfl) (Nat.zero_lt_succ _) rfl) rfl ?_; refine L.step (Ev.load rfl rfl rfl (Src.r 1 rfl) rfl) rfl ?_; refine L.step (Ev.fieldAddr rfl rfl rfl rfl rfl rfl (Src.r 1 rfl) (Nat.zero_lt_succ _) rfl) rfl ?_; refine L.step (Ev.load rfl rfl rfl (Src.r 1 rfl) rfl) rfl ?_; refine L.step (Ev.mul rfl rfl (by omega) (by omega)) rfl ?_; refine L.step (Ev.add rfl rfl (by omega) (by omega)) rfl ?_; refine Lpu rfl rfl ?_; refine L.callR (js := []) (js' := [0]) (progP_c f a hok hh (findP f y.a y.b).sec (8 + 30 * ((findP f y.a y.b).free : Int)) (slotF s) SO sc hfd.sec) rfl rfl rfl (by decide) (Hq [5, 6, 7, 8, 0] rfl) rfl ?_
     rintro _ _ _ ⟨PO, pc, rfl, rfl, rfl⟩
     refine L.norm (H' := [_]) [0] ⟨rfl, trivial⟩ (by decide) ?_; refine Lpu rfl rfl ?_; refine Lpu rfl rfl ?_; refine Lpu rfl rfl ?_; refine L.storeA (j := 0) rfl rfl rfl rfl rfl (Nat.zero_lt_succ _) rfl rfl ?_; refine Lpu rfl rfl ?_; refine Lpu rfl rfl ?_; refine L.nil (QE.seq (C.ret (QE.bR (QE.tR ?_)))); refine QE.ret (js := [0]) (hs := []) (vs := [_, _, _]) rfl ⟨⟨_, _, 0, _, rfl, rfl, Src.o 0 rfl, .inl ⟨rfl, by decide, _, rfl, rfl, rfl⟩⟩, rfl, rfl, trivial⟩ (by decide) ?_
     refine ⟨PO, pc, ?_, ?_, rfl⟩
     · rw [nextF_3 (show (findP f y.a y.b) = findF f y.a y.b from findP_eq hyes) (show (findP f y.a y.b).found = true by rw [findP_eq hyes]; exact hyes) hright hne hlt]; rfl
     · rw [nextF_3 (show (findP f y.a y.b) = findF f y.a y.b from findP_eq hyes) (show (findP f y.a y.b).found = true by rw [findP_eq hyes]; exact hyes) hright hne hlt]; rfl
    ·
     replace hc36 := of_decide_eq_false hc36
     have hlt : ¬(findP f y.a y.b).free < plcs f := by omega
     refine C.skip ?_; refine QE.blkN ?_; refine QE.seq (C.seq ?_); refine C.freeze 0 rfl [1] (by decide) (by decide) ?_; refine C.norm (H' := [_]) [0] ⟨rfl, trivial⟩ (by decide) ?_; refine C.region ?_; refine L.step (Ev.fieldAddr rfl rfl rfl rfl rfl rfl (Src.r 4 rfl) (Nat.zero_lt_succ _) rfl) rfl ?_; refine L.step (Ev.load rfl rfl rfl (Src.r 4 rfl) rfl) rfl ?_; refine L.step (Ev.fieldAddr rfl rfl rfl rfl rfl rfl (Src.r 1 rfl) (Nat.zero_lt_succ _) rfl) rfl ?_; refine L.step (Ev.load rfl rfl rfl (Src.r 1 rfl) rfl) rfl ?_; refine L.step (Ev.cast (u := .int .i64 ((((findP f y.a y.b).gen + 1).toNat : Nat) : Int)) (Ev.add rfl rfl (by omega) (by omega)) (congrArg (Value.int .i64) (by omega))) rfl ?_; refine Lpu rfl rfl ?_; refine L.call (js := []) (js' := [0]) (contP_c f.size ((findP f y.a y.b).gen + 1).toNat SO sc (slotF s) os2 hfit) rfl rfl rfl (by decide) (Hq [0] rfl) rfl ?_
     rintro _ _ _ ⟨WO, wc, rfl, rfl, rfl⟩
     rw [show ((((findP f y.a y.b).gen + 1).toNat : Nat) : Int) = (findP f y.a y.b).gen + 1 from by omega]
     refine L.norm (H' := [_, _]) [0, 1] ⟨rfl, rfl, trivial⟩ (by decide) ?_; refine Lpu rfl rfl ?_; refine L.nil (QE.seq (C.seq ?_)); refine C.freeze 0 rfl [1] (by decide) (by decide) ?_; refine C.norm (H' := [_]) [0] ⟨rfl, trivial⟩ (by decide) ?_; refine C.region ?_; refine L.step (Ev.fieldAddr rfl rfl rfl rfl rfl rfl (Src.r 5 rfl) (Nat.zero_lt_succ _) rfl) rfl ?_; refine L.step (Ev.load rfl rfl rfl (Src.r 5 rfl) rfl) rfl ?_; refine L.step (Ev.fieldAddr rfl rfl rfl rfl rfl rfl (Src.r 2 rfl) (Nat.zero_lt_succ _) rfl) rfl ?_; refine L.step (Ev.load rfl rfl rfl (Src.r 2 rfl) rfl) rfl ?_; refine L.step (Ev.idx1 (k := (findP f y.a y.b).oth.toNat) rfl rfl rfl rfl rfl rfl (by omega) (by omega) (Src.r 6 rfl) (by rw [rowsV_len (by rw [B8_len]; exact hh), B8_len]; omega)) rfl ?_; refine L.step (Ev.load rfl rfl rfl (Src.r 6 rfl) (rows8_get hh (by omega))) rfl ?_; refine Lpu rfl rfl ?_; refine L.nil (QE.seq (C.seq (C.seq ?_))); refine C.regionM [Rd WO (U8 (contF f.size ((findP f y.a y.b).gen + 1) (slotF s))), Rd SO (U8 (slotF s)), Rd A9 [.int .i64 (findP f y.a y.b).sec, .int .i64 (findP f y.a y.b).oth, .int .i64 (findP f y.a y.b).gen, .int .i64 ((findP f y.a y.b).s.getD 0 0), .int .i64 ((findP f y.a y.b).s.getD 1 0), .int .i64 ((findP f y.a y.b).s.getD 2 0), .int .i64 ((findP f y.a y.b).s.getD 3 0), .int .i64 ((findP f y.a y.b).s.getD 4 0), .int .i64 ((findP f y.a y.b).s.getD 5 0), .int .i64 ((findP f y.a y.b).s.getD 6 0), .int .i64 ((findP f y.a y.b).s.getD 7 0), .int .i64 ((findP f y.a y.b).s.getD 8 0), .bool (findP f y.a y.b).found, .int .i64 ((findP f y.a y.b).free : Int), .int .i64 (lgP f y.a y.b : Int), .int .i64 ((findP f y.a y.b).torn : Int)], Rd A5 (st9 s), Rd A4 [.int .i64 y.n, .int .i64 y.a, .int .i64 y.b, .int .i64 y.s0, .int .i64 y.s1, .slice y.T y.tn y.tc, .slice y.U y.un y.uc, .slice y.V y.vn y.vc], Rd A3 [.int .i64 (f.size : Int), .slice a.D f.data.length a.cD, .slice a.W f.wear.length a.cW, .int .i64 f.limit, .slice a.E f.dead.length a.cE], Rd a.D (rowsV a.hs (B8 f.data)), KidsR a.hs (B8 f.data), Rd a.W (I64 f.wear), Rd a.E (Bs f.dead)] (Hq [0, 1, 2, 3, 4, 5, 6, 7, 8, 9] rfl) ?_; refine LM.q 0 rfl (by kernel_rfl) (Ev.pure rfl) rfl (Hq [0, 1, 2, 3, 4, 5, 6, 7, 8, 9] rfl) ?_; refine LM.q 1 rfl (by kernel_rfl) (Ev.cast (u := .slice (subA (a.hs.getD (findP f y.a y.b).oth.toNat (none, 0)).1 (a.hs.getD (findP f y.a y.b).oth.toNat (none, 0)).2 8 1) ((f.data.getD (findP f y.a y.b).oth.toNat []).drop 8).length ((a.hs.getD (findP f y.a y.b).oth.toNat (none, 0)).2 - 8)) (Ev.sliceL (l := 8) rfl rfl rfl rfl rfl rfl (by omega)) (by rw [List.length_drop]; rfl)) rfl (Hq [0, 1, 2, 3, 4, 5, 6, 7, 8, 9] rfl) ?_; refine LM.q 2 rfl (by kernel_rfl) (Ev.pure rfl) rfl (Hq [0, 1, 2, 3, 4, 5, 6, 7, 8, 9] rfl) ?_; refine LM.q 3 rfl (by kernel_rfl) (Ev.cast (u := .slice (subA WO f.size 8 1) ((contF f.size ((findP f y.a y.b).gen + 1) (slotF s)).drop 8).length (f.size - 8)) (Ev.sliceL (l := 8) rfl rfl rfl rfl rfl rfl (by omega)) (by rw [List.length_drop, hwl]; rfl)) rfl (Hq [0, 1, 2, 3, 4, 5, 6, 7, 8, 9] rfl) ?_; refine LM.f 4 rfl (by kernel_rfl) (Hq [0, 1, 2, 3, 4, 5, 6, 7, 8, 9] rfl) ?_; refine L.call (js := []) (js' := [0]) (equal_c (subA (a.hs.getD (findP f y.a y.b).oth.toNat (none, 0)).1 (a.hs.getD (findP f y.a y.b).oth.toNat (none, 0)).2 8 1) (subA WO f.size 8 1) ((a.hs.getD (findP f y.a y.b).oth.toNat (none, 0)).2 - 8) (f.size - 8) ((f.data.getD (findP f y.a y.b).oth.toNat []).drop 8) ((contF f.size ((findP f y.a y.b).gen + 1) (slotF s)).drop 8)) rfl rfl rfl (by decide) ⟨(Has.dropU (((Has.kid 7 rfl (by rw [B8_len]; exact hh) ((findP f y.a y.b).oth.toNat) (by rw [B8_len]; omega)).cast (B8_get _))) (a.hs.getD (findP f y.a y.b).oth.toNat (none, 0)).2 8 (by omega)), (Has.dropU (Has.r 0 rfl) f.size 8 (by omega)), trivial⟩ rfl ?_
     rintro _ _ _ ⟨rfl, rfl, rfl⟩
     refine L.norm (H' := [_]) [0] ⟨rfl, trivial⟩ (by decide) ?_
     refine L.nil (QE.m (by kernel_rfl) ?_)
     refine LM.q 5 rfl (by kernel_rfl) (Ev.pure rfl) rfl (Hq [0, 1, 2, 3, 4, 5, 6, 7, 8, 9] rfl) ?_
     refine LM.bool 72 rfl (fun hg72 => ?_) (fun hg72 => ?_)
     ·
      have heq : ((f.data.getD (findP f y.a y.b).oth.toNat []).drop 8 == (contF f.size ((findP f y.a y.b).gen + 1) (slotF s)).drop 8) = true := hg72
      refine LM.qy 6 rfl (by kernel_rfl) rfl (Ev.pure rfl) rfl (Hq [0, 1, 2, 3, 4, 5, 6, 7, 8, 9] rfl) ?_; refine LM.f 7 rfl (by kernel_rfl) (Hq [0, 1, 2, 3, 4, 5, 6, 7, 8, 9] rfl) ?_; refine L.yes rfl ?_; refine Lpu rfl rfl ?_
      refine L.nil (QE.m (by kernel_rfl) ?_)
      refine LM.f 8 rfl (by kernel_rfl) (Hq [0, 1, 2, 3, 4, 5, 6, 7, 8, 9] rfl) ?_; refine L.yes rfl ?_; refine L.step (Ev.cast (u := .slice WO ((contF f.size ((findP f y.a y.b).gen + 1) (slotF s)).take 8).length f.size) (Ev.sliceH (h := 8) rfl rfl rfl rfl rfl rfl (by omega)) (by rw [List.length_take, hwl, Nat.min_eq_left (by omega)])) rfl ?_
      refine L.nil (QE.m (by kernel_rfl) ?_)
      refine LM.cut [] (by kernel_rfl) (Hq [0, 1, 2, 3, 4, 5, 6, 7, 8, 9] rfl) ?_; refine LM.f 9 rfl (by kernel_rfl) trivial ?_; refine L.yes rfl ?_; refine L.call (js := []) (js' := [0]) (above_c (a.hs.getD (findP f y.a y.b).oth.toNat (none, 0)).1 WO (a.hs.getD (findP f y.a y.b).oth.toNat (none, 0)).2 f.size (f.data.getD (findP f y.a y.b).oth.toNat []) ((contF f.size ((findP f y.a y.b).gen + 1) (slotF s)).take 8) (by rw [List.length_take]; omega) (by rw [List.length_take]; omega)) rfl rfl rfl (by decide) ⟨((Has.kid 7 rfl (by rw [B8_len]; exact hh) ((findP f y.a y.b).oth.toNat) (by rw [B8_len]; omega)).cast (B8_get _)), ((Has.take (Has.r 0 rfl) 8).cast (U8_take _ _)), trivial⟩ rfl ?_
      rintro _ _ _ ⟨rfl, rfl, rfl⟩
      refine L.norm (H' := [_]) [0] ⟨rfl, trivial⟩ (by decide) ?_
      refine L.nil (QE.m (by kernel_rfl) ?_)
      refine LM.f 10 rfl (by kernel_rfl) trivial ?_; refine Lpu rfl rfl ?_
      refine L.nil (QE.m (by kernel_rfl) ?_)
      refine LM.nil (by kernel_rfl) trivial ?_; refine QE.seq ?_
      refine C.condB 77 rfl (fun hc77 => ?_) (fun hc77 => ?_)
      ·
       have hrd : readyB (secR f (findP f y.a y.b).oth) (contF f.size ((findP f y.a y.b).gen + 1) (slotF s)) = true := by unfold readyB secR; rw [hg72, Bool.true_and, ← hc77, List.length_take, hwl, Nat.min_eq_left (by omega)]
       refine C.seq ?_; refine C.regionM [Rd WO (U8 (contF f.size ((findP f y.a y.b).gen + 1) (slotF s))), Rd SO (U8 (slotF s)), Rd A9 [.int .i64 (findP f y.a y.b).sec, .int .i64 (findP f y.a y.b).oth, .int .i64 (findP f y.a y.b).gen, .int .i64 ((findP f y.a y.b).s.getD 0 0), .int .i64 ((findP f y.a y.b).s.getD 1 0), .int .i64 ((findP f y.a y.b).s.getD 2 0), .int .i64 ((findP f y.a y.b).s.getD 3 0), .int .i64 ((findP f y.a y.b).s.getD 4 0), .int .i64 ((findP f y.a y.b).s.getD 5 0), .int .i64 ((findP f y.a y.b).s.getD 6 0), .int .i64 ((findP f y.a y.b).s.getD 7 0), .int .i64 ((findP f y.a y.b).s.getD 8 0), .bool (findP f y.a y.b).found, .int .i64 ((findP f y.a y.b).free : Int), .int .i64 (lgP f y.a y.b : Int), .int .i64 ((findP f y.a y.b).torn : Int)], Rd A5 (st9 s), Rd A4 [.int .i64 y.n, .int .i64 y.a, .int .i64 y.b, .int .i64 y.s0, .int .i64 y.s1, .slice y.T y.tn y.tc, .slice y.U y.un y.uc, .slice y.V y.vn y.vc], Rd A3 [.int .i64 (f.size : Int), .slice a.D f.data.length a.cD, .slice a.W f.wear.length a.cW, .int .i64 f.limit, .slice a.E f.dead.length a.cE], Rd a.D (rowsV a.hs (B8 f.data)), KidsR a.hs (B8 f.data), Rd a.W (I64 f.wear), Rd a.E (Bs f.dead)] (Hq [0, 1, 2, 3, 4, 5, 6, 7, 8, 9] rfl) ?_; refine LM.q 0 rfl (by kernel_rfl) (Ev.loadA rfl rfl rfl (Src.r 5 rfl) rfl rfl (by decide)) rfl (Hq [0, 1, 2, 3, 4, 5, 6, 7, 8, 9] rfl) ?_; refine LM.q 1 rfl (by kernel_rfl) (Ev.fieldAddr rfl rfl rfl rfl rfl rfl (Src.r 2 rfl) (Nat.zero_lt_succ _) rfl) rfl (Hq [0, 1, 2, 3, 4, 5, 6, 7, 8, 9] rfl) ?_; refine LM.q 2 rfl (by kernel_rfl) (Ev.load rfl rfl rfl (Src.r 2 rfl) rfl) rfl (Hq [0, 1, 2, 3, 4, 5, 6, 7, 8, 9] rfl) ?_; refine LM.q 3 rfl (by kernel_rfl) (Ev.pure rfl) rfl (Hq [0, 1, 2, 3, 4, 5, 6, 7, 8, 9] rfl) ?_; refine LM.q 4 rfl (by kernel_rfl) (Ev.cast (u := .slice WO ((contF f.size ((findP f y.a y.b).gen + 1) (slotF s)).take 8).length f.size) (Ev.sliceH (h := 8) rfl rfl rfl rfl rfl rfl (by omega)) (by rw [List.length_take, hwl, Nat.min_eq_left (by omega)])) rfl (Hq [0, 1, 2, 3, 4, 5, 6, 7, 8, 9] rfl) ?_; refine LM.f 5 rfl (by kernel_rfl) (Hq [0, 1, 2, 3, 4, 5, 6, 7, 8, 9] rfl) ?_; refine L.callR (js := []) (js' := [0]) (progP_c f a hok hh (findP f y.a y.b).oth 0 ((contF f.size ((findP f y.a y.b).gen + 1) (slotF s)).take 8) WO f.size hfd.oth) rfl rfl rfl (by decide) ⟨(Has.r 6 rfl), (Has.r 7 rfl), (Has.r 8 rfl), (Has.r 9 rfl), ((Has.take (Has.r 0 rfl) 8).cast (U8_take _ _)), trivial⟩ rfl ?_
       rintro _ _ _ ⟨PO, pc, rfl, rfl, rfl⟩
       refine L.norm (H' := [_]) [0] ⟨rfl, trivial⟩ (by decide) ?_
       refine L.nil (QE.m (by kernel_rfl) ?_)
       refine LM.q 6 rfl (by kernel_rfl) (Ev.pure rfl) rfl (Hq [1, 2, 3, 4, 5, 6, 7, 8, 9, 10] rfl) ?_; refine LM.q 7 rfl (by kernel_rfl) (Ev.pure rfl) rfl (Hq [1, 2, 3, 4, 5, 6, 7, 8, 9, 10] rfl) ?_; refine LM.f 8 rfl (by kernel_rfl) (Hq [1, 2, 3, 4, 5, 6, 7, 8, 9, 10] rfl) ?_; refine Lpu rfl rfl ?_
       refine L.nil (QE.m (by kernel_rfl) ?_)
       refine LM.cut [] (by kernel_rfl) (Hq [1, 2, 3, 4, 5, 6, 7, 8, 9, 10] rfl) ?_; refine LM.f 9 rfl (by kernel_rfl) trivial ?_; refine L.storeA (j := 0) rfl rfl rfl rfl rfl (Nat.zero_lt_succ _) rfl rfl ?_
       refine L.nil (QE.m (by kernel_rfl) ?_)
       refine LM.f 10 rfl (by kernel_rfl) trivial ?_; refine Lpu rfl rfl ?_
       refine L.nil (QE.m (by kernel_rfl) ?_)
       refine LM.f 11 rfl (by kernel_rfl) trivial ?_; refine Lpu rfl rfl ?_
       refine L.nil (QE.m (by kernel_rfl) ?_)
       refine LM.nil (by kernel_rfl) trivial ?_; refine QE.seq (C.ret (QE.tR ?_)); refine QE.ret (js := [0]) (hs := []) (vs := [_, _, _]) rfl ⟨⟨_, _, 0, _, rfl, rfl, Src.o 0 rfl, .inl ⟨rfl, by decide, _, rfl, rfl, rfl⟩⟩, rfl, rfl, trivial⟩ (by decide) ?_
       refine ⟨PO, pc, ?_, ?_, rfl⟩
       · rw [nextF_4 (show (findP f y.a y.b) = findF f y.a y.b from findP_eq hyes) (show (findP f y.a y.b).found = true by rw [findP_eq hyes]; exact hyes) hright hne hlt hrd]; rfl
       · rw [nextF_4 (show (findP f y.a y.b) = findF f y.a y.b from findP_eq hyes) (show (findP f y.a y.b).found = true by rw [findP_eq hyes]; exact hyes) hright hne hlt hrd]; rfl
      ·
       have hrd : readyB (secR f (findP f y.a y.b).oth) (contF f.size ((findP f y.a y.b).gen + 1) (slotF s)) = false := by unfold readyB secR; rw [hg72, Bool.true_and, ← hc77, List.length_take, hwl, Nat.min_eq_left (by omega)]
       refine C.skip (QE.seq (C.seq ?_)); refine C.regionM [Rd WO (U8 (contF f.size ((findP f y.a y.b).gen + 1) (slotF s))), Rd SO (U8 (slotF s)), Rd A9 [.int .i64 (findP f y.a y.b).sec, .int .i64 (findP f y.a y.b).oth, .int .i64 (findP f y.a y.b).gen, .int .i64 ((findP f y.a y.b).s.getD 0 0), .int .i64 ((findP f y.a y.b).s.getD 1 0), .int .i64 ((findP f y.a y.b).s.getD 2 0), .int .i64 ((findP f y.a y.b).s.getD 3 0), .int .i64 ((findP f y.a y.b).s.getD 4 0), .int .i64 ((findP f y.a y.b).s.getD 5 0), .int .i64 ((findP f y.a y.b).s.getD 6 0), .int .i64 ((findP f y.a y.b).s.getD 7 0), .int .i64 ((findP f y.a y.b).s.getD 8 0), .bool (findP f y.a y.b).found, .int .i64 ((findP f y.a y.b).free : Int), .int .i64 (lgP f y.a y.b : Int), .int .i64 ((findP f y.a y.b).torn : Int)], Rd A5 (st9 s), Rd A4 [.int .i64 y.n, .int .i64 y.a, .int .i64 y.b, .int .i64 y.s0, .int .i64 y.s1, .slice y.T y.tn y.tc, .slice y.U y.un y.uc, .slice y.V y.vn y.vc], Rd A3 [.int .i64 (f.size : Int), .slice a.D f.data.length a.cD, .slice a.W f.wear.length a.cW, .int .i64 f.limit, .slice a.E f.dead.length a.cE], Rd a.D (rowsV a.hs (B8 f.data)), KidsR a.hs (B8 f.data), Rd a.W (I64 f.wear), Rd a.E (Bs f.dead)] (Hq [0, 1, 2, 3, 4, 5, 6, 7, 8, 9] rfl) ?_; refine LM.q 0 rfl (by kernel_rfl) (Ev.loadA rfl rfl rfl (Src.r 5 rfl) rfl rfl (by decide)) rfl (Hq [0, 1, 2, 3, 4, 5, 6, 7, 8, 9] rfl) ?_; refine LM.q 1 rfl (by kernel_rfl) (Ev.fieldAddr rfl rfl rfl rfl rfl rfl (Src.r 2 rfl) (Nat.zero_lt_succ _) rfl) rfl (Hq [0, 1, 2, 3, 4, 5, 6, 7, 8, 9] rfl) ?_; refine LM.q 2 rfl (by kernel_rfl) (Ev.load rfl rfl rfl (Src.r 2 rfl) rfl) rfl (Hq [0, 1, 2, 3, 4, 5, 6, 7, 8, 9] rfl) ?_; refine LM.q 3 rfl (by kernel_rfl) (Ev.fieldAddr rfl rfl rfl rfl rfl rfl (Src.r 5 rfl) (Nat.zero_lt_succ _) rfl) rfl (Hq [0, 1, 2, 3, 4, 5, 6, 7, 8, 9] rfl) ?_; refine LM.q 4 rfl (by kernel_rfl) (Ev.load rfl rfl rfl (Src.r 5 rfl) rfl) rfl (Hq [0, 1, 2, 3, 4, 5, 6, 7, 8, 9] rfl) ?_; refine LM.q 5 rfl (by kernel_rfl) (Ev.pure rfl) rfl (Hq [0, 1, 2, 3, 4, 5, 6, 7, 8, 9] rfl) ?_; refine LM.f 6 rfl (by kernel_rfl) (Hq [0, 1, 2, 3, 4, 5, 6, 7, 8, 9] rfl) ?_; refine L.call (js := []) (js' := [0]) (contP_c f.size 0 SO sc (slotF s) os2 hfit) rfl rfl rfl (by decide) (Hq [1] rfl) rfl ?_
       rintro _ _ _ ⟨QO, qc, rfl, rfl, rfl⟩
       refine L.norm (H' := [_, _]) [0, 1] ⟨rfl, rfl, trivial⟩ (by decide) ?_
       refine L.nil (QE.m (by kernel_rfl) ?_)
       refine LM.f 7 rfl (by kernel_rfl) (Hq [0, 1, 2, 3, 4, 5, 6, 7, 8, 9] rfl) ?_; refine L.freeze 0 rfl [1] (by decide) (by decide) ?_; refine L.norm (H' := [_]) [0] ⟨rfl, trivial⟩ (by decide) ?_; refine L.callR (js := []) (js' := [0]) (towP_c2 f a hok hh (findP f y.a y.b).oth (contF f.size 0 (slotF s)) QO f.size f.size hw0 (by omega)) rfl rfl rfl (by decide) (Hq [7, 8, 9, 10, 0] rfl) rfl ?_
       rintro _ _ _ ⟨PO, pc, rfl, rfl, rfl⟩
       refine L.norm (H' := [_]) [0] ⟨rfl, trivial⟩ (by decide) ?_
       refine L.nil (QE.m (by kernel_rfl) ?_)
       refine LM.q 8 rfl (by kernel_rfl) (Ev.pure rfl) rfl (Hq [2, 3, 4, 5, 6, 7, 8, 9, 10, 11] rfl) ?_; refine LM.q 9 rfl (by kernel_rfl) (Ev.pure rfl) rfl (Hq [2, 3, 4, 5, 6, 7, 8, 9, 10, 11] rfl) ?_; refine LM.f 10 rfl (by kernel_rfl) (Hq [2, 3, 4, 5, 6, 7, 8, 9, 10, 11] rfl) ?_; refine Lpu rfl rfl ?_
       refine L.nil (QE.m (by kernel_rfl) ?_)
       refine LM.cut [] (by kernel_rfl) (Hq [2, 3, 4, 5, 6, 7, 8, 9, 10, 11] rfl) ?_; refine LM.f 11 rfl (by kernel_rfl) trivial ?_; refine L.storeA (j := 0) rfl rfl rfl rfl rfl (Nat.zero_lt_succ _) rfl rfl ?_
       refine L.nil (QE.m (by kernel_rfl) ?_)
       refine LM.f 12 rfl (by kernel_rfl) trivial ?_; refine Lpu rfl rfl ?_
       refine L.nil (QE.m (by kernel_rfl) ?_)
       refine LM.f 13 rfl (by kernel_rfl) trivial ?_; refine Lpu rfl rfl ?_
       refine L.nil (QE.m (by kernel_rfl) ?_)
       refine LM.nil (by kernel_rfl) trivial ?_; refine QE.seq (C.ret ?_); refine QE.ret (js := [0]) (hs := []) (vs := [_, _, _]) rfl ⟨⟨_, _, 0, _, rfl, rfl, Src.o 0 rfl, .inl ⟨rfl, by decide, _, rfl, rfl, rfl⟩⟩, rfl, rfl, trivial⟩ (by decide) ?_
       refine ⟨PO, pc, ?_, ?_, rfl⟩
       · rw [nextF_5 (show (findP f y.a y.b) = findF f y.a y.b from findP_eq hyes) (show (findP f y.a y.b).found = true by rw [findP_eq hyes]; exact hyes) hright hne hlt hrd]; rfl
       · rw [nextF_5 (show (findP f y.a y.b) = findF f y.a y.b from findP_eq hyes) (show (findP f y.a y.b).found = true by rw [findP_eq hyes]; exact hyes) hright hne hlt hrd]; rfl
     ·
      have hrd : readyB (secR f (findP f y.a y.b).oth) (contF f.size ((findP f y.a y.b).gen + 1) (slotF s)) = false := by unfold readyB secR; rw [hg72, Bool.false_and]
      refine LM.no 6 rfl (by kernel_rfl) rfl rfl rfl (Hq [0, 1, 2, 3, 4, 5, 6, 7, 8, 9] rfl) ?_; refine LM.f 7 rfl (by kernel_rfl) (Hq [0, 1, 2, 3, 4, 5, 6, 7, 8, 9] rfl) ?_; refine L.no rfl rfl rfl ?_
      refine L.nil (QE.m (by kernel_rfl) ?_)
      refine LM.f 8 rfl (by kernel_rfl) (Hq [0, 1, 2, 3, 4, 5, 6, 7, 8, 9] rfl) ?_; refine L.no rfl rfl rfl ?_
      refine L.nil (QE.m (by kernel_rfl) ?_)
      refine LM.cut [] (by kernel_rfl) (Hq [0, 1, 2, 3, 4, 5, 6, 7, 8, 9] rfl) ?_; refine LM.f 9 rfl (by kernel_rfl) trivial ?_; refine L.no rfl rfl rfl ?_
      refine L.nil (QE.m (by kernel_rfl) ?_)
      refine LM.f 10 rfl (by kernel_rfl) trivial ?_; refine Lpu rfl rfl ?_
      refine L.nil (QE.m (by kernel_rfl) ?_)
      refine LM.nil (by kernel_rfl) trivial ?_; refine QE.seq ?_
      refine C.cond rfl (fun h => by cases h) (fun _ => ?_)
      refine C.skip (QE.seq (C.seq ?_)); refine C.regionM [Rd WO (U8 (contF f.size ((findP f y.a y.b).gen + 1) (slotF s))), Rd SO (U8 (slotF s)), Rd A9 [.int .i64 (findP f y.a y.b).sec, .int .i64 (findP f y.a y.b).oth, .int .i64 (findP f y.a y.b).gen, .int .i64 ((findP f y.a y.b).s.getD 0 0), .int .i64 ((findP f y.a y.b).s.getD 1 0), .int .i64 ((findP f y.a y.b).s.getD 2 0), .int .i64 ((findP f y.a y.b).s.getD 3 0), .int .i64 ((findP f y.a y.b).s.getD 4 0), .int .i64 ((findP f y.a y.b).s.getD 5 0), .int .i64 ((findP f y.a y.b).s.getD 6 0), .int .i64 ((findP f y.a y.b).s.getD 7 0), .int .i64 ((findP f y.a y.b).s.getD 8 0), .bool (findP f y.a y.b).found, .int .i64 ((findP f y.a y.b).free : Int), .int .i64 (lgP f y.a y.b : Int), .int .i64 ((findP f y.a y.b).torn : Int)], Rd A5 (st9 s), Rd A4 [.int .i64 y.n, .int .i64 y.a, .int .i64 y.b, .int .i64 y.s0, .int .i64 y.s1, .slice y.T y.tn y.tc, .slice y.U y.un y.uc, .slice y.V y.vn y.vc], Rd A3 [.int .i64 (f.size : Int), .slice a.D f.data.length a.cD, .slice a.W f.wear.length a.cW, .int .i64 f.limit, .slice a.E f.dead.length a.cE], Rd a.D (rowsV a.hs (B8 f.data)), KidsR a.hs (B8 f.data), Rd a.W (I64 f.wear), Rd a.E (Bs f.dead)] (Hq [0, 1, 2, 3, 4, 5, 6, 7, 8, 9] rfl) ?_; refine LM.q 0 rfl (by kernel_rfl) (Ev.loadA rfl rfl rfl (Src.r 5 rfl) rfl rfl (by decide)) rfl (Hq [0, 1, 2, 3, 4, 5, 6, 7, 8, 9] rfl) ?_; refine LM.q 1 rfl (by kernel_rfl) (Ev.fieldAddr rfl rfl rfl rfl rfl rfl (Src.r 2 rfl) (Nat.zero_lt_succ _) rfl) rfl (Hq [0, 1, 2, 3, 4, 5, 6, 7, 8, 9] rfl) ?_; refine LM.q 2 rfl (by kernel_rfl) (Ev.load rfl rfl rfl (Src.r 2 rfl) rfl) rfl (Hq [0, 1, 2, 3, 4, 5, 6, 7, 8, 9] rfl) ?_; refine LM.q 3 rfl (by kernel_rfl) (Ev.fieldAddr rfl rfl rfl rfl rfl rfl (Src.r 5 rfl) (Nat.zero_lt_succ _) rfl) rfl (Hq [0, 1, 2, 3, 4, 5, 6, 7, 8, 9] rfl) ?_; refine LM.q 4 rfl (by kernel_rfl) (Ev.load rfl rfl rfl (Src.r 5 rfl) rfl) rfl (Hq [0, 1, 2, 3, 4, 5, 6, 7, 8, 9] rfl) ?_; refine LM.q 5 rfl (by kernel_rfl) (Ev.pure rfl) rfl (Hq [0, 1, 2, 3, 4, 5, 6, 7, 8, 9] rfl) ?_; refine LM.f 6 rfl (by kernel_rfl) (Hq [0, 1, 2, 3, 4, 5, 6, 7, 8, 9] rfl) ?_; refine L.call (js := []) (js' := [0]) (contP_c f.size 0 SO sc (slotF s) os2 hfit) rfl rfl rfl (by decide) (Hq [1] rfl) rfl ?_
      rintro _ _ _ ⟨QO, qc, rfl, rfl, rfl⟩
      refine L.norm (H' := [_, _]) [0, 1] ⟨rfl, rfl, trivial⟩ (by decide) ?_
      refine L.nil (QE.m (by kernel_rfl) ?_)
      refine LM.f 7 rfl (by kernel_rfl) (Hq [0, 1, 2, 3, 4, 5, 6, 7, 8, 9] rfl) ?_; refine L.freeze 0 rfl [1] (by decide) (by decide) ?_; refine L.norm (H' := [_]) [0] ⟨rfl, trivial⟩ (by decide) ?_; refine L.callR (js := []) (js' := [0]) (towP_c2 f a hok hh (findP f y.a y.b).oth (contF f.size 0 (slotF s)) QO f.size f.size hw0 (by omega)) rfl rfl rfl (by decide) (Hq [7, 8, 9, 10, 0] rfl) rfl ?_
      rintro _ _ _ ⟨PO, pc, rfl, rfl, rfl⟩
      refine L.norm (H' := [_]) [0] ⟨rfl, trivial⟩ (by decide) ?_
      refine L.nil (QE.m (by kernel_rfl) ?_)
      refine LM.q 8 rfl (by kernel_rfl) (Ev.pure rfl) rfl (Hq [2, 3, 4, 5, 6, 7, 8, 9, 10, 11] rfl) ?_; refine LM.q 9 rfl (by kernel_rfl) (Ev.pure rfl) rfl (Hq [2, 3, 4, 5, 6, 7, 8, 9, 10, 11] rfl) ?_; refine LM.f 10 rfl (by kernel_rfl) (Hq [2, 3, 4, 5, 6, 7, 8, 9, 10, 11] rfl) ?_; refine Lpu rfl rfl ?_
      refine L.nil (QE.m (by kernel_rfl) ?_)
      refine LM.cut [] (by kernel_rfl) (Hq [2, 3, 4, 5, 6, 7, 8, 9, 10, 11] rfl) ?_; refine LM.f 11 rfl (by kernel_rfl) trivial ?_; refine L.storeA (j := 0) rfl rfl rfl rfl rfl (Nat.zero_lt_succ _) rfl rfl ?_
      refine L.nil (QE.m (by kernel_rfl) ?_)
      refine LM.f 12 rfl (by kernel_rfl) trivial ?_; refine Lpu rfl rfl ?_
      refine L.nil (QE.m (by kernel_rfl) ?_)
      refine LM.f 13 rfl (by kernel_rfl) trivial ?_; refine Lpu rfl rfl ?_
      refine L.nil (QE.m (by kernel_rfl) ?_)
      refine LM.nil (by kernel_rfl) trivial ?_; refine QE.seq (C.ret ?_); refine QE.ret (js := [0]) (hs := []) (vs := [_, _, _]) rfl ⟨⟨_, _, 0, _, rfl, rfl, Src.o 0 rfl, .inl ⟨rfl, by decide, _, rfl, rfl, rfl⟩⟩, rfl, rfl, trivial⟩ (by decide) ?_
      refine ⟨PO, pc, ?_, ?_, rfl⟩
      · rw [nextF_5 (show (findP f y.a y.b) = findF f y.a y.b from findP_eq hyes) (show (findP f y.a y.b).found = true by rw [findP_eq hyes]; exact hyes) hright hne hlt hrd]; rfl
      · rw [nextF_5 (show (findP f y.a y.b) = findF f y.a y.b from findP_eq hyes) (show (findP f y.a y.b).found = true by rw [findP_eq hyes]; exact hyes) hright hne hlt hrd]; rfl

end Go.Proofs.Ytmbjknampholjaa
