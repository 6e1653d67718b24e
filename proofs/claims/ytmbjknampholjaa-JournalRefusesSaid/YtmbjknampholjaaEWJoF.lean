/-
  The contracts of the reference: Slot, State, Fits, Places, Blank, generation.
-/
import Derived.Test.YtmbjknampholjaaEWJoE
namespace Go.Proofs.Ytmbjknampholjaa
open Go.Sl

theorem same_w (A B : Option Addr) (c d : Nat) (xs ys : List UInt8) (m : Nat) (hm : ys.length = m) (h1 : xs.length ≤ 9223372036854775807) (h2 : ys.length ≤ 9223372036854775807) :
   Ctr X 14 [.slice A xs.length c, .slice B m d] [Rd A (U8 xs), Rd B (U8 ys)] [] (fun v R' H' => v = .bool (xs == ys) ∧ R' = [] ∧ H' = []) := by
 subst hm
 exact same_c A B c d xs ys h1 h2

theorem slotR_c (s : List Int) :
   Ctr X 16 [.agg (List.toArray (st9 s))] [] [] (fun v R' H' => ∃ (O : Option Addr) (oc : Nat), v = .slice O (slotF s).length oc ∧ R' = [] ∧ H' = [Own 5 1 O (slotF s).length oc (U8 (slotF s))]) := by
 refine Ctr.of (X := X) (fn := Try.f16) Try.func16 rfl (by kernel_rfl) rfl ?_
 intro β
 refine C.seq (C.region ?_)
 refine L.boxA rfl rfl (fun A1 => ?_)
 refine Lpu rfl rfl ?_; refine L.nil (QE.seq (C.seq (C.seq ?_))); refine C.freeze 0 rfl [] (by decide) (by decide) ?_; refine C.region ?_; refine L.step (Ev.loadA rfl rfl rfl (Src.r 0 rfl) rfl rfl (by decide)) rfl ?_; refine L.call (js := []) (js' := []) (rightR_c s) rfl rfl rfl (by decide) trivial rfl ?_
 rintro _ _ _ ⟨rfl, rfl, rfl⟩
 refine Lpu rfl rfl ?_; refine L.nil (QE.seq ?_)
 refine C.condB 6 rfl (fun hc6 => ?_) (fun hc6 => ?_)
 ·
  have hno : rightS s = false := by simpa using hc6
  refine C.seq (C.region ?_)
  refine L.lit rfl rfl rfl rfl rfl (by rfl) (by rfl) (by rfl) rfl rfl (fun A7 => ?_)
  refine Lpu rfl rfl ?_; refine L.nil (QE.seq (C.ret (QE.tR ?_))); refine QE.ret (js := []) (hs := [0]) (vs := [_]) rfl ⟨rfl, trivial⟩ (by decide) ?_
  exact ⟨A7, 0, by rw [slotF_no hno]; rfl, rfl, by rw [slotF_no hno]; rfl⟩
 ·
  have hyes : rightS s = true := by simpa using hc6
  have hr := fun k (hk : k < 9) => rightS_get hyes hk
  refine C.skip (QE.seq (C.seq ?_)); refine C.join (fun q : Option Addr × Nat => [(1, ptrOf A1 0), (3, .slice q.1 3 q.2)]) (fun q : Option Addr × Nat => [Rd A1 (st9 s)]) (fun q : Option Addr × Nat => [Own 5 1 q.1 3 q.2 (U8 ([UInt8.ofInt (s.getD 0 0)] ++ numB (s.getD 1 0).toNat 2))]) (fun q : Option Addr × Nat => True) ?_ ?_
  ·
   refine C.regionM [Rd A1 (st9 s)] (Hq [0] rfl) ?_; refine LM.q 0 rfl (by kernel_rfl) (Ev.fieldAddr rfl rfl rfl rfl rfl rfl (Src.r 0 rfl) (Nat.zero_lt_succ _) rfl) rfl (Hq [0] rfl) ?_; refine LM.q 1 rfl (by kernel_rfl) (Ev.load rfl rfl rfl (Src.r 0 rfl) rfl) rfl (Hq [0] rfl) ?_; refine LM.q 2 rfl (by kernel_rfl) (Ev.toByte rfl rfl rfl rfl) rfl (Hq [0] rfl) ?_; refine LM.q 4 rfl (by kernel_rfl) (Ev.fieldAddr rfl rfl rfl rfl rfl rfl (Src.r 0 rfl) (Nat.zero_lt_succ _) rfl) rfl (Hq [0] rfl) ?_; refine LM.q 5 rfl (by kernel_rfl) (Ev.cast (u := .int .i64 (((s.getD 1 0).toNat : Nat) : Int)) (Ev.load rfl rfl rfl (Src.r 0 rfl) rfl) (congrArg (Value.int .i64) (Int.toNat_of_nonneg (hr 1 (by decide)).1).symm)) rfl (Hq [0] rfl) ?_
   refine LM.alt [3, 6] (by kernel_rfl) (by decide) (Hq [0] rfl) ⟨⟨_, rfl, ?_⟩, ⟨_, rfl, ?_⟩, trivial⟩
   ·
    refine L.lit rfl rfl rfl rfl rfl (by rfl) (by rfl) (by rfl) rfl rfl (fun A11 => ?_)
    refine L.nil (QE.m (by kernel_rfl) ?_)
    refine LM.f 6 rfl (by kernel_rfl) (Hq [0] rfl) ?_; refine L.call (js := []) (js' := [0]) (numberR_c (s.getD 1 0).toNat 2 (by decide)) rfl rfl rfl (by decide) trivial rfl ?_
    rintro _ _ _ ⟨N, nc, rfl, rfl, rfl⟩
    refine L.nil (QE.m (by kernel_rfl) ?_)
    refine LM.cut [] (by kernel_rfl) (Hq [0] rfl) ?_; refine LM.f 7 rfl (by kernel_rfl) trivial ?_
    refine L.append (j := 1) rfl rfl rfl rfl (by decide) rfl rfl rfl rfl (Src.o 0 rfl) (by rw [U8_len, numB_len]; rfl) (U8_one _) (by omega) (by show _ * 1 ≤ _; omega) rfl (fun A15 cc15 => ?_)
    refine L.nil (QE.m (by kernel_rfl) ?_)
    refine LM.f 8 rfl (by kernel_rfl) trivial ?_; refine Lpu rfl rfl ?_
    refine L.nil (QE.m (by kernel_rfl) ?_)
    refine LM.nil (by kernel_rfl) trivial ?_
    refine QE.joined ((A15, cc15)) (by exact trivial) (by exact Le.mk' (rs := [0]) (hs := [1]) ⟨rfl, rfl, trivial⟩ ⟨rfl, trivial⟩ ⟨(by rw [← U8_app]; rfl), trivial⟩ (by decide))
   ·
    refine L.call (js := []) (js' := []) (numberR_c (s.getD 1 0).toNat 2 (by decide)) rfl rfl rfl (by decide) trivial rfl ?_
    rintro _ _ _ ⟨N, nc, rfl, rfl, rfl⟩
    refine L.nil (QE.m (by kernel_rfl) ?_)
    refine LM.f 3 rfl (by kernel_rfl) (Hq [0] rfl) ?_
    refine L.lit rfl rfl rfl rfl rfl (by rfl) (by rfl) (by rfl) rfl rfl (fun A11 => ?_)
    refine L.nil (QE.m (by kernel_rfl) ?_)
    refine LM.cut [] (by kernel_rfl) (Hq [0] rfl) ?_; refine LM.f 7 rfl (by kernel_rfl) trivial ?_
    refine L.append (j := 1) rfl rfl rfl rfl (by decide) rfl rfl rfl rfl (Src.o 0 rfl) (by rw [U8_len, numB_len]; rfl) (U8_one _) (by omega) (by show _ * 1 ≤ _; omega) rfl (fun A15 cc15 => ?_)
    refine L.nil (QE.m (by kernel_rfl) ?_)
    refine LM.f 8 rfl (by kernel_rfl) trivial ?_; refine Lpu rfl rfl ?_
    refine L.nil (QE.m (by kernel_rfl) ?_)
    refine LM.nil (by kernel_rfl) trivial ?_
    refine QE.joined ((A15, cc15)) (by exact trivial) (by exact Le.mk' (rs := [0]) (hs := [1]) ⟨rfl, rfl, trivial⟩ ⟨rfl, trivial⟩ ⟨(by rw [← U8_app]; rfl), trivial⟩ (by decide))
  ·
   rintro ⟨A15, cc15⟩ _
   dsimp only
   refine QE.seq (C.seq (C.region ?_)); refine Lpu rfl rfl ?_; refine L.step (Ev.fieldAddr rfl rfl rfl rfl rfl rfl (Src.r 0 rfl) (Nat.zero_lt_succ _) rfl) rfl ?_; refine L.step (Ev.load rfl rfl rfl (Src.r 0 rfl) rfl) rfl ?_; refine L.step (Ev.toByte rfl rfl rfl rfl) rfl ?_
   refine L.lit rfl rfl rfl rfl rfl (by rfl) (by rfl) (by rfl) rfl rfl (fun A20 => ?_)
   refine L.append (j := 0) rfl rfl rfl rfl (by decide) rfl rfl rfl rfl (Src.o 1 rfl) rfl (by intro v hv; simp at hv; subst hv; rfl) (by omega) (by show _ * 1 ≤ _; omega) rfl (fun A21 cc21 => ?_)
   refine Lpu rfl rfl ?_; refine L.nil (QE.seq (C.seq (C.region ?_))); refine Lpu rfl rfl ?_; refine L.step (Ev.fieldAddr rfl rfl rfl rfl rfl rfl (Src.r 0 rfl) (Nat.zero_lt_succ _) rfl) rfl ?_; refine L.step (Ev.cast (u := .int .i64 (((s.getD 3 0).toNat : Nat) : Int)) (Ev.load rfl rfl rfl (Src.r 0 rfl) rfl) (congrArg (Value.int .i64) (Int.toNat_of_nonneg (hr 3 (by decide)).1).symm)) rfl ?_; refine L.call (js := []) (js' := [0, 1]) (numberR_c (s.getD 3 0).toNat 4 (by decide)) rfl rfl rfl (by decide) trivial rfl ?_
   rintro _ _ _ ⟨N, nc, rfl, rfl, rfl⟩
   refine L.append (j := 1) rfl rfl rfl rfl (by decide) rfl rfl rfl rfl (Src.o 0 rfl) (by rw [U8_len, numB_len]; rfl) (U8_one _) (by omega) (by show _ * 1 ≤ _; omega) rfl (fun A26 cc26 => ?_)
   refine Lpu rfl rfl ?_; refine L.nil (QE.seq (C.seq (C.region ?_))); refine Lpu rfl rfl ?_; refine L.step (Ev.fieldAddr rfl rfl rfl rfl rfl rfl (Src.r 0 rfl) (Nat.zero_lt_succ _) rfl) rfl ?_; refine L.step (Ev.load rfl rfl rfl (Src.r 0 rfl) rfl) rfl ?_; refine L.step (Ev.toByte rfl rfl rfl rfl) rfl ?_; refine L.step (Ev.fieldAddr rfl rfl rfl rfl rfl rfl (Src.r 0 rfl) (Nat.zero_lt_succ _) rfl) rfl ?_; refine L.step (Ev.load rfl rfl rfl (Src.r 0 rfl) rfl) rfl ?_; refine L.step (Ev.toByte rfl rfl rfl rfl) rfl ?_; refine L.step (Ev.fieldAddr rfl rfl rfl rfl rfl rfl (Src.r 0 rfl) (Nat.zero_lt_succ _) rfl) rfl ?_; refine L.step (Ev.load rfl rfl rfl (Src.r 0 rfl) rfl) rfl ?_; refine L.step (Ev.toByte rfl rfl rfl rfl) rfl ?_
   refine L.lit rfl rfl rfl rfl rfl (by rfl) (by rfl) (by rfl) rfl rfl (fun A37 => ?_)
   refine L.append (j := 1) rfl rfl rfl rfl (by decide) rfl rfl rfl rfl (Src.o 3 rfl) rfl (by intro v hv; simp at hv; rcases hv with rfl | rfl | rfl <;> rfl) (by omega) (by show _ * 1 ≤ _; omega) rfl (fun A38 cc38 => ?_)
   refine Lpu rfl rfl ?_; refine L.nil (QE.seq (C.seq (C.region ?_))); refine Lpu rfl rfl ?_; refine L.step (Ev.fieldAddr rfl rfl rfl rfl rfl rfl (Src.r 0 rfl) (Nat.zero_lt_succ _) rfl) rfl ?_; refine L.step (Ev.cast (u := .int .i64 (((s.getD 7 0).toNat : Nat) : Int)) (Ev.load rfl rfl rfl (Src.r 0 rfl) rfl) (congrArg (Value.int .i64) (Int.toNat_of_nonneg (hr 7 (by decide)).1).symm)) rfl ?_; refine L.call (js := []) (js' := [0, 1, 2, 3]) (numberR_c (s.getD 7 0).toNat 2 (by decide)) rfl rfl rfl (by decide) trivial rfl ?_
   rintro _ _ _ ⟨N, nc, rfl, rfl, rfl⟩
   refine L.append (j := 2) rfl rfl rfl rfl (by decide) rfl rfl rfl rfl (Src.o 0 rfl) (by rw [U8_len, numB_len]; rfl) (U8_one _) (by omega) (by show _ * 1 ≤ _; omega) rfl (fun A43 cc43 => ?_)
   refine Lpu rfl rfl ?_; refine L.nil (QE.seq (C.seq (C.region ?_))); refine Lpu rfl rfl ?_; refine L.step (Ev.fieldAddr rfl rfl rfl rfl rfl rfl (Src.r 0 rfl) (Nat.zero_lt_succ _) rfl) rfl ?_; refine L.step (Ev.cast (u := .int .i64 (((s.getD 8 0).toNat : Nat) : Int)) (Ev.load rfl rfl rfl (Src.r 0 rfl) rfl) (congrArg (Value.int .i64) (Int.toNat_of_nonneg (hr 8 (by decide)).1).symm)) rfl ?_; refine L.call (js := []) (js' := [0, 1, 2, 3, 4]) (numberR_c (s.getD 8 0).toNat 2 (by decide)) rfl rfl rfl (by decide) trivial rfl ?_
   rintro _ _ _ ⟨N, nc, rfl, rfl, rfl⟩
   refine L.append (j := 3) rfl rfl rfl rfl (by decide) rfl rfl rfl rfl (Src.o 0 rfl) (by rw [U8_len, numB_len]; rfl) (U8_one _) (by omega) (by show _ * 1 ≤ _; omega) rfl (fun A48 cc48 => ?_)
   refine Lpu rfl rfl ?_; refine L.nil (QE.seq (C.seq (C.region ?_))); refine Lpu rfl rfl ?_; refine L.call (js := []) (js' := [0, 1, 2, 3, 4, 5]) (codeR_c A48 cc48 (slot15 s) (by rw [show (slot15 s).length = 15 from rfl]; decide)) rfl rfl rfl (by decide) ⟨(((Has.o 3 rfl)).cast (by simp [slot15, U8])), trivial⟩ rfl ?_
   rintro _ _ _ ⟨O, oc, rfl, rfl, rfl⟩
   refine Lpu rfl rfl ?_; refine L.nil (QE.seq (C.ret ?_)); refine QE.ret (js := []) (hs := [0]) (vs := [_]) rfl ⟨rfl, trivial⟩ (by decide) ?_
   exact ⟨O, oc, by rw [slotF_yes hyes, ← slot15_eq hyes]; rfl, rfl, by rw [slotF_yes hyes, ← slot15_eq hyes]; rfl⟩

theorem fitsR_c (f : Fl) (a : Fa) (ok : f.Ok) (_hh : a.hs.length = f.data.length) (y : Ly) :
   Ctr X 52 [.agg (List.toArray [.int .i64 (f.size : Int), .slice a.D f.data.length a.cD, .slice a.W f.wear.length a.cW, .int .i64 f.limit, .slice a.E f.dead.length a.cE]), .agg (List.toArray [.int .i64 y.n, .int .i64 y.a, .int .i64 y.b, .int .i64 y.s0, .int .i64 y.s1, .slice y.T y.tn y.tc, .slice y.U y.un y.uc, .slice y.V y.vn y.vc])] [Rd a.D (rowsV a.hs (B8 f.data)), KidsR a.hs (B8 f.data), Rd a.W (I64 f.wear), Rd a.E (Bs f.dead)] [] (fun v R' H' => v = .bool (fitsF f y.a y.b) ∧ R' = [] ∧ H' = []) := by
 obtain ⟨os1, os2, on1, on2, owl, odl, orows, ol1, ol2, owear⟩ := ok
 refine Ctr.of (X := X) (fn := Try.f52) Try.func52 rfl (by kernel_rfl) rfl ?_
 intro β
 refine C.seq (C.region ?_)
 refine L.boxA rfl rfl (fun A2 => ?_)
 refine L.boxA rfl rfl (fun A3 => ?_)
 refine Lpu rfl rfl ?_; refine L.nil (QE.seq (C.seq ?_)); refine C.freeze 0 rfl [1] (by decide) (by decide) ?_; refine C.freeze 0 rfl [] (by decide) (by decide) ?_; refine C.region ?_; refine L.step (Ev.fieldAddr rfl rfl rfl rfl rfl rfl (Src.r 1 rfl) (Nat.zero_lt_succ _) rfl) rfl ?_; refine L.step (Ev.load rfl rfl rfl (Src.r 1 rfl) rfl) rfl ?_; refine Lpu rfl rfl ?_; refine L.step (Ev.sub rfl rfl (by omega) (by omega)) rfl ?_; refine Lpu rfl rfl ?_; refine L.nil (QE.seq (C.seq (C.region ?_))); refine L.step (Ev.fieldAddr rfl rfl rfl rfl rfl rfl (Src.r 0 rfl) (Nat.zero_lt_succ _) rfl) rfl ?_; refine L.step (Ev.idxArr (k := 0) (m := 1) rfl rfl rfl rfl rfl rfl (by decide) (Src.r 0 rfl) (by exact Nat.zero_lt_succ _) rfl) rfl ?_; refine L.step (Ev.load rfl rfl rfl (Src.r 0 rfl) rfl) rfl ?_; refine Lpu rfl rfl ?_; refine L.call (js := []) (js' := []) (in_c _ _ _) rfl rfl rfl (by decide) trivial rfl ?_
 rintro _ _ _ ⟨rfl, rfl, rfl⟩
 refine Lpu rfl rfl ?_
 refine L.bool 15 rfl (fun hg15 => ?_) (fun hg15 => ?_)
 ·
  have q15 : 0 ≤ y.a ∧ y.a ≤ (f.data.length : Int) - 1 := by simp at hg15; omega
  refine L.yes rfl ?_; refine L.step (Ev.fieldAddr rfl rfl rfl rfl rfl rfl (Src.r 0 rfl) (Nat.zero_lt_succ _) rfl) rfl ?_; refine L.yes rfl ?_; refine L.step (Ev.idxArr (k := 1) (m := 2) rfl rfl rfl rfl rfl rfl (by decide) (Src.r 0 rfl) (by exact Nat.zero_lt_succ _) rfl) rfl ?_; refine L.yes rfl ?_; refine L.step (Ev.load rfl rfl rfl (Src.r 0 rfl) rfl) rfl ?_; refine L.yes rfl ?_; refine Lpu rfl rfl ?_; refine L.yes rfl ?_; refine L.call (js := []) (js' := []) (in_c _ _ _) rfl rfl rfl (by decide) trivial rfl ?_
  rintro _ _ _ ⟨rfl, rfl, rfl⟩
  refine Lpu rfl rfl ?_; refine Lpu rfl rfl ?_
  refine L.bool 22 rfl (fun hg22 => ?_) (fun hg22 => ?_)
  ·
   have q22 : 0 ≤ y.b ∧ y.b ≤ (f.data.length : Int) - 1 := by simp at hg22; omega
   refine L.yes rfl ?_; refine L.step (Ev.fieldAddr rfl rfl rfl rfl rfl rfl (Src.r 0 rfl) (Nat.zero_lt_succ _) rfl) rfl ?_; refine L.yes rfl ?_; refine L.step (Ev.idxArr (k := 0) (m := 1) rfl rfl rfl rfl rfl rfl (by decide) (Src.r 0 rfl) (by exact Nat.zero_lt_succ _) rfl) rfl ?_; refine L.yes rfl ?_; refine L.step (Ev.load rfl rfl rfl (Src.r 0 rfl) rfl) rfl ?_; refine L.yes rfl ?_; refine L.step (Ev.fieldAddr rfl rfl rfl rfl rfl rfl (Src.r 0 rfl) (Nat.zero_lt_succ _) rfl) rfl ?_; refine L.yes rfl ?_; refine L.step (Ev.idxArr (k := 1) (m := 2) rfl rfl rfl rfl rfl rfl (by decide) (Src.r 0 rfl) (by exact Nat.zero_lt_succ _) rfl) rfl ?_; refine L.yes rfl ?_; refine L.step (Ev.load rfl rfl rfl (Src.r 0 rfl) rfl) rfl ?_; refine L.yes rfl ?_; refine Lpu rfl rfl ?_; refine Lpu rfl rfl ?_; refine Lpu rfl rfl ?_
   refine L.bool 31 rfl (fun hg31 => ?_) (fun hg31 => ?_)
   ·
    replace hg31 := b_ne hg31
    refine L.yes rfl ?_; refine L.step (Ev.fieldAddr rfl rfl rfl rfl rfl rfl (Src.r 1 rfl) (Nat.zero_lt_succ _) rfl) rfl ?_; refine L.yes rfl ?_; refine L.step (Ev.load rfl rfl rfl (Src.r 1 rfl) rfl) rfl ?_; refine L.yes rfl ?_; refine Lpu rfl rfl ?_; refine Lpu rfl rfl ?_; refine Lpu rfl rfl ?_; refine L.nil (QE.seq (C.ret ?_)); refine QE.ret (js := []) (hs := []) (vs := [_]) rfl ⟨rfl, trivial⟩ (by decide) ?_
    refine ⟨congrArg Value.bool ?_, rfl, rfl⟩
    unfold fitsF
    symm
    first | exact decide_eq_false (by omega) | (rw [decide_eq_decide]; omega)
   ·
    replace hg31 := b_eq hg31
    refine L.no rfl rfl rfl ?_; refine L.no rfl rfl rfl ?_; refine L.no rfl rfl rfl ?_; refine Lpu rfl rfl ?_; refine Lpu rfl rfl ?_; refine L.nil (QE.seq (C.ret ?_)); refine QE.ret (js := []) (hs := []) (vs := [_]) rfl ⟨rfl, trivial⟩ (by decide) ?_
    refine ⟨congrArg Value.bool ?_, rfl, rfl⟩
    unfold fitsF
    symm
    first | exact decide_eq_false (by omega) | (rw [decide_eq_decide]; omega)
  ·
   have q22 : ¬(0 ≤ y.b ∧ y.b ≤ (f.data.length : Int) - 1) := by simp at hg22; omega
   refine L.no rfl rfl rfl ?_; refine L.no rfl rfl rfl ?_; refine L.no rfl rfl rfl ?_; refine L.no rfl rfl rfl ?_; refine L.no rfl rfl rfl ?_; refine L.no rfl rfl rfl ?_; refine L.no rfl rfl rfl ?_; refine Lpu rfl rfl ?_; refine Lpu rfl rfl ?_; refine L.no rfl rfl rfl ?_; refine L.no rfl rfl rfl ?_; refine L.no rfl rfl rfl ?_; refine Lpu rfl rfl ?_; refine Lpu rfl rfl ?_; refine L.nil (QE.seq (C.ret ?_)); refine QE.ret (js := []) (hs := []) (vs := [_]) rfl ⟨rfl, trivial⟩ (by decide) ?_
   refine ⟨congrArg Value.bool ?_, rfl, rfl⟩
   unfold fitsF
   symm
   first | exact decide_eq_false (by omega) | (rw [decide_eq_decide]; omega)
 ·
  have q15 : ¬(0 ≤ y.a ∧ y.a ≤ (f.data.length : Int) - 1) := by simp at hg15; omega
  refine L.no rfl rfl rfl ?_; refine L.no rfl rfl rfl ?_; refine L.no rfl rfl rfl ?_; refine L.no rfl rfl rfl ?_; refine L.no rfl rfl rfl ?_; refine Lpu rfl rfl ?_; refine Lpu rfl rfl ?_; refine L.no rfl rfl rfl ?_; refine L.no rfl rfl rfl ?_; refine L.no rfl rfl rfl ?_; refine L.no rfl rfl rfl ?_; refine L.no rfl rfl rfl ?_; refine L.no rfl rfl rfl ?_; refine L.no rfl rfl rfl ?_; refine Lpu rfl rfl ?_; refine Lpu rfl rfl ?_; refine L.no rfl rfl rfl ?_; refine L.no rfl rfl rfl ?_; refine L.no rfl rfl rfl ?_; refine Lpu rfl rfl ?_; refine Lpu rfl rfl ?_; refine L.nil (QE.seq (C.ret ?_)); refine QE.ret (js := []) (hs := []) (vs := [_]) rfl ⟨rfl, trivial⟩ (by decide) ?_
  refine ⟨congrArg Value.bool ?_, rfl, rfl⟩
  unfold fitsF
  symm
  first | exact decide_eq_false (by omega) | (rw [decide_eq_decide]; omega)

end Go.Proofs.Ytmbjknampholjaa
