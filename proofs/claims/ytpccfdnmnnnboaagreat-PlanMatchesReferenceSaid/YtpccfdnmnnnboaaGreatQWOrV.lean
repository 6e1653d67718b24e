/-
  Reads of the reference.
-/
import Derived.Test.YtpccfdnmnnnboaaGreatQSlY
namespace Go.Proofs.YtpccfdnmnnnboaaGreat
open Go.Sl

theorem sectors_c (inn out : Int) (S : Nat) (h0 : 0 ≤ inn ∧ inn ≤ 65536) (h1 : 0 ≤ out ∧ out ≤ 65536) (hS : 1 ≤ S) (hS2 : S ≤ 4096) :
   Ctr X 64 [.int .i64 (max inn out), .int .i64 (S : Int)] [] [] (fun v R' H' => v = .int .i64 ((rdN inn out S : Nat) : Int) ∧ R' = [] ∧ H' = []) := by
 refine Ctr.of (X := X) (fn := Tryz.f64) Tryz.func64 rfl (by kernel_rfl) rfl ?_
 intro β
 refine C.seq (C.region ?_); refine Lpu rfl rfl ?_; refine L.nil (QE.seq (C.seq (C.region ?_))); refine Lpu rfl rfl ?_; refine Lpu rfl rfl ?_; refine L.step (Ev.add rfl rfl (by omega) (by omega)) rfl ?_; refine L.step (Ev.sub rfl rfl (by omega) (by omega)) rfl ?_; refine Lpu rfl rfl ?_; refine L.step (Ev.cast (u := .int .i64 (((rdN inn out S) : Nat) : Int)) (Ev.quo rfl rfl (by omega) (by omega) (by omega)) (congrArg (Value.int .i64) (rdN_eq h0.1 h1.1 hS))) rfl ?_; refine Lpu rfl rfl ?_; refine L.nil (QE.seq (C.ret ?_)); refine QE.ret (js := []) (hs := []) (vs := [_]) rfl ⟨rfl, trivial⟩ (by decide) ?_
 exact ⟨rfl, rfl, rfl⟩

set_option maxHeartbeats 1000000 in
theorem reads18_c (SA : Option Addr) (l : List Sy) (sc : Nat) (inn : Int) (S : Nat) (hS : 1 ≤ S) (u t : Nat) (hbu : (u + 1) * S ≤ 1000000) (hbt : (t + 1) * S ≤ 1000000) (hl : l.length ≤ 1000000) (hu : u ≤ 1000000) (ht : t ≤ 1000000) (hat : ∀ i, i < l.length → 0 ≤ (l.getD i Sy.zero).at_ ∧ (l.getD i Sy.zero).at_ ≤ 65536) :
   Ctr X 65 [.agg (List.toArray [.slice SA l.length sc, .int .i64 inn, .int .i64 (S : Int)]), .int .i64 (u : Int), .int .i64 (t : Int)] [Rd SA (symsV l)] [] (fun v R' H' => v = .bool (rdsB l inn S u t) ∧ R' = [] ∧ H' = []) := by
 refine Ctr.of (X := X) (fn := Tryz.f65) Tryz.func65 rfl (by kernel_rfl) rfl ?_
 intro β
 have hb2 : (u + 1) * S = u * S + S := Nat.succ_mul u S
 have m1 : (u : Int) * (S : Int) = ((u * S : Nat) : Int) := (Int.natCast_mul u S).symm
 have m2 : ((u + 1 : Nat) : Int) * (S : Int) = (((u + 1) * S : Nat) : Int) := (Int.natCast_mul (u + 1) S).symm
 refine C.seq (C.region ?_)
 refine L.boxA rfl rfl (fun A3 => ?_)
 refine Lpu rfl rfl ?_; refine L.nil (QE.seq (C.seq (C.seq ?_))); refine C.freeze 0 rfl [] (by decide) (by decide) ?_; refine C.region ?_; refine Lpu rfl rfl ?_; refine Lpu rfl rfl ?_; refine Lpu rfl rfl ?_; refine Lpu rfl rfl ?_
 refine L.bool 11 rfl (fun hg11 => ?_) (fun hg11 => ?_)
 ·
  replace hg11 := i_eq hg11
  refine L.no rfl rfl rfl ?_; refine L.no rfl rfl rfl ?_; refine L.no rfl rfl rfl ?_; refine L.no rfl rfl rfl ?_; refine Lpu rfl rfl ?_; refine Lpu rfl rfl ?_; refine L.no rfl rfl rfl ?_; refine L.no rfl rfl rfl ?_; refine L.no rfl rfl rfl ?_; refine L.no rfl rfl rfl ?_; refine Lpu rfl rfl ?_; refine L.nil (QE.seq ?_)
  refine C.cond rfl (fun _ => ?_) (fun h => by cases h)
  refine C.seq (C.region ?_); refine Lpu rfl rfl ?_; refine L.nil (QE.seq (C.ret (QE.tR ?_))); refine QE.ret (js := []) (hs := []) (vs := [_]) rfl ⟨rfl, trivial⟩ (by decide) ?_
  exact ⟨congrArg Value.bool (by unfold rdsB; rw [decide_eq_true (show u = t by omega)]; rfl), rfl, rfl⟩
 ·
  replace hg11 := i_ne hg11
  refine L.yes rfl ?_; refine L.step (Ev.loadA rfl rfl rfl (Src.r 0 rfl) rfl rfl (by decide)) rfl ?_; refine L.yes rfl ?_; refine Lpu rfl rfl ?_; refine L.yes rfl ?_; refine L.call (js := []) (js' := []) (changes18_c SA l sc inn S hS u hbu hl hu) rfl rfl rfl (by decide) (Hq [1] rfl) rfl ?_
  rintro _ _ _ ⟨rfl, rfl, rfl⟩
  refine L.yes rfl ?_; refine Lpu rfl rfl ?_; refine Lpu rfl rfl ?_; refine Lpu rfl rfl ?_
  refine L.bool 17 rfl (fun hg17 => ?_) (fun hg17 => ?_)
  ·
   have hcu : chgB l inn S u = false := by simpa using hg17
   refine L.no rfl rfl rfl ?_; refine L.no rfl rfl rfl ?_; refine L.no rfl rfl rfl ?_; refine L.no rfl rfl rfl ?_; refine Lpu rfl rfl ?_; refine L.nil (QE.seq ?_)
   refine C.cond rfl (fun _ => ?_) (fun h => by cases h)
   refine C.seq (C.region ?_); refine Lpu rfl rfl ?_; refine L.nil (QE.seq (C.ret (QE.tR ?_))); refine QE.ret (js := []) (hs := []) (vs := [_]) rfl ⟨rfl, trivial⟩ (by decide) ?_
   exact ⟨congrArg Value.bool (by unfold rdsB; rw [hcu]; simp), rfl, rfl⟩
  ·
   have hcu : chgB l inn S u = true := by simpa using hg17
   refine L.yes rfl ?_; refine L.step (Ev.loadA rfl rfl rfl (Src.r 0 rfl) rfl rfl (by decide)) rfl ?_; refine L.yes rfl ?_; refine Lpu rfl rfl ?_; refine L.yes rfl ?_; refine L.call (js := []) (js' := []) (changes18_c SA l sc inn S hS t hbt hl ht) rfl rfl rfl (by decide) (Hq [1] rfl) rfl ?_
   rintro _ _ _ ⟨rfl, rfl, rfl⟩
   refine L.yes rfl ?_; refine Lpu rfl rfl ?_; refine Lpu rfl rfl ?_; refine L.nil (QE.seq ?_)
   refine C.condB 22 rfl (fun hc22 => ?_) (fun hc22 => ?_)
   ·
    have hct : chgB l inn S t = false := by simpa using hc22
    refine C.seq (C.region ?_); refine Lpu rfl rfl ?_; refine L.nil (QE.seq (C.ret (QE.tR ?_))); refine QE.ret (js := []) (hs := []) (vs := [_]) rfl ⟨rfl, trivial⟩ (by decide) ?_
    exact ⟨congrArg Value.bool (by unfold rdsB; rw [hct]; simp), rfl, rfl⟩
   ·
    have hct : chgB l inn S t = true := by simpa using hc22
    refine C.skip (QE.seq (C.seq (C.seq (C.region ?_)))); refine Lpu rfl rfl ?_; refine L.step (Ev.fieldAddr rfl rfl rfl rfl rfl rfl (Src.r 0 rfl) (Nat.zero_lt_succ _) rfl) rfl ?_; refine L.step (Ev.load rfl rfl rfl (Src.r 0 rfl) rfl) rfl ?_; refine L.step (Ev.cast (u := .int .i64 (((u * S : Nat)) : Int)) (Ev.mul rfl rfl (by rw [m1]; omega) (by rw [m1]; omega)) (congrArg (Value.int .i64) m1)) rfl ?_; refine Lpu rfl rfl ?_; refine L.nil (QE.seq (C.block ?_)); refine C.loop (fun j : Nat => [(1, .int .i64 (u : Int)), (2, .int .i64 (t : Int)), (3, ptrOf A3 0), (7, .int .i64 (((u * S + j) : Nat) : Int))]) (fun j : Nat => [Rd A3 [.slice SA l.length sc, .int .i64 inn, .int .i64 (S : Int)], Rd SA (symsV l)]) (fun j : Nat => []) (fun j : Nat => j ≤ S ∧ ∀ a, a < j → (decide (u * S + a < l.length) && (l.getD (u * S + a) Sy.zero).old && decide (rdT (l.getD (u * S + a) Sy.zero) S = t)) = false) (fun j : Nat => S - j) 0 ⟨Nat.zero_le _, all_zero⟩ (by exact Le.mk' (rs := [0, 1]) (hs := []) ⟨rfl, rfl, rfl, rfl, trivial⟩ ⟨rfl, rfl, trivial⟩ trivial (by decide)) ?_
    rintro j ⟨hj, hno⟩
    refine C.seq (C.seq (C.region ?_)); refine Lpu rfl rfl ?_; refine Lpu rfl rfl ?_; refine L.step (Ev.cast (u := .int .i64 (((u + 1) : Nat) : Int)) (Ev.add rfl rfl (by omega) (by omega)) (congrArg (Value.int .i64) (by omega))) rfl ?_; refine L.step (Ev.fieldAddr rfl rfl rfl rfl rfl rfl (Src.r 0 rfl) (Nat.zero_lt_succ _) rfl) rfl ?_; refine L.step (Ev.load rfl rfl rfl (Src.r 0 rfl) rfl) rfl ?_; refine L.step (Ev.cast (u := .int .i64 ((((u + 1) * S : Nat)) : Int)) (Ev.mul rfl rfl (by rw [m2]; omega) (by rw [m2]; omega)) (congrArg (Value.int .i64) m2)) rfl ?_; refine Lpu rfl rfl ?_; refine Lpu rfl rfl ?_
    refine L.bool 34 rfl (fun hg34 => ?_) (fun hg34 => ?_)
    ·
     replace hg34 := of_decide_eq_true hg34
     refine L.yes rfl ?_; refine Lpu rfl rfl ?_; refine L.yes rfl ?_; refine L.step (Ev.fieldAddr rfl rfl rfl rfl rfl rfl (Src.r 0 rfl) (Nat.zero_lt_succ _) rfl) rfl ?_; refine L.yes rfl ?_; refine L.step (Ev.load rfl rfl rfl (Src.r 0 rfl) rfl) rfl ?_; refine L.yes rfl ?_; refine Lpu rfl rfl ?_; refine L.yes rfl ?_; refine Lpu rfl rfl ?_; refine Lpu rfl rfl ?_; refine L.nil (QE.seq ?_)
     refine C.condB 40 rfl (fun hc40 => ?_) (fun hc40 => ?_)
     ·
      replace hc40 := of_decide_eq_true hc40
      refine C.skip (QE.seq (C.seq (C.block (C.seq ?_))))
      have hatk := hat (u * S + j) (by omega)
      refine C.regionQ (by kernel_rfl) ?_; refine LQ.step (Ev.fieldAddr rfl rfl rfl rfl rfl rfl (Src.r 0 rfl) (Nat.zero_lt_succ _) rfl) rfl ?_; refine LQ.step (Ev.load rfl rfl rfl (Src.r 0 rfl) rfl) rfl ?_; refine LQ.step (Ev.pure rfl) rfl ?_; refine LQ.step (Ev.idx (k := (u * S + j)) (m := (u * S + j) * 3) rfl rfl rfl rfl rfl rfl (by omega) (Src.r 1 rfl) (syms_pos (k := (u * S + j)) (by omega)) rfl) rfl ?_; refine LQ.step (Ev.fieldAddr rfl rfl rfl rfl rfl rfl (Src.r 1 rfl) (syms_pos (k := (u * S + j)) (by omega)) rfl) rfl ?_; refine LQ.step (Ev.load rfl rfl rfl (Src.r 1 rfl) ((symsV_get (i := (u * S + j)) (j := 0) (by omega) (by decide)).trans rfl)) rfl ?_; refine LQ.step (Ev.pure rfl) rfl ?_
      refine LQ.bool 49 rfl (fun hg49 => ?_) (fun hg49 => ?_)
      ·
       refine LQ.yes rfl ?_; refine LQ.step (Ev.fieldAddr rfl rfl rfl rfl rfl rfl (Src.r 0 rfl) (Nat.zero_lt_succ _) rfl) rfl ?_; refine LQ.yes rfl ?_; refine LQ.step (Ev.load rfl rfl rfl (Src.r 0 rfl) rfl) rfl ?_; refine LQ.yes rfl ?_; refine LQ.step (Ev.pure rfl) rfl ?_; refine LQ.yes rfl ?_; refine LQ.step (Ev.idx (k := (u * S + j)) (m := (u * S + j) * 3) rfl rfl rfl rfl rfl rfl (by omega) (Src.r 1 rfl) (syms_pos (k := (u * S + j)) (by omega)) rfl) rfl ?_; refine LQ.yes rfl ?_; refine LQ.step (Ev.fieldAddr rfl rfl rfl rfl rfl rfl (Src.r 1 rfl) (syms_pos (k := (u * S + j)) (by omega)) rfl) rfl ?_; refine LQ.yes rfl ?_; refine LQ.step (Ev.load rfl rfl rfl (Src.r 1 rfl) ((symsV_get (i := (u * S + j)) (j := 1) (by omega) (by decide)).trans rfl)) rfl ?_; refine LQ.yes rfl ?_; refine LQ.step (Ev.fieldAddr rfl rfl rfl rfl rfl rfl (Src.r 0 rfl) (Nat.zero_lt_succ _) rfl) rfl ?_; refine LQ.yes rfl ?_; refine LQ.step (Ev.load rfl rfl rfl (Src.r 0 rfl) rfl) rfl ?_; refine LQ.yes rfl ?_; refine LQ.step (Ev.cast (u := .int .i64 (((rdT (l.getD (u * S + j) Sy.zero) S) : Nat) : Int)) (Ev.quo rfl rfl (by omega) (by omega) (by omega)) (congrArg (Value.int .i64) (rdT_eq hatk.1))) rfl ?_; refine LQ.yes rfl ?_; refine LQ.step (Ev.pure rfl) rfl ?_; refine LQ.yes rfl ?_; refine LQ.step (Ev.pure rfl) rfl ?_; refine LQ.step (Ev.pure rfl) rfl ?_; refine LQ.nil ?_; refine QE.seq ?_
       refine C.condB 61 rfl (fun hc61 => ?_) (fun hc61 => ?_)
       ·
        replace hc61 := i_eq hc61
        have hx : (decide (u * S + j < l.length) && (l.getD (u * S + j) Sy.zero).old && decide (rdT (l.getD (u * S + j) Sy.zero) S = t)) = true := by rw [decide_eq_true (by omega), hg49, decide_eq_true (by omega)]; rfl
        refine C.seq (C.region ?_); refine Lpu rfl rfl ?_; refine L.nil (QE.seq (C.ret (QE.bR (QE.tR (QE.tR (QE.bR (QE.tR ?_))))))); refine QE.ret (js := []) (hs := []) (vs := [_]) rfl ⟨rfl, trivial⟩ (by decide) ?_
        exact ⟨congrArg Value.bool (by unfold rdsB; rw [decide_eq_false (show ¬u = t by omega), hcu, hct, show hitB l S u t = true from any_yes (p := fun a => (decide (u * S + a < l.length) && (l.getD (u * S + a) Sy.zero).old && decide (rdT (l.getD (u * S + a) Sy.zero) S = t))) (k := j) (by omega) hx]; rfl), rfl, rfl⟩
       ·
        replace hc61 := i_ne hc61
        have hx : (decide (u * S + j < l.length) && (l.getD (u * S + j) Sy.zero).old && decide (rdT (l.getD (u * S + j) Sy.zero) S = t)) = false := by rw [hg49, decide_eq_false (show ¬rdT (l.getD (u * S + j) Sy.zero) S = t by omega), Bool.and_false]
        refine C.skip ?_; refine QE.blkN ?_; refine QE.seq (C.region ?_); refine Lpu rfl rfl ?_; refine L.step (Ev.add rfl rfl (by omega) (by omega)) rfl ?_; refine Lpu rfl rfl ?_; refine L.nil ?_
        refine QE.round (j + 1) (by exact ⟨by omega, all_step hno hx⟩) (by omega) (by exact Le.mk' (rs := [0, 1]) (hs := []) ⟨rfl, rfl, rfl, rfl, trivial⟩ ⟨rfl, rfl, trivial⟩ trivial (by decide))
      ·
       have hx : (decide (u * S + j < l.length) && (l.getD (u * S + j) Sy.zero).old && decide (rdT (l.getD (u * S + j) Sy.zero) S = t)) = false := by rw [hg49, Bool.and_false, Bool.false_and]
       refine LQ.no rfl rfl rfl ?_; refine LQ.no rfl rfl rfl ?_; refine LQ.no rfl rfl rfl ?_; refine LQ.no rfl rfl rfl ?_; refine LQ.no rfl rfl rfl ?_; refine LQ.no rfl rfl rfl ?_; refine LQ.no rfl rfl rfl ?_; refine LQ.no rfl rfl rfl ?_; refine LQ.no rfl rfl rfl ?_; refine LQ.no rfl rfl rfl ?_; refine LQ.no rfl rfl rfl ?_; refine LQ.step (Ev.pure rfl) rfl ?_; refine LQ.nil ?_; refine QE.seq ?_
       refine C.cond rfl (fun h => by cases h) (fun _ => ?_)
       refine C.skip ?_; refine QE.blkN ?_; refine QE.seq (C.region ?_); refine Lpu rfl rfl ?_; refine L.step (Ev.add rfl rfl (by omega) (by omega)) rfl ?_; refine Lpu rfl rfl ?_; refine L.nil ?_
       refine QE.round (j + 1) (by exact ⟨by omega, all_step hno hx⟩) (by omega) (by exact Le.mk' (rs := [0, 1]) (hs := []) ⟨rfl, rfl, rfl, rfl, trivial⟩ ⟨rfl, rfl, trivial⟩ trivial (by decide))
     ·
      replace hc40 := of_decide_eq_false hc40
      have hall : hitB l S u t = false := any_no (p := fun a => (decide (u * S + a < l.length) && (l.getD (u * S + a) Sy.zero).old && decide (rdT (l.getD (u * S + a) Sy.zero) S = t))) (fun a ha => by
        rcases Nat.lt_or_ge a j with h | h
        · exact hno a h
        · show (decide (u * S + a < l.length) && (l.getD (u * S + a) Sy.zero).old && decide (rdT (l.getD (u * S + a) Sy.zero) S = t)) = false
          rw [decide_eq_false (by omega)]
          rfl)
      refine C.exit ?_; refine QE.tX ?_; refine QE.tX ?_; refine QE.blk ?_; refine QE.seq (C.seq (C.region ?_)); refine Lpu rfl rfl ?_; refine L.nil (QE.seq (C.ret ?_)); refine QE.ret (js := []) (hs := []) (vs := [_]) rfl ⟨rfl, trivial⟩ (by decide) ?_
      exact ⟨congrArg Value.bool (by unfold rdsB; rw [hall]; simp), rfl, rfl⟩
    ·
     replace hg34 := of_decide_eq_false hg34
     have hall : hitB l S u t = false := any_no (p := fun a => (decide (u * S + a < l.length) && (l.getD (u * S + a) Sy.zero).old && decide (rdT (l.getD (u * S + a) Sy.zero) S = t))) (fun a ha => hno a (by omega))
     refine L.no rfl rfl rfl ?_; refine L.no rfl rfl rfl ?_; refine L.no rfl rfl rfl ?_; refine L.no rfl rfl rfl ?_; refine L.no rfl rfl rfl ?_; refine Lpu rfl rfl ?_; refine L.nil (QE.seq ?_)
     refine C.cond rfl (fun h => by cases h) (fun _ => ?_)
     refine C.exit ?_; refine QE.tX ?_; refine QE.tX ?_; refine QE.blk ?_; refine QE.seq (C.seq (C.region ?_)); refine Lpu rfl rfl ?_; refine L.nil (QE.seq (C.ret ?_)); refine QE.ret (js := []) (hs := []) (vs := [_]) rfl ⟨rfl, trivial⟩ (by decide) ?_
     exact ⟨congrArg Value.bool (by unfold rdsB; rw [hall]; simp), rfl, rfl⟩

set_option maxHeartbeats 2000000 in
theorem readsR_c (lf : Bool) (inn out : Int) (ops : List Po) (OA : Option Addr) (oc : Nat) (hops : ops.length ≤ 9223372036854775807) (size : Int) :
   Ctr X 24 [.agg (List.toArray [.bool lf, .int .i64 inn, .int .i64 out, .slice OA ops.length oc]), .int .i64 size] [Rd OA (opsV ops)] [] (fun v R' H' => ∃ (A : Option Addr) (c : Nat) (hs : List Hd), v = .tuple #[.slice A (rdM lf inn out size ops).length c, .int .i64 (rdE lf inn out size ops)] ∧ R' = [Rd A (rowsV hs (J8 (rdM lf inn out size ops))), KidsR hs (J8 (rdM lf inn out size ops))] ∧ H' = [] ∧ hs.length = (rdM lf inn out size ops).length) := by
 refine Ctr.of (X := X) (fn := Tryz.f24) Tryz.func24 rfl (by kernel_rfl) rfl ?_
 intro β
 refine C.seq (C.region ?_)
 refine L.boxA rfl rfl (fun A2 => ?_)
 refine Lpu rfl rfl ?_; refine Lpu rfl rfl ?_; refine L.nil (QE.seq (C.seq ?_)); refine C.freeze 0 rfl [] (by decide) (by decide) ?_; refine C.region ?_; refine L.step (Ev.loadA rfl rfl rfl (Src.r 0 rfl) rfl rfl (by decide)) rfl ?_; refine L.call (js := []) (js' := []) (symbols06_c lf inn out ops OA oc hops) rfl rfl rfl (by decide) (Hq [1] rfl) rfl ?_
 rintro _ _ _ ⟨A16, c16, rfl, rfl, rfl⟩
 refine Lpu rfl rfl ?_; refine Lpu rfl rfl ?_; refine Lpu rfl rfl ?_; refine Lpu rfl rfl ?_; refine Lpu rfl rfl ?_; refine L.nil (QE.seq (C.seq (C.seq ?_))); refine C.freeze 0 rfl [] (by decide) (by decide) ?_; refine C.region ?_; refine Lpu rfl rfl ?_; refine Lpu rfl rfl ?_; refine L.nil (QE.seq ?_)
 refine C.condB 20 rfl (fun hc20 => ?_) (fun hc20 => ?_)
 ·
  replace hc20 := b_ne hc20
  refine C.seq (C.region ?_); refine Lpu rfl rfl ?_; refine Lpu rfl rfl ?_; refine Lpu rfl rfl ?_; refine L.nil (QE.seq (C.ret (QE.tR ?_))); refine QE.more (r := Rd none (rowsV [] (J8 []))) (Has.nil) ?_; refine QE.more (r := KidsR [] (J8 [])) (Has.kids0) ?_; refine QE.ret (js := [1, 0]) (hs := []) (vs := [_, _]) rfl ⟨rfl, rfl, trivial⟩ (by decide) ?_
  have hE : rdE lf inn out size ops = _ := rdE_1 hc20
  refine ⟨none, 0, [], ?_, ?_, rfl, ?_⟩
  · rw [rdM_no (by rw [hE]; first | decide | exact hc20), hE]; rfl
  · rw [rdM_no (by rw [hE]; first | decide | exact hc20)]; rfl
  · rw [rdM_no (by rw [hE]; first | decide | exact hc20)]; rfl
 ·
  replace hc20 := b_eq hc20
  obtain ⟨k1, k2, k3, k4, k5, k6⟩ := chkE_ok hc20
  rw [show syS inn out ops = symL ops from if_pos hc20]
  have htot := chkG_tot ops out k3 k6
  refine C.skip (QE.seq (C.seq (C.seq (C.region ?_)))); refine L.step (Ev.fieldAddr rfl rfl rfl rfl rfl rfl (Src.r 1 rfl) (Nat.zero_lt_succ _) rfl) rfl ?_; refine L.step (Ev.load rfl rfl rfl (Src.r 1 rfl) rfl) rfl ?_; refine L.nil (QE.seq ?_)
  refine C.condB 23 rfl (fun hc23 => ?_) (fun hc23 => ?_)
  ·
   refine C.seq (C.region ?_); refine Lpu rfl rfl ?_; refine Lpu rfl rfl ?_; refine L.nil (QE.seq (C.ret (QE.tR ?_))); refine QE.more (r := Rd none (rowsV [] (J8 []))) (Has.nil) ?_; refine QE.more (r := KidsR [] (J8 [])) (Has.kids0) ?_; refine QE.ret (js := [1, 0]) (hs := []) (vs := [_, _]) rfl ⟨rfl, rfl, trivial⟩ (by decide) ?_
   have hE : rdE lf inn out size ops = _ := rdE_2 hc20 hc23
   refine ⟨none, 0, [], ?_, ?_, rfl, ?_⟩
   · rw [rdM_no (by rw [hE]; first | decide | exact hc20), hE]; rfl
   · rw [rdM_no (by rw [hE]; first | decide | exact hc20)]; rfl
   · rw [rdM_no (by rw [hE]; first | decide | exact hc20)]; rfl
  ·
   refine C.skip (QE.seq (C.seq (C.seq (C.region ?_)))); refine Lpu rfl rfl ?_; refine Lpu rfl rfl ?_; refine Lpu rfl rfl ?_
   refine L.bool 26 rfl (fun hg26 => ?_) (fun hg26 => ?_)
   ·
    replace hg26 := of_decide_eq_true hg26
    refine L.no rfl rfl rfl ?_; refine L.no rfl rfl rfl ?_; refine Lpu rfl rfl ?_; refine L.nil (QE.seq ?_)
    refine C.cond rfl (fun _ => ?_) (fun h => by cases h)
    refine C.seq (C.region ?_); refine Lpu rfl rfl ?_; refine Lpu rfl rfl ?_; refine L.nil (QE.seq (C.ret (QE.tR ?_))); refine QE.more (r := Rd none (rowsV [] (J8 []))) (Has.nil) ?_; refine QE.more (r := KidsR [] (J8 [])) (Has.kids0) ?_; refine QE.ret (js := [1, 0]) (hs := []) (vs := [_, _]) rfl ⟨rfl, rfl, trivial⟩ (by decide) ?_
    have hE : rdE lf inn out size ops = _ := rdE_3 hc20 (by simpa using hc23) (by omega)
    refine ⟨none, 0, [], ?_, ?_, rfl, ?_⟩
    · rw [rdM_no (by rw [hE]; first | decide | exact hc20), hE]; rfl
    · rw [rdM_no (by rw [hE]; first | decide | exact hc20)]; rfl
    · rw [rdM_no (by rw [hE]; first | decide | exact hc20)]; rfl
   ·
    replace hg26 := of_decide_eq_false hg26
    refine L.yes rfl ?_; refine Lpu rfl rfl ?_; refine L.yes rfl ?_; refine Lpu rfl rfl ?_; refine Lpu rfl rfl ?_; refine L.nil (QE.seq ?_)
    refine C.condB 29 rfl (fun hc29 => ?_) (fun hc29 => ?_)
    ·
     replace hc29 := of_decide_eq_true hc29
     refine C.seq (C.region ?_); refine Lpu rfl rfl ?_; refine Lpu rfl rfl ?_; refine L.nil (QE.seq (C.ret (QE.tR ?_))); refine QE.more (r := Rd none (rowsV [] (J8 []))) (Has.nil) ?_; refine QE.more (r := KidsR [] (J8 [])) (Has.kids0) ?_; refine QE.ret (js := [1, 0]) (hs := []) (vs := [_, _]) rfl ⟨rfl, rfl, trivial⟩ (by decide) ?_
     have hE : rdE lf inn out size ops = _ := rdE_3 hc20 (by simpa using hc23) (by omega)
     refine ⟨none, 0, [], ?_, ?_, rfl, ?_⟩
     · rw [rdM_no (by rw [hE]; first | decide | exact hc20), hE]; rfl
     · rw [rdM_no (by rw [hE]; first | decide | exact hc20)]; rfl
     · rw [rdM_no (by rw [hE]; first | decide | exact hc20)]; rfl
    ·
     replace hc29 := of_decide_eq_false hc29
     refine C.skip (QE.seq (C.seq ?_))
     obtain ⟨S, rfl⟩ : ∃ S : Nat, size = (S : Int) := ⟨size.toNat, by omega⟩
     refine C.region ?_; refine L.step (Ev.fieldAddr rfl rfl rfl rfl rfl rfl (Src.r 1 rfl) (Nat.zero_lt_succ _) rfl) rfl ?_; refine L.step (Ev.load rfl rfl rfl (Src.r 1 rfl) rfl) rfl ?_; refine L.step (Ev.fieldAddr rfl rfl rfl rfl rfl rfl (Src.r 1 rfl) (Nat.zero_lt_succ _) rfl) rfl ?_; refine L.step (Ev.load rfl rfl rfl (Src.r 1 rfl) rfl) rfl ?_; refine L.step (Ev.cast (u := .int .i64 (max inn out)) (Ev.pure rfl) (congrArg (Value.int .i64) (by simp only [if_true]; split <;> omega))) rfl ?_; refine Lpu rfl rfl ?_; refine L.call (js := []) (js' := []) (sectors_c inn out S ⟨by omega, by omega⟩ ⟨by omega, by omega⟩ (by omega) (by omega)) rfl rfl rfl (by decide) trivial rfl ?_
     rintro _ _ _ ⟨rfl, rfl, rfl⟩
     refine Lpu rfl rfl ?_; refine L.nil (QE.seq (C.seq (C.seq (C.region ?_)))); refine Lpu rfl rfl ?_; refine Lpu rfl rfl ?_; refine L.nil (QE.seq ?_)
     refine C.condB 38 rfl (fun hc38 => ?_) (fun hc38 => ?_)
     ·
      replace hc38 := of_decide_eq_true hc38
      refine C.seq (C.region ?_); refine Lpu rfl rfl ?_; refine Lpu rfl rfl ?_; refine L.nil (QE.seq (C.ret (QE.tR ?_))); refine QE.more (r := Rd none (rowsV [] (J8 []))) (Has.nil) ?_; refine QE.more (r := KidsR [] (J8 [])) (Has.kids0) ?_; refine QE.ret (js := [1, 0]) (hs := []) (vs := [_, _]) rfl ⟨rfl, rfl, trivial⟩ (by decide) ?_
      have hE : rdE lf inn out (S : Int) ops = _ := rdE_4 hc20 (by simpa using hc23) (by omega) (by omega) (by simp only [Int.toNat_natCast]; omega)
      refine ⟨none, 0, [], ?_, ?_, rfl, ?_⟩
      · rw [rdM_no (by rw [hE]; first | decide | exact hc20), hE]; rfl
      · rw [rdM_no (by rw [hE]; first | decide | exact hc20)]; rfl
      · rw [rdM_no (by rw [hE]; first | decide | exact hc20)]; rfl
     ·
      replace hc38 := of_decide_eq_false hc38
      refine C.skip (QE.seq (C.seq ?_))
      have hatl : ∀ i, i < (symL ops).length → 0 ≤ ((symL ops).getD i Sy.zero).at_ ∧ ((symL ops).getD i Sy.zero).at_ ≤ 65536 := fun i hi => by
        have hat := symL_atI k6 (k := i) hi
        refine ⟨hat.1, ?_⟩
        cases ho : ((symL ops).getD i Sy.zero).old with
        | true => have := hat.2.1 ho; omega
        | false => have := hat.2.2 ho; omega
      have hsec : ∀ u, u < (rdN inn out S) → (u + 1) * S ≤ 1000000 := fun u hu => by
        have := Nat.mul_le_mul (show u + 1 ≤ 64 by omega) (show S ≤ 4096 by omega)
        omega
      refine C.region ?_; refine Lpu rfl rfl ?_; refine L.step (Ev.fieldAddr rfl rfl rfl rfl rfl rfl (Src.r 1 rfl) (Nat.zero_lt_succ _) rfl) rfl ?_; refine L.step (Ev.load rfl rfl rfl (Src.r 1 rfl) rfl) rfl ?_; refine Lpu rfl rfl ?_; refine L.step (Ev.build rfl rfl rfl rfl rfl rfl rfl) rfl ?_
      refine L.lit rfl rfl rfl rfl rfl (by rfl) (by rfl) (by rfl) rfl rfl (fun A44 => ?_)
      refine L.alloc rfl rfl rfl (fun A9 => ?_)
      refine L.storeA (j := 1) rfl rfl rfl rfl rfl (Nat.zero_lt_succ _) rfl rfl ?_; refine Lpu rfl rfl ?_; refine L.nil (QE.seq (C.seq (C.seq ?_))); refine C.freeze 1 rfl [0] (by decide) (by decide) ?_; refine C.region ?_; refine Lpu rfl rfl ?_; refine L.nil (QE.seq (C.block ?_)); refine C.more (r := KidsR [] []) Has.kids0 ?_; refine C.loop (fun q : Nat × Option Addr × Nat × List Hd => [(8, .int .i64 ((rdN inn out S) : Int)), (9, ptrOf A9 0), (10, .slice q.2.1 (rdsL (symL ops) inn S (rdN inn out S) q.1).length q.2.2.1), (11, .int .i64 (q.1 : Int))]) (fun q : Nat × Option Addr × Nat × List Hd => [Rd A16 (symsV (symL ops)), Rd A9 [.slice A16 (symL ops).length c16, .int .i64 inn, .int .i64 (S : Int)], KidsR q.2.2.2 (J8 (rdsL (symL ops) inn S (rdN inn out S) q.1))]) (fun q : Nat × Option Addr × Nat × List Hd => [Own 34 1 q.2.1 (rdsL (symL ops) inn S (rdN inn out S) q.1).length q.2.2.1 (rowsV q.2.2.2 (J8 (rdsL (symL ops) inn S (rdN inn out S) q.1)))]) (fun q : Nat × Option Addr × Nat × List Hd => q.1 ≤ (rdN inn out S) ∧ q.2.2.2.length = q.1) (fun q : Nat × Option Addr × Nat × List Hd => (rdN inn out S) - q.1) (0, A44, 0, []) ⟨Nat.zero_le _, rfl⟩ (by exact Le.mk' (rs := [2, 1, 0]) (hs := [0]) ⟨rfl, rfl, rfl, rfl, trivial⟩ ⟨rfl, rfl, rfl, trivial⟩ ⟨rfl, trivial⟩ (by decide)) ?_
      rintro ⟨u, A, c, hs⟩ ⟨hu, hhs⟩
      dsimp only at hu hhs ⊢
      refine C.seq (C.seq ?_)
      have hrl := rdsL_len (symL ops) inn S (rdN inn out S) u
      refine C.region ?_; refine Lpu rfl rfl ?_; refine Lpu rfl rfl ?_; refine Lpu rfl rfl ?_; refine L.nil (QE.seq ?_)
      refine C.condB 47 rfl (fun hc47 => ?_) (fun hc47 => ?_)
      ·
       replace hc47 := of_decide_eq_true hc47
       refine C.skip (QE.seq (C.seq (C.block (C.seq (C.region ?_)))))
       refine L.lit rfl rfl rfl rfl rfl (by rfl) (by rfl) (by rfl) rfl rfl (fun A50 => ?_)
       refine Lpu rfl rfl ?_; refine L.nil (QE.seq (C.seq (C.seq (C.region ?_)))); refine Lpu rfl rfl ?_; refine L.nil (QE.seq (C.block ?_)); refine C.loop (fun q : Nat × Option Addr × Nat => [(8, .int .i64 ((rdN inn out S) : Int)), (9, ptrOf A9 0), (10, .slice A (rdsL (symL ops) inn S (rdN inn out S) u).length c), (11, .int .i64 (u : Int)), (12, .slice q.2.1 (rdsR (symL ops) inn S u q.1).length q.2.2), (13, .int .i64 (q.1 : Int))]) (fun q : Nat × Option Addr × Nat => [Rd A16 (symsV (symL ops)), Rd A9 [.slice A16 (symL ops).length c16, .int .i64 inn, .int .i64 (S : Int)], KidsR hs (J8 (rdsL (symL ops) inn S (rdN inn out S) u))]) (fun q : Nat × Option Addr × Nat => [Own 3 1 q.2.1 (rdsR (symL ops) inn S u q.1).length q.2.2 (I64 (NI (rdsR (symL ops) inn S u q.1))), Own 34 1 A (rdsL (symL ops) inn S (rdN inn out S) u).length c (rowsV hs (J8 (rdsL (symL ops) inn S (rdN inn out S) u)))]) (fun q : Nat × Option Addr × Nat => q.1 ≤ (rdN inn out S)) (fun q : Nat × Option Addr × Nat => (rdN inn out S) - q.1) (0, A50, 0) (Nat.zero_le _) (by exact Le.mk' (rs := [0, 1, 2]) (hs := [1, 0]) ⟨rfl, rfl, rfl, rfl, rfl, rfl, trivial⟩ ⟨rfl, rfl, rfl, trivial⟩ ⟨rfl, rfl, trivial⟩ (by decide)) ?_
       rintro ⟨t, B, d⟩ ht
       dsimp only at ht ⊢
       refine C.seq (C.seq ?_)
       have hrr := rdsR_len (symL ops) inn S u t
       refine C.region ?_; refine Lpu rfl rfl ?_; refine Lpu rfl rfl ?_; refine Lpu rfl rfl ?_; refine L.nil (QE.seq ?_)
       refine C.condB 53 rfl (fun hc53 => ?_) (fun hc53 => ?_)
       ·
        replace hc53 := of_decide_eq_true hc53
        refine C.skip (QE.seq (C.seq (C.block (C.seq (C.region ?_))))); refine L.step (Ev.loadA rfl rfl rfl (Src.r 1 rfl) rfl rfl (by decide)) rfl ?_; refine Lpu rfl rfl ?_; refine Lpu rfl rfl ?_; refine L.call (js := []) (js' := [0, 1]) (reads18_c A16 (symL ops) c16 inn S (by omega) u t (hsec u (by omega)) (hsec t (by omega)) (by omega) (by omega) (by omega) hatl) rfl rfl rfl (by decide) (Hq [0] rfl) rfl ?_
        rintro _ _ _ ⟨rfl, rfl, rfl⟩
        refine L.nil (QE.seq ?_)
        refine C.condB 59 rfl (fun hc59 => ?_) (fun hc59 => ?_)
        ·
         have he : (rdsR (symL ops) inn S u (t + 1)) = (rdsR (symL ops) inn S u t) ++ [t] := rdsR_yes hc59
         refine C.region ?_; refine Lpu rfl rfl ?_; refine Lpu rfl rfl ?_
         refine L.lit rfl rfl rfl rfl rfl (by rfl) (by rfl) (by rfl) rfl rfl (fun A62 => ?_)
         refine L.append (j := 0) rfl rfl rfl rfl (by decide) rfl rfl rfl rfl (Src.o 2 rfl) rfl (allOne rfl) (by omega) (by show _ * 8 ≤ _; omega) rfl (fun A63 cc63 => ?_)
         refine Lpu rfl rfl ?_; refine L.nil ?_; refine QE.blkN ?_; refine QE.seq (C.region ?_); refine Lpu rfl rfl ?_; refine L.step (Ev.add rfl rfl (by omega) (by omega)) rfl ?_; refine Lpu rfl rfl ?_; refine L.nil ?_
         refine QE.round (i := (t, B, d)) ((t + 1, A63, cc63)) (by dsimp only; omega) (by dsimp only; omega) (by exact Le.mk' (rs := [0, 1, 2]) (hs := [0, 1]) ⟨rfl, rfl, rfl, rfl, (by dsimp only; rw [he, List.length_append]; rfl), rfl, trivial⟩ ⟨rfl, rfl, rfl, trivial⟩ ⟨(congrArg some (own_eq (by dsimp only; rw [he, List.length_append]; rfl) (by dsimp only; rw [he, NI_app, ← I64_app]; rfl))), rfl, trivial⟩ (by decide))
        ·
         have he : (rdsR (symL ops) inn S u (t + 1)) = (rdsR (symL ops) inn S u t) := rdsR_no hc59
         refine C.skip ?_; refine QE.blkN ?_; refine QE.seq (C.region ?_); refine Lpu rfl rfl ?_; refine L.step (Ev.add rfl rfl (by omega) (by omega)) rfl ?_; refine Lpu rfl rfl ?_; refine L.nil ?_
         refine QE.round (i := (t, B, d)) ((t + 1, B, d)) (by dsimp only; omega) (by dsimp only; omega) (by exact Le.mk' (rs := [0, 1, 2]) (hs := [0, 1]) ⟨rfl, rfl, rfl, rfl, (by dsimp only; rw [he]; rfl), rfl, trivial⟩ ⟨rfl, rfl, rfl, trivial⟩ ⟨(congrArg some (by dsimp only; rw [he])), rfl, trivial⟩ (by decide))
       ·
        replace hc53 := of_decide_eq_false hc53
        refine C.exit ?_; refine QE.tX ?_; refine QE.tX ?_; refine QE.blk ?_; refine QE.seq ?_
        obtain rfl : t = (rdN inn out S) := by omega
        refine C.freeze 0 rfl [1] (by decide) (by decide) ?_; refine C.region ?_; refine Lpu rfl rfl ?_; refine Lpu rfl rfl ?_
        refine L.lit rfl rfl rfl rfl rfl (by rfl) (by rfl) (by rfl) rfl rfl (fun A66 => ?_)
        refine L.append (j := 0) rfl rfl rfl rfl (by decide) rfl rfl rfl rfl (Src.o 1 rfl) rfl (by intro v hv; simp at hv; subst hv; rfl) (by omega) (by show _ * 24 ≤ _; omega) rfl (fun A67 cc67 => ?_)
        refine Lpu rfl rfl ?_; refine L.nil ?_; refine QE.blkN ?_; refine QE.seq (C.region ?_); refine Lpu rfl rfl ?_; refine L.step (Ev.add rfl rfl (by omega) (by omega)) rfl ?_; refine Lpu rfl rfl ?_; refine L.nil ?_; refine QE.more (r := KidsR (hs ++ [(B, d)]) (J8 (rdsL (symL ops) inn S (rdN inn out S) u) ++ [I64 (NI (rdsR (symL ops) inn S u (rdN inn out S)))])) (Has.kidsSnoc 3 0 d rfl rfl (by rw [J8_len, rdsL_len]; exact hhs)) ?_
        refine QE.round (i := (u, A, c, hs)) ((u + 1, A67, cc67, hs ++ [(B, d)])) (by exact ⟨by dsimp only; omega, by dsimp only; rw [List.length_append, hhs]; rfl⟩) (by dsimp only; omega) (by exact Le.mk' (rs := [2, 3, 0]) (hs := [0]) ⟨rfl, rfl, (by dsimp only; rw [rdsL_snoc, List.length_append]; rfl), rfl, trivial⟩ ⟨rfl, rfl, (congrArg some (by dsimp only; rw [rdsL_snoc, ← J8_snoc])), trivial⟩ ⟨(congrArg some (own_eq (by dsimp only; rw [rdsL_snoc, List.length_append]; rfl) (by dsimp only; rw [rdsL_snoc, ← rowsJ_app (by rw [rdsL_len]; exact hhs), NI_len]))), trivial⟩ (by decide))
      ·
       replace hc47 := of_decide_eq_false hc47
       refine C.exit ?_; refine QE.tX ?_; refine QE.tX ?_; refine QE.blk ?_; refine QE.seq (C.seq (C.region ?_)); refine Lpu rfl rfl ?_; refine Lpu rfl rfl ?_; refine Lpu rfl rfl ?_; refine L.nil (QE.seq (C.ret ?_)); refine QE.freeze 0 rfl [] (by decide) (by decide) ?_; refine QE.ret (js := [0, 3]) (hs := []) (vs := [_, _]) rfl ⟨rfl, rfl, trivial⟩ (by decide) ?_
       obtain rfl : u = (rdN inn out S) := by omega
       have hE : rdE lf inn out (S : Int) ops = 0 := rdE_0 hc20 (by simpa using hc23) (by omega) (by omega) (by rw [Int.toNat_natCast]; omega)
       have hR : rdM lf inn out (S : Int) ops = (rdsL (symL ops) inn S (rdN inn out S) (rdN inn out S)) := by
         rw [rdM_ok hE, Int.toNat_natCast]
         exact rows_eq (by omega) htot rfl
       rw [hR, hE, hrl]
       exact ⟨A, c, hs, rfl, rfl, rfl, hhs⟩

end Go.Proofs.YtpccfdnmnnnboaaGreat
