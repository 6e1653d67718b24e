/-
  Last, of the reference and of the program, and results held against each other.
-/
import Derived.Test.YthfjkdgopkmgoaaRWSvF
namespace Go.Proofs.Ythfjkdgopkmgoaa
open Go.Sl

theorem Fnd.beq {r s : Fnd} (h1 : r.b = s.b) (h2 : r.at_ = s.at_) : (r.e == s.e) = decide (r = s) := by
  cases r; cases s
  simp only at h1 h2
  subst h1 h2
  rw [Bool.eq_iff_iff]
  simp

set_option maxHeartbeats 1000000 in
theorem lastP_c (f : Fl) (a : Fa) (ok : f.Ok) (hh : a.hs.length = f.data.length) (us : List Int) (U : Option Addr) (uc : Nat) (hu : UOk f us) (e : Int) :
    Ctr X 62 [.agg (List.toArray [.int .i64 (f.size : Int), .slice a.D f.data.length a.cD, .slice a.W f.wear.length a.cW, .int .i64 f.limit, .slice a.E f.dead.length a.cE]), .agg (List.toArray [.int .i64 0, .int .i64 0, .int .i64 0, .int .i64 0, .int .i64 0, .slice none 0 0, .slice U us.length uc, .slice none 0 0]), .int .i64 e] [Rd a.D (rowsV a.hs (B8 f.data)), KidsR a.hs (B8 f.data), Rd a.W (I64 f.wear), Rd a.E (Bs f.dead), Rd U (I64 us)] [] (fun v R' H' => ∃ A c, v = .tuple #[.slice A (lastS (area f us) (f.size : Int) e).b.length c, .int .i64 (lastS (area f us) (f.size : Int) e).at_, .int .i64 (lastS (area f us) (f.size : Int) e).e] ∧ R' = [Rd A (U8 (lastS (area f us) (f.size : Int) e).b)] ∧ H' = []) := by
  have hok := ok
  obtain ⟨os1, os2, on1, on2, owl, odl, orows, ol1, ol2, owear⟩ := ok
  have hul := hu.l
  refine Ctr.of (X := X) (fn := Try.f62) Try.func62 rfl (by kernel_rfl) rfl ?_
  intro β
  refine C.seq ?_
  refine C.region ?_
  refine L.boxA rfl rfl (fun A3 => ?_)
  refine L.boxA rfl rfl (fun A4 => ?_)
  refine L.step (Ev.pure rfl) rfl ?_
  refine L.step (Ev.pure rfl) rfl ?_
  refine L.step (Ev.pure rfl) rfl ?_
  refine L.nil ?_
  refine QE.seq ?_
  refine C.seq ?_
  refine C.freeze 0 rfl [1] (by decide) (by decide) ?_
  refine C.freeze 0 rfl [] (by decide) (by decide) ?_
  refine C.region ?_
  refine L.step (Ev.pure rfl) rfl ?_
  refine L.nil ?_
  refine QE.seq ?_
  refine C.seq ?_
  refine C.seq ?_
  refine C.own0 5 1 ?_
  refine C.region ?_
  refine L.step (Ev.fieldAddr rfl rfl rfl rfl rfl rfl (Src.r 0 rfl) (Nat.zero_lt_succ _) rfl) rfl ?_
  refine L.step (Ev.load rfl rfl rfl (Src.r 0 rfl) rfl) rfl ?_
  refine L.step (Ev.pure rfl) rfl ?_
  refine L.step (Ev.pure rfl) rfl ?_
  refine L.nil ?_
  refine QE.seq ?_
  refine C.block ?_
  refine C.loop (fun q : Nat × Option Addr × Nat => [(2, .int .i64 e), (3, ptrOf A3 0), (4, ptrOf A4 0), (9, .slice q.2.1 (area f (us.take q.1)).length q.2.2), (15, .slice U us.length uc), (16, .int .i64 (us.length : Int)), (17, .int .i64 (q.1 : Int))]) (fun q : Nat × Option Addr × Nat => [Rd A4 [.int .i64 0, .int .i64 0, .int .i64 0, .int .i64 0, .int .i64 0, .slice none 0 0, .slice U us.length uc, .slice none 0 0], Rd A3 [.int .i64 (f.size : Int), .slice a.D f.data.length a.cD, .slice a.W f.wear.length a.cW, .int .i64 f.limit, .slice a.E f.dead.length a.cE], Rd a.D (rowsV a.hs (B8 f.data)), KidsR a.hs (B8 f.data), Rd a.W (I64 f.wear), Rd a.E (Bs f.dead), Rd U (I64 us)]) (fun q : Nat × Option Addr × Nat => [Own 5 1 q.2.1 (area f (us.take q.1)).length q.2.2 (U8 (area f (us.take q.1)))]) (fun q : Nat × Option Addr × Nat => q.1 ≤ us.length) (fun q : Nat × Option Addr × Nat => us.length - q.1) (0, none, 0) (Nat.zero_le _) (by exact Le.mk' (rs := [0, 1, 2, 3, 4, 5, 6]) (hs := [0]) ⟨rfl, rfl, rfl, rfl, rfl, rfl, rfl, trivial⟩ ⟨rfl, rfl, rfl, rfl, rfl, rfl, rfl, trivial⟩ ⟨rfl, trivial⟩ (by decide)) ?_
  rintro ⟨k, A, c⟩ hk
  dsimp only at hk ⊢
  refine C.seq ?_
  refine C.region ?_
  refine L.step (Ev.pure rfl) rfl ?_
  refine L.nil ?_
  refine QE.seq ?_
  refine C.seq ?_
  refine C.condB 18 rfl (fun hc18 => ?_) (fun hc18 => ?_)
  · skip
    replace hc18 := of_decide_eq_true hc18
    have hk2 : k < us.length := by omega
    have hur := hu.r k hk2
    have hrow := orows (us.getD k 0).toNat (by omega)
    have hal := area_take_len hok hu k (by omega)
    have hkz : k * f.size ≤ 64 * 4096 := Nat.mul_le_mul (by omega) (by omega)
    have e1 : area f (us.take (k + 1)) = area f (us.take k) ++ f.data.getD (us.getD k 0).toNat [] := by rw [take_snoc' us 0 k hk2, area_snoc]
    refine C.skip ?_
    refine QE.seq ?_
    refine C.seq ?_
    refine C.block ?_
    refine C.seq ?_
    refine C.region ?_
    refine L.step (Ev.idx1 (k := k) rfl rfl rfl rfl rfl rfl rfl (by omega) (Src.r 6 rfl) (by rw [I64_len]; omega)) rfl ?_
    refine L.step (Ev.load rfl rfl rfl (Src.r 6 rfl) (I64_get (by omega))) rfl ?_
    refine L.step (Ev.pure rfl) rfl ?_
    refine L.nil ?_
    refine QE.seq ?_
    refine C.region ?_
    refine L.step (Ev.pure rfl) rfl ?_
    refine L.step (Ev.fieldAddr rfl rfl rfl rfl rfl rfl (Src.r 1 rfl) (Nat.zero_lt_succ _) rfl) rfl ?_
    refine L.step (Ev.load rfl rfl rfl (Src.r 1 rfl) rfl) rfl ?_
    refine L.step (Ev.pure rfl) rfl ?_
    refine L.step (Ev.idx1 (k := (us.getD k 0).toNat) rfl rfl rfl rfl rfl rfl (by omega) (by omega) (Src.r 2 rfl) (by rw [rowsV_len (by rw [B8_len]; exact hh), B8_len]; omega)) rfl ?_
    refine L.step (Ev.load rfl rfl rfl (Src.r 2 rfl) (rows8_get hh (by omega))) rfl ?_
    refine L.append (j := 0) rfl rfl rfl rfl (by decide) rfl rfl rfl rfl ((Src.kid 3 rfl (by rw [B8_len]; exact hh) ((us.getD k 0).toNat) (by rw [B8_len]; omega)).cast (B8_get _)) (by rw [U8_len]; exact (Nat.mul_one _).symm) (U8_one _) (by omega) (by show _ * 1 ≤ _; omega) rfl (fun A27 cc27 => ?_)
    refine L.step (Ev.pure rfl) rfl ?_
    refine L.nil ?_
    refine QE.blkN ?_
    refine QE.seq ?_
    refine C.region ?_
    refine L.step (Ev.add rfl rfl (by omega) (by omega)) rfl ?_
    refine L.step (Ev.pure rfl) rfl ?_
    refine L.nil ?_
    refine QE.round (i := (k, A, c)) ((k + 1, A27, cc27)) (by dsimp only; omega) (by dsimp only; omega) (by exact Le.mk' (rs := [0, 1, 2, 3, 4, 5, 6]) (hs := [0]) ⟨rfl, rfl, rfl, (by dsimp only; rw [e1, List.length_append]; rfl), rfl, rfl, rfl, trivial⟩ ⟨rfl, rfl, rfl, rfl, rfl, rfl, rfl, trivial⟩ ⟨(congrArg some (own_eq (by dsimp only; rw [e1, List.length_append]) (by dsimp only; rw [e1, ← U8_app]))), trivial⟩ (by decide))
  · skip
    replace hc18 := of_decide_eq_false hc18
    refine C.exit ?_
    refine QE.tX ?_
    refine QE.tX ?_
    refine QE.blk ?_
    refine QE.seq ?_
    refine C.seq ?_
    refine C.seq ?_
    obtain rfl : k = us.length := by omega
    rw [List.take_length]
    refine C.cap 0 rfl (fun hAc => ?_)
    have hal := area_len hok hu
    have hlz : us.length * f.size ≤ 64 * 4096 := Nat.mul_le_mul (by omega) (by omega)
    have hnb := be2_lt ((area f us).drop (e.toNat - 2))
    refine C.region ?_
    refine L.step (Ev.pure rfl) rfl ?_
    refine L.step (Ev.pure rfl) rfl ?_
    refine L.step (Ev.pure rfl) rfl ?_
    refine L.bool 31 rfl (fun hg31 => ?_) (fun hg31 => ?_)
    · skip
      replace hg31 := of_decide_eq_true hg31
      refine L.no rfl rfl rfl ?_
      refine L.no rfl rfl rfl ?_
      refine L.no rfl rfl rfl ?_
      refine L.no rfl rfl rfl ?_
      refine L.step (Ev.pure rfl) rfl ?_
      refine L.nil ?_
      refine QE.seq ?_
      refine C.cond rfl (fun _ => ?_) (fun h => by cases h)
      refine C.seq ?_
      refine C.region ?_
      refine L.step (Ev.pure rfl) rfl ?_
      refine L.step (Ev.pure rfl) rfl ?_
      refine L.step (Ev.pure rfl) rfl ?_
      refine L.nil ?_
      refine QE.seq ?_
      refine C.ret ?_
      refine QE.tR ?_
      refine QE.more (r := Rd none []) (Has.nil) ?_
      have hL : LastBad (area f us) (f.size : Int) e := .inl (by omega)
      refine QE.ret (js := [0]) (hs := []) (vs := [_, _, _]) rfl ⟨rfl, rfl, rfl, trivial⟩ (by decide) ?_
      refine ⟨none, 0, ?_, ?_, rfl⟩
      · rw [lastS_bad hL]; rfl
      · rw [lastS_bad hL]; rfl
    · skip
      replace hg31 := of_decide_eq_false hg31
      refine L.yes rfl ?_
      refine L.step (Ev.pure rfl) rfl ?_
      refine L.yes rfl ?_
      refine L.step (Ev.pure rfl) rfl ?_
      refine L.yes rfl ?_
      refine L.step (Ev.pure rfl) rfl ?_
      refine L.yes rfl ?_
      refine L.step (Ev.pure rfl) rfl ?_
      refine L.step (Ev.pure rfl) rfl ?_
      refine L.nil ?_
      refine QE.seq ?_
      refine C.condB 36 rfl (fun hc36 => ?_) (fun hc36 => ?_)
      · skip
        replace hc36 := of_decide_eq_true hc36
        refine C.seq ?_
        refine C.region ?_
        refine L.step (Ev.pure rfl) rfl ?_
        refine L.step (Ev.pure rfl) rfl ?_
        refine L.step (Ev.pure rfl) rfl ?_
        refine L.nil ?_
        refine QE.seq ?_
        refine C.ret ?_
        refine QE.tR ?_
        refine QE.more (r := Rd none []) (Has.nil) ?_
        have hL : LastBad (area f us) (f.size : Int) e := .inr (.inl (by omega))
        refine QE.ret (js := [0]) (hs := []) (vs := [_, _, _]) rfl ⟨rfl, rfl, rfl, trivial⟩ (by decide) ?_
        refine ⟨none, 0, ?_, ?_, rfl⟩
        · rw [lastS_bad hL]; rfl
        · rw [lastS_bad hL]; rfl
      · skip
        replace hc36 := of_decide_eq_false hc36
        refine C.skip ?_
        refine QE.seq ?_
        refine C.seq ?_
        refine C.freeze 0 rfl [] (by decide) (by decide) ?_
        refine C.region ?_
        refine L.step (Ev.pure rfl) rfl ?_
        refine L.step (Ev.pure rfl) rfl ?_
        refine L.step (Ev.sub rfl rfl (by omega) (by omega)) rfl ?_
        refine L.step (Ev.cast (u := .slice (subA A c (e.toNat - 2) 1) ((area f us).drop (e.toNat - 2)).length (c - (e.toNat - 2))) (Ev.sliceL (l := e.toNat - 2) rfl rfl rfl rfl rfl (by omega) (by omega)) (by rw [List.length_drop]; rfl)) rfl ?_
        refine L.step (Ev.build rfl rfl rfl rfl rfl rfl rfl) rfl ?_
        refine L.alloc rfl rfl rfl (fun A12 => ?_)
        refine L.storeA (j := 0) rfl rfl rfl rfl rfl (Nat.zero_lt_succ _) rfl rfl ?_
        refine L.nil ?_
        refine QE.seq ?_
        refine C.seq ?_
        refine C.region ?_
        refine L.more (r := Rd (subA A c (e.toNat - 2) 1) (U8 ((area f us).drop (e.toNat - 2)))) (Has.dropU (Has.r 0 rfl) c (e.toNat - 2) hAc) ?_
        refine L.callE (js := [0]) (js' := []) (number_c 128 1 A12 [] (subA A c (e.toNat - 2) 1) ((area f us).drop (e.toNat - 2)) (c - (e.toNat - 2)) (by rw [List.length_drop]; omega)) rfl rfl rfl (by decide) ⟨(Has.r 0 rfl), trivial⟩ rfl ?_ ?_
        rotate_left
        · skip
          rintro _ _ ⟨h42, rfl, rfl⟩
          rw [List.length_drop] at h42
          omega
        rintro _ _ _ ⟨rfl, h42, rfl, rfl⟩
        refine L.step (Ev.pure rfl) rfl ?_
        refine L.nil ?_
        refine QE.seq ?_
        refine C.seq ?_
        refine C.seq ?_
        refine C.regionQ (by kernel_rfl) ?_
        refine LQ.step (Ev.pure rfl) rfl ?_
        refine LQ.step (Ev.pure rfl) rfl ?_
        refine LQ.step (Ev.pure rfl) rfl ?_
        refine LQ.step (Ev.pure rfl) rfl ?_
        refine LQ.bool 46 rfl (fun hg46 => ?_) (fun hg46 => ?_)
        · skip
          replace hg46 := of_decide_eq_true hg46
          refine LQ.no rfl rfl rfl ?_
          refine LQ.no rfl rfl rfl ?_
          refine LQ.no rfl rfl rfl ?_
          refine LQ.no rfl rfl rfl ?_
          refine LQ.no rfl rfl rfl ?_
          refine LQ.no rfl rfl rfl ?_
          refine LQ.no rfl rfl rfl ?_
          refine LQ.no rfl rfl rfl ?_
          refine LQ.no rfl rfl rfl ?_
          refine LQ.no rfl rfl rfl ?_
          refine LQ.step (Ev.pure rfl) rfl ?_
          refine LQ.nil ?_
          refine QE.seq ?_
          refine C.cond rfl (fun _ => ?_) (fun h => by cases h)
          refine C.seq ?_
          refine C.region ?_
          refine L.step (Ev.pure rfl) rfl ?_
          refine L.step (Ev.pure rfl) rfl ?_
          refine L.step (Ev.pure rfl) rfl ?_
          refine L.nil ?_
          refine QE.seq ?_
          refine C.ret ?_
          refine QE.tR ?_
          refine QE.more (r := Rd none []) (Has.nil) ?_
          have hL : LastBad (area f us) (f.size : Int) e := .inr (.inr (.inl (by omega)))
          refine QE.ret (js := [0]) (hs := []) (vs := [_, _, _]) rfl ⟨rfl, rfl, rfl, trivial⟩ (by decide) ?_
          refine ⟨none, 0, ?_, ?_, rfl⟩
          · rw [lastS_bad hL]; rfl
          · rw [lastS_bad hL]; rfl
        · skip
          replace hg46 := of_decide_eq_false hg46
          have hlb := lastB_len (A := (area f us)) (e := e.toNat) (by omega) (by omega)
          refine LQ.yes rfl ?_
          refine LQ.step (Ev.pure rfl) rfl ?_
          refine LQ.yes rfl ?_
          refine LQ.step (Ev.pure rfl) rfl ?_
          refine LQ.yes rfl ?_
          refine LQ.step (Ev.pure rfl) rfl ?_
          refine LQ.yes rfl ?_
          refine LQ.step (Ev.sub rfl rfl (by omega) (by omega)) rfl ?_
          refine LQ.yes rfl ?_
          refine LQ.step (Ev.pure rfl) rfl ?_
          refine LQ.yes rfl ?_
          refine LQ.step (Ev.cast (u := .slice (subA A c (e.toNat - (be2 ((area f us).drop (e.toNat - 2)))) 1) (lastB (area f us) e.toNat).length (c - (e.toNat - (be2 ((area f us).drop (e.toNat - 2)))))) (Ev.sliceLH (l := e.toNat - (be2 ((area f us).drop (e.toNat - 2)))) (h := e.toNat) rfl rfl rfl rfl rfl rfl (by omega) (by omega) (by omega) (by omega)) (by rw [hlb, show e.toNat - (e.toNat - (be2 ((area f us).drop (e.toNat - 2)))) = (be2 ((area f us).drop (e.toNat - 2))) from by omega]; rfl)) rfl ?_
          refine LQ.yes rfl ?_
          refine LQ.step (Ev.fieldAddr rfl rfl rfl rfl rfl rfl (Src.r 3 rfl) (Nat.zero_lt_succ _) rfl) rfl ?_
          refine LQ.yes rfl ?_
          refine LQ.step (Ev.load rfl rfl rfl (Src.r 3 rfl) rfl) rfl ?_
          refine LQ.yes rfl ?_
          refine LQ.call (.bool (parseS (lastB (area f us) e.toNat) (f.size : Int)).isSome) (readL_c (subA A c (e.toNat - (be2 ((area f us).drop (e.toNat - 2)))) 1) (lastB (area f us) e.toNat) (c - (e.toNat - (be2 ((area f us).drop (e.toNat - 2))))) (f.size : Int) (by omega) (by omega) (by omega)) (fun _ _ _ h => h.1) rfl ⟨((Has.sub (Has.r 1 rfl) c (e.toNat - (be2 ((area f us).drop (e.toNat - 2)))) 1 (be2 ((area f us).drop (e.toNat - 2))) (by rw [U8_len]; omega)).cast (by rw [Nat.mul_one, U8_drop, U8_take]; rfl)), trivial⟩ rfl ?_
          refine LQ.yes rfl ?_
          refine LQ.step (Ev.pure rfl) rfl ?_
          refine LQ.step (Ev.pure rfl) rfl ?_
          refine LQ.nil ?_
          refine QE.seq ?_
          refine C.condB 57 rfl (fun hc57 => ?_) (fun hc57 => ?_)
          · skip
            have hpn : parseS (lastB (area f us) e.toNat) (f.size : Int) = none := by simpa using hc57
            refine C.seq ?_
            refine C.region ?_
            refine L.step (Ev.pure rfl) rfl ?_
            refine L.step (Ev.pure rfl) rfl ?_
            refine L.step (Ev.pure rfl) rfl ?_
            refine L.nil ?_
            refine QE.seq ?_
            refine C.ret ?_
            refine QE.tR ?_
            refine QE.more (r := Rd none []) (Has.nil) ?_
            have hL : LastBad (area f us) (f.size : Int) e := .inr (.inr (.inr hpn))
            refine QE.ret (js := [0]) (hs := []) (vs := [_, _, _]) rfl ⟨rfl, rfl, rfl, trivial⟩ (by decide) ?_
            refine ⟨none, 0, ?_, ?_, rfl⟩
            · rw [lastS_bad hL]; rfl
            · rw [lastS_bad hL]; rfl
          · skip
            obtain ⟨ps, hps⟩ : ∃ ps, parseS (lastB (area f us) e.toNat) (f.size : Int) = some ps := Option.isSome_iff_exists.1 (by simpa using hc57)
            refine C.skip ?_
            refine QE.seq ?_
            refine C.seq ?_
            refine C.region ?_
            refine L.step (Ev.pure rfl) rfl ?_
            refine L.step (Ev.pure rfl) rfl ?_
            refine L.step (Ev.pure rfl) rfl ?_
            refine L.step (Ev.sub rfl rfl (by omega) (by omega)) rfl ?_
            refine L.step (Ev.pure rfl) rfl ?_
            refine L.step (Ev.cast (u := .slice (subA A c (e.toNat - (be2 ((area f us).drop (e.toNat - 2)))) 1) (lastB (area f us) e.toNat).length (c - (e.toNat - (be2 ((area f us).drop (e.toNat - 2)))))) (Ev.sliceLH (l := e.toNat - (be2 ((area f us).drop (e.toNat - 2)))) (h := e.toNat) rfl rfl rfl rfl rfl rfl (by omega) (by omega) (by omega) (by omega)) (by rw [hlb, show e.toNat - (e.toNat - (be2 ((area f us).drop (e.toNat - 2)))) = (be2 ((area f us).drop (e.toNat - 2))) from by omega]; rfl)) rfl ?_
            refine L.step (Ev.pure rfl) rfl ?_
            refine L.step (Ev.pure rfl) rfl ?_
            refine L.step (Ev.sub rfl rfl (by omega) (by omega)) rfl ?_
            refine L.step (Ev.pure rfl) rfl ?_
            refine L.step (Ev.pure rfl) rfl ?_
            refine L.step (Ev.pure rfl) rfl ?_
            refine L.nil ?_
            refine QE.seq ?_
            refine C.ret ?_
            refine QE.more (r := Rd (subA A c (e.toNat - (be2 ((area f us).drop (e.toNat - 2)))) 1) (U8 (lastB (area f us) e.toNat))) (((Has.sub (Has.r 1 rfl) c (e.toNat - (be2 ((area f us).drop (e.toNat - 2)))) 1 (be2 ((area f us).drop (e.toNat - 2))) (by rw [U8_len]; omega)).cast (by rw [Nat.mul_one, U8_drop, U8_take]; rfl))) ?_
            have hL : ¬LastBad (area f us) (f.size : Int) e := by unfold LastBad; rw [hps]; rintro (h | h | h | h) <;> first | omega | cases h
            refine QE.ret (js := [0]) (hs := []) (vs := [_, _, _]) rfl ⟨rfl, rfl, rfl, trivial⟩ (by decide) ?_
            refine ⟨subA A c (e.toNat - (be2 ((area f us).drop (e.toNat - 2)))) 1, c - (e.toNat - (be2 ((area f us).drop (e.toNat - 2)))), ?_, ?_, rfl⟩
            · rw [lastS_ok hL]; rfl
            · rw [lastS_ok hL]; rfl

theorem llast_c (f : Fl) (a : Fa) (ok : f.Ok) (hh : a.hs.length = f.data.length) (us : List Int) (U : Option Addr) (uc : Nat) (hu : UOk f us) (e : Int) :
    Ctr X 30 [.agg (List.toArray [.int .i64 (f.size : Int), .slice a.D f.data.length a.cD, .slice a.W f.wear.length a.cW, .int .i64 f.limit, .slice a.E f.dead.length a.cE]), .agg (List.toArray [.int .i64 0, .int .i64 0, .int .i64 0, .int .i64 0, .int .i64 0, .slice none 0 0, .slice U us.length uc, .slice none 0 0]), .int .i64 e] [Rd a.D (rowsV a.hs (B8 f.data)), KidsR a.hs (B8 f.data), Rd a.W (I64 f.wear), Rd a.E (Bs f.dead), Rd U (I64 us)] [] (fun v R' H' => ∃ A c, v = .agg (List.toArray [.slice A (lastS (area f us) (f.size : Int) e).b.length c, .int .i64 (lastS (area f us) (f.size : Int) e).at_, .int .i64 (lastS (area f us) (f.size : Int) e).e]) ∧ R' = [Rd A (U8 (lastS (area f us) (f.size : Int) e).b)] ∧ H' = []) := by
  refine Ctr.of (X := X) (fn := Try.f30) Try.func30 rfl (by kernel_rfl) rfl ?_
  intro β
  refine C.seq ?_
  refine C.region ?_
  refine L.boxA rfl rfl (fun A3 => ?_)
  refine L.boxA rfl rfl (fun A4 => ?_)
  refine L.alloc rfl rfl rfl (fun A6 => ?_)
  refine L.nil ?_
  refine QE.seq ?_
  refine C.seq ?_
  refine C.freeze 0 rfl [1, 2] (by decide) (by decide) ?_
  refine C.freeze 0 rfl [1] (by decide) (by decide) ?_
  refine C.region ?_
  refine L.step (Ev.loadA rfl rfl rfl (Src.r 1 rfl) rfl rfl (by decide)) rfl ?_
  refine L.step (Ev.loadA rfl rfl rfl (Src.r 0 rfl) rfl rfl (by decide)) rfl ?_
  refine L.step (Ev.pure rfl) rfl ?_
  refine L.callR (js := []) (js' := [0]) (lastP_c f a ok hh us U uc hu e) rfl rfl rfl (by decide) ⟨(Has.r 2 rfl), (Has.r 3 rfl), (Has.r 4 rfl), (Has.r 5 rfl), (Has.r 6 rfl), trivial⟩ rfl ?_
  rintro _ _ _ ⟨NA, nc, rfl, rfl, rfl⟩
  refine L.step (Ev.pure rfl) rfl ?_
  refine L.step (Ev.pure rfl) rfl ?_
  refine L.step (Ev.pure rfl) rfl ?_
  refine L.step (Ev.pure rfl) rfl ?_
  refine L.step (Ev.pure rfl) rfl ?_
  refine L.step (Ev.pure rfl) rfl ?_
  refine L.step (Ev.pure rfl) rfl ?_
  refine L.nil ?_
  refine QE.seq ?_
  refine C.seq ?_
  refine C.region ?_
  refine L.step (Ev.pure rfl) rfl ?_
  refine L.step (Ev.pure rfl) rfl ?_
  refine L.step (Ev.pure rfl) rfl ?_
  refine L.step (Ev.build rfl rfl rfl rfl rfl rfl rfl) rfl ?_
  refine L.storeA (j := 0) rfl rfl rfl rfl rfl (Nat.zero_lt_succ _) rfl rfl ?_
  refine L.nil ?_
  refine QE.seq ?_
  refine C.ret ?_
  refine QE.ret (js := [0]) (hs := []) (vs := [_]) rfl ⟨⟨_, _, 0, _, rfl, rfl, Src.o 0 rfl, .inl ⟨rfl, by decide, _, rfl, rfl, rfl⟩⟩, trivial⟩ (by decide) ?_
  exact ⟨NA, nc, rfl, rfl, rfl⟩

end Go.Proofs.Ythfjkdgopkmgoaa
