/-
  The contract of the Flash laws' sanity.
-/
import Derived.Test.YthfjkdgopkmgoaaWFlJ
namespace Go.Proofs.Ythfjkdgopkmgoaa
open Go.Sl

theorem Ctr.tb (c : Bool) {f : Nat} {args : List Value} {R H : List Pr} {b : Bool} (h : Ctr X f args R H (fun v R' H' => v = .bool b ∧ R' = [] ∧ H' = [])) (hb : b = c) : Ctr X f args R H (fun v R' H' => v = .bool c ∧ R' = [] ∧ H' = []) := hb ▸ h
def S0 : Fl := ⟨2, [[255, 255]], [0], 5, [false]⟩
def S : Fl := ⟨2, [[240, 255]], [0], 5, [false]⟩
def S1 : Fl := ⟨2, [[48, 255]], [0], 5, [false]⟩
def S2 : Fl := ⟨2, [[250, 255]], [1], 5, [false]⟩
theorem one_row {p : Nat → Prop} (h : p 0) : ∀ i, i < 1 → p i := fun i hi => by
  obtain rfl : i = 0 := by omega
  exact h
theorem S_ok : S.Ok := ⟨by decide, by decide, by decide, by decide, rfl, rfl, one_row rfl, by decide, by decide, one_row (by decide)⟩
theorem S0_ok : S0.Ok := ⟨by decide, by decide, by decide, by decide, rfl, rfl, one_row rfl, by decide, by decide, one_row (by decide)⟩
theorem S0_sm : S0.Sm := S0_ok.sm
theorem san_do1 (a : Fa) (hh : a.hs.length = 1) (XA : Option Addr) (xc : Nat) : Ctr X 36 [.agg (List.toArray [.int .i64 (S.size : Int), .slice a.D S.data.length a.cD, .slice a.W S.wear.length a.cW, .int .i64 S.limit, .slice a.E S.dead.length a.cE]), .agg (List.toArray [.int .i64 (Fo.mk 2 0 0 [60]).kind, .int .i64 (Fo.mk 2 0 0 [60]).sec, .int .i64 (Fo.mk 2 0 0 [60]).at_, .slice XA (Fo.mk 2 0 0 [60]).data.length xc])] [Rd a.D (rowsV a.hs (B8 S.data)), KidsR a.hs (B8 S.data), Rd a.W (I64 S.wear), Rd a.E (Bs S.dead), Rd XA (U8 [60])] [] (fun v R' H' => ∃ b : Fa, b.hs.length = S1.data.length ∧ v = .tuple #[flV S1 b, .int .i64 0] ∧ R' = flR S1 b ∧ H' = []) := by
  have h := do_c S a S_ok hh ⟨2, 0, 0, [60]⟩ XA xc (by decide)
  rw [show cutR S ⟨2, 0, 0, [60]⟩ (fun _ => 255) = S1 from by kernel_rfl, show checkE S ⟨2, 0, 0, [60]⟩ = 0 from by kernel_rfl] at h
  exact h
theorem san_do2 (a : Fa) (hh : a.hs.length = 1) (XA : Option Addr) (xc : Nat) : Ctr X 36 [.agg (List.toArray [.int .i64 (S.size : Int), .slice a.D S.data.length a.cD, .slice a.W S.wear.length a.cW, .int .i64 S.limit, .slice a.E S.dead.length a.cE]), .agg (List.toArray [.int .i64 (Fo.mk 2 0 1 [0, 0]).kind, .int .i64 (Fo.mk 2 0 1 [0, 0]).sec, .int .i64 (Fo.mk 2 0 1 [0, 0]).at_, .slice XA (Fo.mk 2 0 1 [0, 0]).data.length xc])] [Rd a.D (rowsV a.hs (B8 S.data)), KidsR a.hs (B8 S.data), Rd a.W (I64 S.wear), Rd a.E (Bs S.dead), Rd XA (U8 [0, 0])] [] (fun v R' H' => ∃ b : Fa, b.hs.length = flz.data.length ∧ v = .tuple #[flV flz b, .int .i64 170] ∧ R' = flR flz b ∧ H' = []) := by
  have h := do_c S a S_ok hh ⟨2, 0, 1, [0, 0]⟩ XA xc (by decide)
  rw [show cutR S ⟨2, 0, 1, [0, 0]⟩ (fun _ => 255) = flz from by kernel_rfl, show checkE S ⟨2, 0, 1, [0, 0]⟩ = 170 from by kernel_rfl] at h
  exact h
theorem san_do3 (a : Fa) (hh : a.hs.length = 1) (XA : Option Addr) (xc : Nat) : Ctr X 36 [.agg (List.toArray [.int .i64 (S.size : Int), .slice a.D S.data.length a.cD, .slice a.W S.wear.length a.cW, .int .i64 S.limit, .slice a.E S.dead.length a.cE]), .agg (List.toArray [.int .i64 (Fo.mk 3 0 0 []).kind, .int .i64 (Fo.mk 3 0 0 []).sec, .int .i64 (Fo.mk 3 0 0 []).at_, .slice XA (Fo.mk 3 0 0 []).data.length xc])] [Rd a.D (rowsV a.hs (B8 S.data)), KidsR a.hs (B8 S.data), Rd a.W (I64 S.wear), Rd a.E (Bs S.dead), Rd XA (U8 [])] [] (fun v R' H' => ∃ b : Fa, b.hs.length = flz.data.length ∧ v = .tuple #[flV flz b, .int .i64 1] ∧ R' = flR flz b ∧ H' = []) := by
  have h := do_c S a S_ok hh ⟨3, 0, 0, []⟩ XA xc (by decide)
  rw [show cutR S ⟨3, 0, 0, []⟩ (fun _ => 255) = flz from by kernel_rfl, show checkE S ⟨3, 0, 0, []⟩ = 1 from by kernel_rfl] at h
  exact h
theorem san_cut (a : Fa) (hh : a.hs.length = 1) (M : Option Addr) : Ctr X 38 [.agg (List.toArray [.int .i64 (S.size : Int), .slice a.D S.data.length a.cD, .slice a.W S.wear.length a.cW, .int .i64 S.limit, .slice a.E S.dead.length a.cE]), .agg (List.toArray [.int .i64 (Fo.mk 1 0 0 []).kind, .int .i64 (Fo.mk 1 0 0 []).sec, .int .i64 (Fo.mk 1 0 0 []).at_, .slice none (Fo.mk 1 0 0 []).data.length 0]), .slice M 1 1] [Rd a.D (rowsV a.hs (B8 S.data)), KidsR a.hs (B8 S.data), Rd a.W (I64 S.wear), Rd a.E (Bs S.dead), Rd none (U8 []), Rd M (U8 [10])] [] (fun v R' H' => ∃ b : Fa, b.hs.length = S2.data.length ∧ v = .tuple #[flV S2 b, .int .i64 0] ∧ R' = flR S2 b ∧ H' = []) := by
  have h := cut_c S a S_ok hh ⟨1, 0, 0, []⟩ none 0 (by decide) [10] M 1 1 rfl (by decide)
  rw [show cutR S ⟨1, 0, 0, []⟩ (fun i => [10].getD i 0) = S2 from by kernel_rfl, show checkE S ⟨1, 0, 0, []⟩ = 0 from by kernel_rfl] at h
  exact h

set_option maxHeartbeats 1000000 in
theorem sanity_c  :
    Ctr X 34 [] [] [] (fun v R' H' => v = .bool true ∧ R' = [] ∧ H' = []) := by
  refine Ctr.of (X := X) (fn := Try.f34) Try.func34 rfl (by kernel_rfl) rfl ?_
  intro β
  refine C.seq ?_
  refine C.region ?_
  refine L.step (Ev.pure rfl) rfl ?_
  refine L.nil ?_
  refine QE.seq ?_
  refine C.seq ?_
  refine C.region ?_
  refine L.callR (js := []) (js' := []) (newP_c 2 1 5 (by decide) (by decide) (by decide) (by decide) (by decide) (by decide)) rfl rfl rfl (by decide) trivial rfl ?_
  rintro _ _ _ ⟨b, rfl, rfl, rfl, hb⟩
  refine L.step (Ev.pure rfl) rfl ?_
  refine L.step (Ev.pure rfl) rfl ?_
  refine L.step (Ev.pure rfl) rfl ?_
  refine L.alloc rfl rfl rfl (fun A1 => ?_)
  refine L.storeA (j := 0) rfl rfl rfl rfl rfl (Nat.zero_lt_succ _) rfl rfl ?_
  refine L.step (Ev.pure rfl) rfl ?_
  refine L.nil ?_
  refine QE.seq ?_
  refine C.seq ?_
  refine C.region ?_
  refine L.call (js := []) (js' := [0]) (newPbad_c 0 1 5 (by decide)) rfl rfl rfl (by decide) trivial rfl ?_
  rintro _ _ _ ⟨rfl, rfl, rfl⟩
  refine L.step (Ev.pure rfl) rfl ?_
  refine L.step (Ev.pure rfl) rfl ?_
  refine L.step (Ev.pure rfl) rfl ?_
  refine L.alloc rfl rfl rfl (fun A3 => ?_)
  refine L.storeA (j := 1) rfl rfl rfl rfl rfl (Nat.zero_lt_succ _) rfl rfl ?_
  refine L.step (Ev.pure rfl) rfl ?_
  refine L.nil ?_
  refine QE.seq ?_
  refine C.seq ?_
  refine C.seq ?_
  refine C.le (Γ' := [(1, ptrOf A1 0), (2, .int .i64 0), (4, .int .i64 1)]) (R' := [Rd b.D (V0 b.hs 2 1), KidsR b.hs (B8 (List.replicate 1 (List.replicate 2 255))), Rd b.W (I64 (List.replicate 1 0)), Rd b.E (Bs (List.replicate 1 false))]) (H' := [Own 32 5 A1 1 1 [.int .i64 2, .slice b.D 1 b.cD, .slice b.W 1 b.cW, .int .i64 5, .slice b.E 1 b.cE]]) (by exact Le.mk' (rs := [0, 1, 2, 3]) (hs := [0]) ⟨rfl, rfl, rfl, trivial⟩ ⟨rfl, rfl, rfl, rfl, trivial⟩ ⟨rfl, trivial⟩ (by decide)) ?_
  refine C.region ?_
  refine L.step (Ev.pure rfl) rfl ?_
  refine L.step (Ev.pure rfl) rfl ?_
  refine L.step (Ev.pure rfl) rfl ?_
  refine L.bool 25 rfl (fun hg25 => ?_) (fun hg25 => ?_)
  · skip
    replace hg25 := b_ne hg25
    exact (hg25 rfl).elim
  · skip
    replace hg25 := b_eq hg25
    refine L.yes rfl ?_
    refine L.step (Ev.pure rfl) rfl ?_
    refine L.yes rfl ?_
    refine L.step (Ev.pure rfl) rfl ?_
    refine L.step (Ev.pure rfl) rfl ?_
    refine L.step (Ev.pure rfl) rfl ?_
    refine L.bool 29 rfl (fun hg29 => ?_) (fun hg29 => ?_)
    · skip
      replace hg29 := b_ne hg29
      exact (hg29 rfl).elim
    · skip
      replace hg29 := b_eq hg29
      refine L.yes rfl ?_
      refine L.step (Ev.loadA rfl rfl rfl (Src.o 0 rfl) rfl rfl (by decide)) rfl ?_
      refine L.yes rfl ?_
      refine L.lit rfl rfl rfl rfl rfl (by rfl) (by rfl) (by rfl) rfl rfl (fun A31 => ?_)
      refine L.yes rfl ?_
      refine L.lit rfl rfl rfl rfl rfl (by rfl) (by rfl) (by rfl) rfl rfl (fun A32 => ?_)
      refine L.yes rfl ?_
      refine L.lit rfl rfl rfl rfl rfl (by rfl) (by rfl) (by rfl) rfl rfl (fun A33 => ?_)
      refine L.yes rfl ?_
      refine L.lit rfl rfl rfl rfl rfl (by rfl) (by rfl) (by rfl) rfl rfl (fun A34 => ?_)
      refine L.yes rfl ?_
      refine L.step (Ev.build rfl rfl rfl rfl rfl rfl rfl) rfl ?_
      refine L.yes rfl ?_
      refine L.freeze 1 rfl [0, 2, 3, 4] (by decide) (by decide) ?_
      refine L.freeze 1 rfl [0, 2, 3] (by decide) (by decide) ?_
      refine L.freeze 1 rfl [0, 2] (by decide) (by decide) ?_
      refine L.freeze 1 rfl [0] (by decide) (by decide) ?_
      refine L.more (r := KidsR [] []) (Has.kids0) ?_
      refine L.more (r := KidsR [(A31, 2)] (B8 S0.data)) (Has.kidsSnoc (hs := []) (vss := []) 0 4 2 rfl rfl rfl) ?_
      refine L.call (js := []) (js' := [0]) (Ctr.tb true (sameF_c S0 S0 b ⟨A32, 1, [(A31, 2)], A33, 1, A34, 1⟩ S0_sm S0_sm hb rfl) (by kernel_rfl)) rfl rfl rfl (by decide) ⟨(Has.r 6 rfl), (Has.r 7 rfl), (Has.r 8 rfl), (Has.r 9 rfl), (Has.r 4 rfl), (Has.r 0 rfl), (Has.r 3 rfl), (Has.r 2 rfl), trivial⟩ rfl ?_
      rintro _ _ _ ⟨rfl, rfl, rfl⟩
      refine L.yes rfl ?_
      refine L.step (Ev.pure rfl) rfl ?_
      refine L.step (Ev.pure rfl) rfl ?_
      refine L.nil ?_
      refine QE.seq ?_
      refine C.cond rfl (fun h => by cases h) (fun _ => ?_)
      refine C.skip ?_
      refine QE.seq ?_
      refine C.seq ?_
      refine C.le (Γ' := [(1, ptrOf A1 0)]) (R' := [KidsR [] [], Rd b.D (V0 b.hs 2 1), KidsR b.hs (B8 (List.replicate 1 (List.replicate 2 255))), Rd b.W (I64 (List.replicate 1 0)), Rd b.E (Bs (List.replicate 1 false))]) (H' := [Own 32 5 A1 1 1 [.int .i64 2, .slice b.D 1 b.cD, .slice b.W 1 b.cW, .int .i64 5, .slice b.E 1 b.cE]]) (by exact Le.mk' (rs := [1, 6, 7, 8, 9]) (hs := [0]) ⟨rfl, trivial⟩ ⟨rfl, rfl, rfl, rfl, rfl, trivial⟩ ⟨rfl, trivial⟩ (by decide)) ?_
      refine C.region ?_
      refine L.lit rfl rfl rfl rfl rfl (by rfl) (by rfl) (by rfl) rfl rfl (fun A39 => ?_)
      refine L.lit rfl rfl rfl rfl rfl (by rfl) (by rfl) (by rfl) rfl rfl (fun A40 => ?_)
      refine L.step (Ev.fieldAddr rfl rfl rfl rfl rfl rfl (Src.o 0 rfl) (Nat.zero_lt_succ _) rfl) rfl ?_
      refine L.store (j := 0) rfl rfl rfl rfl rfl rfl rfl rfl ?_
      refine L.nil ?_
      refine QE.seq ?_
      refine C.seq ?_
      refine C.freeze 0 rfl [1, 2] (by decide) (by decide) ?_
      refine C.freeze 0 rfl [1] (by decide) (by decide) ?_
      refine C.freeze 0 rfl [] (by decide) (by decide) ?_
      refine C.more (r := KidsR [(A39, 2)] (B8 S.data)) (Has.kidsSnoc (hs := []) (vss := []) 3 1 2 rfl rfl rfl) ?_
      refine C.more (r := Rd A40 (rowsV [(A39, 2)] (B8 S.data))) (Has.r 1 rfl) ?_
      refine C.more (r := Rd b.W (I64 S.wear)) (Has.r 8 rfl) ?_
      refine C.more (r := Rd b.E (Bs S.dead)) (Has.r 10 rfl) ?_
      refine C.region ?_
      refine L.step (Ev.loadA rfl rfl rfl (Src.r 6 rfl) rfl rfl (by decide)) rfl ?_
      refine L.lit rfl rfl rfl rfl rfl (by rfl) (by rfl) (by rfl) rfl rfl (fun A44 => ?_)
      refine L.step (Ev.build rfl rfl rfl rfl rfl rfl rfl) rfl ?_
      refine L.freeze 0 rfl [] (by decide) (by decide) ?_
      refine L.callR (js := []) (js' := []) (san_do1 ⟨A40, 1, [(A39, 2)], b.W, b.cW, b.E, b.cE⟩ rfl A44 1) rfl rfl rfl (by decide) ⟨(Has.r 3 rfl), (Has.r 4 rfl), (Has.r 2 rfl), (Has.r 1 rfl), (Has.r 0 rfl), trivial⟩ rfl ?_
      rintro _ _ _ ⟨b1, hb1, rfl, rfl, rfl⟩
      refine L.step (Ev.pure rfl) rfl ?_
      refine L.step (Ev.pure rfl) rfl ?_
      refine L.step (Ev.pure rfl) rfl ?_
      refine L.alloc rfl rfl rfl (fun A5 => ?_)
      refine L.storeA (j := 0) rfl rfl rfl rfl rfl (Nat.zero_lt_succ _) rfl rfl ?_
      refine L.step (Ev.pure rfl) rfl ?_
      refine L.nil ?_
      refine QE.seq ?_
      refine C.seq ?_
      refine C.le (Γ' := [(1, ptrOf A1 0), (5, ptrOf A5 0), (6, .int .i64 0)]) (R' := [Rd A1 [.int .i64 2, .slice A40 1 1, .slice b.W 1 b.cW, .int .i64 5, .slice b.E 1 b.cE], Rd A40 (rowsV [(A39, 2)] (B8 S.data)), KidsR [(A39, 2)] (B8 S.data), Rd b.W (I64 S.wear), Rd b.E (Bs S.dead), Rd b1.D (rowsV b1.hs (B8 S1.data)), KidsR b1.hs (B8 S1.data), Rd b1.W (I64 S1.wear), Rd b1.E (Bs S1.dead)]) (H' := [Own 32 5 A5 1 1 [.int .i64 (S1.size : Int), .slice b1.D S1.data.length b1.cD, .slice b1.W S1.wear.length b1.cW, .int .i64 S1.limit, .slice b1.E S1.dead.length b1.cE]]) (by exact Le.mk' (rs := [11, 7, 8, 6, 5, 0, 1, 2, 3]) (hs := [0]) ⟨rfl, rfl, rfl, trivial⟩ ⟨rfl, rfl, rfl, rfl, rfl, rfl, rfl, rfl, rfl, trivial⟩ ⟨rfl, trivial⟩ (by decide)) ?_
      refine C.region ?_
      refine L.step (Ev.loadA rfl rfl rfl (Src.r 0 rfl) rfl rfl (by decide)) rfl ?_
      refine L.step (Ev.build rfl rfl rfl rfl rfl rfl rfl) rfl ?_
      refine L.lit rfl rfl rfl rfl rfl (by rfl) (by rfl) (by rfl) rfl rfl (fun A52 => ?_)
      refine L.freeze 1 rfl [0] (by decide) (by decide) ?_
      refine L.callR (js := []) (js' := [0]) (san_cut ⟨A40, 1, [(A39, 2)], b.W, b.cW, b.E, b.cE⟩ rfl A52) rfl rfl rfl (by decide) ⟨(Has.r 2 rfl), (Has.r 3 rfl), (Has.r 4 rfl), (Has.r 5 rfl), Has.nil, (Has.r 0 rfl), trivial⟩ rfl ?_
      rintro _ _ _ ⟨b2, hb2, rfl, rfl, rfl⟩
      refine L.step (Ev.pure rfl) rfl ?_
      refine L.step (Ev.pure rfl) rfl ?_
      refine L.step (Ev.pure rfl) rfl ?_
      refine L.alloc rfl rfl rfl (fun A7 => ?_)
      refine L.storeA (j := 1) rfl rfl rfl rfl rfl (Nat.zero_lt_succ _) rfl rfl ?_
      refine L.step (Ev.pure rfl) rfl ?_
      refine L.nil ?_
      refine QE.seq ?_
      refine C.seq ?_
      refine C.le (Γ' := [(1, ptrOf A1 0), (5, ptrOf A5 0), (6, .int .i64 0), (7, ptrOf A7 0), (8, .int .i64 0)]) (R' := [Rd A1 [.int .i64 2, .slice A40 1 1, .slice b.W 1 b.cW, .int .i64 5, .slice b.E 1 b.cE], Rd A40 (rowsV [(A39, 2)] (B8 S.data)), KidsR [(A39, 2)] (B8 S.data), Rd b.W (I64 S.wear), Rd b.E (Bs S.dead), Rd b1.D (rowsV b1.hs (B8 S1.data)), KidsR b1.hs (B8 S1.data), Rd b1.W (I64 S1.wear), Rd b1.E (Bs S1.dead), Rd b2.D (rowsV b2.hs (B8 S2.data)), KidsR b2.hs (B8 S2.data), Rd b2.W (I64 S2.wear), Rd b2.E (Bs S2.dead)]) (H' := [Own 32 5 A5 1 1 [.int .i64 (S1.size : Int), .slice b1.D S1.data.length b1.cD, .slice b1.W S1.wear.length b1.cW, .int .i64 S1.limit, .slice b1.E S1.dead.length b1.cE], Own 32 5 A7 1 1 [.int .i64 (S2.size : Int), .slice b2.D S2.data.length b2.cD, .slice b2.W S2.wear.length b2.cW, .int .i64 S2.limit, .slice b2.E S2.dead.length b2.cE]]) (by exact Le.mk' (rs := [5, 6, 7, 8, 9, 10, 11, 12, 13, 0, 1, 2, 3]) (hs := [0, 1]) ⟨rfl, rfl, rfl, rfl, rfl, trivial⟩ ⟨rfl, rfl, rfl, rfl, rfl, rfl, rfl, rfl, rfl, rfl, rfl, rfl, rfl, trivial⟩ ⟨rfl, rfl, trivial⟩ (by decide)) ?_
      refine C.region ?_
      refine L.step (Ev.loadA rfl rfl rfl (Src.r 0 rfl) rfl rfl (by decide)) rfl ?_
      refine L.lit rfl rfl rfl rfl rfl (by rfl) (by rfl) (by rfl) rfl rfl (fun A58 => ?_)
      refine L.step (Ev.build rfl rfl rfl rfl rfl rfl rfl) rfl ?_
      refine L.freeze 2 rfl [0, 1] (by decide) (by decide) ?_
      refine L.callR (js := []) (js' := [0, 1]) (san_do2 ⟨A40, 1, [(A39, 2)], b.W, b.cW, b.E, b.cE⟩ rfl A58 2) rfl rfl rfl (by decide) ⟨(Has.r 2 rfl), (Has.r 3 rfl), (Has.r 4 rfl), (Has.r 5 rfl), (Has.r 0 rfl), trivial⟩ rfl ?_
      rintro _ _ _ ⟨b3, hb3, rfl, rfl, rfl⟩
      refine L.step (Ev.pure rfl) rfl ?_
      refine L.step (Ev.pure rfl) rfl ?_
      refine L.step (Ev.pure rfl) rfl ?_
      refine L.alloc rfl rfl rfl (fun A9 => ?_)
      refine L.storeA (j := 2) rfl rfl rfl rfl rfl (Nat.zero_lt_succ _) rfl rfl ?_
      refine L.step (Ev.pure rfl) rfl ?_
      refine L.nil ?_
      refine QE.seq ?_
      refine C.seq ?_
      refine C.le (Γ' := [(1, ptrOf A1 0), (5, ptrOf A5 0), (6, .int .i64 0), (7, ptrOf A7 0), (8, .int .i64 0), (10, .int .i64 170)]) (R' := [Rd A1 [.int .i64 2, .slice A40 1 1, .slice b.W 1 b.cW, .int .i64 5, .slice b.E 1 b.cE], Rd A40 (rowsV [(A39, 2)] (B8 S.data)), KidsR [(A39, 2)] (B8 S.data), Rd b.W (I64 S.wear), Rd b.E (Bs S.dead), Rd b1.D (rowsV b1.hs (B8 S1.data)), KidsR b1.hs (B8 S1.data), Rd b1.W (I64 S1.wear), Rd b1.E (Bs S1.dead), Rd b2.D (rowsV b2.hs (B8 S2.data)), KidsR b2.hs (B8 S2.data), Rd b2.W (I64 S2.wear), Rd b2.E (Bs S2.dead)]) (H' := [Own 32 5 A5 1 1 [.int .i64 (S1.size : Int), .slice b1.D S1.data.length b1.cD, .slice b1.W S1.wear.length b1.cW, .int .i64 S1.limit, .slice b1.E S1.dead.length b1.cE], Own 32 5 A7 1 1 [.int .i64 (S2.size : Int), .slice b2.D S2.data.length b2.cD, .slice b2.W S2.wear.length b2.cW, .int .i64 S2.limit, .slice b2.E S2.dead.length b2.cE]]) (by exact Le.mk' (rs := [5, 6, 7, 8, 9, 10, 11, 12, 13, 14, 15, 16, 17]) (hs := [0, 1]) ⟨rfl, rfl, rfl, rfl, rfl, rfl, trivial⟩ ⟨rfl, rfl, rfl, rfl, rfl, rfl, rfl, rfl, rfl, rfl, rfl, rfl, rfl, trivial⟩ ⟨rfl, rfl, trivial⟩ (by decide)) ?_
      refine C.region ?_
      refine L.step (Ev.loadA rfl rfl rfl (Src.r 0 rfl) rfl rfl (by decide)) rfl ?_
      refine L.step (Ev.build rfl rfl rfl rfl rfl rfl rfl) rfl ?_
      refine L.callR (js := []) (js' := [0, 1]) (san_do3 ⟨A40, 1, [(A39, 2)], b.W, b.cW, b.E, b.cE⟩ rfl none 0) rfl rfl rfl (by decide) ⟨(Has.r 1 rfl), (Has.r 2 rfl), (Has.r 3 rfl), (Has.r 4 rfl), Has.nil, trivial⟩ rfl ?_
      rintro _ _ _ ⟨b4, hb4, rfl, rfl, rfl⟩
      refine L.step (Ev.pure rfl) rfl ?_
      refine L.step (Ev.pure rfl) rfl ?_
      refine L.step (Ev.pure rfl) rfl ?_
      refine L.alloc rfl rfl rfl (fun A11 => ?_)
      refine L.storeA (j := 2) rfl rfl rfl rfl rfl (Nat.zero_lt_succ _) rfl rfl ?_
      refine L.step (Ev.pure rfl) rfl ?_
      refine L.nil ?_
      refine QE.seq ?_
      refine C.seq ?_
      refine C.seq ?_
      refine C.le (Γ' := [(1, ptrOf A1 0), (5, ptrOf A5 0), (6, .int .i64 0), (7, ptrOf A7 0), (8, .int .i64 0), (10, .int .i64 170), (12, .int .i64 1)]) (R' := [Rd A1 [.int .i64 2, .slice A40 1 1, .slice b.W 1 b.cW, .int .i64 5, .slice b.E 1 b.cE], Rd A40 (rowsV [(A39, 2)] (B8 S.data)), KidsR [(A39, 2)] (B8 S.data), Rd b.W (I64 S.wear), Rd b.E (Bs S.dead), Rd b1.D (rowsV b1.hs (B8 S1.data)), KidsR b1.hs (B8 S1.data), Rd b1.W (I64 S1.wear), Rd b1.E (Bs S1.dead), Rd b2.D (rowsV b2.hs (B8 S2.data)), KidsR b2.hs (B8 S2.data), Rd b2.W (I64 S2.wear), Rd b2.E (Bs S2.dead)]) (H' := [Own 32 5 A5 1 1 [.int .i64 (S1.size : Int), .slice b1.D S1.data.length b1.cD, .slice b1.W S1.wear.length b1.cW, .int .i64 S1.limit, .slice b1.E S1.dead.length b1.cE], Own 32 5 A7 1 1 [.int .i64 (S2.size : Int), .slice b2.D S2.data.length b2.cD, .slice b2.W S2.wear.length b2.cW, .int .i64 S2.limit, .slice b2.E S2.dead.length b2.cE]]) (by exact Le.mk' (rs := [4, 5, 6, 7, 8, 9, 10, 11, 12, 13, 14, 15, 16]) (hs := [0, 1]) ⟨rfl, rfl, rfl, rfl, rfl, rfl, rfl, trivial⟩ ⟨rfl, rfl, rfl, rfl, rfl, rfl, rfl, rfl, rfl, rfl, rfl, rfl, rfl, trivial⟩ ⟨rfl, rfl, trivial⟩ (by decide)) ?_
      refine C.region ?_
      refine L.step (Ev.pure rfl) rfl ?_
      refine L.step (Ev.pure rfl) rfl ?_
      refine L.step (Ev.pure rfl) rfl ?_
      refine L.bool 71 rfl (fun hg71 => ?_) (fun hg71 => ?_)
      · skip
        replace hg71 := b_ne hg71
        exact (hg71 rfl).elim
      · skip
        replace hg71 := b_eq hg71
        refine L.yes rfl ?_
        refine L.step (Ev.pure rfl) rfl ?_
        refine L.yes rfl ?_
        refine L.step (Ev.pure rfl) rfl ?_
        refine L.step (Ev.pure rfl) rfl ?_
        refine L.step (Ev.pure rfl) rfl ?_
        refine L.bool 75 rfl (fun hg75 => ?_) (fun hg75 => ?_)
        · skip
          replace hg75 := b_ne hg75
          exact (hg75 rfl).elim
        · skip
          replace hg75 := b_eq hg75
          refine L.yes rfl ?_
          refine L.step (Ev.pure rfl) rfl ?_
          refine L.yes rfl ?_
          refine L.step (Ev.pure rfl) rfl ?_
          refine L.step (Ev.pure rfl) rfl ?_
          refine L.step (Ev.pure rfl) rfl ?_
          refine L.bool 79 rfl (fun hg79 => ?_) (fun hg79 => ?_)
          · skip
            replace hg79 := b_ne hg79
            exact (hg79 rfl).elim
          · skip
            replace hg79 := b_eq hg79
            refine L.yes rfl ?_
            refine L.step (Ev.pure rfl) rfl ?_
            refine L.yes rfl ?_
            refine L.step (Ev.pure rfl) rfl ?_
            refine L.step (Ev.pure rfl) rfl ?_
            refine L.step (Ev.pure rfl) rfl ?_
            refine L.bool 83 rfl (fun hg83 => ?_) (fun hg83 => ?_)
            · skip
              replace hg83 := b_ne hg83
              exact (hg83 rfl).elim
            · skip
              replace hg83 := b_eq hg83
              refine L.yes rfl ?_
              refine L.step (Ev.fieldAddr rfl rfl rfl rfl rfl rfl (Src.o 0 rfl) (Nat.zero_lt_succ _) rfl) rfl ?_
              refine L.yes rfl ?_
              refine L.step (Ev.load rfl rfl rfl (Src.o 0 rfl) rfl) rfl ?_
              refine L.yes rfl ?_
              refine L.step (Ev.pure rfl) rfl ?_
              refine L.yes rfl ?_
              refine L.step (Ev.pure rfl) rfl ?_
              refine L.step (Ev.pure rfl) rfl ?_
              refine L.step (Ev.pure rfl) rfl ?_
              refine L.bool 89 rfl (fun hg89 => ?_) (fun hg89 => ?_)
              · skip
                replace hg89 := b_ne hg89
                exact (hg89 rfl).elim
              · skip
                replace hg89 := b_eq hg89
                refine L.yes rfl ?_
                refine L.step (Ev.fieldAddr rfl rfl rfl rfl rfl rfl (Src.o 1 rfl) (Nat.zero_lt_succ _) rfl) rfl ?_
                refine L.yes rfl ?_
                refine L.step (Ev.load rfl rfl rfl (Src.o 1 rfl) rfl) rfl ?_
                refine L.yes rfl ?_
                refine L.step (Ev.pure rfl) rfl ?_
                refine L.yes rfl ?_
                refine L.step (Ev.pure rfl) rfl ?_
                refine L.step (Ev.pure rfl) rfl ?_
                refine L.step (Ev.pure rfl) rfl ?_
                refine L.bool 95 rfl (fun hg95 => ?_) (fun hg95 => ?_)
                · skip
                  replace hg95 := b_ne hg95
                  exact (hg95 rfl).elim
                · skip
                  replace hg95 := b_eq hg95
                  refine L.yes rfl ?_
                  refine L.step (Ev.fieldAddr rfl rfl rfl rfl rfl rfl (Src.o 1 rfl) (Nat.zero_lt_succ _) rfl) rfl ?_
                  refine L.yes rfl ?_
                  refine L.step (Ev.load rfl rfl rfl (Src.o 1 rfl) rfl) rfl ?_
                  refine L.yes rfl ?_
                  refine L.step (Ev.pure rfl) rfl ?_
                  refine L.yes rfl ?_
                  refine L.step (Ev.pure rfl) rfl ?_
                  refine L.step (Ev.pure rfl) rfl ?_
                  refine L.nil ?_
                  refine QE.seq ?_
                  refine C.condB 100 rfl (fun hc100 => ?_) (fun hc100 => ?_)
                  · skip
                    replace hc100 := b_ne hc100
                    exact (hc100 rfl).elim
                  · skip
                    replace hc100 := b_eq hc100
                    refine C.skip ?_
                    refine QE.seq ?_
                    refine C.seq ?_
                    refine C.le (Γ' := [(1, ptrOf A1 0), (5, ptrOf A5 0), (7, ptrOf A7 0)]) (R' := [Rd A1 [.int .i64 2, .slice A40 1 1, .slice b.W 1 b.cW, .int .i64 5, .slice b.E 1 b.cE], Rd A40 (rowsV [(A39, 2)] (B8 S.data)), KidsR [(A39, 2)] (B8 S.data), Rd b.W (I64 S.wear), Rd b.E (Bs S.dead), Rd b1.D (rowsV b1.hs (B8 S1.data)), KidsR b1.hs (B8 S1.data), Rd b1.W (I64 S1.wear), Rd b1.E (Bs S1.dead), Rd b2.D (rowsV b2.hs (B8 S2.data)), KidsR b2.hs (B8 S2.data), Rd b2.W (I64 S2.wear), Rd b2.E (Bs S2.dead)]) (H' := [Own 32 5 A5 1 1 [.int .i64 (S1.size : Int), .slice b1.D S1.data.length b1.cD, .slice b1.W S1.wear.length b1.cW, .int .i64 S1.limit, .slice b1.E S1.dead.length b1.cE], Own 32 5 A7 1 1 [.int .i64 (S2.size : Int), .slice b2.D S2.data.length b2.cD, .slice b2.W S2.wear.length b2.cW, .int .i64 S2.limit, .slice b2.E S2.dead.length b2.cE]]) (by exact Le.mk' (rs := [0, 1, 2, 3, 4, 5, 6, 7, 8, 9, 10, 11, 12]) (hs := [0, 1]) ⟨rfl, rfl, rfl, trivial⟩ ⟨rfl, rfl, rfl, rfl, rfl, rfl, rfl, rfl, rfl, rfl, rfl, rfl, rfl, trivial⟩ ⟨rfl, rfl, trivial⟩ (by decide)) ?_
                    refine C.region ?_
                    refine L.step (Ev.fieldAddr rfl rfl rfl rfl rfl rfl (Src.o 0 rfl) (Nat.zero_lt_succ _) rfl) rfl ?_
                    refine L.step (Ev.load rfl rfl rfl (Src.o 0 rfl) rfl) rfl ?_
                    refine L.step (Ev.idx1 (k := 0) rfl rfl rfl rfl rfl rfl rfl (by decide) (Src.r 5 rfl) (by rw [rowsV_len (by rw [B8_len]; exact hb1)]; decide)) rfl ?_
                    refine L.step (Ev.load rfl rfl rfl (Src.r 5 rfl) (rows8_get hb1 (by decide))) rfl ?_
                    refine L.lit rfl rfl rfl rfl rfl (by rfl) (by rfl) (by rfl) rfl rfl (fun A105 => ?_)
                    refine L.freeze 2 rfl [0, 1] (by decide) (by decide) ?_
                    refine L.call (js := []) (js' := [0, 1]) (Ctr.tb true (same_c _ _ _ _ (S1.data.getD 0 []) [48, 255] (by decide) (by decide)) (by kernel_rfl)) rfl rfl rfl (by decide) ⟨((Has.kid 7 rfl (by rw [B8_len]; exact hb1) 0 (by decide)).cast (B8_get _)), (Has.r 0 rfl), trivial⟩ rfl ?_
                    rintro _ _ _ ⟨rfl, rfl, rfl⟩
                    refine L.step (Ev.pure rfl) rfl ?_
                    refine L.yes rfl ?_
                    refine L.step (Ev.fieldAddr rfl rfl rfl rfl rfl rfl (Src.o 1 rfl) (Nat.zero_lt_succ _) rfl) rfl ?_
                    refine L.yes rfl ?_
                    refine L.step (Ev.load rfl rfl rfl (Src.o 1 rfl) rfl) rfl ?_
                    refine L.yes rfl ?_
                    refine L.step (Ev.idx1 (k := 0) rfl rfl rfl rfl rfl rfl rfl (by decide) (Src.r 10 rfl) (by rw [rowsV_len (by rw [B8_len]; exact hb2)]; decide)) rfl ?_
                    refine L.yes rfl ?_
                    refine L.step (Ev.load rfl rfl rfl (Src.r 10 rfl) (rows8_get hb2 (by decide))) rfl ?_
                    refine L.yes rfl ?_
                    refine L.lit rfl rfl rfl rfl rfl (by rfl) (by rfl) (by rfl) rfl rfl (fun A112 => ?_)
                    refine L.yes rfl ?_
                    refine L.freeze 2 rfl [0, 1] (by decide) (by decide) ?_
                    refine L.call (js := []) (js' := [0, 1]) (Ctr.tb true (same_c _ _ _ _ (S2.data.getD 0 []) [250, 255] (by decide) (by decide)) (by kernel_rfl)) rfl rfl rfl (by decide) ⟨((Has.kid 12 rfl (by rw [B8_len]; exact hb2) 0 (by decide)).cast (B8_get _)), (Has.r 0 rfl), trivial⟩ rfl ?_
                    rintro _ _ _ ⟨rfl, rfl, rfl⟩
                    refine L.step (Ev.pure rfl) rfl ?_
                    refine L.step (Ev.pure rfl) rfl ?_
                    refine L.yes rfl ?_
                    refine L.step (Ev.fieldAddr rfl rfl rfl rfl rfl rfl (Src.o 1 rfl) (Nat.zero_lt_succ _) rfl) rfl ?_
                    refine L.yes rfl ?_
                    refine L.step (Ev.load rfl rfl rfl (Src.o 1 rfl) rfl) rfl ?_
                    refine L.yes rfl ?_
                    refine L.step (Ev.idx1 (k := 0) rfl rfl rfl rfl rfl rfl rfl (by decide) (Src.r 13 rfl) (by decide)) rfl ?_
                    refine L.yes rfl ?_
                    refine L.step (Ev.load rfl rfl rfl (Src.r 13 rfl) (I64_get (by decide))) rfl ?_
                    refine L.yes rfl ?_
                    refine L.step (Ev.pure rfl) rfl ?_
                    refine L.step (Ev.pure rfl) rfl ?_
                    refine L.step (Ev.pure rfl) rfl ?_
                    refine L.nil ?_
                    refine QE.seq ?_
                    refine C.seq ?_
                    refine C.le (Γ' := [(1, ptrOf A1 0), (13, .bool (S2.wear.getD 0 0 == 1))]) (R' := [Rd A1 [.int .i64 2, .slice A40 1 1, .slice b.W 1 b.cW, .int .i64 5, .slice b.E 1 b.cE], Rd A40 (rowsV [(A39, 2)] (B8 S.data)), KidsR [(A39, 2)] (B8 S.data), Rd b.W (I64 S.wear), Rd b.E (Bs S.dead)]) (H' := []) (by exact Le.mk' (rs := [2, 3, 4, 5, 6]) (hs := []) ⟨rfl, rfl, trivial⟩ ⟨rfl, rfl, rfl, rfl, rfl, trivial⟩ trivial (by decide)) ?_
                    refine C.region ?_
                    refine L.step (Ev.loadA rfl rfl rfl (Src.r 0 rfl) rfl rfl (by decide)) rfl ?_
                    refine L.lit rfl rfl rfl rfl rfl (by rfl) (by rfl) (by rfl) rfl rfl (fun A123 => ?_)
                    refine L.freeze 0 rfl [] (by decide) (by decide) ?_
                    refine L.callR (js := []) (js' := []) (ltow_c S (Fa.mk A40 1 [(A39, 2)] b.W b.cW b.E b.cE) S_ok rfl 0 [240, 0] A123 2 (by decide)) rfl rfl rfl (by decide) ⟨(Has.r 2 rfl), (Has.r 3 rfl), (Has.r 4 rfl), (Has.r 5 rfl), (Has.r 0 rfl), trivial⟩ rfl ?_
                    rintro _ _ _ ⟨T124, t124, rfl, rfl, rfl⟩
                    refine L.lit rfl rfl rfl rfl rfl (by rfl) (by rfl) (by rfl) rfl rfl (fun A125 => ?_)
                    refine L.step (Ev.build rfl rfl rfl rfl rfl rfl rfl) rfl ?_
                    refine L.step (Ev.build rfl rfl rfl rfl rfl rfl rfl) rfl ?_
                    refine L.freeze 0 rfl [] (by decide) (by decide) ?_
                    refine L.call (js := []) (js' := []) (Ctr.tb true (lsame_c (towN S 0 [240, 0]) ⟨⟨2, 0, 0, [240, 0]⟩, false, 0⟩ _ A125 _ 2 (by decide) (by decide)) (by kernel_rfl)) rfl rfl rfl (by decide) ⟨(Has.r 1 rfl), (Has.r 0 rfl), trivial⟩ rfl ?_
                    rintro _ _ _ ⟨rfl, rfl, rfl⟩
                    refine L.step (Ev.pure rfl) rfl ?_
                    refine L.nil ?_
                    refine QE.seq ?_
                    refine C.seq ?_
                    refine C.le (Γ' := [(1, ptrOf A1 0), (13, .bool (S2.wear.getD 0 0 == 1)), (14, .bool true)]) (R' := [Rd A1 [.int .i64 2, .slice A40 1 1, .slice b.W 1 b.cW, .int .i64 5, .slice b.E 1 b.cE], Rd A40 (rowsV [(A39, 2)] (B8 S.data)), KidsR [(A39, 2)] (B8 S.data), Rd b.W (I64 S.wear), Rd b.E (Bs S.dead)]) (H' := []) (by exact Le.mk' (rs := [3, 4, 5, 6, 7]) (hs := []) ⟨rfl, rfl, rfl, trivial⟩ ⟨rfl, rfl, rfl, rfl, rfl, trivial⟩ trivial (by decide)) ?_
                    refine C.region ?_
                    refine L.step (Ev.pure rfl) rfl ?_
                    refine L.step (Ev.pure rfl) rfl ?_
                    refine L.bool 130 rfl (fun hg130 => ?_) (fun hg130 => ?_)
                    · skip
                      replace hg130 := i_eq hg130
                      refine L.yes rfl ?_
                      refine L.step (Ev.pure rfl) rfl ?_
                      refine L.step (Ev.pure rfl) rfl ?_
                      refine L.step (Ev.pure rfl) rfl ?_
                      refine L.yes rfl ?_
                      refine L.step (Ev.loadA rfl rfl rfl (Src.r 0 rfl) rfl rfl (by decide)) rfl ?_
                      refine L.yes rfl ?_
                      refine L.lit rfl rfl rfl rfl rfl (by rfl) (by rfl) (by rfl) rfl rfl (fun A135 => ?_)
                      refine L.yes rfl ?_
                      refine L.freeze 0 rfl [] (by decide) (by decide) ?_
                      refine L.callR (js := []) (js' := []) (ltow_c S (Fa.mk A40 1 [(A39, 2)] b.W b.cW b.E b.cE) S_ok rfl 0 [255, 0] A135 2 (by decide)) rfl rfl rfl (by decide) ⟨(Has.r 2 rfl), (Has.r 3 rfl), (Has.r 4 rfl), (Has.r 5 rfl), (Has.r 0 rfl), trivial⟩ rfl ?_
                      rintro _ _ _ ⟨T136, t136, rfl, rfl, rfl⟩
                      refine L.yes rfl ?_
                      refine L.step (Ev.build rfl rfl rfl rfl rfl rfl rfl) rfl ?_
                      refine L.yes rfl ?_
                      refine L.step (Ev.build rfl rfl rfl rfl rfl rfl rfl) rfl ?_
                      refine L.yes rfl ?_
                      refine L.call (js := []) (js' := []) (Ctr.tb true (lsame_c (towN S 0 [255, 0]) ⟨⟨1, 0, 0, []⟩, false, 0⟩ _ none _ 0 (by decide) (by decide)) (by kernel_rfl)) rfl rfl rfl (by decide) ⟨(Has.r 0 rfl), Has.nil, trivial⟩ rfl ?_
                      rintro _ _ _ ⟨rfl, rfl, rfl⟩
                      refine L.step (Ev.pure rfl) rfl ?_
                      refine L.step (Ev.pure rfl) rfl ?_
                      refine L.yes rfl ?_
                      refine L.step (Ev.loadA rfl rfl rfl (Src.r 2 rfl) rfl rfl (by decide)) rfl ?_
                      refine L.yes rfl ?_
                      refine L.lit rfl rfl rfl rfl rfl (by rfl) (by rfl) (by rfl) rfl rfl (fun A143 => ?_)
                      refine L.yes rfl ?_
                      refine L.freeze 0 rfl [] (by decide) (by decide) ?_
                      refine L.callR (js := []) (js' := []) (ltow_c S (Fa.mk A40 1 [(A39, 2)] b.W b.cW b.E b.cE) S_ok rfl 0 [240, 255] A143 2 (by decide)) rfl rfl rfl (by decide) ⟨(Has.r 4 rfl), (Has.r 5 rfl), (Has.r 6 rfl), (Has.r 7 rfl), (Has.r 0 rfl), trivial⟩ rfl ?_
                      rintro _ _ _ ⟨T144, t144, rfl, rfl, rfl⟩
                      refine L.yes rfl ?_
                      refine L.step (Ev.build rfl rfl rfl rfl rfl rfl rfl) rfl ?_
                      refine L.yes rfl ?_
                      refine L.call (js := []) (js' := []) (Ctr.tb true (lsame_c (towN S 0 [240, 255]) ⟨⟨0, 0, 0, []⟩, true, 0⟩ _ none _ 0 (by decide) (by decide)) (by kernel_rfl)) rfl rfl rfl (by decide) ⟨(Has.r 0 rfl), Has.nil, trivial⟩ rfl ?_
                      rintro _ _ _ ⟨rfl, rfl, rfl⟩
                      refine L.step (Ev.pure rfl) rfl ?_
                      refine L.step (Ev.pure rfl) rfl ?_
                      refine L.yes rfl ?_
                      refine L.step (Ev.loadA rfl rfl rfl (Src.r 4 rfl) rfl rfl (by decide)) rfl ?_
                      refine L.yes rfl ?_
                      refine L.lit rfl rfl rfl rfl rfl (by rfl) (by rfl) (by rfl) rfl rfl (fun A150 => ?_)
                      refine L.yes rfl ?_
                      refine L.freeze 0 rfl [] (by decide) (by decide) ?_
                      refine L.callR (js := []) (js' := []) (ltow_c S (Fa.mk A40 1 [(A39, 2)] b.W b.cW b.E b.cE) S_ok rfl 1 [0, 0] A150 2 (by decide)) rfl rfl rfl (by decide) ⟨(Has.r 6 rfl), (Has.r 7 rfl), (Has.r 8 rfl), (Has.r 9 rfl), (Has.r 0 rfl), trivial⟩ rfl ?_
                      rintro _ _ _ ⟨T151, t151, rfl, rfl, rfl⟩
                      refine L.yes rfl ?_
                      refine L.step (Ev.pure rfl) rfl ?_
                      refine L.yes rfl ?_
                      refine L.step (Ev.pure rfl) rfl ?_
                      refine L.step (Ev.pure rfl) rfl ?_
                      refine L.step (Ev.pure rfl) rfl ?_
                      refine L.bool 155 rfl (fun hg155 => ?_) (fun hg155 => ?_)
                      · skip
                        replace hg155 := i_eq hg155
                        refine L.yes rfl ?_
                        refine L.step (Ev.loadA rfl rfl rfl (Src.r 6 rfl) rfl rfl (by decide)) rfl ?_
                        refine L.yes rfl ?_
                        refine L.call (js := []) (js' := []) (Ctr.tb true (valid_c 2 S ⟨A40, 1, [(A39, 2)], b.W, b.cW, b.E, b.cE⟩ rfl (by decide)) (by kernel_rfl)) rfl rfl rfl (by decide) ⟨(Has.r 7 rfl), (Has.r 8 rfl), (Has.r 9 rfl), (Has.r 10 rfl), trivial⟩ rfl ?_
                        rintro _ _ _ ⟨rfl, rfl, rfl⟩
                        refine L.step (Ev.pure rfl) rfl ?_
                        refine L.step (Ev.pure rfl) rfl ?_
                        refine L.yes rfl ?_
                        refine L.step (Ev.build rfl rfl rfl rfl rfl rfl rfl) rfl ?_
                        refine L.yes rfl ?_
                        refine L.call (js := []) (js' := []) (Ctr.tb false (valid_c 0 flz az rfl (by decide)) (by kernel_rfl)) rfl rfl rfl (by decide) ⟨Has.nil, Has.kids0, Has.nil, Has.nil, trivial⟩ rfl ?_
                        rintro _ _ _ ⟨rfl, rfl, rfl⟩
                        refine L.yes rfl ?_
                        refine L.step (Ev.pure rfl) rfl ?_
                        refine L.step (Ev.pure rfl) rfl ?_
                        refine L.step (Ev.pure rfl) rfl ?_
                        refine L.nil ?_
                        refine QE.seq ?_
                        refine C.ret ?_
                        refine QE.ret (js := []) (hs := []) (vs := [_]) rfl ⟨rfl, trivial⟩ (by decide) ?_
                        exact ⟨rfl, rfl, rfl⟩
                      · skip
                        replace hg155 := i_ne hg155
                        exact (hg155 rfl).elim
                    · skip
                      replace hg130 := i_ne hg130
                      exact (hg130 rfl).elim

end Go.Proofs.Ythfjkdgopkmgoaa
