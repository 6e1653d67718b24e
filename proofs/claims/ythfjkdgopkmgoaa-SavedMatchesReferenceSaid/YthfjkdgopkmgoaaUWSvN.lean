/-
  The contract of SavedMatchesReference.
-/
import Derived.Test.YthfjkdgopkmgoaaUWSvL
namespace Go.Proofs.Ythfjkdgopkmgoaa
open Go.Sl

theorem res_h (SA RB : Option Addr) (b rec : List UInt8) (n ca m rc : Nat) (r : List UInt8) (e : Int) (hn : b.length = n) (hm : rec.length = m) (hr : resS b rec = r) (he : resE b rec = e) (hbl : n ≤ 900000) (hrl : m ≤ 900000) (hrc : m ≤ rc) :
    Ctr X 23 [.slice SA n ca, .slice RB m rc] [Rd SA (U8 b), Rd RB (U8 rec)] [] (fun v R' H' => ∃ (A : Option Addr) (c : Nat), v = .tuple #[.slice A r.length c, .int .i64 e] ∧ R' = [] ∧ H' = [Own 5 1 A r.length c (U8 r)]) := by
  subst hm
  exact res_g SA RB b rec n ca rc r e hn hr he hbl hrl hrc
theorem res21_h (SA RB : Option Addr) (b rec : List UInt8) (n ca m rc : Nat) (r : List UInt8) (e : Int) (hn : b.length = n) (hm : rec.length = m) (hr : resS b rec = r) (he : resE b rec = e) (hbl : n ≤ 900000) (hrl : m ≤ 900000) :
    Ctr X 24 [.slice SA n ca, .slice RB m rc] [Rd SA (U8 b), Rd RB (U8 rec)] [] (fun v R' H' => ∃ (A : Option Addr) (c : Nat), v = .tuple #[.slice A r.length c, .int .i64 e] ∧ R' = [] ∧ H' = [Own 5 1 A r.length c (U8 r)]) := by
  subst hm
  exact res21_g SA RB b rec n ca rc r e hn hr he hbl hrl
theorem towS_len {f : Fl} {us : List Int} {p : Int} {b : List UInt8} : (towS f us p b).x.data.length ≤ b.length := by
  unfold towS
  split
  · exact Nat.zero_le _
  · split
    · exact Nat.zero_le _
    · split
      · exact Nat.zero_le _
      · split
        · exact Nat.zero_le _
        · show (chunk b _ _ _).length ≤ _
          unfold chunk
          rw [List.length_take, List.length_drop]
          omega
theorem lastS_len {A : List UInt8} {z e : Int} : (lastS A z e).b.length ≤ 65536 := by
  unfold lastS
  split
  · exact Nat.zero_le _
  · show (lastB A e.toNat).length ≤ _
    unfold lastB
    have := be2_lt (A.drop (e.toNat - 2))
    rw [List.length_take]
    omega

set_option maxHeartbeats 2000000 in
theorem sMatches_c (sz un : UInt8) (b : List UInt8) (BA : Option Addr) (bc : Nat) (hbc : b.length ≤ bc) (hbl : b.length ≤ 9223372036854775807) (w0 w1 w2 w3 : Int) (hw0 : -128 ≤ w0 ∧ w0 ≤ 127) (hw1 : -128 ≤ w1 ∧ w1 ≤ 127) (_hw2 : -128 ≤ w2 ∧ w2 ≤ 127) (hw3 : -128 ≤ w3 ∧ w3 ≤ 127) :
    Ctr X 3 [.agg (List.toArray [.int .u8 (sz.toNat : Int), .int .u8 (un.toNat : Int)]), .slice BA b.length bc, .agg (List.toArray [.int .i8 w0, .int .i8 w1, .int .i8 w2, .int .i8 w3])] [Rd BA (U8 b)] [] (fun v R' H' => v = .bool true ∧ R' = [] ∧ H' = []) := by
  refine Ctr.of (X := X) (fn := Try.f3) Try.func3 rfl (by kernel_rfl) rfl ?_
  intro β
  obtain ⟨f, hf⟩ : ∃ f, f = fl0 (4 + sz.toNat % 12) 5 9 := ⟨_, rfl⟩
  obtain ⟨us, hus⟩ : ∃ us, us = undoL un := ⟨_, rfl⟩
  have hbk : Blank f us := made_blank sz un hf hus
  have ok := hbk.ok
  have hu := hbk.hu
  obtain ⟨os1, os2, on1, on2, owl, odl, orows, ol1, ol2, owear⟩ := id ok
  have hone := hbk.one
  have hu0 := hu.r 0 hone
  have hfb := hbk.u
  have hfr := orows (us.getD 0 0).toNat hfb
  refine C.seq ?_
  refine C.region ?_
  refine L.boxA rfl rfl (fun A3 => ?_)
  refine L.boxA rfl rfl (fun A5 => ?_)
  refine L.step (Ev.pure rfl) rfl ?_
  refine L.nil ?_
  refine QE.seq ?_
  refine C.seq ?_
  refine C.freeze 0 rfl [1] (by decide) (by decide) ?_
  refine C.norm (H' := [_]) [0] ⟨rfl, trivial⟩ (by decide) ?_
  refine C.freeze 0 rfl [] (by decide) (by decide) ?_
  refine C.region ?_
  refine L.call (js := []) (js' := []) (sanity21_c) rfl rfl rfl (by decide) trivial rfl ?_
  rintro _ _ _ ⟨rfl, rfl, rfl⟩
  refine L.step (Ev.pure rfl) rfl ?_
  refine L.nil ?_
  refine QE.seq ?_
  refine C.seq ?_
  refine C.region ?_
  refine L.step (Ev.loadA rfl rfl rfl (Src.r 1 rfl) rfl rfl (by decide)) rfl ?_
  refine L.call (js := []) (js' := []) (made21_c sz un f us hf hus) rfl rfl rfl (by decide) trivial rfl ?_
  rintro _ _ _ ⟨a, U, uc, hb, hcp, rfl, rfl, rfl⟩
  refine L.norm (H' := [_, _, _, _, _]) [0, 1, 2, 3, 4] ⟨rfl, rfl, rfl, rfl, rfl, trivial⟩ (by decide) ?_
  refine L.step (Ev.pure rfl) rfl ?_
  refine L.step (Ev.pure rfl) rfl ?_
  refine L.step (Ev.pure rfl) rfl ?_
  refine L.alloc rfl rfl rfl (fun A8 => ?_)
  refine L.alloc rfl rfl rfl (fun A9 => ?_)
  refine L.storeA (j := 5) rfl rfl rfl rfl rfl (Nat.zero_lt_succ _) rfl rfl ?_
  refine L.storeA (j := 6) rfl rfl rfl rfl rfl (Nat.zero_lt_succ _) rfl rfl ?_
  refine L.nil ?_
  refine QE.seq ?_
  refine C.seq ?_
  refine C.region ?_
  refine L.step (Ev.pure rfl) rfl ?_
  refine L.step (Ev.idxArr (k := 0) (m := 0) rfl rfl rfl rfl rfl rfl (by decide) (Src.r 0 rfl) (Nat.zero_lt_succ _) rfl) rfl ?_
  refine L.step (Ev.load rfl rfl rfl (Src.r 0 rfl) rfl) rfl ?_
  refine L.step (Ev.toByte rfl rfl rfl rfl) rfl ?_
  refine L.step (Ev.idxArr (k := 1) (m := 1) rfl rfl rfl rfl rfl rfl (by decide) (Src.r 0 rfl) (Nat.zero_lt_succ _) rfl) rfl ?_
  refine L.step (Ev.load rfl rfl rfl (Src.r 0 rfl) rfl) rfl ?_
  refine L.step (Ev.toByte rfl rfl rfl rfl) rfl ?_
  refine L.step (Ev.buildArr rfl rfl rfl rfl rfl rfl rfl) rfl ?_
  refine L.step (Ev.idxArr (k := 2) (m := 2) rfl rfl rfl rfl rfl rfl (by decide) (Src.r 0 rfl) (Nat.zero_lt_succ _) rfl) rfl ?_
  refine L.step (Ev.load rfl rfl rfl (Src.r 0 rfl) rfl) rfl ?_
  refine L.step (Ev.toByte rfl rfl rfl rfl) rfl ?_
  refine L.step (Ev.buildArr rfl rfl rfl rfl rfl rfl rfl) rfl ?_
  refine L.lit2A (cs := [.int .u8 ((UInt8.ofInt w0).toNat : Int), .int .u8 ((UInt8.ofInt w1).toNat : Int)]) (cs' := [.int .u8 ((UInt8.ofInt w2).toNat : Int), .int .u8 7]) rfl rfl rfl rfl rfl rfl (by decide) rfl rfl rfl rfl (fun A39 => ?_)
  refine L.step (Ev.fieldAddr rfl rfl rfl rfl rfl rfl (Src.o 5 rfl) (Nat.zero_lt_succ _) rfl) rfl ?_
  refine L.step (Ev.load rfl rfl rfl (Src.o 5 rfl) rfl) rfl ?_
  refine L.call (js := []) (js' := [0, 1, 2, 3, 4, 5, 6, 7]) (chg21_c BA A39 b [((UInt8.ofInt w0), (UInt8.ofInt w1)), ((UInt8.ofInt w2), 7)] bc 2 f.size (by omega) (by omega)) rfl rfl rfl (by decide) ⟨(Has.r 2 rfl), (Has.o 7 rfl), trivial⟩ rfl ?_
  rintro _ _ _ ⟨O, N, oc, nc, rfl, rfl, rfl⟩
  obtain ⟨o, ho⟩ : ∃ o, o = oldN b f.size := ⟨_, rfl⟩
  obtain ⟨w, hw⟩ : ∃ w, w = newL b [((UInt8.ofInt w0), (UInt8.ofInt w1)), ((UInt8.ofInt w2), 7)] f.size := ⟨_, rfl⟩
  rw [← ho, ← hw]
  have hlo : o.length = f.size := by rw [ho, oldN_len]
  have hlw : w.length = f.size := by rw [hw, newL_len]
  refine L.norm (H' := [_, _, _, _, _, _, _, _, _, _]) [0, 1, 2, 3, 4, 5, 6, 7, 8, 9] ⟨rfl, rfl, rfl, rfl, rfl, rfl, rfl, rfl, rfl, rfl, trivial⟩ (by decide) ?_
  refine L.alloc rfl rfl rfl (fun A10 => ?_)
  refine L.storeA (j := 10) rfl rfl rfl rfl rfl (Nat.zero_lt_succ _) rfl rfl ?_
  refine L.nil ?_
  refine QE.seq ?_
  refine C.seq ?_
  refine C.region ?_
  refine L.step (Ev.idxArr (k := 3) (m := 3) rfl rfl rfl rfl rfl rfl (by decide) (Src.r 0 rfl) (Nat.zero_lt_succ _) rfl) rfl ?_
  refine L.step (Ev.load rfl rfl rfl (Src.r 0 rfl) rfl) rfl ?_
  refine L.step (Ev.toInt rfl rfl rfl rfl (by omega) (by omega)) rfl ?_
  refine L.step (Ev.fieldAddr rfl rfl rfl rfl rfl rfl (Src.o 10 rfl) (Nat.zero_lt_succ _) rfl) rfl ?_
  refine L.store (j := 10) rfl rfl rfl rfl rfl rfl rfl rfl ?_
  refine L.nil ?_
  refine QE.seq ?_
  refine C.seq ?_
  refine C.cap 0 rfl (fun hoc => ?_)
  refine C.freeze 10 rfl [0, 1, 2, 3, 4, 5, 6, 7, 8, 9] (by decide) (by decide) ?_
  refine C.norm (H' := [_, _, _, _, _, _, _, _, _, _]) [0, 1, 2, 3, 4, 5, 6, 7, 8, 9] ⟨rfl, rfl, rfl, rfl, rfl, rfl, rfl, rfl, rfl, rfl, trivial⟩ (by decide) ?_
  refine C.freeze 0 rfl [1, 2, 3, 4, 5, 6, 7, 8, 9] (by decide) (by decide) ?_
  refine C.norm (H' := [_, _, _, _, _, _, _, _, _]) [0, 1, 2, 3, 4, 5, 6, 7, 8] ⟨rfl, rfl, rfl, rfl, rfl, rfl, rfl, rfl, rfl, trivial⟩ (by decide) ?_
  refine C.freeze 0 rfl [1, 2, 3, 4, 5, 6, 7, 8] (by decide) (by decide) ?_
  refine C.norm (H' := [_, _, _, _, _, _, _, _]) [0, 1, 2, 3, 4, 5, 6, 7] ⟨rfl, rfl, rfl, rfl, rfl, rfl, rfl, rfl, trivial⟩ (by decide) ?_
  refine C.region ?_
  refine L.step (Ev.fieldAddr rfl rfl rfl rfl rfl rfl (Src.r 2 rfl) (Nat.zero_lt_succ _) rfl) rfl ?_
  refine L.step (Ev.load rfl rfl rfl (Src.r 2 rfl) rfl) rfl ?_
  refine L.step (Ev.fieldAddr rfl rfl rfl rfl rfl rfl (Src.r 2 rfl) (Nat.zero_lt_succ _) rfl) rfl ?_
  refine L.step (Ev.load rfl rfl rfl (Src.r 2 rfl) rfl) rfl ?_
  refine L.step (Ev.fieldAddr rfl rfl rfl rfl rfl rfl (Src.r 2 rfl) (Nat.zero_lt_succ _) rfl) rfl ?_
  refine L.step (Ev.load rfl rfl rfl (Src.r 2 rfl) rfl) rfl ?_
  refine L.call (js := []) (js' := [0, 1, 2, 3, 4, 5, 6, 7]) (rec_g w3 O N o w f.size f.size oc nc (recS w3 o w) (recE w3 o w) hlo hlw rfl rfl hoc (by omega) (by omega)) rfl rfl rfl (by decide) ⟨(Has.r 1 rfl), (Has.r 0 rfl), trivial⟩ rfl ?_
  rintro _ _ _ ⟨R54, rc54, rfl, rfl, rfl⟩
  refine L.norm (H' := [_, _, _, _, _, _, _, _, _]) [0, 1, 2, 3, 4, 5, 6, 7, 8] ⟨rfl, rfl, rfl, rfl, rfl, rfl, rfl, rfl, rfl, trivial⟩ (by decide) ?_
  refine L.step (Ev.pure rfl) rfl ?_
  refine L.step (Ev.pure rfl) rfl ?_
  refine L.step (Ev.pure rfl) rfl ?_
  refine L.step (Ev.pure rfl) rfl ?_
  refine L.step (Ev.pure rfl) rfl ?_
  refine L.nil ?_
  refine QE.seq ?_
  refine C.seq ?_
  refine C.region ?_
  refine L.step (Ev.loadA rfl rfl rfl (Src.r 2 rfl) rfl rfl (by decide)) rfl ?_
  refine L.call (js := []) (js' := [0, 1, 2, 3, 4, 5, 6, 7, 8]) (rec21_g w3 O N o w f.size f.size oc nc (recS w3 o w) (recE w3 o w) hlo hlw rfl rfl hoc (by omega) (by omega)) rfl rfl rfl (by decide) ⟨(Has.r 1 rfl), (Has.r 0 rfl), trivial⟩ rfl ?_
  rintro _ _ _ ⟨R59, rc59, rfl, rfl, rfl⟩
  refine L.norm (H' := [_, _, _, _, _, _, _, _, _, _]) [0, 1, 2, 3, 4, 5, 6, 7, 8, 9] ⟨rfl, rfl, rfl, rfl, rfl, rfl, rfl, rfl, rfl, rfl, trivial⟩ (by decide) ?_
  refine L.step (Ev.pure rfl) rfl ?_
  refine L.step (Ev.pure rfl) rfl ?_
  refine L.step (Ev.pure rfl) rfl ?_
  refine L.step (Ev.pure rfl) rfl ?_
  refine L.step (Ev.pure rfl) rfl ?_
  refine L.nil ?_
  refine QE.seq ?_
  refine C.seq ?_
  refine C.seq ?_
  refine C.cap 0 rfl (fun hrc59 => ?_)
  refine C.freeze 1 rfl [0, 2, 3, 4, 5, 6, 7, 8, 9] (by decide) (by decide) ?_
  refine C.norm (H' := [_, _, _, _, _, _, _, _, _]) [0, 1, 2, 3, 4, 5, 6, 7, 8] ⟨rfl, rfl, rfl, rfl, rfl, rfl, rfl, rfl, rfl, trivial⟩ (by decide) ?_
  refine C.freeze 0 rfl [1, 2, 3, 4, 5, 6, 7, 8] (by decide) (by decide) ?_
  refine C.norm (H' := [_, _, _, _, _, _, _, _]) [0, 1, 2, 3, 4, 5, 6, 7] ⟨rfl, rfl, rfl, rfl, rfl, rfl, rfl, rfl, trivial⟩ (by decide) ?_
  refine C.freeze 4 rfl [0, 1, 2, 3, 5, 6, 7] (by decide) (by decide) ?_
  refine C.norm (H' := [_, _, _, _, _, _, _]) [0, 1, 2, 3, 4, 5, 6] ⟨rfl, rfl, rfl, rfl, rfl, rfl, rfl, trivial⟩ (by decide) ?_
  refine C.freeze 5 rfl [0, 1, 2, 3, 4, 6] (by decide) (by decide) ?_
  refine C.norm (H' := [_, _, _, _, _, _]) [0, 1, 2, 3, 4, 5] ⟨rfl, rfl, rfl, rfl, rfl, rfl, trivial⟩ (by decide) ?_
  refine C.region ?_
  refine L.step (Ev.pure rfl) rfl ?_
  refine L.nil ?_
  refine QE.seq ?_
  refine C.block ?_
  refine C.loop (fun k : Nat => [(1, .slice BA b.length bc), (5, ptrOf A5 0), (7, .bool true), (8, ptrOf A8 0), (9, ptrOf A9 0), (10, ptrOf A10 0), (11, .slice R54 (recS w3 o w).length rc54), (12, .int .i64 (recE w3 o w)), (13, .slice R59 (recS w3 o w).length rc59), (14, .int .i64 (recE w3 o w)), (15, .int .i64 (k : Int))]) (fun k : Nat => [Rd A9 [.int .i64 0, .int .i64 0, .int .i64 0, .int .i64 0, .int .i64 0, .slice none 0 0, .slice U us.length uc, .slice none 0 0], Rd U (I64 us), Rd R59 (U8 (recS w3 o w)), Rd R54 (U8 (recS w3 o w)), Rd N (U8 w), Rd O (U8 o), Rd A10 [.int .i64 w3, .slice O f.size oc, .slice N f.size nc], Rd A5 [.int .i8 w0, .int .i8 w1, .int .i8 w2, .int .i8 w3], Rd A3 [.int .u8 (sz.toNat : Int), .int .u8 (un.toNat : Int)], Rd BA (U8 b)]) (fun k : Nat => [Own 24 1 a.D f.data.length a.cD (rowsV a.hs (B8 f.data)), OwnKids 5 a.hs (B8 (fillB f (us.getD 0 0).toNat b k).data), Own 3 1 a.W f.wear.length a.cW (I64 f.wear), Own 4 1 a.E f.dead.length a.cE (Bs f.dead), Own 32 5 A8 1 1 [.int .i64 (f.size : Int), .slice a.D f.data.length a.cD, .slice a.W f.wear.length a.cW, .int .i64 f.limit, .slice a.E f.dead.length a.cE]]) (fun k : Nat => k ≤ f.size ∧ k ≤ b.length) (fun k : Nat => f.size - k) 0 ⟨Nat.zero_le _, Nat.zero_le _⟩ (by exact Le.mk' (rs := [0, 1, 2, 3, 4, 5, 6, 7, 8, 9]) (hs := [0, 1, 2, 3, 4]) ⟨rfl, rfl, rfl, rfl, rfl, rfl, rfl, rfl, rfl, rfl, rfl, trivial⟩ ⟨rfl, rfl, rfl, rfl, rfl, rfl, rfl, rfl, rfl, rfl, trivial⟩ ⟨rfl, (congrArg some (by rw [fillB_zero])), rfl, rfl, rfl, trivial⟩ (by decide)) ?_
  rintro k ⟨hk1, hk2⟩
  refine C.seq ?_
  refine C.seq ?_
  refine C.region ?_
  refine L.step (Ev.pure rfl) rfl ?_
  refine L.step (Ev.fieldAddr rfl rfl rfl rfl rfl rfl (Src.o 4 rfl) (Nat.zero_lt_succ _) rfl) rfl ?_
  refine L.step (Ev.load rfl rfl rfl (Src.o 4 rfl) rfl) rfl ?_
  refine L.step (Ev.pure rfl) rfl ?_
  refine L.step (Ev.pure rfl) rfl ?_
  refine L.bool 66 rfl (fun hg66 => ?_) (fun hg66 => ?_)
  · skip
    replace hg66 := of_decide_eq_true hg66
    refine L.yes rfl ?_
    refine L.step (Ev.pure rfl) rfl ?_
    refine L.yes rfl ?_
    refine L.step (Ev.pure rfl) rfl ?_
    refine L.yes rfl ?_
    refine L.step (Ev.pure rfl) rfl ?_
    refine L.yes rfl ?_
    refine L.step (Ev.pure rfl) rfl ?_
    refine L.step (Ev.pure rfl) rfl ?_
    refine L.nil ?_
    refine QE.seq ?_
    refine C.condB 71 rfl (fun hc71 => ?_) (fun hc71 => ?_)
    · skip
      replace hc71 := of_decide_eq_true hc71
      refine C.skip ?_
      refine QE.seq ?_
      refine C.seq ?_
      refine C.block ?_
      refine C.regionM [Rd A9 [.int .i64 0, .int .i64 0, .int .i64 0, .int .i64 0, .int .i64 0, .slice none 0 0, .slice U us.length uc, .slice none 0 0], Rd U (I64 us), Rd R59 (U8 (recS w3 o w)), Rd R54 (U8 (recS w3 o w)), Rd N (U8 w), Rd O (U8 o), Rd A10 [.int .i64 w3, .slice O f.size oc, .slice N f.size nc], Rd A5 [.int .i8 w0, .int .i8 w1, .int .i8 w2, .int .i8 w3], Rd A3 [.int .u8 (sz.toNat : Int), .int .u8 (un.toNat : Int)], Rd BA (U8 b), Rd A8 [.int .i64 (f.size : Int), .slice a.D f.data.length a.cD, .slice a.W f.wear.length a.cW, .int .i64 f.limit, .slice a.E f.dead.length a.cE], Rd a.D (rowsV a.hs (B8 f.data)), KidsR a.hs (B8 (fillB f (us.getD 0 0).toNat b k).data)] ⟨Has.r 0 rfl, Has.r 1 rfl, Has.r 2 rfl, Has.r 3 rfl, Has.r 4 rfl, Has.r 5 rfl, Has.r 6 rfl, Has.r 7 rfl, Has.r 8 rfl, Has.r 9 rfl, Has.o 4 rfl, Has.o 0 rfl, Has.okids 1 rfl, trivial⟩ ?_
      refine LM.q 0 rfl (by kernel_rfl) (Ev.fieldAddr rfl rfl rfl rfl rfl rfl (Src.r 10 rfl) (Nat.zero_lt_succ _) rfl) rfl ⟨Has.r 0 rfl, Has.r 1 rfl, Has.r 2 rfl, Has.r 3 rfl, Has.r 4 rfl, Has.r 5 rfl, Has.r 6 rfl, Has.r 7 rfl, Has.r 8 rfl, Has.r 9 rfl, Has.o 4 rfl, Has.o 0 rfl, Has.okids 1 rfl, trivial⟩ ?_
      refine LM.q 1 rfl (by kernel_rfl) (Ev.load rfl rfl rfl (Src.r 10 rfl) rfl) rfl ⟨Has.r 0 rfl, Has.r 1 rfl, Has.r 2 rfl, Has.r 3 rfl, Has.r 4 rfl, Has.r 5 rfl, Has.r 6 rfl, Has.r 7 rfl, Has.r 8 rfl, Has.r 9 rfl, Has.o 4 rfl, Has.o 0 rfl, Has.okids 1 rfl, trivial⟩ ?_
      refine LM.q 2 rfl (by kernel_rfl) (Ev.fieldAddr rfl rfl rfl rfl rfl rfl (Src.r 0 rfl) (Nat.zero_lt_succ _) rfl) rfl ⟨Has.r 0 rfl, Has.r 1 rfl, Has.r 2 rfl, Has.r 3 rfl, Has.r 4 rfl, Has.r 5 rfl, Has.r 6 rfl, Has.r 7 rfl, Has.r 8 rfl, Has.r 9 rfl, Has.o 4 rfl, Has.o 0 rfl, Has.okids 1 rfl, trivial⟩ ?_
      refine LM.q 3 rfl (by kernel_rfl) (Ev.load rfl rfl rfl (Src.r 0 rfl) rfl) rfl ⟨Has.r 0 rfl, Has.r 1 rfl, Has.r 2 rfl, Has.r 3 rfl, Has.r 4 rfl, Has.r 5 rfl, Has.r 6 rfl, Has.r 7 rfl, Has.r 8 rfl, Has.r 9 rfl, Has.o 4 rfl, Has.o 0 rfl, Has.okids 1 rfl, trivial⟩ ?_
      refine LM.q 4 rfl (by kernel_rfl) (Ev.idx1 (k := 0) rfl rfl rfl rfl rfl rfl rfl (by omega) (Src.r 1 rfl) (by rw [I64_len]; omega)) rfl ⟨Has.r 0 rfl, Has.r 1 rfl, Has.r 2 rfl, Has.r 3 rfl, Has.r 4 rfl, Has.r 5 rfl, Has.r 6 rfl, Has.r 7 rfl, Has.r 8 rfl, Has.r 9 rfl, Has.o 4 rfl, Has.o 0 rfl, Has.okids 1 rfl, trivial⟩ ?_
      refine LM.q 5 rfl (by kernel_rfl) (Ev.load rfl rfl rfl (Src.r 1 rfl) (I64_get (by omega))) rfl ⟨Has.r 0 rfl, Has.r 1 rfl, Has.r 2 rfl, Has.r 3 rfl, Has.r 4 rfl, Has.r 5 rfl, Has.r 6 rfl, Has.r 7 rfl, Has.r 8 rfl, Has.r 9 rfl, Has.o 4 rfl, Has.o 0 rfl, Has.okids 1 rfl, trivial⟩ ?_
      refine LM.q 6 rfl (by kernel_rfl) (Ev.idx1 (k := (us.getD 0 0).toNat) rfl rfl rfl rfl rfl rfl (by omega) (by omega) (Src.r 11 rfl) (by rw [rowsV_len (by rw [B8_len]; exact hb), B8_len]; omega)) rfl ⟨Has.r 0 rfl, Has.r 1 rfl, Has.r 2 rfl, Has.r 3 rfl, Has.r 4 rfl, Has.r 5 rfl, Has.r 6 rfl, Has.r 7 rfl, Has.r 8 rfl, Has.r 9 rfl, Has.o 4 rfl, Has.o 0 rfl, Has.okids 1 rfl, trivial⟩ ?_
      refine LM.q 7 rfl (by kernel_rfl) (Ev.load rfl rfl rfl (Src.r 11 rfl) (rows8_get hb hfb)) rfl ⟨Has.r 0 rfl, Has.r 1 rfl, Has.r 2 rfl, Has.r 3 rfl, Has.r 4 rfl, Has.r 5 rfl, Has.r 6 rfl, Has.r 7 rfl, Has.r 8 rfl, Has.r 9 rfl, Has.o 4 rfl, Has.o 0 rfl, Has.okids 1 rfl, trivial⟩ ?_
      refine LM.q 8 rfl (by kernel_rfl) (Ev.pure rfl) rfl ⟨Has.r 0 rfl, Has.r 1 rfl, Has.r 2 rfl, Has.r 3 rfl, Has.r 4 rfl, Has.r 5 rfl, Has.r 6 rfl, Has.r 7 rfl, Has.r 8 rfl, Has.r 9 rfl, Has.o 4 rfl, Has.o 0 rfl, Has.okids 1 rfl, trivial⟩ ?_
      refine LM.q 9 rfl (by kernel_rfl) (Ev.pure rfl) rfl ⟨Has.r 0 rfl, Has.r 1 rfl, Has.r 2 rfl, Has.r 3 rfl, Has.r 4 rfl, Has.r 5 rfl, Has.r 6 rfl, Has.r 7 rfl, Has.r 8 rfl, Has.r 9 rfl, Has.o 4 rfl, Has.o 0 rfl, Has.okids 1 rfl, trivial⟩ ?_
      refine LM.f 10 rfl (by kernel_rfl) ⟨Has.r 0 rfl, Has.r 1 rfl, Has.r 2 rfl, Has.r 3 rfl, Has.r 4 rfl, Has.r 5 rfl, Has.r 6 rfl, Has.r 7 rfl, Has.r 8 rfl, Has.r 9 rfl, Has.o 4 rfl, Has.o 0 rfl, Has.okids 1 rfl, trivial⟩ ?_
      refine L.step (Ev.pure rfl) rfl ?_
      refine L.nil (QE.m (by kernel_rfl) ?_)
      refine LM.f 11 rfl (by kernel_rfl) ⟨Has.r 0 rfl, Has.r 1 rfl, Has.r 2 rfl, Has.r 3 rfl, Has.r 4 rfl, Has.r 5 rfl, Has.r 6 rfl, Has.r 7 rfl, Has.r 8 rfl, Has.r 9 rfl, Has.o 4 rfl, Has.o 0 rfl, Has.okids 1 rfl, trivial⟩ ?_
      refine L.step (Ev.idx1 (k := k) rfl rfl rfl rfl rfl rfl rfl (by omega) (Src.r 9 rfl) (by rw [U8_len]; omega)) rfl ?_
      refine L.nil (QE.m (by kernel_rfl) ?_)
      refine LM.f 12 rfl (by kernel_rfl) ⟨Has.r 0 rfl, Has.r 1 rfl, Has.r 2 rfl, Has.r 3 rfl, Has.r 4 rfl, Has.r 5 rfl, Has.r 6 rfl, Has.r 7 rfl, Has.r 8 rfl, Has.r 9 rfl, Has.o 4 rfl, Has.o 0 rfl, Has.okids 1 rfl, trivial⟩ ?_
      refine L.step (Ev.load rfl rfl rfl (Src.r 9 rfl) (U8_get (by omega))) rfl ?_
      refine L.nil (QE.m (by kernel_rfl) ?_)
      refine LM.cut [] (by kernel_rfl) ⟨Has.r 0 rfl, Has.r 1 rfl, Has.r 2 rfl, Has.r 3 rfl, Has.r 4 rfl, Has.r 5 rfl, Has.r 6 rfl, Has.r 7 rfl, Has.r 8 rfl, Has.r 9 rfl, Has.o 4 rfl, Has.o 0 rfl, Has.okids 1 rfl, trivial⟩ ?_
      refine LM.f 13 rfl (by kernel_rfl) trivial ?_
      refine L.step (Ev.idx1 (k := k) rfl rfl rfl rfl rfl rfl rfl (by omega) (Src.okid 1 rfl (by rw [B8_len, fillB_dl]; exact hb) (us.getD 0 0).toNat (by rw [B8_len, fillB_dl]; exact hfb)) (by rw [B8_get, U8_len, fillB_row hfb, fillB_row_len hk2 (by omega)]; omega)) rfl ?_
      refine L.nil (QE.m (by kernel_rfl) ?_)
      refine LM.f 14 rfl (by kernel_rfl) trivial ?_
      refine L.storeKid (j := 1) (i := (us.getD 0 0).toNat) rfl rfl (by rw [B8_len, fillB_dl]; exact hb) (by rw [B8_len, fillB_dl]; exact hfb) rfl rfl rfl rfl rfl (by rw [B8_get, U8_len, fillB_row hfb, fillB_row_len hk2 (by omega)]; omega) ?_
      refine L.nil (QE.m (by kernel_rfl) ?_)
      refine LM.nil (by kernel_rfl) trivial ?_
      refine QE.blkN ?_
      refine QE.seq ?_
      refine C.region ?_
      refine L.step (Ev.pure rfl) rfl ?_
      refine L.step (Ev.add rfl rfl (by omega) (by omega)) rfl ?_
      refine L.step (Ev.pure rfl) rfl ?_
      refine L.nil ?_
      refine QE.round (k + 1) (by exact ⟨by omega, by omega⟩) (by omega) (by exact Le.mk' (rs := [0, 1, 2, 3, 4, 5, 6, 7, 8, 9]) (hs := [0, 1, 2, 3, 4]) ⟨rfl, rfl, rfl, rfl, rfl, rfl, rfl, rfl, rfl, rfl, rfl, trivial⟩ ⟨rfl, rfl, rfl, rfl, rfl, rfl, rfl, rfl, rfl, rfl, trivial⟩ ⟨rfl, (congrArg some (by rw [fillB_next hfb (by omega) (by omega)])), rfl, rfl, rfl, trivial⟩ (by decide))
    · skip
      replace hc71 := of_decide_eq_false hc71
      refine C.exit ?_
      refine QE.tX ?_
      refine QE.tX ?_
      refine QE.blk ?_
      refine QE.seq ?_
      refine C.seq ?_
      obtain ⟨g, hg⟩ : ∃ g, g = fillB f (us.getD 0 0).toNat b k := ⟨_, rfl⟩
      have hgd : g.data.length = f.data.length := by rw [hg]; exact fillB_dl
      have hgrow : rowsV a.hs (B8 g.data) = rowsV a.hs (B8 f.data) := by rw [hg]; exact fillB_rows hb hfb hk2 (by omega)
      have gok : g.Ok := by rw [hg]; exact fillB_ok ok hfb hk2 hk1
      have gsz : g.size = f.size := by rw [hg]; rfl
      have ghb : a.hs.length = g.data.length := by rw [hgd]; exact hb
      have ghu : UOk g us := hu.of hgd
      have ghc : Caps g a := hcp.of hgd gsz
      refine C.le (Γ' := [(1, .slice BA b.length bc), (5, ptrOf A5 0), (7, .bool true), (8, ptrOf A8 0), (9, ptrOf A9 0), (10, ptrOf A10 0), (11, .slice R54 (recS w3 o w).length rc54), (12, .int .i64 (recE w3 o w)), (13, .slice R59 (recS w3 o w).length rc59), (14, .int .i64 (recE w3 o w))]) (R' := [Rd BA (U8 b), Rd A5 [.int .i8 w0, .int .i8 w1, .int .i8 w2, .int .i8 w3], Rd A10 [.int .i64 w3, .slice O f.size oc, .slice N f.size nc], Rd N (U8 w), Rd R54 (U8 (recS w3 o w)), Rd R59 (U8 (recS w3 o w)), Rd U (I64 us), Rd A9 [.int .i64 0, .int .i64 0, .int .i64 0, .int .i64 0, .int .i64 0, .slice none 0 0, .slice U us.length uc, .slice none 0 0]]) (H' := [Own 24 1 a.D g.data.length a.cD (rowsV a.hs (B8 g.data)), OwnKids 5 a.hs (B8 g.data), Own 3 1 a.W g.wear.length a.cW (I64 g.wear), Own 4 1 a.E g.dead.length a.cE (Bs g.dead), Own 32 5 A8 1 1 [.int .i64 (g.size : Int), .slice a.D g.data.length a.cD, .slice a.W g.wear.length a.cW, .int .i64 g.limit, .slice a.E g.dead.length a.cE]]) (by exact Le.mk' (rs := [9, 7, 6, 4, 3, 2, 1, 0]) (hs := [0, 1, 2, 3, 4]) ⟨rfl, rfl, rfl, rfl, rfl, rfl, rfl, rfl, rfl, rfl, trivial⟩ ⟨rfl, rfl, rfl, rfl, rfl, rfl, rfl, rfl, trivial⟩ ⟨(congrArg some (own_eq hgd.symm hgrow.symm)), (by rw [hg]; rfl), (by rw [hg]; rfl), (by rw [hg]; rfl), (congrArg some (own_eq rfl (by rw [hgd, hg]; rfl))), trivial⟩ (by decide)) ?_
      refine C.freeze 0 rfl [1, 2, 3, 4] (by decide) (by decide) ?_
      refine C.norm (H' := [_, _, _, _]) [0, 1, 2, 3] ⟨rfl, rfl, rfl, rfl, trivial⟩ (by decide) ?_
      refine C.freezeKids 0 rfl [1, 2, 3] (by decide) (by decide) ?_
      refine C.norm (H' := [_, _, _]) [0, 1, 2] ⟨rfl, rfl, rfl, trivial⟩ (by decide) ?_
      refine C.freeze 0 rfl [1, 2] (by decide) (by decide) ?_
      refine C.norm (H' := [_, _]) [0, 1] ⟨rfl, rfl, trivial⟩ (by decide) ?_
      refine C.freeze 0 rfl [1] (by decide) (by decide) ?_
      refine C.norm (H' := [_]) [0] ⟨rfl, trivial⟩ (by decide) ?_
      refine C.freeze 0 rfl [] (by decide) (by decide) ?_
      refine C.region ?_
      refine L.step (Ev.idxArr (k := 0) (m := 0) rfl rfl rfl rfl rfl rfl (by decide) (Src.r 6 rfl) (Nat.zero_lt_succ _) rfl) rfl ?_
      refine L.step (Ev.load rfl rfl rfl (Src.r 6 rfl) rfl) rfl ?_
      refine L.step (Ev.toInt rfl rfl rfl rfl (by omega) (by omega)) rfl ?_
      refine L.step (Ev.pure rfl) rfl ?_
      refine L.step (Ev.build rfl rfl rfl rfl rfl rfl rfl) rfl ?_
      refine L.alloc rfl rfl rfl (fun A16 => ?_)
      refine L.storeA (j := 0) rfl rfl rfl rfl rfl (Nat.zero_lt_succ _) rfl rfl ?_
      refine L.nil ?_
      refine QE.seq ?_
      refine C.seq ?_
      refine C.freeze 0 rfl [] (by decide) (by decide) ?_
      obtain ⟨m, hm⟩ : ∃ m, m = min b.length 30 := ⟨_, rfl⟩
      have hmb : (b.take m).length = m := by rw [List.length_take]; omega
      have hsl := recS_len w3 o w
      have hxl := resS_len (b := w) (rec := (b.take m))
      have htl : (towS g us w0 (recS w3 o w)).x.data.length ≤ 20485 := Nat.le_trans (towS_len ..) hsl
      have hll := lastS_len (A := area g us) (z := (g.size : Int)) (e := w1)
      refine C.regionM [Rd A16 [.int .i64 w0, .slice R59 (recS w3 o w).length rc59], Rd A8 [.int .i64 (g.size : Int), .slice a.D g.data.length a.cD, .slice a.W g.wear.length a.cW, .int .i64 g.limit, .slice a.E g.dead.length a.cE], Rd a.E (Bs g.dead), Rd a.W (I64 g.wear), KidsR a.hs (B8 g.data), Rd a.D (rowsV a.hs (B8 g.data)), Rd BA (U8 b), Rd A5 [.int .i8 w0, .int .i8 w1, .int .i8 w2, .int .i8 w3], Rd A10 [.int .i64 w3, .slice O f.size oc, .slice N f.size nc], Rd N (U8 w), Rd R54 (U8 (recS w3 o w)), Rd R59 (U8 (recS w3 o w)), Rd U (I64 us), Rd A9 [.int .i64 0, .int .i64 0, .int .i64 0, .int .i64 0, .int .i64 0, .slice none 0 0, .slice U us.length uc, .slice none 0 0]] ⟨Has.r 0 rfl, Has.r 1 rfl, Has.r 2 rfl, Has.r 3 rfl, Has.r 4 rfl, Has.r 5 rfl, Has.r 6 rfl, Has.r 7 rfl, Has.r 8 rfl, Has.r 9 rfl, Has.r 10 rfl, Has.r 11 rfl, Has.r 12 rfl, Has.r 13 rfl, trivial⟩ ?_
      refine LM.q 0 rfl (by kernel_rfl) (Ev.fieldAddr rfl rfl rfl rfl rfl rfl (Src.r 8 rfl) (Nat.zero_lt_succ _) rfl) rfl ⟨Has.r 0 rfl, Has.r 1 rfl, Has.r 2 rfl, Has.r 3 rfl, Has.r 4 rfl, Has.r 5 rfl, Has.r 6 rfl, Has.r 7 rfl, Has.r 8 rfl, Has.r 9 rfl, Has.r 10 rfl, Has.r 11 rfl, Has.r 12 rfl, Has.r 13 rfl, trivial⟩ ?_
      refine LM.q 1 rfl (by kernel_rfl) (Ev.load rfl rfl rfl (Src.r 8 rfl) rfl) rfl ⟨Has.r 0 rfl, Has.r 1 rfl, Has.r 2 rfl, Has.r 3 rfl, Has.r 4 rfl, Has.r 5 rfl, Has.r 6 rfl, Has.r 7 rfl, Has.r 8 rfl, Has.r 9 rfl, Has.r 10 rfl, Has.r 11 rfl, Has.r 12 rfl, Has.r 13 rfl, trivial⟩ ?_
      refine LM.q 2 rfl (by kernel_rfl) (Ev.pure rfl) rfl ⟨Has.r 0 rfl, Has.r 1 rfl, Has.r 2 rfl, Has.r 3 rfl, Has.r 4 rfl, Has.r 5 rfl, Has.r 6 rfl, Has.r 7 rfl, Has.r 8 rfl, Has.r 9 rfl, Has.r 10 rfl, Has.r 11 rfl, Has.r 12 rfl, Has.r 13 rfl, trivial⟩ ?_
      refine LM.q 3 rfl (by kernel_rfl) (Ev.pure rfl) rfl ⟨Has.r 0 rfl, Has.r 1 rfl, Has.r 2 rfl, Has.r 3 rfl, Has.r 4 rfl, Has.r 5 rfl, Has.r 6 rfl, Has.r 7 rfl, Has.r 8 rfl, Has.r 9 rfl, Has.r 10 rfl, Has.r 11 rfl, Has.r 12 rfl, Has.r 13 rfl, trivial⟩ ?_
      refine LM.q 4 rfl (by kernel_rfl) (Ev.pure rfl) rfl ⟨Has.r 0 rfl, Has.r 1 rfl, Has.r 2 rfl, Has.r 3 rfl, Has.r 4 rfl, Has.r 5 rfl, Has.r 6 rfl, Has.r 7 rfl, Has.r 8 rfl, Has.r 9 rfl, Has.r 10 rfl, Has.r 11 rfl, Has.r 12 rfl, Has.r 13 rfl, trivial⟩ ?_
      refine LM.q 5 rfl (by kernel_rfl) (Ev.cast (u := .int .i64 ((m : Nat) : Int)) (Ev.pure rfl) (congrArg (Value.int .i64) (by simp only [Bool.false_eq_true, if_false]; split <;> omega))) rfl ⟨Has.r 0 rfl, Has.r 1 rfl, Has.r 2 rfl, Has.r 3 rfl, Has.r 4 rfl, Has.r 5 rfl, Has.r 6 rfl, Has.r 7 rfl, Has.r 8 rfl, Has.r 9 rfl, Has.r 10 rfl, Has.r 11 rfl, Has.r 12 rfl, Has.r 13 rfl, trivial⟩ ?_
      refine LM.q 6 rfl (by kernel_rfl) (Ev.sliceH (h := m) rfl rfl rfl rfl rfl rfl (by omega)) rfl ⟨Has.r 0 rfl, Has.r 1 rfl, Has.r 2 rfl, Has.r 3 rfl, Has.r 4 rfl, Has.r 5 rfl, Has.r 6 rfl, Has.r 7 rfl, Has.r 8 rfl, Has.r 9 rfl, Has.r 10 rfl, Has.r 11 rfl, Has.r 12 rfl, Has.r 13 rfl, trivial⟩ ?_
      refine LM.f 7 rfl (by kernel_rfl) ⟨Has.r 0 rfl, Has.r 1 rfl, Has.r 2 rfl, Has.r 3 rfl, Has.r 4 rfl, Has.r 5 rfl, Has.r 6 rfl, Has.r 7 rfl, Has.r 8 rfl, Has.r 9 rfl, Has.r 10 rfl, Has.r 11 rfl, Has.r 12 rfl, Has.r 13 rfl, trivial⟩ ?_
      refine L.call (js := []) (js' := []) (res_h N BA w (b.take m) f.size nc m bc (resS w (b.take m)) (resE w (b.take m)) hlw hmb rfl rfl (by omega) (by omega) (by omega)) rfl rfl rfl (by decide) ⟨(Has.r 9 rfl), ((Has.take (Has.r 6 rfl) m).cast (U8_take _ _)), trivial⟩ rfl ?_
      rintro _ _ _ ⟨R101, rc101, rfl, rfl, rfl⟩
      refine L.norm (H' := [_]) [0] ⟨rfl, trivial⟩ (by decide) ?_
      refine L.nil (QE.m (by kernel_rfl) ?_)
      refine LM.q 8 rfl (by kernel_rfl) (Ev.pure rfl) rfl ⟨Has.r 0 rfl, Has.r 1 rfl, Has.r 2 rfl, Has.r 3 rfl, Has.r 4 rfl, Has.r 5 rfl, Has.r 6 rfl, Has.r 7 rfl, Has.r 8 rfl, Has.r 9 rfl, Has.r 10 rfl, Has.r 11 rfl, Has.r 12 rfl, Has.r 13 rfl, trivial⟩ ?_
      refine LM.q 9 rfl (by kernel_rfl) (Ev.pure rfl) rfl ⟨Has.r 0 rfl, Has.r 1 rfl, Has.r 2 rfl, Has.r 3 rfl, Has.r 4 rfl, Has.r 5 rfl, Has.r 6 rfl, Has.r 7 rfl, Has.r 8 rfl, Has.r 9 rfl, Has.r 10 rfl, Has.r 11 rfl, Has.r 12 rfl, Has.r 13 rfl, trivial⟩ ?_
      refine LM.q 10 rfl (by kernel_rfl) (Ev.pure rfl) rfl ⟨Has.r 0 rfl, Has.r 1 rfl, Has.r 2 rfl, Has.r 3 rfl, Has.r 4 rfl, Has.r 5 rfl, Has.r 6 rfl, Has.r 7 rfl, Has.r 8 rfl, Has.r 9 rfl, Has.r 10 rfl, Has.r 11 rfl, Has.r 12 rfl, Has.r 13 rfl, trivial⟩ ?_
      refine LM.f 11 rfl (by kernel_rfl) ⟨Has.r 0 rfl, Has.r 1 rfl, Has.r 2 rfl, Has.r 3 rfl, Has.r 4 rfl, Has.r 5 rfl, Has.r 6 rfl, Has.r 7 rfl, Has.r 8 rfl, Has.r 9 rfl, Has.r 10 rfl, Has.r 11 rfl, Has.r 12 rfl, Has.r 13 rfl, trivial⟩ ?_
      refine L.step (Ev.pure rfl) rfl ?_
      refine L.nil (QE.m (by kernel_rfl) ?_)
      refine LM.cut [] (by kernel_rfl) ⟨Has.r 0 rfl, Has.r 1 rfl, Has.r 2 rfl, Has.r 3 rfl, Has.r 4 rfl, Has.r 5 rfl, Has.r 6 rfl, Has.r 7 rfl, Has.r 8 rfl, Has.r 9 rfl, Has.r 10 rfl, Has.r 11 rfl, Has.r 12 rfl, Has.r 13 rfl, trivial⟩ ?_
      refine LM.f 12 rfl (by kernel_rfl) trivial ?_
      refine L.step (Ev.pure rfl) rfl ?_
      refine L.nil (QE.m (by kernel_rfl) ?_)
      refine LM.nil (by kernel_rfl) trivial ?_
      refine QE.seq ?_
      refine C.seq ?_
      refine C.regionM [Rd A16 [.int .i64 w0, .slice R59 (recS w3 o w).length rc59], Rd A8 [.int .i64 (g.size : Int), .slice a.D g.data.length a.cD, .slice a.W g.wear.length a.cW, .int .i64 g.limit, .slice a.E g.dead.length a.cE], Rd a.E (Bs g.dead), Rd a.W (I64 g.wear), KidsR a.hs (B8 g.data), Rd a.D (rowsV a.hs (B8 g.data)), Rd BA (U8 b), Rd A5 [.int .i8 w0, .int .i8 w1, .int .i8 w2, .int .i8 w3], Rd A10 [.int .i64 w3, .slice O f.size oc, .slice N f.size nc], Rd N (U8 w), Rd R54 (U8 (recS w3 o w)), Rd R59 (U8 (recS w3 o w)), Rd U (I64 us), Rd A9 [.int .i64 0, .int .i64 0, .int .i64 0, .int .i64 0, .int .i64 0, .slice none 0 0, .slice U us.length uc, .slice none 0 0]] ⟨Has.r 0 rfl, Has.r 1 rfl, Has.r 2 rfl, Has.r 3 rfl, Has.r 4 rfl, Has.r 5 rfl, Has.r 6 rfl, Has.r 7 rfl, Has.r 8 rfl, Has.r 9 rfl, Has.r 10 rfl, Has.r 11 rfl, Has.r 12 rfl, Has.r 13 rfl, trivial⟩ ?_
      refine LM.q 0 rfl (by kernel_rfl) (Ev.fieldAddr rfl rfl rfl rfl rfl rfl (Src.r 8 rfl) (Nat.zero_lt_succ _) rfl) rfl ⟨Has.r 0 rfl, Has.r 1 rfl, Has.r 2 rfl, Has.r 3 rfl, Has.r 4 rfl, Has.r 5 rfl, Has.r 6 rfl, Has.r 7 rfl, Has.r 8 rfl, Has.r 9 rfl, Has.r 10 rfl, Has.r 11 rfl, Has.r 12 rfl, Has.r 13 rfl, trivial⟩ ?_
      refine LM.q 1 rfl (by kernel_rfl) (Ev.load rfl rfl rfl (Src.r 8 rfl) rfl) rfl ⟨Has.r 0 rfl, Has.r 1 rfl, Has.r 2 rfl, Has.r 3 rfl, Has.r 4 rfl, Has.r 5 rfl, Has.r 6 rfl, Has.r 7 rfl, Has.r 8 rfl, Has.r 9 rfl, Has.r 10 rfl, Has.r 11 rfl, Has.r 12 rfl, Has.r 13 rfl, trivial⟩ ?_
      refine LM.q 2 rfl (by kernel_rfl) (Ev.pure rfl) rfl ⟨Has.r 0 rfl, Has.r 1 rfl, Has.r 2 rfl, Has.r 3 rfl, Has.r 4 rfl, Has.r 5 rfl, Has.r 6 rfl, Has.r 7 rfl, Has.r 8 rfl, Has.r 9 rfl, Has.r 10 rfl, Has.r 11 rfl, Has.r 12 rfl, Has.r 13 rfl, trivial⟩ ?_
      refine LM.q 3 rfl (by kernel_rfl) (Ev.pure rfl) rfl ⟨Has.r 0 rfl, Has.r 1 rfl, Has.r 2 rfl, Has.r 3 rfl, Has.r 4 rfl, Has.r 5 rfl, Has.r 6 rfl, Has.r 7 rfl, Has.r 8 rfl, Has.r 9 rfl, Has.r 10 rfl, Has.r 11 rfl, Has.r 12 rfl, Has.r 13 rfl, trivial⟩ ?_
      refine LM.q 4 rfl (by kernel_rfl) (Ev.pure rfl) rfl ⟨Has.r 0 rfl, Has.r 1 rfl, Has.r 2 rfl, Has.r 3 rfl, Has.r 4 rfl, Has.r 5 rfl, Has.r 6 rfl, Has.r 7 rfl, Has.r 8 rfl, Has.r 9 rfl, Has.r 10 rfl, Has.r 11 rfl, Has.r 12 rfl, Has.r 13 rfl, trivial⟩ ?_
      refine LM.q 5 rfl (by kernel_rfl) (Ev.cast (u := .int .i64 ((m : Nat) : Int)) (Ev.pure rfl) (congrArg (Value.int .i64) (by simp only [Bool.false_eq_true, if_false]; split <;> omega))) rfl ⟨Has.r 0 rfl, Has.r 1 rfl, Has.r 2 rfl, Has.r 3 rfl, Has.r 4 rfl, Has.r 5 rfl, Has.r 6 rfl, Has.r 7 rfl, Has.r 8 rfl, Has.r 9 rfl, Has.r 10 rfl, Has.r 11 rfl, Has.r 12 rfl, Has.r 13 rfl, trivial⟩ ?_
      refine LM.q 6 rfl (by kernel_rfl) (Ev.sliceH (h := m) rfl rfl rfl rfl rfl rfl (by omega)) rfl ⟨Has.r 0 rfl, Has.r 1 rfl, Has.r 2 rfl, Has.r 3 rfl, Has.r 4 rfl, Has.r 5 rfl, Has.r 6 rfl, Has.r 7 rfl, Has.r 8 rfl, Has.r 9 rfl, Has.r 10 rfl, Has.r 11 rfl, Has.r 12 rfl, Has.r 13 rfl, trivial⟩ ?_
      refine LM.f 7 rfl (by kernel_rfl) ⟨Has.r 0 rfl, Has.r 1 rfl, Has.r 2 rfl, Has.r 3 rfl, Has.r 4 rfl, Has.r 5 rfl, Has.r 6 rfl, Has.r 7 rfl, Has.r 8 rfl, Has.r 9 rfl, Has.r 10 rfl, Has.r 11 rfl, Has.r 12 rfl, Has.r 13 rfl, trivial⟩ ?_
      refine L.call (js := []) (js' := [0]) (res21_h N BA w (b.take m) f.size nc m bc (resS w (b.take m)) (resE w (b.take m)) hlw hmb rfl rfl (by omega) (by omega)) rfl rfl rfl (by decide) ⟨(Has.r 9 rfl), ((Has.take (Has.r 6 rfl) m).cast (U8_take _ _)), trivial⟩ rfl ?_
      rintro _ _ _ ⟨R112, rc112, rfl, rfl, rfl⟩
      refine L.norm (H' := [_, _]) [0, 1] ⟨rfl, rfl, trivial⟩ (by decide) ?_
      refine L.nil (QE.m (by kernel_rfl) ?_)
      refine LM.q 8 rfl (by kernel_rfl) (Ev.pure rfl) rfl ⟨Has.r 0 rfl, Has.r 1 rfl, Has.r 2 rfl, Has.r 3 rfl, Has.r 4 rfl, Has.r 5 rfl, Has.r 6 rfl, Has.r 7 rfl, Has.r 8 rfl, Has.r 9 rfl, Has.r 10 rfl, Has.r 11 rfl, Has.r 12 rfl, Has.r 13 rfl, trivial⟩ ?_
      refine LM.q 9 rfl (by kernel_rfl) (Ev.pure rfl) rfl ⟨Has.r 0 rfl, Has.r 1 rfl, Has.r 2 rfl, Has.r 3 rfl, Has.r 4 rfl, Has.r 5 rfl, Has.r 6 rfl, Has.r 7 rfl, Has.r 8 rfl, Has.r 9 rfl, Has.r 10 rfl, Has.r 11 rfl, Has.r 12 rfl, Has.r 13 rfl, trivial⟩ ?_
      refine LM.q 10 rfl (by kernel_rfl) (Ev.pure rfl) rfl ⟨Has.r 0 rfl, Has.r 1 rfl, Has.r 2 rfl, Has.r 3 rfl, Has.r 4 rfl, Has.r 5 rfl, Has.r 6 rfl, Has.r 7 rfl, Has.r 8 rfl, Has.r 9 rfl, Has.r 10 rfl, Has.r 11 rfl, Has.r 12 rfl, Has.r 13 rfl, trivial⟩ ?_
      refine LM.f 11 rfl (by kernel_rfl) ⟨Has.r 0 rfl, Has.r 1 rfl, Has.r 2 rfl, Has.r 3 rfl, Has.r 4 rfl, Has.r 5 rfl, Has.r 6 rfl, Has.r 7 rfl, Has.r 8 rfl, Has.r 9 rfl, Has.r 10 rfl, Has.r 11 rfl, Has.r 12 rfl, Has.r 13 rfl, trivial⟩ ?_
      refine L.step (Ev.pure rfl) rfl ?_
      refine L.nil (QE.m (by kernel_rfl) ?_)
      refine LM.cut [] (by kernel_rfl) ⟨Has.r 0 rfl, Has.r 1 rfl, Has.r 2 rfl, Has.r 3 rfl, Has.r 4 rfl, Has.r 5 rfl, Has.r 6 rfl, Has.r 7 rfl, Has.r 8 rfl, Has.r 9 rfl, Has.r 10 rfl, Has.r 11 rfl, Has.r 12 rfl, Has.r 13 rfl, trivial⟩ ?_
      refine LM.f 12 rfl (by kernel_rfl) trivial ?_
      refine L.step (Ev.pure rfl) rfl ?_
      refine L.nil (QE.m (by kernel_rfl) ?_)
      refine LM.nil (by kernel_rfl) trivial ?_
      refine QE.seq ?_
      refine C.seq ?_
      refine C.freeze 1 rfl [0] (by decide) (by decide) ?_
      refine C.norm (H' := [_]) [0] ⟨rfl, trivial⟩ (by decide) ?_
      refine C.freeze 0 rfl [] (by decide) (by decide) ?_
      refine C.regionM [Rd R112 (U8 (resS w (b.take m))), Rd R101 (U8 (resS w (b.take m))), Rd A16 [.int .i64 w0, .slice R59 (recS w3 o w).length rc59], Rd A8 [.int .i64 (g.size : Int), .slice a.D g.data.length a.cD, .slice a.W g.wear.length a.cW, .int .i64 g.limit, .slice a.E g.dead.length a.cE], Rd a.E (Bs g.dead), Rd a.W (I64 g.wear), KidsR a.hs (B8 g.data), Rd a.D (rowsV a.hs (B8 g.data)), Rd BA (U8 b), Rd A5 [.int .i8 w0, .int .i8 w1, .int .i8 w2, .int .i8 w3], Rd A10 [.int .i64 w3, .slice O f.size oc, .slice N f.size nc], Rd N (U8 w), Rd R54 (U8 (recS w3 o w)), Rd R59 (U8 (recS w3 o w)), Rd U (I64 us), Rd A9 [.int .i64 0, .int .i64 0, .int .i64 0, .int .i64 0, .int .i64 0, .slice none 0 0, .slice U us.length uc, .slice none 0 0]] ⟨Has.r 0 rfl, Has.r 1 rfl, Has.r 2 rfl, Has.r 3 rfl, Has.r 4 rfl, Has.r 5 rfl, Has.r 6 rfl, Has.r 7 rfl, Has.r 8 rfl, Has.r 9 rfl, Has.r 10 rfl, Has.r 11 rfl, Has.r 12 rfl, Has.r 13 rfl, Has.r 14 rfl, Has.r 15 rfl, trivial⟩ ?_
      refine LM.q 0 rfl (by kernel_rfl) (Ev.pure rfl) rfl ⟨Has.r 0 rfl, Has.r 1 rfl, Has.r 2 rfl, Has.r 3 rfl, Has.r 4 rfl, Has.r 5 rfl, Has.r 6 rfl, Has.r 7 rfl, Has.r 8 rfl, Has.r 9 rfl, Has.r 10 rfl, Has.r 11 rfl, Has.r 12 rfl, Has.r 13 rfl, Has.r 14 rfl, Has.r 15 rfl, trivial⟩ ?_
      refine LM.q 1 rfl (by kernel_rfl) (Ev.pure rfl) rfl ⟨Has.r 0 rfl, Has.r 1 rfl, Has.r 2 rfl, Has.r 3 rfl, Has.r 4 rfl, Has.r 5 rfl, Has.r 6 rfl, Has.r 7 rfl, Has.r 8 rfl, Has.r 9 rfl, Has.r 10 rfl, Has.r 11 rfl, Has.r 12 rfl, Has.r 13 rfl, Has.r 14 rfl, Has.r 15 rfl, trivial⟩ ?_
      refine LM.f 2 rfl (by kernel_rfl) ⟨Has.r 0 rfl, Has.r 1 rfl, Has.r 2 rfl, Has.r 3 rfl, Has.r 4 rfl, Has.r 5 rfl, Has.r 6 rfl, Has.r 7 rfl, Has.r 8 rfl, Has.r 9 rfl, Has.r 10 rfl, Has.r 11 rfl, Has.r 12 rfl, Has.r 13 rfl, Has.r 14 rfl, Has.r 15 rfl, trivial⟩ ?_
      refine L.call (js := []) (js' := []) (Ctr.tb true (same_g R54 R59 rc54 rc59 (recS w3 o w) (recS w3 o w) (recS w3 o w).length (recS w3 o w).length rfl rfl (by omega) (by omega)) (by simp)) rfl rfl rfl (by decide) ⟨(Has.r 12 rfl), (Has.r 13 rfl), trivial⟩ rfl ?_
      rintro _ _ _ ⟨rfl, rfl, rfl⟩
      refine L.nil (QE.m (by kernel_rfl) ?_)
      refine LM.q 3 rfl (by kernel_rfl) (Ev.pure rfl) rfl ⟨Has.r 0 rfl, Has.r 1 rfl, Has.r 2 rfl, Has.r 3 rfl, Has.r 4 rfl, Has.r 5 rfl, Has.r 6 rfl, Has.r 7 rfl, Has.r 8 rfl, Has.r 9 rfl, Has.r 10 rfl, Has.r 11 rfl, Has.r 12 rfl, Has.r 13 rfl, Has.r 14 rfl, Has.r 15 rfl, trivial⟩ ?_
      refine LM.qy 4 rfl (by kernel_rfl) rfl (Ev.pure rfl) rfl ⟨Has.r 0 rfl, Has.r 1 rfl, Has.r 2 rfl, Has.r 3 rfl, Has.r 4 rfl, Has.r 5 rfl, Has.r 6 rfl, Has.r 7 rfl, Has.r 8 rfl, Has.r 9 rfl, Has.r 10 rfl, Has.r 11 rfl, Has.r 12 rfl, Has.r 13 rfl, Has.r 14 rfl, Has.r 15 rfl, trivial⟩ ?_
      refine LM.qy 5 rfl (by kernel_rfl) rfl (Ev.pure rfl) rfl ⟨Has.r 0 rfl, Has.r 1 rfl, Has.r 2 rfl, Has.r 3 rfl, Has.r 4 rfl, Has.r 5 rfl, Has.r 6 rfl, Has.r 7 rfl, Has.r 8 rfl, Has.r 9 rfl, Has.r 10 rfl, Has.r 11 rfl, Has.r 12 rfl, Has.r 13 rfl, Has.r 14 rfl, Has.r 15 rfl, trivial⟩ ?_
      refine LM.qy 6 rfl (by kernel_rfl) rfl (Ev.pure rfl) rfl ⟨Has.r 0 rfl, Has.r 1 rfl, Has.r 2 rfl, Has.r 3 rfl, Has.r 4 rfl, Has.r 5 rfl, Has.r 6 rfl, Has.r 7 rfl, Has.r 8 rfl, Has.r 9 rfl, Has.r 10 rfl, Has.r 11 rfl, Has.r 12 rfl, Has.r 13 rfl, Has.r 14 rfl, Has.r 15 rfl, trivial⟩ ?_
      refine LM.q 7 rfl (by kernel_rfl) (Ev.pure rfl) rfl ⟨Has.r 0 rfl, Has.r 1 rfl, Has.r 2 rfl, Has.r 3 rfl, Has.r 4 rfl, Has.r 5 rfl, Has.r 6 rfl, Has.r 7 rfl, Has.r 8 rfl, Has.r 9 rfl, Has.r 10 rfl, Has.r 11 rfl, Has.r 12 rfl, Has.r 13 rfl, Has.r 14 rfl, Has.r 15 rfl, trivial⟩ ?_
      refine LM.q 8 rfl (by kernel_rfl) (Ev.pure rfl) rfl ⟨Has.r 0 rfl, Has.r 1 rfl, Has.r 2 rfl, Has.r 3 rfl, Has.r 4 rfl, Has.r 5 rfl, Has.r 6 rfl, Has.r 7 rfl, Has.r 8 rfl, Has.r 9 rfl, Has.r 10 rfl, Has.r 11 rfl, Has.r 12 rfl, Has.r 13 rfl, Has.r 14 rfl, Has.r 15 rfl, trivial⟩ ?_
      refine LM.bool 123 rfl (fun hg123 => ?_) (fun hg123 => ?_)
      · skip
        replace hg123 := i_eq hg123
        refine LM.qy 9 rfl (by kernel_rfl) rfl (Ev.loadA rfl rfl rfl (Src.r 3 rfl) rfl rfl (by decide)) rfl ⟨Has.r 0 rfl, Has.r 1 rfl, Has.r 2 rfl, Has.r 3 rfl, Has.r 4 rfl, Has.r 5 rfl, Has.r 6 rfl, Has.r 7 rfl, Has.r 8 rfl, Has.r 9 rfl, Has.r 10 rfl, Has.r 11 rfl, Has.r 12 rfl, Has.r 13 rfl, Has.r 14 rfl, Has.r 15 rfl, trivial⟩ ?_
        refine LM.qy 10 rfl (by kernel_rfl) rfl (Ev.loadA rfl rfl rfl (Src.r 15 rfl) rfl rfl (by decide)) rfl ⟨Has.r 0 rfl, Has.r 1 rfl, Has.r 2 rfl, Has.r 3 rfl, Has.r 4 rfl, Has.r 5 rfl, Has.r 6 rfl, Has.r 7 rfl, Has.r 8 rfl, Has.r 9 rfl, Has.r 10 rfl, Has.r 11 rfl, Has.r 12 rfl, Has.r 13 rfl, Has.r 14 rfl, Has.r 15 rfl, trivial⟩ ?_
        refine LM.qy 11 rfl (by kernel_rfl) rfl (Ev.loadA rfl rfl rfl (Src.r 2 rfl) rfl rfl (by decide)) rfl ⟨Has.r 0 rfl, Has.r 1 rfl, Has.r 2 rfl, Has.r 3 rfl, Has.r 4 rfl, Has.r 5 rfl, Has.r 6 rfl, Has.r 7 rfl, Has.r 8 rfl, Has.r 9 rfl, Has.r 10 rfl, Has.r 11 rfl, Has.r 12 rfl, Has.r 13 rfl, Has.r 14 rfl, Has.r 15 rfl, trivial⟩ ?_
        refine LM.qy 13 rfl (by kernel_rfl) rfl (Ev.loadA rfl rfl rfl (Src.r 3 rfl) rfl rfl (by decide)) rfl ⟨Has.r 0 rfl, Has.r 1 rfl, Has.r 2 rfl, Has.r 3 rfl, Has.r 4 rfl, Has.r 5 rfl, Has.r 6 rfl, Has.r 7 rfl, Has.r 8 rfl, Has.r 9 rfl, Has.r 10 rfl, Has.r 11 rfl, Has.r 12 rfl, Has.r 13 rfl, Has.r 14 rfl, Has.r 15 rfl, trivial⟩ ?_
        refine LM.qy 14 rfl (by kernel_rfl) rfl (Ev.loadA rfl rfl rfl (Src.r 15 rfl) rfl rfl (by decide)) rfl ⟨Has.r 0 rfl, Has.r 1 rfl, Has.r 2 rfl, Has.r 3 rfl, Has.r 4 rfl, Has.r 5 rfl, Has.r 6 rfl, Has.r 7 rfl, Has.r 8 rfl, Has.r 9 rfl, Has.r 10 rfl, Has.r 11 rfl, Has.r 12 rfl, Has.r 13 rfl, Has.r 14 rfl, Has.r 15 rfl, trivial⟩ ?_
        refine LM.qy 15 rfl (by kernel_rfl) rfl (Ev.loadA rfl rfl rfl (Src.r 2 rfl) rfl rfl (by decide)) rfl ⟨Has.r 0 rfl, Has.r 1 rfl, Has.r 2 rfl, Has.r 3 rfl, Has.r 4 rfl, Has.r 5 rfl, Has.r 6 rfl, Has.r 7 rfl, Has.r 8 rfl, Has.r 9 rfl, Has.r 10 rfl, Has.r 11 rfl, Has.r 12 rfl, Has.r 13 rfl, Has.r 14 rfl, Has.r 15 rfl, trivial⟩ ?_
        refine LM.f 12 rfl (by kernel_rfl) ⟨Has.r 0 rfl, Has.r 1 rfl, Has.r 2 rfl, Has.r 3 rfl, Has.r 4 rfl, Has.r 5 rfl, Has.r 6 rfl, Has.r 7 rfl, Has.r 8 rfl, Has.r 9 rfl, Has.r 10 rfl, Has.r 11 rfl, Has.r 12 rfl, Has.r 13 rfl, Has.r 14 rfl, Has.r 15 rfl, trivial⟩ ?_
        refine L.yes rfl ?_
        refine L.callR (js := []) (js' := []) (ltowU_c g a gok ghb us U uc ghu w0 (recS w3 o w) R59 rc59 (by omega) hrc59 ghc) rfl rfl rfl (by decide) ⟨(Has.r 7 rfl), (Has.r 6 rfl), (Has.r 5 rfl), (Has.r 4 rfl), (Has.r 14 rfl), (Has.r 13 rfl), trivial⟩ rfl ?_
        rintro _ _ _ ⟨T127, tc127, rfl, rfl, rfl⟩
        refine L.nil (QE.m (by kernel_rfl) ?_)
        refine LM.f 16 rfl (by kernel_rfl) ⟨Has.r 1 rfl, Has.r 2 rfl, Has.r 3 rfl, Has.r 4 rfl, Has.r 5 rfl, Has.r 6 rfl, Has.r 7 rfl, Has.r 8 rfl, Has.r 9 rfl, Has.r 10 rfl, Has.r 11 rfl, Has.r 12 rfl, Has.r 13 rfl, Has.r 14 rfl, Has.r 15 rfl, Has.r 16 rfl, trivial⟩ ?_
        refine L.yes rfl ?_
        refine L.callR (js := []) (js' := []) (tow21_c g a gok ghb us U uc ghu w0 (recS w3 o w) R59 rc59 (by omega) hrc59) rfl rfl rfl (by decide) ⟨(Has.r 8 rfl), (Has.r 7 rfl), (Has.r 6 rfl), (Has.r 5 rfl), (Has.r 15 rfl), (Has.r 14 rfl), trivial⟩ rfl ?_
        rintro _ _ _ ⟨T131, tc131, rfl, rfl, rfl⟩
        refine L.nil (QE.m (by kernel_rfl) ?_)
        refine LM.f 17 rfl (by kernel_rfl) ⟨Has.r 2 rfl, Has.r 3 rfl, Has.r 4 rfl, Has.r 5 rfl, Has.r 6 rfl, Has.r 7 rfl, Has.r 8 rfl, Has.r 9 rfl, Has.r 10 rfl, Has.r 11 rfl, Has.r 12 rfl, Has.r 13 rfl, Has.r 14 rfl, Has.r 15 rfl, Has.r 16 rfl, Has.r 17 rfl, trivial⟩ ?_
        refine L.yes rfl ?_
        refine L.call (js := []) (js' := []) (Ctr.tb true (sameN_c (towS g us w0 (recS w3 o w)) (towS g us w0 (recS w3 o w)) T127 T131 tc127 tc131 (by omega) (by omega)) (by simp)) rfl rfl rfl (by decide) ⟨(Has.r 1 rfl), (Has.r 0 rfl), trivial⟩ rfl ?_
        rintro _ _ _ ⟨rfl, rfl, rfl⟩
        refine L.nil (QE.m (by kernel_rfl) ?_)
        refine LM.q 18 rfl (by kernel_rfl) (Ev.pure rfl) rfl ⟨Has.r 2 rfl, Has.r 3 rfl, Has.r 4 rfl, Has.r 5 rfl, Has.r 6 rfl, Has.r 7 rfl, Has.r 8 rfl, Has.r 9 rfl, Has.r 10 rfl, Has.r 11 rfl, Has.r 12 rfl, Has.r 13 rfl, Has.r 14 rfl, Has.r 15 rfl, Has.r 16 rfl, Has.r 17 rfl, trivial⟩ ?_
        refine LM.q 19 rfl (by kernel_rfl) (Ev.pure rfl) rfl ⟨Has.r 2 rfl, Has.r 3 rfl, Has.r 4 rfl, Has.r 5 rfl, Has.r 6 rfl, Has.r 7 rfl, Has.r 8 rfl, Has.r 9 rfl, Has.r 10 rfl, Has.r 11 rfl, Has.r 12 rfl, Has.r 13 rfl, Has.r 14 rfl, Has.r 15 rfl, Has.r 16 rfl, Has.r 17 rfl, trivial⟩ ?_
        refine LM.qy 20 rfl (by kernel_rfl) rfl (Ev.loadA rfl rfl rfl (Src.r 3 rfl) rfl rfl (by decide)) rfl ⟨Has.r 2 rfl, Has.r 3 rfl, Has.r 4 rfl, Has.r 5 rfl, Has.r 6 rfl, Has.r 7 rfl, Has.r 8 rfl, Has.r 9 rfl, Has.r 10 rfl, Has.r 11 rfl, Has.r 12 rfl, Has.r 13 rfl, Has.r 14 rfl, Has.r 15 rfl, Has.r 16 rfl, Has.r 17 rfl, trivial⟩ ?_
        refine LM.qy 21 rfl (by kernel_rfl) rfl (Ev.loadA rfl rfl rfl (Src.r 15 rfl) rfl rfl (by decide)) rfl ⟨Has.r 2 rfl, Has.r 3 rfl, Has.r 4 rfl, Has.r 5 rfl, Has.r 6 rfl, Has.r 7 rfl, Has.r 8 rfl, Has.r 9 rfl, Has.r 10 rfl, Has.r 11 rfl, Has.r 12 rfl, Has.r 13 rfl, Has.r 14 rfl, Has.r 15 rfl, Has.r 16 rfl, Has.r 17 rfl, trivial⟩ ?_
        refine LM.qy 22 rfl (by kernel_rfl) rfl (Ev.idxArr (k := 1) (m := 1) rfl rfl rfl rfl rfl rfl (by decide) (Src.r 9 rfl) (Nat.zero_lt_succ _) rfl) rfl ⟨Has.r 2 rfl, Has.r 3 rfl, Has.r 4 rfl, Has.r 5 rfl, Has.r 6 rfl, Has.r 7 rfl, Has.r 8 rfl, Has.r 9 rfl, Has.r 10 rfl, Has.r 11 rfl, Has.r 12 rfl, Has.r 13 rfl, Has.r 14 rfl, Has.r 15 rfl, Has.r 16 rfl, Has.r 17 rfl, trivial⟩ ?_
        refine LM.qy 23 rfl (by kernel_rfl) rfl (Ev.load rfl rfl rfl (Src.r 9 rfl) rfl) rfl ⟨Has.r 2 rfl, Has.r 3 rfl, Has.r 4 rfl, Has.r 5 rfl, Has.r 6 rfl, Has.r 7 rfl, Has.r 8 rfl, Has.r 9 rfl, Has.r 10 rfl, Has.r 11 rfl, Has.r 12 rfl, Has.r 13 rfl, Has.r 14 rfl, Has.r 15 rfl, Has.r 16 rfl, Has.r 17 rfl, trivial⟩ ?_
        refine LM.qy 24 rfl (by kernel_rfl) rfl (Ev.toInt rfl rfl rfl rfl (by omega) (by omega)) rfl ⟨Has.r 2 rfl, Has.r 3 rfl, Has.r 4 rfl, Has.r 5 rfl, Has.r 6 rfl, Has.r 7 rfl, Has.r 8 rfl, Has.r 9 rfl, Has.r 10 rfl, Has.r 11 rfl, Has.r 12 rfl, Has.r 13 rfl, Has.r 14 rfl, Has.r 15 rfl, Has.r 16 rfl, Has.r 17 rfl, trivial⟩ ?_
        refine LM.qy 26 rfl (by kernel_rfl) rfl (Ev.loadA rfl rfl rfl (Src.r 3 rfl) rfl rfl (by decide)) rfl ⟨Has.r 2 rfl, Has.r 3 rfl, Has.r 4 rfl, Has.r 5 rfl, Has.r 6 rfl, Has.r 7 rfl, Has.r 8 rfl, Has.r 9 rfl, Has.r 10 rfl, Has.r 11 rfl, Has.r 12 rfl, Has.r 13 rfl, Has.r 14 rfl, Has.r 15 rfl, Has.r 16 rfl, Has.r 17 rfl, trivial⟩ ?_
        refine LM.qy 27 rfl (by kernel_rfl) rfl (Ev.loadA rfl rfl rfl (Src.r 15 rfl) rfl rfl (by decide)) rfl ⟨Has.r 2 rfl, Has.r 3 rfl, Has.r 4 rfl, Has.r 5 rfl, Has.r 6 rfl, Has.r 7 rfl, Has.r 8 rfl, Has.r 9 rfl, Has.r 10 rfl, Has.r 11 rfl, Has.r 12 rfl, Has.r 13 rfl, Has.r 14 rfl, Has.r 15 rfl, Has.r 16 rfl, Has.r 17 rfl, trivial⟩ ?_
        refine LM.qy 28 rfl (by kernel_rfl) rfl (Ev.idxArr (k := 1) (m := 1) rfl rfl rfl rfl rfl rfl (by decide) (Src.r 9 rfl) (Nat.zero_lt_succ _) rfl) rfl ⟨Has.r 2 rfl, Has.r 3 rfl, Has.r 4 rfl, Has.r 5 rfl, Has.r 6 rfl, Has.r 7 rfl, Has.r 8 rfl, Has.r 9 rfl, Has.r 10 rfl, Has.r 11 rfl, Has.r 12 rfl, Has.r 13 rfl, Has.r 14 rfl, Has.r 15 rfl, Has.r 16 rfl, Has.r 17 rfl, trivial⟩ ?_
        refine LM.qy 29 rfl (by kernel_rfl) rfl (Ev.load rfl rfl rfl (Src.r 9 rfl) rfl) rfl ⟨Has.r 2 rfl, Has.r 3 rfl, Has.r 4 rfl, Has.r 5 rfl, Has.r 6 rfl, Has.r 7 rfl, Has.r 8 rfl, Has.r 9 rfl, Has.r 10 rfl, Has.r 11 rfl, Has.r 12 rfl, Has.r 13 rfl, Has.r 14 rfl, Has.r 15 rfl, Has.r 16 rfl, Has.r 17 rfl, trivial⟩ ?_
        refine LM.qy 30 rfl (by kernel_rfl) rfl (Ev.toInt rfl rfl rfl rfl (by omega) (by omega)) rfl ⟨Has.r 2 rfl, Has.r 3 rfl, Has.r 4 rfl, Has.r 5 rfl, Has.r 6 rfl, Has.r 7 rfl, Has.r 8 rfl, Has.r 9 rfl, Has.r 10 rfl, Has.r 11 rfl, Has.r 12 rfl, Has.r 13 rfl, Has.r 14 rfl, Has.r 15 rfl, Has.r 16 rfl, Has.r 17 rfl, trivial⟩ ?_
        refine LM.f 25 rfl (by kernel_rfl) ⟨Has.r 2 rfl, Has.r 3 rfl, Has.r 4 rfl, Has.r 5 rfl, Has.r 6 rfl, Has.r 7 rfl, Has.r 8 rfl, Has.r 9 rfl, Has.r 10 rfl, Has.r 11 rfl, Has.r 12 rfl, Has.r 13 rfl, Has.r 14 rfl, Has.r 15 rfl, Has.r 16 rfl, Has.r 17 rfl, trivial⟩ ?_
        refine L.yes rfl ?_
        refine L.callR (js := []) (js' := []) (llast_c g a gok ghb us U uc ghu w1) rfl rfl rfl (by decide) ⟨(Has.r 9 rfl), (Has.r 8 rfl), (Has.r 7 rfl), (Has.r 6 rfl), (Has.r 16 rfl), trivial⟩ rfl ?_
        rintro _ _ _ ⟨L140, lc140, rfl, rfl, rfl⟩
        refine L.nil (QE.m (by kernel_rfl) ?_)
        refine LM.f 31 rfl (by kernel_rfl) ⟨Has.r 3 rfl, Has.r 4 rfl, Has.r 5 rfl, Has.r 6 rfl, Has.r 7 rfl, Has.r 8 rfl, Has.r 9 rfl, Has.r 10 rfl, Has.r 11 rfl, Has.r 12 rfl, Has.r 13 rfl, Has.r 14 rfl, Has.r 15 rfl, Has.r 16 rfl, Has.r 17 rfl, Has.r 18 rfl, trivial⟩ ?_
        refine L.yes rfl ?_
        refine L.callR (js := []) (js' := []) (last21_c g a gok ghb us U uc ghu w1) rfl rfl rfl (by decide) ⟨(Has.r 10 rfl), (Has.r 9 rfl), (Has.r 8 rfl), (Has.r 7 rfl), (Has.r 17 rfl), trivial⟩ rfl ?_
        rintro _ _ _ ⟨L146, lc146, rfl, rfl, rfl⟩
        refine L.nil (QE.m (by kernel_rfl) ?_)
        refine LM.f 32 rfl (by kernel_rfl) ⟨Has.r 4 rfl, Has.r 5 rfl, Has.r 6 rfl, Has.r 7 rfl, Has.r 8 rfl, Has.r 9 rfl, Has.r 10 rfl, Has.r 11 rfl, Has.r 12 rfl, Has.r 13 rfl, Has.r 14 rfl, Has.r 15 rfl, Has.r 16 rfl, Has.r 17 rfl, Has.r 18 rfl, Has.r 19 rfl, trivial⟩ ?_
        refine L.yes rfl ?_
        refine L.call (js := []) (js' := []) (Ctr.tb true (sameFd_c (lastS (area g us) (g.size : Int) w1) (lastS (area g us) (g.size : Int) w1) L140 L146 lc140 lc146 (by omega) (by omega)) (by simp)) rfl rfl rfl (by decide) ⟨(Has.r 1 rfl), (Has.r 0 rfl), trivial⟩ rfl ?_
        rintro _ _ _ ⟨rfl, rfl, rfl⟩
        refine L.nil (QE.m (by kernel_rfl) ?_)
        refine LM.q 33 rfl (by kernel_rfl) (Ev.pure rfl) rfl ⟨Has.r 4 rfl, Has.r 5 rfl, Has.r 6 rfl, Has.r 7 rfl, Has.r 8 rfl, Has.r 9 rfl, Has.r 10 rfl, Has.r 11 rfl, Has.r 12 rfl, Has.r 13 rfl, Has.r 14 rfl, Has.r 15 rfl, Has.r 16 rfl, Has.r 17 rfl, Has.r 18 rfl, Has.r 19 rfl, trivial⟩ ?_
        refine LM.q 34 rfl (by kernel_rfl) (Ev.pure rfl) rfl ⟨Has.r 4 rfl, Has.r 5 rfl, Has.r 6 rfl, Has.r 7 rfl, Has.r 8 rfl, Has.r 9 rfl, Has.r 10 rfl, Has.r 11 rfl, Has.r 12 rfl, Has.r 13 rfl, Has.r 14 rfl, Has.r 15 rfl, Has.r 16 rfl, Has.r 17 rfl, Has.r 18 rfl, Has.r 19 rfl, trivial⟩ ?_
        refine LM.qy 35 rfl (by kernel_rfl) rfl (Ev.pure rfl) rfl ⟨Has.r 4 rfl, Has.r 5 rfl, Has.r 6 rfl, Has.r 7 rfl, Has.r 8 rfl, Has.r 9 rfl, Has.r 10 rfl, Has.r 11 rfl, Has.r 12 rfl, Has.r 13 rfl, Has.r 14 rfl, Has.r 15 rfl, Has.r 16 rfl, Has.r 17 rfl, Has.r 18 rfl, Has.r 19 rfl, trivial⟩ ?_
        refine LM.qy 36 rfl (by kernel_rfl) rfl (Ev.pure rfl) rfl ⟨Has.r 4 rfl, Has.r 5 rfl, Has.r 6 rfl, Has.r 7 rfl, Has.r 8 rfl, Has.r 9 rfl, Has.r 10 rfl, Has.r 11 rfl, Has.r 12 rfl, Has.r 13 rfl, Has.r 14 rfl, Has.r 15 rfl, Has.r 16 rfl, Has.r 17 rfl, Has.r 18 rfl, Has.r 19 rfl, trivial⟩ ?_
        refine LM.f 37 rfl (by kernel_rfl) ⟨Has.r 4 rfl, Has.r 5 rfl, Has.r 6 rfl, Has.r 7 rfl, Has.r 8 rfl, Has.r 9 rfl, Has.r 10 rfl, Has.r 11 rfl, Has.r 12 rfl, Has.r 13 rfl, Has.r 14 rfl, Has.r 15 rfl, Has.r 16 rfl, Has.r 17 rfl, Has.r 18 rfl, Has.r 19 rfl, trivial⟩ ?_
        refine L.yes rfl ?_
        refine L.call (js := []) (js' := []) (Ctr.tb true (same_g R101 R112 rc101 rc112 (resS w (b.take m)) (resS w (b.take m)) (resS w (b.take m)).length (resS w (b.take m)).length rfl rfl (by omega) (by omega)) (by simp)) rfl rfl rfl (by decide) ⟨(Has.r 5 rfl), (Has.r 4 rfl), trivial⟩ rfl ?_
        rintro _ _ _ ⟨rfl, rfl, rfl⟩
        refine L.nil (QE.m (by kernel_rfl) ?_)
        refine LM.q 38 rfl (by kernel_rfl) (Ev.pure rfl) rfl ⟨Has.r 4 rfl, Has.r 5 rfl, Has.r 6 rfl, Has.r 7 rfl, Has.r 8 rfl, Has.r 9 rfl, Has.r 10 rfl, Has.r 11 rfl, Has.r 12 rfl, Has.r 13 rfl, Has.r 14 rfl, Has.r 15 rfl, Has.r 16 rfl, Has.r 17 rfl, Has.r 18 rfl, Has.r 19 rfl, trivial⟩ ?_
        refine LM.q 39 rfl (by kernel_rfl) (Ev.pure rfl) rfl ⟨Has.r 4 rfl, Has.r 5 rfl, Has.r 6 rfl, Has.r 7 rfl, Has.r 8 rfl, Has.r 9 rfl, Has.r 10 rfl, Has.r 11 rfl, Has.r 12 rfl, Has.r 13 rfl, Has.r 14 rfl, Has.r 15 rfl, Has.r 16 rfl, Has.r 17 rfl, Has.r 18 rfl, Has.r 19 rfl, trivial⟩ ?_
        refine LM.qy 40 rfl (by kernel_rfl) rfl (Ev.pure rfl) rfl ⟨Has.r 4 rfl, Has.r 5 rfl, Has.r 6 rfl, Has.r 7 rfl, Has.r 8 rfl, Has.r 9 rfl, Has.r 10 rfl, Has.r 11 rfl, Has.r 12 rfl, Has.r 13 rfl, Has.r 14 rfl, Has.r 15 rfl, Has.r 16 rfl, Has.r 17 rfl, Has.r 18 rfl, Has.r 19 rfl, trivial⟩ ?_
        refine LM.f 41 rfl (by kernel_rfl) ⟨Has.r 4 rfl, Has.r 5 rfl, Has.r 6 rfl, Has.r 7 rfl, Has.r 8 rfl, Has.r 9 rfl, Has.r 10 rfl, Has.r 11 rfl, Has.r 12 rfl, Has.r 13 rfl, Has.r 14 rfl, Has.r 15 rfl, Has.r 16 rfl, Has.r 17 rfl, Has.r 18 rfl, Has.r 19 rfl, trivial⟩ ?_
        refine L.yes rfl ?_
        refine L.step (Ev.pure rfl) rfl ?_
        refine L.nil (QE.m (by kernel_rfl) ?_)
        refine LM.cut [] (by kernel_rfl) ⟨Has.r 4 rfl, Has.r 5 rfl, Has.r 6 rfl, Has.r 7 rfl, Has.r 8 rfl, Has.r 9 rfl, Has.r 10 rfl, Has.r 11 rfl, Has.r 12 rfl, Has.r 13 rfl, Has.r 14 rfl, Has.r 15 rfl, Has.r 16 rfl, Has.r 17 rfl, Has.r 18 rfl, Has.r 19 rfl, trivial⟩ ?_
        refine LM.f 42 rfl (by kernel_rfl) trivial ?_
        refine L.yes rfl ?_
        refine L.step (Ev.pure rfl) rfl ?_
        refine L.nil (QE.m (by kernel_rfl) ?_)
        refine LM.f 43 rfl (by kernel_rfl) trivial ?_
        refine L.step (Ev.pure rfl) rfl ?_
        refine L.nil (QE.m (by kernel_rfl) ?_)
        refine LM.f 44 rfl (by kernel_rfl) trivial ?_
        refine L.step (Ev.pure rfl) rfl ?_
        refine L.nil (QE.m (by kernel_rfl) ?_)
        refine LM.bool 159 rfl (fun hg159 => ?_) (fun hg159 => ?_)
        · skip
          replace hg159 := i_eq hg159
          refine LM.f 45 rfl (by kernel_rfl) trivial ?_
          refine L.yes rfl ?_
          refine L.step (Ev.pure rfl) rfl ?_
          refine L.nil (QE.m (by kernel_rfl) ?_)
          refine LM.f 46 rfl (by kernel_rfl) trivial ?_
          refine L.step (Ev.pure rfl) rfl ?_
          refine L.nil (QE.m (by kernel_rfl) ?_)
          refine LM.f 47 rfl (by kernel_rfl) trivial ?_
          refine L.step (Ev.pure rfl) rfl ?_
          refine L.nil (QE.m (by kernel_rfl) ?_)
          refine LM.nil (by kernel_rfl) trivial ?_
          refine QE.seq ?_
          refine C.ret ?_
          refine QE.ret (js := []) (hs := []) (vs := [_]) rfl ⟨rfl, trivial⟩ (by decide) ?_
          exact ⟨rfl, rfl, rfl⟩
        · skip
          replace hg159 := i_ne hg159
          exact (hg159 rfl).elim
      · skip
        replace hg123 := i_ne hg123
        exact (hg123 rfl).elim
  · skip
    replace hg66 := of_decide_eq_false hg66
    refine L.no rfl rfl rfl ?_
    refine L.no rfl rfl rfl ?_
    refine L.no rfl rfl rfl ?_
    refine L.no rfl rfl rfl ?_
    refine L.step (Ev.pure rfl) rfl ?_
    refine L.nil ?_
    refine QE.seq ?_
    refine C.cond rfl (fun h => by cases h) (fun _ => ?_)
    refine C.exit ?_
    refine QE.tX ?_
    refine QE.tX ?_
    refine QE.blk ?_
    refine QE.seq ?_
    refine C.seq ?_
    obtain ⟨g, hg⟩ : ∃ g, g = fillB f (us.getD 0 0).toNat b k := ⟨_, rfl⟩
    have hgd : g.data.length = f.data.length := by rw [hg]; exact fillB_dl
    have hgrow : rowsV a.hs (B8 g.data) = rowsV a.hs (B8 f.data) := by rw [hg]; exact fillB_rows hb hfb hk2 (by omega)
    have gok : g.Ok := by rw [hg]; exact fillB_ok ok hfb hk2 hk1
    have gsz : g.size = f.size := by rw [hg]; rfl
    have ghb : a.hs.length = g.data.length := by rw [hgd]; exact hb
    have ghu : UOk g us := hu.of hgd
    have ghc : Caps g a := hcp.of hgd gsz
    refine C.le (Γ' := [(1, .slice BA b.length bc), (5, ptrOf A5 0), (7, .bool true), (8, ptrOf A8 0), (9, ptrOf A9 0), (10, ptrOf A10 0), (11, .slice R54 (recS w3 o w).length rc54), (12, .int .i64 (recE w3 o w)), (13, .slice R59 (recS w3 o w).length rc59), (14, .int .i64 (recE w3 o w))]) (R' := [Rd BA (U8 b), Rd A5 [.int .i8 w0, .int .i8 w1, .int .i8 w2, .int .i8 w3], Rd A10 [.int .i64 w3, .slice O f.size oc, .slice N f.size nc], Rd N (U8 w), Rd R54 (U8 (recS w3 o w)), Rd R59 (U8 (recS w3 o w)), Rd U (I64 us), Rd A9 [.int .i64 0, .int .i64 0, .int .i64 0, .int .i64 0, .int .i64 0, .slice none 0 0, .slice U us.length uc, .slice none 0 0]]) (H' := [Own 24 1 a.D g.data.length a.cD (rowsV a.hs (B8 g.data)), OwnKids 5 a.hs (B8 g.data), Own 3 1 a.W g.wear.length a.cW (I64 g.wear), Own 4 1 a.E g.dead.length a.cE (Bs g.dead), Own 32 5 A8 1 1 [.int .i64 (g.size : Int), .slice a.D g.data.length a.cD, .slice a.W g.wear.length a.cW, .int .i64 g.limit, .slice a.E g.dead.length a.cE]]) (by exact Le.mk' (rs := [9, 7, 6, 4, 3, 2, 1, 0]) (hs := [0, 1, 2, 3, 4]) ⟨rfl, rfl, rfl, rfl, rfl, rfl, rfl, rfl, rfl, rfl, trivial⟩ ⟨rfl, rfl, rfl, rfl, rfl, rfl, rfl, rfl, trivial⟩ ⟨(congrArg some (own_eq hgd.symm hgrow.symm)), (by rw [hg]; rfl), (by rw [hg]; rfl), (by rw [hg]; rfl), (congrArg some (own_eq rfl (by rw [hgd, hg]; rfl))), trivial⟩ (by decide)) ?_
    refine C.freeze 0 rfl [1, 2, 3, 4] (by decide) (by decide) ?_
    refine C.norm (H' := [_, _, _, _]) [0, 1, 2, 3] ⟨rfl, rfl, rfl, rfl, trivial⟩ (by decide) ?_
    refine C.freezeKids 0 rfl [1, 2, 3] (by decide) (by decide) ?_
    refine C.norm (H' := [_, _, _]) [0, 1, 2] ⟨rfl, rfl, rfl, trivial⟩ (by decide) ?_
    refine C.freeze 0 rfl [1, 2] (by decide) (by decide) ?_
    refine C.norm (H' := [_, _]) [0, 1] ⟨rfl, rfl, trivial⟩ (by decide) ?_
    refine C.freeze 0 rfl [1] (by decide) (by decide) ?_
    refine C.norm (H' := [_]) [0] ⟨rfl, trivial⟩ (by decide) ?_
    refine C.freeze 0 rfl [] (by decide) (by decide) ?_
    refine C.region ?_
    refine L.step (Ev.idxArr (k := 0) (m := 0) rfl rfl rfl rfl rfl rfl (by decide) (Src.r 6 rfl) (Nat.zero_lt_succ _) rfl) rfl ?_
    refine L.step (Ev.load rfl rfl rfl (Src.r 6 rfl) rfl) rfl ?_
    refine L.step (Ev.toInt rfl rfl rfl rfl (by omega) (by omega)) rfl ?_
    refine L.step (Ev.pure rfl) rfl ?_
    refine L.step (Ev.build rfl rfl rfl rfl rfl rfl rfl) rfl ?_
    refine L.alloc rfl rfl rfl (fun A16 => ?_)
    refine L.storeA (j := 0) rfl rfl rfl rfl rfl (Nat.zero_lt_succ _) rfl rfl ?_
    refine L.nil ?_
    refine QE.seq ?_
    refine C.seq ?_
    refine C.freeze 0 rfl [] (by decide) (by decide) ?_
    obtain ⟨m, hm⟩ : ∃ m, m = min b.length 30 := ⟨_, rfl⟩
    have hmb : (b.take m).length = m := by rw [List.length_take]; omega
    have hsl := recS_len w3 o w
    have hxl := resS_len (b := w) (rec := (b.take m))
    have htl : (towS g us w0 (recS w3 o w)).x.data.length ≤ 20485 := Nat.le_trans (towS_len ..) hsl
    have hll := lastS_len (A := area g us) (z := (g.size : Int)) (e := w1)
    refine C.regionM [Rd A16 [.int .i64 w0, .slice R59 (recS w3 o w).length rc59], Rd A8 [.int .i64 (g.size : Int), .slice a.D g.data.length a.cD, .slice a.W g.wear.length a.cW, .int .i64 g.limit, .slice a.E g.dead.length a.cE], Rd a.E (Bs g.dead), Rd a.W (I64 g.wear), KidsR a.hs (B8 g.data), Rd a.D (rowsV a.hs (B8 g.data)), Rd BA (U8 b), Rd A5 [.int .i8 w0, .int .i8 w1, .int .i8 w2, .int .i8 w3], Rd A10 [.int .i64 w3, .slice O f.size oc, .slice N f.size nc], Rd N (U8 w), Rd R54 (U8 (recS w3 o w)), Rd R59 (U8 (recS w3 o w)), Rd U (I64 us), Rd A9 [.int .i64 0, .int .i64 0, .int .i64 0, .int .i64 0, .int .i64 0, .slice none 0 0, .slice U us.length uc, .slice none 0 0]] ⟨Has.r 0 rfl, Has.r 1 rfl, Has.r 2 rfl, Has.r 3 rfl, Has.r 4 rfl, Has.r 5 rfl, Has.r 6 rfl, Has.r 7 rfl, Has.r 8 rfl, Has.r 9 rfl, Has.r 10 rfl, Has.r 11 rfl, Has.r 12 rfl, Has.r 13 rfl, trivial⟩ ?_
    refine LM.q 0 rfl (by kernel_rfl) (Ev.fieldAddr rfl rfl rfl rfl rfl rfl (Src.r 8 rfl) (Nat.zero_lt_succ _) rfl) rfl ⟨Has.r 0 rfl, Has.r 1 rfl, Has.r 2 rfl, Has.r 3 rfl, Has.r 4 rfl, Has.r 5 rfl, Has.r 6 rfl, Has.r 7 rfl, Has.r 8 rfl, Has.r 9 rfl, Has.r 10 rfl, Has.r 11 rfl, Has.r 12 rfl, Has.r 13 rfl, trivial⟩ ?_
    refine LM.q 1 rfl (by kernel_rfl) (Ev.load rfl rfl rfl (Src.r 8 rfl) rfl) rfl ⟨Has.r 0 rfl, Has.r 1 rfl, Has.r 2 rfl, Has.r 3 rfl, Has.r 4 rfl, Has.r 5 rfl, Has.r 6 rfl, Has.r 7 rfl, Has.r 8 rfl, Has.r 9 rfl, Has.r 10 rfl, Has.r 11 rfl, Has.r 12 rfl, Has.r 13 rfl, trivial⟩ ?_
    refine LM.q 2 rfl (by kernel_rfl) (Ev.pure rfl) rfl ⟨Has.r 0 rfl, Has.r 1 rfl, Has.r 2 rfl, Has.r 3 rfl, Has.r 4 rfl, Has.r 5 rfl, Has.r 6 rfl, Has.r 7 rfl, Has.r 8 rfl, Has.r 9 rfl, Has.r 10 rfl, Has.r 11 rfl, Has.r 12 rfl, Has.r 13 rfl, trivial⟩ ?_
    refine LM.q 3 rfl (by kernel_rfl) (Ev.pure rfl) rfl ⟨Has.r 0 rfl, Has.r 1 rfl, Has.r 2 rfl, Has.r 3 rfl, Has.r 4 rfl, Has.r 5 rfl, Has.r 6 rfl, Has.r 7 rfl, Has.r 8 rfl, Has.r 9 rfl, Has.r 10 rfl, Has.r 11 rfl, Has.r 12 rfl, Has.r 13 rfl, trivial⟩ ?_
    refine LM.q 4 rfl (by kernel_rfl) (Ev.pure rfl) rfl ⟨Has.r 0 rfl, Has.r 1 rfl, Has.r 2 rfl, Has.r 3 rfl, Has.r 4 rfl, Has.r 5 rfl, Has.r 6 rfl, Has.r 7 rfl, Has.r 8 rfl, Has.r 9 rfl, Has.r 10 rfl, Has.r 11 rfl, Has.r 12 rfl, Has.r 13 rfl, trivial⟩ ?_
    refine LM.q 5 rfl (by kernel_rfl) (Ev.cast (u := .int .i64 ((m : Nat) : Int)) (Ev.pure rfl) (congrArg (Value.int .i64) (by simp only [Bool.false_eq_true, if_false]; split <;> omega))) rfl ⟨Has.r 0 rfl, Has.r 1 rfl, Has.r 2 rfl, Has.r 3 rfl, Has.r 4 rfl, Has.r 5 rfl, Has.r 6 rfl, Has.r 7 rfl, Has.r 8 rfl, Has.r 9 rfl, Has.r 10 rfl, Has.r 11 rfl, Has.r 12 rfl, Has.r 13 rfl, trivial⟩ ?_
    refine LM.q 6 rfl (by kernel_rfl) (Ev.sliceH (h := m) rfl rfl rfl rfl rfl rfl (by omega)) rfl ⟨Has.r 0 rfl, Has.r 1 rfl, Has.r 2 rfl, Has.r 3 rfl, Has.r 4 rfl, Has.r 5 rfl, Has.r 6 rfl, Has.r 7 rfl, Has.r 8 rfl, Has.r 9 rfl, Has.r 10 rfl, Has.r 11 rfl, Has.r 12 rfl, Has.r 13 rfl, trivial⟩ ?_
    refine LM.f 7 rfl (by kernel_rfl) ⟨Has.r 0 rfl, Has.r 1 rfl, Has.r 2 rfl, Has.r 3 rfl, Has.r 4 rfl, Has.r 5 rfl, Has.r 6 rfl, Has.r 7 rfl, Has.r 8 rfl, Has.r 9 rfl, Has.r 10 rfl, Has.r 11 rfl, Has.r 12 rfl, Has.r 13 rfl, trivial⟩ ?_
    refine L.call (js := []) (js' := []) (res_h N BA w (b.take m) f.size nc m bc (resS w (b.take m)) (resE w (b.take m)) hlw hmb rfl rfl (by omega) (by omega) (by omega)) rfl rfl rfl (by decide) ⟨(Has.r 9 rfl), ((Has.take (Has.r 6 rfl) m).cast (U8_take _ _)), trivial⟩ rfl ?_
    rintro _ _ _ ⟨R101, rc101, rfl, rfl, rfl⟩
    refine L.norm (H' := [_]) [0] ⟨rfl, trivial⟩ (by decide) ?_
    refine L.nil (QE.m (by kernel_rfl) ?_)
    refine LM.q 8 rfl (by kernel_rfl) (Ev.pure rfl) rfl ⟨Has.r 0 rfl, Has.r 1 rfl, Has.r 2 rfl, Has.r 3 rfl, Has.r 4 rfl, Has.r 5 rfl, Has.r 6 rfl, Has.r 7 rfl, Has.r 8 rfl, Has.r 9 rfl, Has.r 10 rfl, Has.r 11 rfl, Has.r 12 rfl, Has.r 13 rfl, trivial⟩ ?_
    refine LM.q 9 rfl (by kernel_rfl) (Ev.pure rfl) rfl ⟨Has.r 0 rfl, Has.r 1 rfl, Has.r 2 rfl, Has.r 3 rfl, Has.r 4 rfl, Has.r 5 rfl, Has.r 6 rfl, Has.r 7 rfl, Has.r 8 rfl, Has.r 9 rfl, Has.r 10 rfl, Has.r 11 rfl, Has.r 12 rfl, Has.r 13 rfl, trivial⟩ ?_
    refine LM.q 10 rfl (by kernel_rfl) (Ev.pure rfl) rfl ⟨Has.r 0 rfl, Has.r 1 rfl, Has.r 2 rfl, Has.r 3 rfl, Has.r 4 rfl, Has.r 5 rfl, Has.r 6 rfl, Has.r 7 rfl, Has.r 8 rfl, Has.r 9 rfl, Has.r 10 rfl, Has.r 11 rfl, Has.r 12 rfl, Has.r 13 rfl, trivial⟩ ?_
    refine LM.f 11 rfl (by kernel_rfl) ⟨Has.r 0 rfl, Has.r 1 rfl, Has.r 2 rfl, Has.r 3 rfl, Has.r 4 rfl, Has.r 5 rfl, Has.r 6 rfl, Has.r 7 rfl, Has.r 8 rfl, Has.r 9 rfl, Has.r 10 rfl, Has.r 11 rfl, Has.r 12 rfl, Has.r 13 rfl, trivial⟩ ?_
    refine L.step (Ev.pure rfl) rfl ?_
    refine L.nil (QE.m (by kernel_rfl) ?_)
    refine LM.cut [] (by kernel_rfl) ⟨Has.r 0 rfl, Has.r 1 rfl, Has.r 2 rfl, Has.r 3 rfl, Has.r 4 rfl, Has.r 5 rfl, Has.r 6 rfl, Has.r 7 rfl, Has.r 8 rfl, Has.r 9 rfl, Has.r 10 rfl, Has.r 11 rfl, Has.r 12 rfl, Has.r 13 rfl, trivial⟩ ?_
    refine LM.f 12 rfl (by kernel_rfl) trivial ?_
    refine L.step (Ev.pure rfl) rfl ?_
    refine L.nil (QE.m (by kernel_rfl) ?_)
    refine LM.nil (by kernel_rfl) trivial ?_
    refine QE.seq ?_
    refine C.seq ?_
    refine C.regionM [Rd A16 [.int .i64 w0, .slice R59 (recS w3 o w).length rc59], Rd A8 [.int .i64 (g.size : Int), .slice a.D g.data.length a.cD, .slice a.W g.wear.length a.cW, .int .i64 g.limit, .slice a.E g.dead.length a.cE], Rd a.E (Bs g.dead), Rd a.W (I64 g.wear), KidsR a.hs (B8 g.data), Rd a.D (rowsV a.hs (B8 g.data)), Rd BA (U8 b), Rd A5 [.int .i8 w0, .int .i8 w1, .int .i8 w2, .int .i8 w3], Rd A10 [.int .i64 w3, .slice O f.size oc, .slice N f.size nc], Rd N (U8 w), Rd R54 (U8 (recS w3 o w)), Rd R59 (U8 (recS w3 o w)), Rd U (I64 us), Rd A9 [.int .i64 0, .int .i64 0, .int .i64 0, .int .i64 0, .int .i64 0, .slice none 0 0, .slice U us.length uc, .slice none 0 0]] ⟨Has.r 0 rfl, Has.r 1 rfl, Has.r 2 rfl, Has.r 3 rfl, Has.r 4 rfl, Has.r 5 rfl, Has.r 6 rfl, Has.r 7 rfl, Has.r 8 rfl, Has.r 9 rfl, Has.r 10 rfl, Has.r 11 rfl, Has.r 12 rfl, Has.r 13 rfl, trivial⟩ ?_
    refine LM.q 0 rfl (by kernel_rfl) (Ev.fieldAddr rfl rfl rfl rfl rfl rfl (Src.r 8 rfl) (Nat.zero_lt_succ _) rfl) rfl ⟨Has.r 0 rfl, Has.r 1 rfl, Has.r 2 rfl, Has.r 3 rfl, Has.r 4 rfl, Has.r 5 rfl, Has.r 6 rfl, Has.r 7 rfl, Has.r 8 rfl, Has.r 9 rfl, Has.r 10 rfl, Has.r 11 rfl, Has.r 12 rfl, Has.r 13 rfl, trivial⟩ ?_
    refine LM.q 1 rfl (by kernel_rfl) (Ev.load rfl rfl rfl (Src.r 8 rfl) rfl) rfl ⟨Has.r 0 rfl, Has.r 1 rfl, Has.r 2 rfl, Has.r 3 rfl, Has.r 4 rfl, Has.r 5 rfl, Has.r 6 rfl, Has.r 7 rfl, Has.r 8 rfl, Has.r 9 rfl, Has.r 10 rfl, Has.r 11 rfl, Has.r 12 rfl, Has.r 13 rfl, trivial⟩ ?_
    refine LM.q 2 rfl (by kernel_rfl) (Ev.pure rfl) rfl ⟨Has.r 0 rfl, Has.r 1 rfl, Has.r 2 rfl, Has.r 3 rfl, Has.r 4 rfl, Has.r 5 rfl, Has.r 6 rfl, Has.r 7 rfl, Has.r 8 rfl, Has.r 9 rfl, Has.r 10 rfl, Has.r 11 rfl, Has.r 12 rfl, Has.r 13 rfl, trivial⟩ ?_
    refine LM.q 3 rfl (by kernel_rfl) (Ev.pure rfl) rfl ⟨Has.r 0 rfl, Has.r 1 rfl, Has.r 2 rfl, Has.r 3 rfl, Has.r 4 rfl, Has.r 5 rfl, Has.r 6 rfl, Has.r 7 rfl, Has.r 8 rfl, Has.r 9 rfl, Has.r 10 rfl, Has.r 11 rfl, Has.r 12 rfl, Has.r 13 rfl, trivial⟩ ?_
    refine LM.q 4 rfl (by kernel_rfl) (Ev.pure rfl) rfl ⟨Has.r 0 rfl, Has.r 1 rfl, Has.r 2 rfl, Has.r 3 rfl, Has.r 4 rfl, Has.r 5 rfl, Has.r 6 rfl, Has.r 7 rfl, Has.r 8 rfl, Has.r 9 rfl, Has.r 10 rfl, Has.r 11 rfl, Has.r 12 rfl, Has.r 13 rfl, trivial⟩ ?_
    refine LM.q 5 rfl (by kernel_rfl) (Ev.cast (u := .int .i64 ((m : Nat) : Int)) (Ev.pure rfl) (congrArg (Value.int .i64) (by simp only [Bool.false_eq_true, if_false]; split <;> omega))) rfl ⟨Has.r 0 rfl, Has.r 1 rfl, Has.r 2 rfl, Has.r 3 rfl, Has.r 4 rfl, Has.r 5 rfl, Has.r 6 rfl, Has.r 7 rfl, Has.r 8 rfl, Has.r 9 rfl, Has.r 10 rfl, Has.r 11 rfl, Has.r 12 rfl, Has.r 13 rfl, trivial⟩ ?_
    refine LM.q 6 rfl (by kernel_rfl) (Ev.sliceH (h := m) rfl rfl rfl rfl rfl rfl (by omega)) rfl ⟨Has.r 0 rfl, Has.r 1 rfl, Has.r 2 rfl, Has.r 3 rfl, Has.r 4 rfl, Has.r 5 rfl, Has.r 6 rfl, Has.r 7 rfl, Has.r 8 rfl, Has.r 9 rfl, Has.r 10 rfl, Has.r 11 rfl, Has.r 12 rfl, Has.r 13 rfl, trivial⟩ ?_
    refine LM.f 7 rfl (by kernel_rfl) ⟨Has.r 0 rfl, Has.r 1 rfl, Has.r 2 rfl, Has.r 3 rfl, Has.r 4 rfl, Has.r 5 rfl, Has.r 6 rfl, Has.r 7 rfl, Has.r 8 rfl, Has.r 9 rfl, Has.r 10 rfl, Has.r 11 rfl, Has.r 12 rfl, Has.r 13 rfl, trivial⟩ ?_
    refine L.call (js := []) (js' := [0]) (res21_h N BA w (b.take m) f.size nc m bc (resS w (b.take m)) (resE w (b.take m)) hlw hmb rfl rfl (by omega) (by omega)) rfl rfl rfl (by decide) ⟨(Has.r 9 rfl), ((Has.take (Has.r 6 rfl) m).cast (U8_take _ _)), trivial⟩ rfl ?_
    rintro _ _ _ ⟨R112, rc112, rfl, rfl, rfl⟩
    refine L.norm (H' := [_, _]) [0, 1] ⟨rfl, rfl, trivial⟩ (by decide) ?_
    refine L.nil (QE.m (by kernel_rfl) ?_)
    refine LM.q 8 rfl (by kernel_rfl) (Ev.pure rfl) rfl ⟨Has.r 0 rfl, Has.r 1 rfl, Has.r 2 rfl, Has.r 3 rfl, Has.r 4 rfl, Has.r 5 rfl, Has.r 6 rfl, Has.r 7 rfl, Has.r 8 rfl, Has.r 9 rfl, Has.r 10 rfl, Has.r 11 rfl, Has.r 12 rfl, Has.r 13 rfl, trivial⟩ ?_
    refine LM.q 9 rfl (by kernel_rfl) (Ev.pure rfl) rfl ⟨Has.r 0 rfl, Has.r 1 rfl, Has.r 2 rfl, Has.r 3 rfl, Has.r 4 rfl, Has.r 5 rfl, Has.r 6 rfl, Has.r 7 rfl, Has.r 8 rfl, Has.r 9 rfl, Has.r 10 rfl, Has.r 11 rfl, Has.r 12 rfl, Has.r 13 rfl, trivial⟩ ?_
    refine LM.q 10 rfl (by kernel_rfl) (Ev.pure rfl) rfl ⟨Has.r 0 rfl, Has.r 1 rfl, Has.r 2 rfl, Has.r 3 rfl, Has.r 4 rfl, Has.r 5 rfl, Has.r 6 rfl, Has.r 7 rfl, Has.r 8 rfl, Has.r 9 rfl, Has.r 10 rfl, Has.r 11 rfl, Has.r 12 rfl, Has.r 13 rfl, trivial⟩ ?_
    refine LM.f 11 rfl (by kernel_rfl) ⟨Has.r 0 rfl, Has.r 1 rfl, Has.r 2 rfl, Has.r 3 rfl, Has.r 4 rfl, Has.r 5 rfl, Has.r 6 rfl, Has.r 7 rfl, Has.r 8 rfl, Has.r 9 rfl, Has.r 10 rfl, Has.r 11 rfl, Has.r 12 rfl, Has.r 13 rfl, trivial⟩ ?_
    refine L.step (Ev.pure rfl) rfl ?_
    refine L.nil (QE.m (by kernel_rfl) ?_)
    refine LM.cut [] (by kernel_rfl) ⟨Has.r 0 rfl, Has.r 1 rfl, Has.r 2 rfl, Has.r 3 rfl, Has.r 4 rfl, Has.r 5 rfl, Has.r 6 rfl, Has.r 7 rfl, Has.r 8 rfl, Has.r 9 rfl, Has.r 10 rfl, Has.r 11 rfl, Has.r 12 rfl, Has.r 13 rfl, trivial⟩ ?_
    refine LM.f 12 rfl (by kernel_rfl) trivial ?_
    refine L.step (Ev.pure rfl) rfl ?_
    refine L.nil (QE.m (by kernel_rfl) ?_)
    refine LM.nil (by kernel_rfl) trivial ?_
    refine QE.seq ?_
    refine C.seq ?_
    refine C.freeze 1 rfl [0] (by decide) (by decide) ?_
    refine C.norm (H' := [_]) [0] ⟨rfl, trivial⟩ (by decide) ?_
    refine C.freeze 0 rfl [] (by decide) (by decide) ?_
    refine C.regionM [Rd R112 (U8 (resS w (b.take m))), Rd R101 (U8 (resS w (b.take m))), Rd A16 [.int .i64 w0, .slice R59 (recS w3 o w).length rc59], Rd A8 [.int .i64 (g.size : Int), .slice a.D g.data.length a.cD, .slice a.W g.wear.length a.cW, .int .i64 g.limit, .slice a.E g.dead.length a.cE], Rd a.E (Bs g.dead), Rd a.W (I64 g.wear), KidsR a.hs (B8 g.data), Rd a.D (rowsV a.hs (B8 g.data)), Rd BA (U8 b), Rd A5 [.int .i8 w0, .int .i8 w1, .int .i8 w2, .int .i8 w3], Rd A10 [.int .i64 w3, .slice O f.size oc, .slice N f.size nc], Rd N (U8 w), Rd R54 (U8 (recS w3 o w)), Rd R59 (U8 (recS w3 o w)), Rd U (I64 us), Rd A9 [.int .i64 0, .int .i64 0, .int .i64 0, .int .i64 0, .int .i64 0, .slice none 0 0, .slice U us.length uc, .slice none 0 0]] ⟨Has.r 0 rfl, Has.r 1 rfl, Has.r 2 rfl, Has.r 3 rfl, Has.r 4 rfl, Has.r 5 rfl, Has.r 6 rfl, Has.r 7 rfl, Has.r 8 rfl, Has.r 9 rfl, Has.r 10 rfl, Has.r 11 rfl, Has.r 12 rfl, Has.r 13 rfl, Has.r 14 rfl, Has.r 15 rfl, trivial⟩ ?_
    refine LM.q 0 rfl (by kernel_rfl) (Ev.pure rfl) rfl ⟨Has.r 0 rfl, Has.r 1 rfl, Has.r 2 rfl, Has.r 3 rfl, Has.r 4 rfl, Has.r 5 rfl, Has.r 6 rfl, Has.r 7 rfl, Has.r 8 rfl, Has.r 9 rfl, Has.r 10 rfl, Has.r 11 rfl, Has.r 12 rfl, Has.r 13 rfl, Has.r 14 rfl, Has.r 15 rfl, trivial⟩ ?_
    refine LM.q 1 rfl (by kernel_rfl) (Ev.pure rfl) rfl ⟨Has.r 0 rfl, Has.r 1 rfl, Has.r 2 rfl, Has.r 3 rfl, Has.r 4 rfl, Has.r 5 rfl, Has.r 6 rfl, Has.r 7 rfl, Has.r 8 rfl, Has.r 9 rfl, Has.r 10 rfl, Has.r 11 rfl, Has.r 12 rfl, Has.r 13 rfl, Has.r 14 rfl, Has.r 15 rfl, trivial⟩ ?_
    refine LM.f 2 rfl (by kernel_rfl) ⟨Has.r 0 rfl, Has.r 1 rfl, Has.r 2 rfl, Has.r 3 rfl, Has.r 4 rfl, Has.r 5 rfl, Has.r 6 rfl, Has.r 7 rfl, Has.r 8 rfl, Has.r 9 rfl, Has.r 10 rfl, Has.r 11 rfl, Has.r 12 rfl, Has.r 13 rfl, Has.r 14 rfl, Has.r 15 rfl, trivial⟩ ?_
    refine L.call (js := []) (js' := []) (Ctr.tb true (same_g R54 R59 rc54 rc59 (recS w3 o w) (recS w3 o w) (recS w3 o w).length (recS w3 o w).length rfl rfl (by omega) (by omega)) (by simp)) rfl rfl rfl (by decide) ⟨(Has.r 12 rfl), (Has.r 13 rfl), trivial⟩ rfl ?_
    rintro _ _ _ ⟨rfl, rfl, rfl⟩
    refine L.nil (QE.m (by kernel_rfl) ?_)
    refine LM.q 3 rfl (by kernel_rfl) (Ev.pure rfl) rfl ⟨Has.r 0 rfl, Has.r 1 rfl, Has.r 2 rfl, Has.r 3 rfl, Has.r 4 rfl, Has.r 5 rfl, Has.r 6 rfl, Has.r 7 rfl, Has.r 8 rfl, Has.r 9 rfl, Has.r 10 rfl, Has.r 11 rfl, Has.r 12 rfl, Has.r 13 rfl, Has.r 14 rfl, Has.r 15 rfl, trivial⟩ ?_
    refine LM.qy 4 rfl (by kernel_rfl) rfl (Ev.pure rfl) rfl ⟨Has.r 0 rfl, Has.r 1 rfl, Has.r 2 rfl, Has.r 3 rfl, Has.r 4 rfl, Has.r 5 rfl, Has.r 6 rfl, Has.r 7 rfl, Has.r 8 rfl, Has.r 9 rfl, Has.r 10 rfl, Has.r 11 rfl, Has.r 12 rfl, Has.r 13 rfl, Has.r 14 rfl, Has.r 15 rfl, trivial⟩ ?_
    refine LM.qy 5 rfl (by kernel_rfl) rfl (Ev.pure rfl) rfl ⟨Has.r 0 rfl, Has.r 1 rfl, Has.r 2 rfl, Has.r 3 rfl, Has.r 4 rfl, Has.r 5 rfl, Has.r 6 rfl, Has.r 7 rfl, Has.r 8 rfl, Has.r 9 rfl, Has.r 10 rfl, Has.r 11 rfl, Has.r 12 rfl, Has.r 13 rfl, Has.r 14 rfl, Has.r 15 rfl, trivial⟩ ?_
    refine LM.qy 6 rfl (by kernel_rfl) rfl (Ev.pure rfl) rfl ⟨Has.r 0 rfl, Has.r 1 rfl, Has.r 2 rfl, Has.r 3 rfl, Has.r 4 rfl, Has.r 5 rfl, Has.r 6 rfl, Has.r 7 rfl, Has.r 8 rfl, Has.r 9 rfl, Has.r 10 rfl, Has.r 11 rfl, Has.r 12 rfl, Has.r 13 rfl, Has.r 14 rfl, Has.r 15 rfl, trivial⟩ ?_
    refine LM.q 7 rfl (by kernel_rfl) (Ev.pure rfl) rfl ⟨Has.r 0 rfl, Has.r 1 rfl, Has.r 2 rfl, Has.r 3 rfl, Has.r 4 rfl, Has.r 5 rfl, Has.r 6 rfl, Has.r 7 rfl, Has.r 8 rfl, Has.r 9 rfl, Has.r 10 rfl, Has.r 11 rfl, Has.r 12 rfl, Has.r 13 rfl, Has.r 14 rfl, Has.r 15 rfl, trivial⟩ ?_
    refine LM.q 8 rfl (by kernel_rfl) (Ev.pure rfl) rfl ⟨Has.r 0 rfl, Has.r 1 rfl, Has.r 2 rfl, Has.r 3 rfl, Has.r 4 rfl, Has.r 5 rfl, Has.r 6 rfl, Has.r 7 rfl, Has.r 8 rfl, Has.r 9 rfl, Has.r 10 rfl, Has.r 11 rfl, Has.r 12 rfl, Has.r 13 rfl, Has.r 14 rfl, Has.r 15 rfl, trivial⟩ ?_
    refine LM.bool 123 rfl (fun hg123 => ?_) (fun hg123 => ?_)
    · skip
      replace hg123 := i_eq hg123
      refine LM.qy 9 rfl (by kernel_rfl) rfl (Ev.loadA rfl rfl rfl (Src.r 3 rfl) rfl rfl (by decide)) rfl ⟨Has.r 0 rfl, Has.r 1 rfl, Has.r 2 rfl, Has.r 3 rfl, Has.r 4 rfl, Has.r 5 rfl, Has.r 6 rfl, Has.r 7 rfl, Has.r 8 rfl, Has.r 9 rfl, Has.r 10 rfl, Has.r 11 rfl, Has.r 12 rfl, Has.r 13 rfl, Has.r 14 rfl, Has.r 15 rfl, trivial⟩ ?_
      refine LM.qy 10 rfl (by kernel_rfl) rfl (Ev.loadA rfl rfl rfl (Src.r 15 rfl) rfl rfl (by decide)) rfl ⟨Has.r 0 rfl, Has.r 1 rfl, Has.r 2 rfl, Has.r 3 rfl, Has.r 4 rfl, Has.r 5 rfl, Has.r 6 rfl, Has.r 7 rfl, Has.r 8 rfl, Has.r 9 rfl, Has.r 10 rfl, Has.r 11 rfl, Has.r 12 rfl, Has.r 13 rfl, Has.r 14 rfl, Has.r 15 rfl, trivial⟩ ?_
      refine LM.qy 11 rfl (by kernel_rfl) rfl (Ev.loadA rfl rfl rfl (Src.r 2 rfl) rfl rfl (by decide)) rfl ⟨Has.r 0 rfl, Has.r 1 rfl, Has.r 2 rfl, Has.r 3 rfl, Has.r 4 rfl, Has.r 5 rfl, Has.r 6 rfl, Has.r 7 rfl, Has.r 8 rfl, Has.r 9 rfl, Has.r 10 rfl, Has.r 11 rfl, Has.r 12 rfl, Has.r 13 rfl, Has.r 14 rfl, Has.r 15 rfl, trivial⟩ ?_
      refine LM.qy 13 rfl (by kernel_rfl) rfl (Ev.loadA rfl rfl rfl (Src.r 3 rfl) rfl rfl (by decide)) rfl ⟨Has.r 0 rfl, Has.r 1 rfl, Has.r 2 rfl, Has.r 3 rfl, Has.r 4 rfl, Has.r 5 rfl, Has.r 6 rfl, Has.r 7 rfl, Has.r 8 rfl, Has.r 9 rfl, Has.r 10 rfl, Has.r 11 rfl, Has.r 12 rfl, Has.r 13 rfl, Has.r 14 rfl, Has.r 15 rfl, trivial⟩ ?_
      refine LM.qy 14 rfl (by kernel_rfl) rfl (Ev.loadA rfl rfl rfl (Src.r 15 rfl) rfl rfl (by decide)) rfl ⟨Has.r 0 rfl, Has.r 1 rfl, Has.r 2 rfl, Has.r 3 rfl, Has.r 4 rfl, Has.r 5 rfl, Has.r 6 rfl, Has.r 7 rfl, Has.r 8 rfl, Has.r 9 rfl, Has.r 10 rfl, Has.r 11 rfl, Has.r 12 rfl, Has.r 13 rfl, Has.r 14 rfl, Has.r 15 rfl, trivial⟩ ?_
      refine LM.qy 15 rfl (by kernel_rfl) rfl (Ev.loadA rfl rfl rfl (Src.r 2 rfl) rfl rfl (by decide)) rfl ⟨Has.r 0 rfl, Has.r 1 rfl, Has.r 2 rfl, Has.r 3 rfl, Has.r 4 rfl, Has.r 5 rfl, Has.r 6 rfl, Has.r 7 rfl, Has.r 8 rfl, Has.r 9 rfl, Has.r 10 rfl, Has.r 11 rfl, Has.r 12 rfl, Has.r 13 rfl, Has.r 14 rfl, Has.r 15 rfl, trivial⟩ ?_
      refine LM.f 12 rfl (by kernel_rfl) ⟨Has.r 0 rfl, Has.r 1 rfl, Has.r 2 rfl, Has.r 3 rfl, Has.r 4 rfl, Has.r 5 rfl, Has.r 6 rfl, Has.r 7 rfl, Has.r 8 rfl, Has.r 9 rfl, Has.r 10 rfl, Has.r 11 rfl, Has.r 12 rfl, Has.r 13 rfl, Has.r 14 rfl, Has.r 15 rfl, trivial⟩ ?_
      refine L.yes rfl ?_
      refine L.callR (js := []) (js' := []) (ltowU_c g a gok ghb us U uc ghu w0 (recS w3 o w) R59 rc59 (by omega) hrc59 ghc) rfl rfl rfl (by decide) ⟨(Has.r 7 rfl), (Has.r 6 rfl), (Has.r 5 rfl), (Has.r 4 rfl), (Has.r 14 rfl), (Has.r 13 rfl), trivial⟩ rfl ?_
      rintro _ _ _ ⟨T127, tc127, rfl, rfl, rfl⟩
      refine L.nil (QE.m (by kernel_rfl) ?_)
      refine LM.f 16 rfl (by kernel_rfl) ⟨Has.r 1 rfl, Has.r 2 rfl, Has.r 3 rfl, Has.r 4 rfl, Has.r 5 rfl, Has.r 6 rfl, Has.r 7 rfl, Has.r 8 rfl, Has.r 9 rfl, Has.r 10 rfl, Has.r 11 rfl, Has.r 12 rfl, Has.r 13 rfl, Has.r 14 rfl, Has.r 15 rfl, Has.r 16 rfl, trivial⟩ ?_
      refine L.yes rfl ?_
      refine L.callR (js := []) (js' := []) (tow21_c g a gok ghb us U uc ghu w0 (recS w3 o w) R59 rc59 (by omega) hrc59) rfl rfl rfl (by decide) ⟨(Has.r 8 rfl), (Has.r 7 rfl), (Has.r 6 rfl), (Has.r 5 rfl), (Has.r 15 rfl), (Has.r 14 rfl), trivial⟩ rfl ?_
      rintro _ _ _ ⟨T131, tc131, rfl, rfl, rfl⟩
      refine L.nil (QE.m (by kernel_rfl) ?_)
      refine LM.f 17 rfl (by kernel_rfl) ⟨Has.r 2 rfl, Has.r 3 rfl, Has.r 4 rfl, Has.r 5 rfl, Has.r 6 rfl, Has.r 7 rfl, Has.r 8 rfl, Has.r 9 rfl, Has.r 10 rfl, Has.r 11 rfl, Has.r 12 rfl, Has.r 13 rfl, Has.r 14 rfl, Has.r 15 rfl, Has.r 16 rfl, Has.r 17 rfl, trivial⟩ ?_
      refine L.yes rfl ?_
      refine L.call (js := []) (js' := []) (Ctr.tb true (sameN_c (towS g us w0 (recS w3 o w)) (towS g us w0 (recS w3 o w)) T127 T131 tc127 tc131 (by omega) (by omega)) (by simp)) rfl rfl rfl (by decide) ⟨(Has.r 1 rfl), (Has.r 0 rfl), trivial⟩ rfl ?_
      rintro _ _ _ ⟨rfl, rfl, rfl⟩
      refine L.nil (QE.m (by kernel_rfl) ?_)
      refine LM.q 18 rfl (by kernel_rfl) (Ev.pure rfl) rfl ⟨Has.r 2 rfl, Has.r 3 rfl, Has.r 4 rfl, Has.r 5 rfl, Has.r 6 rfl, Has.r 7 rfl, Has.r 8 rfl, Has.r 9 rfl, Has.r 10 rfl, Has.r 11 rfl, Has.r 12 rfl, Has.r 13 rfl, Has.r 14 rfl, Has.r 15 rfl, Has.r 16 rfl, Has.r 17 rfl, trivial⟩ ?_
      refine LM.q 19 rfl (by kernel_rfl) (Ev.pure rfl) rfl ⟨Has.r 2 rfl, Has.r 3 rfl, Has.r 4 rfl, Has.r 5 rfl, Has.r 6 rfl, Has.r 7 rfl, Has.r 8 rfl, Has.r 9 rfl, Has.r 10 rfl, Has.r 11 rfl, Has.r 12 rfl, Has.r 13 rfl, Has.r 14 rfl, Has.r 15 rfl, Has.r 16 rfl, Has.r 17 rfl, trivial⟩ ?_
      refine LM.qy 20 rfl (by kernel_rfl) rfl (Ev.loadA rfl rfl rfl (Src.r 3 rfl) rfl rfl (by decide)) rfl ⟨Has.r 2 rfl, Has.r 3 rfl, Has.r 4 rfl, Has.r 5 rfl, Has.r 6 rfl, Has.r 7 rfl, Has.r 8 rfl, Has.r 9 rfl, Has.r 10 rfl, Has.r 11 rfl, Has.r 12 rfl, Has.r 13 rfl, Has.r 14 rfl, Has.r 15 rfl, Has.r 16 rfl, Has.r 17 rfl, trivial⟩ ?_
      refine LM.qy 21 rfl (by kernel_rfl) rfl (Ev.loadA rfl rfl rfl (Src.r 15 rfl) rfl rfl (by decide)) rfl ⟨Has.r 2 rfl, Has.r 3 rfl, Has.r 4 rfl, Has.r 5 rfl, Has.r 6 rfl, Has.r 7 rfl, Has.r 8 rfl, Has.r 9 rfl, Has.r 10 rfl, Has.r 11 rfl, Has.r 12 rfl, Has.r 13 rfl, Has.r 14 rfl, Has.r 15 rfl, Has.r 16 rfl, Has.r 17 rfl, trivial⟩ ?_
      refine LM.qy 22 rfl (by kernel_rfl) rfl (Ev.idxArr (k := 1) (m := 1) rfl rfl rfl rfl rfl rfl (by decide) (Src.r 9 rfl) (Nat.zero_lt_succ _) rfl) rfl ⟨Has.r 2 rfl, Has.r 3 rfl, Has.r 4 rfl, Has.r 5 rfl, Has.r 6 rfl, Has.r 7 rfl, Has.r 8 rfl, Has.r 9 rfl, Has.r 10 rfl, Has.r 11 rfl, Has.r 12 rfl, Has.r 13 rfl, Has.r 14 rfl, Has.r 15 rfl, Has.r 16 rfl, Has.r 17 rfl, trivial⟩ ?_
      refine LM.qy 23 rfl (by kernel_rfl) rfl (Ev.load rfl rfl rfl (Src.r 9 rfl) rfl) rfl ⟨Has.r 2 rfl, Has.r 3 rfl, Has.r 4 rfl, Has.r 5 rfl, Has.r 6 rfl, Has.r 7 rfl, Has.r 8 rfl, Has.r 9 rfl, Has.r 10 rfl, Has.r 11 rfl, Has.r 12 rfl, Has.r 13 rfl, Has.r 14 rfl, Has.r 15 rfl, Has.r 16 rfl, Has.r 17 rfl, trivial⟩ ?_
      refine LM.qy 24 rfl (by kernel_rfl) rfl (Ev.toInt rfl rfl rfl rfl (by omega) (by omega)) rfl ⟨Has.r 2 rfl, Has.r 3 rfl, Has.r 4 rfl, Has.r 5 rfl, Has.r 6 rfl, Has.r 7 rfl, Has.r 8 rfl, Has.r 9 rfl, Has.r 10 rfl, Has.r 11 rfl, Has.r 12 rfl, Has.r 13 rfl, Has.r 14 rfl, Has.r 15 rfl, Has.r 16 rfl, Has.r 17 rfl, trivial⟩ ?_
      refine LM.qy 26 rfl (by kernel_rfl) rfl (Ev.loadA rfl rfl rfl (Src.r 3 rfl) rfl rfl (by decide)) rfl ⟨Has.r 2 rfl, Has.r 3 rfl, Has.r 4 rfl, Has.r 5 rfl, Has.r 6 rfl, Has.r 7 rfl, Has.r 8 rfl, Has.r 9 rfl, Has.r 10 rfl, Has.r 11 rfl, Has.r 12 rfl, Has.r 13 rfl, Has.r 14 rfl, Has.r 15 rfl, Has.r 16 rfl, Has.r 17 rfl, trivial⟩ ?_
      refine LM.qy 27 rfl (by kernel_rfl) rfl (Ev.loadA rfl rfl rfl (Src.r 15 rfl) rfl rfl (by decide)) rfl ⟨Has.r 2 rfl, Has.r 3 rfl, Has.r 4 rfl, Has.r 5 rfl, Has.r 6 rfl, Has.r 7 rfl, Has.r 8 rfl, Has.r 9 rfl, Has.r 10 rfl, Has.r 11 rfl, Has.r 12 rfl, Has.r 13 rfl, Has.r 14 rfl, Has.r 15 rfl, Has.r 16 rfl, Has.r 17 rfl, trivial⟩ ?_
      refine LM.qy 28 rfl (by kernel_rfl) rfl (Ev.idxArr (k := 1) (m := 1) rfl rfl rfl rfl rfl rfl (by decide) (Src.r 9 rfl) (Nat.zero_lt_succ _) rfl) rfl ⟨Has.r 2 rfl, Has.r 3 rfl, Has.r 4 rfl, Has.r 5 rfl, Has.r 6 rfl, Has.r 7 rfl, Has.r 8 rfl, Has.r 9 rfl, Has.r 10 rfl, Has.r 11 rfl, Has.r 12 rfl, Has.r 13 rfl, Has.r 14 rfl, Has.r 15 rfl, Has.r 16 rfl, Has.r 17 rfl, trivial⟩ ?_
      refine LM.qy 29 rfl (by kernel_rfl) rfl (Ev.load rfl rfl rfl (Src.r 9 rfl) rfl) rfl ⟨Has.r 2 rfl, Has.r 3 rfl, Has.r 4 rfl, Has.r 5 rfl, Has.r 6 rfl, Has.r 7 rfl, Has.r 8 rfl, Has.r 9 rfl, Has.r 10 rfl, Has.r 11 rfl, Has.r 12 rfl, Has.r 13 rfl, Has.r 14 rfl, Has.r 15 rfl, Has.r 16 rfl, Has.r 17 rfl, trivial⟩ ?_
      refine LM.qy 30 rfl (by kernel_rfl) rfl (Ev.toInt rfl rfl rfl rfl (by omega) (by omega)) rfl ⟨Has.r 2 rfl, Has.r 3 rfl, Has.r 4 rfl, Has.r 5 rfl, Has.r 6 rfl, Has.r 7 rfl, Has.r 8 rfl, Has.r 9 rfl, Has.r 10 rfl, Has.r 11 rfl, Has.r 12 rfl, Has.r 13 rfl, Has.r 14 rfl, Has.r 15 rfl, Has.r 16 rfl, Has.r 17 rfl, trivial⟩ ?_
      refine LM.f 25 rfl (by kernel_rfl) ⟨Has.r 2 rfl, Has.r 3 rfl, Has.r 4 rfl, Has.r 5 rfl, Has.r 6 rfl, Has.r 7 rfl, Has.r 8 rfl, Has.r 9 rfl, Has.r 10 rfl, Has.r 11 rfl, Has.r 12 rfl, Has.r 13 rfl, Has.r 14 rfl, Has.r 15 rfl, Has.r 16 rfl, Has.r 17 rfl, trivial⟩ ?_
      refine L.yes rfl ?_
      refine L.callR (js := []) (js' := []) (llast_c g a gok ghb us U uc ghu w1) rfl rfl rfl (by decide) ⟨(Has.r 9 rfl), (Has.r 8 rfl), (Has.r 7 rfl), (Has.r 6 rfl), (Has.r 16 rfl), trivial⟩ rfl ?_
      rintro _ _ _ ⟨L140, lc140, rfl, rfl, rfl⟩
      refine L.nil (QE.m (by kernel_rfl) ?_)
      refine LM.f 31 rfl (by kernel_rfl) ⟨Has.r 3 rfl, Has.r 4 rfl, Has.r 5 rfl, Has.r 6 rfl, Has.r 7 rfl, Has.r 8 rfl, Has.r 9 rfl, Has.r 10 rfl, Has.r 11 rfl, Has.r 12 rfl, Has.r 13 rfl, Has.r 14 rfl, Has.r 15 rfl, Has.r 16 rfl, Has.r 17 rfl, Has.r 18 rfl, trivial⟩ ?_
      refine L.yes rfl ?_
      refine L.callR (js := []) (js' := []) (last21_c g a gok ghb us U uc ghu w1) rfl rfl rfl (by decide) ⟨(Has.r 10 rfl), (Has.r 9 rfl), (Has.r 8 rfl), (Has.r 7 rfl), (Has.r 17 rfl), trivial⟩ rfl ?_
      rintro _ _ _ ⟨L146, lc146, rfl, rfl, rfl⟩
      refine L.nil (QE.m (by kernel_rfl) ?_)
      refine LM.f 32 rfl (by kernel_rfl) ⟨Has.r 4 rfl, Has.r 5 rfl, Has.r 6 rfl, Has.r 7 rfl, Has.r 8 rfl, Has.r 9 rfl, Has.r 10 rfl, Has.r 11 rfl, Has.r 12 rfl, Has.r 13 rfl, Has.r 14 rfl, Has.r 15 rfl, Has.r 16 rfl, Has.r 17 rfl, Has.r 18 rfl, Has.r 19 rfl, trivial⟩ ?_
      refine L.yes rfl ?_
      refine L.call (js := []) (js' := []) (Ctr.tb true (sameFd_c (lastS (area g us) (g.size : Int) w1) (lastS (area g us) (g.size : Int) w1) L140 L146 lc140 lc146 (by omega) (by omega)) (by simp)) rfl rfl rfl (by decide) ⟨(Has.r 1 rfl), (Has.r 0 rfl), trivial⟩ rfl ?_
      rintro _ _ _ ⟨rfl, rfl, rfl⟩
      refine L.nil (QE.m (by kernel_rfl) ?_)
      refine LM.q 33 rfl (by kernel_rfl) (Ev.pure rfl) rfl ⟨Has.r 4 rfl, Has.r 5 rfl, Has.r 6 rfl, Has.r 7 rfl, Has.r 8 rfl, Has.r 9 rfl, Has.r 10 rfl, Has.r 11 rfl, Has.r 12 rfl, Has.r 13 rfl, Has.r 14 rfl, Has.r 15 rfl, Has.r 16 rfl, Has.r 17 rfl, Has.r 18 rfl, Has.r 19 rfl, trivial⟩ ?_
      refine LM.q 34 rfl (by kernel_rfl) (Ev.pure rfl) rfl ⟨Has.r 4 rfl, Has.r 5 rfl, Has.r 6 rfl, Has.r 7 rfl, Has.r 8 rfl, Has.r 9 rfl, Has.r 10 rfl, Has.r 11 rfl, Has.r 12 rfl, Has.r 13 rfl, Has.r 14 rfl, Has.r 15 rfl, Has.r 16 rfl, Has.r 17 rfl, Has.r 18 rfl, Has.r 19 rfl, trivial⟩ ?_
      refine LM.qy 35 rfl (by kernel_rfl) rfl (Ev.pure rfl) rfl ⟨Has.r 4 rfl, Has.r 5 rfl, Has.r 6 rfl, Has.r 7 rfl, Has.r 8 rfl, Has.r 9 rfl, Has.r 10 rfl, Has.r 11 rfl, Has.r 12 rfl, Has.r 13 rfl, Has.r 14 rfl, Has.r 15 rfl, Has.r 16 rfl, Has.r 17 rfl, Has.r 18 rfl, Has.r 19 rfl, trivial⟩ ?_
      refine LM.qy 36 rfl (by kernel_rfl) rfl (Ev.pure rfl) rfl ⟨Has.r 4 rfl, Has.r 5 rfl, Has.r 6 rfl, Has.r 7 rfl, Has.r 8 rfl, Has.r 9 rfl, Has.r 10 rfl, Has.r 11 rfl, Has.r 12 rfl, Has.r 13 rfl, Has.r 14 rfl, Has.r 15 rfl, Has.r 16 rfl, Has.r 17 rfl, Has.r 18 rfl, Has.r 19 rfl, trivial⟩ ?_
      refine LM.f 37 rfl (by kernel_rfl) ⟨Has.r 4 rfl, Has.r 5 rfl, Has.r 6 rfl, Has.r 7 rfl, Has.r 8 rfl, Has.r 9 rfl, Has.r 10 rfl, Has.r 11 rfl, Has.r 12 rfl, Has.r 13 rfl, Has.r 14 rfl, Has.r 15 rfl, Has.r 16 rfl, Has.r 17 rfl, Has.r 18 rfl, Has.r 19 rfl, trivial⟩ ?_
      refine L.yes rfl ?_
      refine L.call (js := []) (js' := []) (Ctr.tb true (same_g R101 R112 rc101 rc112 (resS w (b.take m)) (resS w (b.take m)) (resS w (b.take m)).length (resS w (b.take m)).length rfl rfl (by omega) (by omega)) (by simp)) rfl rfl rfl (by decide) ⟨(Has.r 5 rfl), (Has.r 4 rfl), trivial⟩ rfl ?_
      rintro _ _ _ ⟨rfl, rfl, rfl⟩
      refine L.nil (QE.m (by kernel_rfl) ?_)
      refine LM.q 38 rfl (by kernel_rfl) (Ev.pure rfl) rfl ⟨Has.r 4 rfl, Has.r 5 rfl, Has.r 6 rfl, Has.r 7 rfl, Has.r 8 rfl, Has.r 9 rfl, Has.r 10 rfl, Has.r 11 rfl, Has.r 12 rfl, Has.r 13 rfl, Has.r 14 rfl, Has.r 15 rfl, Has.r 16 rfl, Has.r 17 rfl, Has.r 18 rfl, Has.r 19 rfl, trivial⟩ ?_
      refine LM.q 39 rfl (by kernel_rfl) (Ev.pure rfl) rfl ⟨Has.r 4 rfl, Has.r 5 rfl, Has.r 6 rfl, Has.r 7 rfl, Has.r 8 rfl, Has.r 9 rfl, Has.r 10 rfl, Has.r 11 rfl, Has.r 12 rfl, Has.r 13 rfl, Has.r 14 rfl, Has.r 15 rfl, Has.r 16 rfl, Has.r 17 rfl, Has.r 18 rfl, Has.r 19 rfl, trivial⟩ ?_
      refine LM.qy 40 rfl (by kernel_rfl) rfl (Ev.pure rfl) rfl ⟨Has.r 4 rfl, Has.r 5 rfl, Has.r 6 rfl, Has.r 7 rfl, Has.r 8 rfl, Has.r 9 rfl, Has.r 10 rfl, Has.r 11 rfl, Has.r 12 rfl, Has.r 13 rfl, Has.r 14 rfl, Has.r 15 rfl, Has.r 16 rfl, Has.r 17 rfl, Has.r 18 rfl, Has.r 19 rfl, trivial⟩ ?_
      refine LM.f 41 rfl (by kernel_rfl) ⟨Has.r 4 rfl, Has.r 5 rfl, Has.r 6 rfl, Has.r 7 rfl, Has.r 8 rfl, Has.r 9 rfl, Has.r 10 rfl, Has.r 11 rfl, Has.r 12 rfl, Has.r 13 rfl, Has.r 14 rfl, Has.r 15 rfl, Has.r 16 rfl, Has.r 17 rfl, Has.r 18 rfl, Has.r 19 rfl, trivial⟩ ?_
      refine L.yes rfl ?_
      refine L.step (Ev.pure rfl) rfl ?_
      refine L.nil (QE.m (by kernel_rfl) ?_)
      refine LM.cut [] (by kernel_rfl) ⟨Has.r 4 rfl, Has.r 5 rfl, Has.r 6 rfl, Has.r 7 rfl, Has.r 8 rfl, Has.r 9 rfl, Has.r 10 rfl, Has.r 11 rfl, Has.r 12 rfl, Has.r 13 rfl, Has.r 14 rfl, Has.r 15 rfl, Has.r 16 rfl, Has.r 17 rfl, Has.r 18 rfl, Has.r 19 rfl, trivial⟩ ?_
      refine LM.f 42 rfl (by kernel_rfl) trivial ?_
      refine L.yes rfl ?_
      refine L.step (Ev.pure rfl) rfl ?_
      refine L.nil (QE.m (by kernel_rfl) ?_)
      refine LM.f 43 rfl (by kernel_rfl) trivial ?_
      refine L.step (Ev.pure rfl) rfl ?_
      refine L.nil (QE.m (by kernel_rfl) ?_)
      refine LM.f 44 rfl (by kernel_rfl) trivial ?_
      refine L.step (Ev.pure rfl) rfl ?_
      refine L.nil (QE.m (by kernel_rfl) ?_)
      refine LM.bool 159 rfl (fun hg159 => ?_) (fun hg159 => ?_)
      · skip
        replace hg159 := i_eq hg159
        refine LM.f 45 rfl (by kernel_rfl) trivial ?_
        refine L.yes rfl ?_
        refine L.step (Ev.pure rfl) rfl ?_
        refine L.nil (QE.m (by kernel_rfl) ?_)
        refine LM.f 46 rfl (by kernel_rfl) trivial ?_
        refine L.step (Ev.pure rfl) rfl ?_
        refine L.nil (QE.m (by kernel_rfl) ?_)
        refine LM.f 47 rfl (by kernel_rfl) trivial ?_
        refine L.step (Ev.pure rfl) rfl ?_
        refine L.nil (QE.m (by kernel_rfl) ?_)
        refine LM.nil (by kernel_rfl) trivial ?_
        refine QE.seq ?_
        refine C.ret ?_
        refine QE.ret (js := []) (hs := []) (vs := [_]) rfl ⟨rfl, trivial⟩ (by decide) ?_
        exact ⟨rfl, rfl, rfl⟩
      · skip
        replace hg159 := i_ne hg159
        exact (hg159 rfl).elim
    · skip
      replace hg123 := i_ne hg123
      exact (hg123 rfl).elim

end Go.Proofs.Ythfjkdgopkmgoaa
