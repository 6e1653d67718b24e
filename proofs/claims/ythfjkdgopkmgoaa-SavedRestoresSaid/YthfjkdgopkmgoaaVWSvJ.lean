/-
  The contracts of SavedRestores and SavedSizes.
-/
import Derived.Test.YthfjkdgopkmgoaaVWSvI
import Derived.Test.YthfjkdgopkmgoaaVPx
namespace Go.Proofs.Ythfjkdgopkmgoaa
open Go.Sl

theorem rec_g (sec : Int) (SA SB : Option Addr) (a b : List UInt8) (n m ca cb : Nat) (r : List UInt8) (e : Int) (hn : a.length = n) (hm : b.length = m) (hr : recS sec a b = r) (he : recE sec a b = e) (hca : n ≤ ca) (hal : n ≤ 9223372036854775807) (hbl : m ≤ 9223372036854775807) :
    Ctr X 21 [.int .i64 sec, .slice SA n ca, .slice SB m cb] [Rd SA (U8 a), Rd SB (U8 b)] [] (fun v R' H' => ∃ (A : Option Addr) (c : Nat), v = .tuple #[.slice A r.length c, .int .i64 e] ∧ R' = [] ∧ H' = [Own 5 1 A r.length c (U8 r)]) := by
  subst hn hm hr he
  exact record_c sec SA SB a b ca cb hca hal hbl
theorem res_g (SA RB : Option Addr) (b rec : List UInt8) (n ca rc : Nat) (r : List UInt8) (e : Int) (hn : b.length = n) (hr : resS b rec = r) (he : resE b rec = e) (hbl : n ≤ 900000) (hrl : rec.length ≤ 900000) (hrc : rec.length ≤ rc) :
    Ctr X 23 [.slice SA n ca, .slice RB rec.length rc] [Rd SA (U8 b), Rd RB (U8 rec)] [] (fun v R' H' => ∃ (A : Option Addr) (c : Nat), v = .tuple #[.slice A r.length c, .int .i64 e] ∧ R' = [] ∧ H' = [Own 5 1 A r.length c (U8 r)]) := by
  subst hn hr he
  exact restore_c SA RB b rec ca rc hbl hrl hrc
theorem same_g (A B : Option Addr) (c d : Nat) (xs ys : List UInt8) (n m : Nat) (hn : xs.length = n) (hm : ys.length = m) (hx : n ≤ 9223372036854775807) (hy : m ≤ 9223372036854775807) :
    Ctr X 25 [.slice A n c, .slice B m d] [Rd A (U8 xs), Rd B (U8 ys)] [] (fun v R' H' => v = .bool (xs == ys) ∧ R' = [] ∧ H' = []) := by
  subst hn hm
  exact same_c A B c d xs ys hx hy
theorem img_g (SA SB : Option Addr) (a b : List UInt8) (n m ca cb : Nat) (hn : a.length = n) (hm : b.length = m) (hab : n = m) (hal : n ≤ 100000) :
    Ctr X 33 [.slice SA n ca, .slice SB m cb] [Rd SA (U8 a), Rd SB (U8 b)] [] (fun v R' H' => ∃ (O : Option Addr) (c : Nat), v = .slice O (chgN a b a.length).length c ∧ R' = [] ∧ H' = [Own 102 2 O (chgN a b a.length).length c (rangesV (chgN a b a.length))]) := by
  subst hn hm
  exact changed_c SA SB a b ca cb hab hal
theorem sect_g (A : Option Addr) (l : List UInt8) (c s : Nat) (h : (l.getD 0 0).toNat = s) (hl : 0 < l.length) :
    Ctr X 32 [.slice A l.length c] [Rd A (U8 l)] [] (fun v R' H' => v = .int .i64 (s : Int) ∧ R' = [] ∧ H' = []) := by
  subst h
  exact sector_c A l c hl

set_option maxHeartbeats 1000000 in
theorem sRestores_c (b : List UInt8) (l : List (UInt8 × UInt8)) (BA LA : Option Addr) (bc lc : Nat) (_hbl : b.length ≤ 9223372036854775807) (_hll : l.length ≤ 9223372036854775807) (w0 w1 : UInt8) :
    Ctr X 4 [.slice BA b.length bc, .slice LA l.length lc, .agg (List.toArray [.int .u8 (w0.toNat : Int), .int .u8 (w1.toNat : Int)])] [Rd BA (U8 b), Rd LA (pairsV l)] [] (fun v R' H' => v = .bool true ∧ R' = [] ∧ H' = []) := by
  have hw0 := u8_lt w0
  have hw1 := u8_lt w1
  refine Ctr.of (X := X) (fn := Try.f4) Try.func4 rfl (by kernel_rfl) rfl ?_
  intro β
  refine C.seq ?_
  refine C.region ?_
  refine L.boxA rfl rfl (fun A5 => ?_)
  refine L.step (Ev.pure rfl) rfl ?_
  refine L.nil ?_
  refine QE.seq ?_
  refine C.seq ?_
  refine C.freeze 0 rfl [] (by decide) (by decide) ?_
  refine C.region ?_
  refine L.call (js := []) (js' := []) (sanity21_c) rfl rfl rfl (by decide) trivial rfl ?_
  rintro _ _ _ ⟨rfl, rfl, rfl⟩
  refine L.step (Ev.pure rfl) rfl ?_
  refine L.nil ?_
  refine QE.seq ?_
  refine C.seq ?_
  refine C.region ?_
  refine L.step (Ev.pure rfl) rfl ?_
  refine L.step (Ev.pure rfl) rfl ?_
  refine L.step (Ev.idxArr (k := 0) (m := 0) rfl rfl rfl rfl rfl rfl (by decide) (Src.r 0 rfl) (Nat.zero_lt_succ _) rfl) rfl ?_
  refine L.step (Ev.load rfl rfl rfl (Src.r 0 rfl) rfl) rfl ?_
  first | refine L.step (Ev.byteInt rfl rfl rfl rfl) rfl ?_ | refine L.step (Ev.toInt rfl rfl rfl rfl (by omega) (by omega)) rfl ?_
  refine L.step (Ev.cast (u := .int .i64 ((w0.toNat % 40 : Nat) : Int)) (Ev.rem rfl rfl (by omega) (by omega)) (congrArg (Value.int .i64) (by rw [Int.natCast_emod]; rfl))) rfl ?_
  refine L.step (Ev.cast (u := .int .i64 ((1 + w0.toNat % 40 : Nat) : Int)) (Ev.add rfl rfl (by omega) (by omega)) (congrArg (Value.int .i64) (by omega))) rfl ?_
  refine L.call (js := []) (js' := []) (chg21_c BA LA b l bc lc (1 + w0.toNat % 40) (by omega) (by omega)) rfl rfl rfl (by decide) ⟨(Has.r 1 rfl), (Has.r 2 rfl), trivial⟩ rfl ?_
  rintro _ _ _ ⟨O, N, oc, nc, rfl, rfl, rfl⟩
  obtain ⟨o, ho⟩ : ∃ o, o = oldN b (1 + w0.toNat % 40) := ⟨_, rfl⟩
  obtain ⟨w, hw⟩ : ∃ w, w = newL b l (1 + w0.toNat % 40) := ⟨_, rfl⟩
  rw [← ho, ← hw]
  have hlo : o.length = (1 + w0.toNat % 40) := by rw [ho, oldN_len]
  have hlw : w.length = (1 + w0.toNat % 40) := by rw [hw, newL_len]
  refine L.norm (H' := [_, _]) [0, 1] ⟨rfl, rfl, trivial⟩ (by decide) ?_
  refine L.alloc rfl rfl rfl (fun A8 => ?_)
  refine L.storeA (j := 2) rfl rfl rfl rfl rfl (Nat.zero_lt_succ _) rfl rfl ?_
  refine L.nil ?_
  refine QE.seq ?_
  refine C.seq ?_
  refine C.cap 0 rfl (fun hoc => ?_)
  obtain ⟨r, hr⟩ : ∃ r, r = recS (((w1.toNat % 64) : Nat) : Int) o w := ⟨_, rfl⟩
  have rI := RecIs.of hr (by omega) (by omega) (by omega) (by omega)
  have rle := rI.le
  have rlen := rI.len
  refine C.region ?_
  refine L.step (Ev.idxArr (k := 1) (m := 1) rfl rfl rfl rfl rfl rfl (by decide) (Src.r 0 rfl) (Nat.zero_lt_succ _) rfl) rfl ?_
  refine L.step (Ev.load rfl rfl rfl (Src.r 0 rfl) rfl) rfl ?_
  first | refine L.step (Ev.byteInt rfl rfl rfl rfl) rfl ?_ | refine L.step (Ev.toInt rfl rfl rfl rfl (by omega) (by omega)) rfl ?_
  refine L.step (Ev.cast (u := .int .i64 ((w1.toNat % 64 : Nat) : Int)) (Ev.rem rfl rfl (by omega) (by omega)) (congrArg (Value.int .i64) (by rw [Int.natCast_emod]; rfl))) rfl ?_
  refine L.step (Ev.fieldAddr rfl rfl rfl rfl rfl rfl (Src.o 2 rfl) (Nat.zero_lt_succ _) rfl) rfl ?_
  refine L.step (Ev.load rfl rfl rfl (Src.o 2 rfl) rfl) rfl ?_
  refine L.step (Ev.fieldAddr rfl rfl rfl rfl rfl rfl (Src.o 2 rfl) (Nat.zero_lt_succ _) rfl) rfl ?_
  refine L.step (Ev.load rfl rfl rfl (Src.o 2 rfl) rfl) rfl ?_
  refine L.call (js := []) (js' := [0, 1, 2]) (rec_g (((w1.toNat % 64) : Nat) : Int) O N o w (1 + w0.toNat % 40) (1 + w0.toNat % 40) oc nc r 0 hlo hlw rI.eq rI.e (by omega) (by omega) (by omega)) rfl rfl rfl (by decide) ⟨(Has.o 0 rfl), (Has.o 1 rfl), trivial⟩ rfl ?_
  rintro _ _ _ ⟨R31, rc31, rfl, rfl, rfl⟩
  refine L.norm (H' := [_, _, _, _]) [0, 1, 2, 3] ⟨rfl, rfl, rfl, rfl, trivial⟩ (by decide) ?_
  refine L.step (Ev.pure rfl) rfl ?_
  refine L.step (Ev.pure rfl) rfl ?_
  refine L.step (Ev.pure rfl) rfl ?_
  refine L.step (Ev.pure rfl) rfl ?_
  refine L.step (Ev.pure rfl) rfl ?_
  refine L.nil ?_
  refine QE.seq ?_
  refine C.seq ?_
  refine C.cap 0 rfl (fun hrc => ?_)
  refine C.region ?_
  refine L.step (Ev.fieldAddr rfl rfl rfl rfl rfl rfl (Src.o 3 rfl) (Nat.zero_lt_succ _) rfl) rfl ?_
  refine L.step (Ev.load rfl rfl rfl (Src.o 3 rfl) rfl) rfl ?_
  refine L.step (Ev.pure rfl) rfl ?_
  refine L.call (js := []) (js' := [0, 1, 2, 3]) (res_g N R31 w r (1 + w0.toNat % 40) nc rc31 o 0 hlw rI.res rI.resE (by omega) (by omega) hrc) rfl rfl rfl (by decide) ⟨(Has.o 2 rfl), (Has.o 0 rfl), trivial⟩ rfl ?_
  rintro _ _ _ ⟨R38, rc38, rfl, rfl, rfl⟩
  refine L.norm (H' := [_, _, _, _, _]) [0, 1, 2, 3, 4] ⟨rfl, rfl, rfl, rfl, rfl, trivial⟩ (by decide) ?_
  refine L.step (Ev.pure rfl) rfl ?_
  refine L.step (Ev.pure rfl) rfl ?_
  refine L.step (Ev.pure rfl) rfl ?_
  refine L.step (Ev.pure rfl) rfl ?_
  refine L.step (Ev.pure rfl) rfl ?_
  refine L.nil ?_
  refine QE.seq ?_
  refine C.seq ?_
  refine C.freeze 1 rfl [0, 2, 3, 4] (by decide) (by decide) ?_
  refine C.norm (H' := [_, _, _, _]) [0, 1, 2, 3] ⟨rfl, rfl, rfl, rfl, trivial⟩ (by decide) ?_
  refine C.regionQ (by kernel_rfl) ?_
  refine LQ.step (Ev.pure rfl) rfl ?_
  refine LQ.step (Ev.pure rfl) rfl ?_
  refine LQ.step (Ev.pure rfl) rfl ?_
  refine LQ.bool 43 rfl (fun hg43 => ?_) (fun hg43 => ?_)
  · skip
    replace hg43 := i_eq hg43
    refine LQ.yes rfl ?_
    refine LQ.step (Ev.pure rfl) rfl ?_
    refine LQ.yes rfl ?_
    refine LQ.step (Ev.pure rfl) rfl ?_
    refine LQ.step (Ev.pure rfl) rfl ?_
    refine LQ.step (Ev.pure rfl) rfl ?_
    refine LQ.bool 47 rfl (fun hg47 => ?_) (fun hg47 => ?_)
    · skip
      replace hg47 := i_eq hg47
      refine LQ.yes rfl ?_
      refine LQ.step (Ev.pure rfl) rfl ?_
      refine LQ.yes rfl ?_
      refine LQ.step (Ev.fieldAddr rfl rfl rfl rfl rfl rfl (Src.o 3 rfl) (Nat.zero_lt_succ _) rfl) rfl ?_
      refine LQ.yes rfl ?_
      refine LQ.step (Ev.load rfl rfl rfl (Src.o 3 rfl) rfl) rfl ?_
      refine LQ.yes rfl ?_
      refine LQ.call (.bool true) (Ctr.tb true (same_g R38 O rc38 oc o o o.length (1 + w0.toNat % 40) rfl hlo (by omega) (by omega)) (by simp)) (fun _ _ _ h => h.1) rfl ⟨(Has.o 0 rfl), (Has.o 1 rfl), trivial⟩ rfl ?_
      refine LQ.step (Ev.pure rfl) rfl ?_
      refine LQ.step (Ev.pure rfl) rfl ?_
      refine LQ.yes rfl ?_
      refine LQ.step (Ev.pure rfl) rfl ?_
      refine LQ.yes rfl ?_
      refine LQ.call (.int .i64 (((w1.toNat % 64) : Nat) : Int)) (sect_g R31 r rc31 (w1.toNat % 64) rI.head (by omega)) (fun _ _ _ h => h.1) rfl ⟨(Has.r 0 rfl), trivial⟩ rfl ?_
      refine LQ.yes rfl ?_
      refine LQ.step (Ev.idxArr (k := 1) (m := 1) rfl rfl rfl rfl rfl rfl (by decide) (Src.r 1 rfl) (Nat.zero_lt_succ _) rfl) rfl ?_
      refine LQ.yes rfl ?_
      refine LQ.step (Ev.load rfl rfl rfl (Src.r 1 rfl) rfl) rfl ?_
      refine LQ.yes rfl ?_
      first | refine LQ.step (Ev.byteInt rfl rfl rfl rfl) rfl ?_ | refine LQ.step (Ev.toInt rfl rfl rfl rfl (by omega) (by omega)) rfl ?_
      refine LQ.yes rfl ?_
      refine LQ.step (Ev.cast (u := .int .i64 ((w1.toNat % 64 : Nat) : Int)) (Ev.rem rfl rfl (by omega) (by omega)) (congrArg (Value.int .i64) (by rw [Int.natCast_emod]; rfl))) rfl ?_
      refine LQ.yes rfl ?_
      refine LQ.step (Ev.pure rfl) rfl ?_
      refine LQ.step (Ev.pure rfl) rfl ?_
      refine LQ.step (Ev.pure rfl) rfl ?_
      refine LQ.bool 62 rfl (fun hg62 => ?_) (fun hg62 => ?_)
      · skip
        replace hg62 := i_eq hg62
        refine LQ.yes rfl ?_
        refine LQ.step (Ev.pure rfl) rfl ?_
        refine LQ.step (Ev.pure rfl) rfl ?_
        refine LQ.step (Ev.pure rfl) rfl ?_
        refine LQ.nil ?_
        refine QE.seq ?_
        refine C.ret ?_
        refine QE.ret (js := []) (hs := []) (vs := [_]) rfl ⟨rfl, trivial⟩ (by decide) ?_
        exact ⟨rfl, rfl, rfl⟩
      · skip
        replace hg62 := i_ne hg62
        exact (hg62 rfl).elim
    · skip
      replace hg47 := i_ne hg47
      exact (hg47 rfl).elim
  · skip
    replace hg43 := i_ne hg43
    exact (hg43 rfl).elim

set_option maxHeartbeats 1000000 in
theorem sSizes_c (b : List UInt8) (l : List (UInt8 × UInt8)) (BA LA : Option Addr) (bc lc : Nat) (_hbl : b.length ≤ 9223372036854775807) (_hll : l.length ≤ 9223372036854775807) (w0 : UInt8) :
    Ctr X 5 [.slice BA b.length bc, .slice LA l.length lc, .int .u8 (w0.toNat : Int)] [Rd BA (U8 b), Rd LA (pairsV l)] [] (fun v R' H' => v = .bool true ∧ R' = [] ∧ H' = []) := by
  have hw0 := u8_lt w0
  refine Ctr.of (X := X) (fn := Try.f5) Try.func5 rfl (by kernel_rfl) rfl ?_
  intro β
  refine C.seq ?_
  refine C.region ?_
  refine L.step (Ev.pure rfl) rfl ?_
  refine L.nil ?_
  refine QE.seq ?_
  refine C.seq ?_
  refine C.region ?_
  refine L.call (js := []) (js' := []) (sanity21_c) rfl rfl rfl (by decide) trivial rfl ?_
  rintro _ _ _ ⟨rfl, rfl, rfl⟩
  refine L.step (Ev.pure rfl) rfl ?_
  refine L.nil ?_
  refine QE.seq ?_
  refine C.seq ?_
  refine C.region ?_
  refine L.step (Ev.pure rfl) rfl ?_
  refine L.step (Ev.pure rfl) rfl ?_
  refine L.step (Ev.pure rfl) rfl ?_
  first | refine L.step (Ev.byteInt rfl rfl rfl rfl) rfl ?_ | refine L.step (Ev.toInt rfl rfl rfl rfl (by omega) (by omega)) rfl ?_
  refine L.step (Ev.cast (u := .int .i64 ((w0.toNat % 40 : Nat) : Int)) (Ev.rem rfl rfl (by omega) (by omega)) (congrArg (Value.int .i64) (by rw [Int.natCast_emod]; rfl))) rfl ?_
  refine L.step (Ev.cast (u := .int .i64 ((1 + w0.toNat % 40 : Nat) : Int)) (Ev.add rfl rfl (by omega) (by omega)) (congrArg (Value.int .i64) (by omega))) rfl ?_
  refine L.call (js := []) (js' := []) (chg21_c BA LA b l bc lc (1 + w0.toNat % 40) (by omega) (by omega)) rfl rfl rfl (by decide) ⟨(Has.r 0 rfl), (Has.r 1 rfl), trivial⟩ rfl ?_
  rintro _ _ _ ⟨O, N, oc, nc, rfl, rfl, rfl⟩
  obtain ⟨o, ho⟩ : ∃ o, o = oldN b (1 + w0.toNat % 40) := ⟨_, rfl⟩
  obtain ⟨w, hw⟩ : ∃ w, w = newL b l (1 + w0.toNat % 40) := ⟨_, rfl⟩
  rw [← ho, ← hw]
  have hlo : o.length = (1 + w0.toNat % 40) := by rw [ho, oldN_len]
  have hlw : w.length = (1 + w0.toNat % 40) := by rw [hw, newL_len]
  refine L.norm (H' := [_, _]) [0, 1] ⟨rfl, rfl, trivial⟩ (by decide) ?_
  refine L.alloc rfl rfl rfl (fun A8 => ?_)
  refine L.storeA (j := 2) rfl rfl rfl rfl rfl (Nat.zero_lt_succ _) rfl rfl ?_
  refine L.nil ?_
  refine QE.seq ?_
  refine C.seq ?_
  refine C.cap 0 rfl (fun hoc => ?_)
  obtain ⟨r, hr⟩ : ∃ r, r = recS ((1 : Nat) : Int) o w := ⟨_, rfl⟩
  have rI := RecIs.of hr (by omega) (by omega) (by omega) (by omega)
  have rle := rI.le
  have rlen := rI.len
  have hch := chgN_len' o w o.length
  obtain ⟨s, hs⟩ : ∃ s, s = recS ((1 : Nat) : Int) o o := ⟨_, rfl⟩
  have sI := RecIs.of hs (by omega) rfl (by omega) (by omega)
  have slen := sI.same
  have sle := sI.le
  refine C.region ?_
  refine L.step (Ev.fieldAddr rfl rfl rfl rfl rfl rfl (Src.o 2 rfl) (Nat.zero_lt_succ _) rfl) rfl ?_
  refine L.step (Ev.load rfl rfl rfl (Src.o 2 rfl) rfl) rfl ?_
  refine L.step (Ev.fieldAddr rfl rfl rfl rfl rfl rfl (Src.o 2 rfl) (Nat.zero_lt_succ _) rfl) rfl ?_
  refine L.step (Ev.load rfl rfl rfl (Src.o 2 rfl) rfl) rfl ?_
  refine L.call (js := []) (js' := [0, 1, 2]) (rec_g ((1 : Nat) : Int) O N o w (1 + w0.toNat % 40) (1 + w0.toNat % 40) oc nc r 0 hlo hlw rI.eq rI.e (by omega) (by omega) (by omega)) rfl rfl rfl (by decide) ⟨(Has.o 0 rfl), (Has.o 1 rfl), trivial⟩ rfl ?_
  rintro _ _ _ ⟨R29, rc29, rfl, rfl, rfl⟩
  refine L.norm (H' := [_, _, _, _]) [0, 1, 2, 3] ⟨rfl, rfl, rfl, rfl, trivial⟩ (by decide) ?_
  refine L.step (Ev.pure rfl) rfl ?_
  refine L.step (Ev.pure rfl) rfl ?_
  refine L.step (Ev.pure rfl) rfl ?_
  refine L.step (Ev.pure rfl) rfl ?_
  refine L.step (Ev.pure rfl) rfl ?_
  refine L.nil ?_
  refine QE.seq ?_
  refine C.seq ?_
  refine C.region ?_
  refine L.step (Ev.fieldAddr rfl rfl rfl rfl rfl rfl (Src.o 3 rfl) (Nat.zero_lt_succ _) rfl) rfl ?_
  refine L.step (Ev.load rfl rfl rfl (Src.o 3 rfl) rfl) rfl ?_
  refine L.step (Ev.fieldAddr rfl rfl rfl rfl rfl rfl (Src.o 3 rfl) (Nat.zero_lt_succ _) rfl) rfl ?_
  refine L.step (Ev.load rfl rfl rfl (Src.o 3 rfl) rfl) rfl ?_
  refine L.call (js := []) (js' := [0, 1, 2, 3]) (img_g O N o w (1 + w0.toNat % 40) (1 + w0.toNat % 40) oc nc hlo hlw (by omega) (by omega)) rfl rfl rfl (by decide) ⟨(Has.o 1 rfl), (Has.o 2 rfl), trivial⟩ rfl ?_
  rintro _ _ _ ⟨Q, qc, rfl, rfl, rfl⟩
  refine L.norm (H' := [_, _, _, _, _]) [0, 1, 2, 3, 4] ⟨rfl, rfl, rfl, rfl, rfl, trivial⟩ (by decide) ?_
  refine L.step (Ev.pure rfl) rfl ?_
  refine L.step (Ev.pure rfl) rfl ?_
  refine L.nil ?_
  refine QE.seq ?_
  refine C.seq ?_
  refine C.seq ?_
  refine C.freeze 2 rfl [0, 1, 3, 4] (by decide) (by decide) ?_
  refine C.norm (H' := [_, _, _, _]) [0, 1, 2, 3] ⟨rfl, rfl, rfl, rfl, trivial⟩ (by decide) ?_
  refine C.freeze 2 rfl [0, 1, 3] (by decide) (by decide) ?_
  refine C.norm (H' := [_, _, _]) [0, 1, 2] ⟨rfl, rfl, rfl, trivial⟩ (by decide) ?_
  refine C.freeze 2 rfl [0, 1] (by decide) (by decide) ?_
  refine C.norm (H' := [_, _]) [0, 1] ⟨rfl, rfl, trivial⟩ (by decide) ?_
  refine C.region ?_
  refine L.step (Ev.pure rfl) rfl ?_
  refine L.nil ?_
  refine QE.seq ?_
  refine C.block ?_
  refine C.loop (fun k : Nat => [(7, .bool true), (8, ptrOf A8 0), (9, .slice R29 r.length rc29), (10, .int .i64 0), (11, .slice Q (chgN o w o.length).length qc), (12, .int .i64 ((diffN o w k : Nat) : Int)), (13, .int .i64 (k : Int))]) (fun k : Nat => [Rd A8 [.int .i64 0, .slice O (1 + w0.toNat % 40) oc, .slice N (1 + w0.toNat % 40) nc], Rd N (U8 w), Rd O (U8 o), Rd BA (U8 b), Rd LA (pairsV l)]) (fun k : Nat => [Own 5 1 R29 r.length rc29 (U8 r), Own 102 2 Q (chgN o w o.length).length qc (rangesV (chgN o w o.length))]) (fun k : Nat => k ≤ o.length) (fun k : Nat => o.length - k) 0 (Nat.zero_le _) (by exact Le.mk' (rs := [0, 1, 2, 3, 4]) (hs := [1, 0]) ⟨rfl, rfl, rfl, rfl, rfl, rfl, rfl, trivial⟩ ⟨rfl, rfl, rfl, rfl, rfl, trivial⟩ ⟨rfl, rfl, trivial⟩ (by decide)) ?_
  intro k hk
  refine C.seq ?_
  refine C.seq ?_
  refine C.region ?_
  refine L.step (Ev.pure rfl) rfl ?_
  refine L.step (Ev.fieldAddr rfl rfl rfl rfl rfl rfl (Src.r 0 rfl) (Nat.zero_lt_succ _) rfl) rfl ?_
  refine L.step (Ev.load rfl rfl rfl (Src.r 0 rfl) rfl) rfl ?_
  refine L.step (Ev.pure rfl) rfl ?_
  refine L.step (Ev.pure rfl) rfl ?_
  refine L.nil ?_
  refine QE.seq ?_
  refine C.condB 41 rfl (fun hc41 => ?_) (fun hc41 => ?_)
  · skip
    replace hc41 := of_decide_eq_true hc41
    refine C.skip ?_
    refine QE.seq ?_
    refine C.seq ?_
    refine C.block ?_
    refine C.seq ?_
    refine C.regionQ (by kernel_rfl) ?_
    refine LQ.step (Ev.fieldAddr rfl rfl rfl rfl rfl rfl (Src.r 0 rfl) (Nat.zero_lt_succ _) rfl) rfl ?_
    refine LQ.step (Ev.load rfl rfl rfl (Src.r 0 rfl) rfl) rfl ?_
    refine LQ.step (Ev.pure rfl) rfl ?_
    refine LQ.step (Ev.idx1 (k := k) rfl rfl rfl rfl rfl rfl rfl (by omega) (Src.r 2 rfl) (by rw [U8_len]; omega)) rfl ?_
    refine LQ.step (Ev.load rfl rfl rfl (Src.r 2 rfl) (U8_get (by omega))) rfl ?_
    refine LQ.step (Ev.fieldAddr rfl rfl rfl rfl rfl rfl (Src.r 0 rfl) (Nat.zero_lt_succ _) rfl) rfl ?_
    refine LQ.step (Ev.load rfl rfl rfl (Src.r 0 rfl) rfl) rfl ?_
    refine LQ.step (Ev.pure rfl) rfl ?_
    refine LQ.step (Ev.idx1 (k := k) rfl rfl rfl rfl rfl rfl rfl (by omega) (Src.r 1 rfl) (by rw [U8_len]; omega)) rfl ?_
    refine LQ.step (Ev.load rfl rfl rfl (Src.r 1 rfl) (U8_get (by omega))) rfl ?_
    refine LQ.step (Ev.pure rfl) rfl ?_
    refine LQ.nil ?_
    refine QE.seq ?_
    refine C.condB 54 rfl (fun hc54 => ?_) (fun hc54 => ?_)
    · skip
      replace hc54 := b_ne hc54
      have hdn : diffN o w (k + 1) = diffN o w k + 1 := diffN_yes (fun e => hc54 (u8_eq.2 e))
      have hdl := diffN_le o w k
      refine C.region ?_
      refine L.step (Ev.pure rfl) rfl ?_
      refine L.step (Ev.add rfl rfl (by omega) (by omega)) rfl ?_
      refine L.step (Ev.pure rfl) rfl ?_
      refine L.nil ?_
      refine QE.blkN ?_
      refine QE.seq ?_
      refine C.region ?_
      refine L.step (Ev.pure rfl) rfl ?_
      refine L.step (Ev.add rfl rfl (by omega) (by omega)) rfl ?_
      refine L.step (Ev.pure rfl) rfl ?_
      refine L.nil ?_
      refine QE.round (k + 1) (by omega) (by omega) (by exact Le.mk' (rs := [0, 1, 2, 3, 4]) (hs := [0, 1]) ⟨rfl, rfl, rfl, rfl, rfl, (by rw [hdn]; rfl), rfl, trivial⟩ ⟨rfl, rfl, rfl, rfl, rfl, trivial⟩ ⟨rfl, rfl, trivial⟩ (by decide))
    · skip
      replace hc54 := b_eq hc54
      have hdn : diffN o w (k + 1) = diffN o w k := diffN_no (u8_eq.1 hc54)
      refine C.skip ?_
      refine QE.blkN ?_
      refine QE.seq ?_
      refine C.region ?_
      refine L.step (Ev.pure rfl) rfl ?_
      refine L.step (Ev.add rfl rfl (by omega) (by omega)) rfl ?_
      refine L.step (Ev.pure rfl) rfl ?_
      refine L.nil ?_
      refine QE.round (k + 1) (by omega) (by omega) (by exact Le.mk' (rs := [0, 1, 2, 3, 4]) (hs := [0, 1]) ⟨rfl, rfl, rfl, rfl, rfl, (by rw [hdn]; rfl), rfl, trivial⟩ ⟨rfl, rfl, rfl, rfl, rfl, trivial⟩ ⟨rfl, rfl, trivial⟩ (by decide))
  · skip
    replace hc41 := of_decide_eq_false hc41
    refine C.exit ?_
    refine QE.tX ?_
    refine QE.tX ?_
    refine QE.blk ?_
    refine QE.seq ?_
    refine C.seq ?_
    refine C.region ?_
    refine L.step (Ev.fieldAddr rfl rfl rfl rfl rfl rfl (Src.r 0 rfl) (Nat.zero_lt_succ _) rfl) rfl ?_
    refine L.step (Ev.load rfl rfl rfl (Src.r 0 rfl) rfl) rfl ?_
    refine L.step (Ev.fieldAddr rfl rfl rfl rfl rfl rfl (Src.r 0 rfl) (Nat.zero_lt_succ _) rfl) rfl ?_
    refine L.step (Ev.load rfl rfl rfl (Src.r 0 rfl) rfl) rfl ?_
    refine L.call (js := []) (js' := [0, 1]) (rec_g ((1 : Nat) : Int) O O o o (1 + w0.toNat % 40) (1 + w0.toNat % 40) oc oc s 0 hlo hlo sI.eq sI.e (by omega) (by omega) (by omega)) rfl rfl rfl (by decide) ⟨(Has.r 2 rfl), (Has.r 2 rfl), trivial⟩ rfl ?_
    rintro _ _ _ ⟨R62, rc62, rfl, rfl, rfl⟩
    refine L.norm (H' := [_, _, _]) [0, 1, 2] ⟨rfl, rfl, rfl, trivial⟩ (by decide) ?_
    refine L.step (Ev.pure rfl) rfl ?_
    refine L.step (Ev.pure rfl) rfl ?_
    refine L.step (Ev.pure rfl) rfl ?_
    refine L.step (Ev.pure rfl) rfl ?_
    refine L.step (Ev.pure rfl) rfl ?_
    refine L.nil ?_
    refine QE.seq ?_
    refine C.seq ?_
    obtain rfl : k = o.length := by omega
    have hdf := diffN_le o w o.length
    refine C.region ?_
    refine L.step (Ev.pure rfl) rfl ?_
    refine L.step (Ev.pure rfl) rfl ?_
    refine L.step (Ev.pure rfl) rfl ?_
    refine L.bool 67 rfl (fun hg67 => ?_) (fun hg67 => ?_)
    · skip
      replace hg67 := i_eq hg67
      refine L.yes rfl ?_
      refine L.step (Ev.pure rfl) rfl ?_
      refine L.yes rfl ?_
      refine L.step (Ev.pure rfl) rfl ?_
      refine L.yes rfl ?_
      refine L.step (Ev.pure rfl) rfl ?_
      refine L.yes rfl ?_
      refine L.step (Ev.pure rfl) rfl ?_
      refine L.yes rfl ?_
      refine L.step (Ev.mul rfl rfl (by omega) (by omega)) rfl ?_
      refine L.yes rfl ?_
      refine L.step (Ev.add rfl rfl (by omega) (by omega)) rfl ?_
      refine L.yes rfl ?_
      refine L.step (Ev.pure rfl) rfl ?_
      refine L.yes rfl ?_
      refine L.step (Ev.add rfl rfl (by omega) (by omega)) rfl ?_
      refine L.yes rfl ?_
      refine L.step (Ev.pure rfl) rfl ?_
      refine L.step (Ev.pure rfl) rfl ?_
      refine L.step (Ev.pure rfl) rfl ?_
      refine L.bool 78 rfl (fun hg78 => ?_) (fun hg78 => ?_)
      · skip
        replace hg78 := i_eq hg78
        refine L.yes rfl ?_
        refine L.step (Ev.pure rfl) rfl ?_
        refine L.yes rfl ?_
        refine L.step (Ev.pure rfl) rfl ?_
        refine L.step (Ev.pure rfl) rfl ?_
        refine L.step (Ev.pure rfl) rfl ?_
        refine L.bool 82 rfl (fun hg82 => ?_) (fun hg82 => ?_)
        · skip
          replace hg82 := i_eq hg82
          refine L.yes rfl ?_
          refine L.step (Ev.pure rfl) rfl ?_
          refine L.yes rfl ?_
          refine L.step (Ev.pure rfl) rfl ?_
          refine L.yes rfl ?_
          refine L.step (Ev.pure rfl) rfl ?_
          refine L.step (Ev.pure rfl) rfl ?_
          refine L.step (Ev.pure rfl) rfl ?_
          refine L.bool 87 rfl (fun hg87 => ?_) (fun hg87 => ?_)
          · skip
            replace hg87 := i_eq hg87
            refine L.yes rfl ?_
            refine L.step (Ev.pure rfl) rfl ?_
            refine L.step (Ev.pure rfl) rfl ?_
            refine L.step (Ev.pure rfl) rfl ?_
            refine L.nil ?_
            refine QE.seq ?_
            refine C.ret ?_
            refine QE.ret (js := []) (hs := []) (vs := [_]) rfl ⟨rfl, trivial⟩ (by decide) ?_
            exact ⟨rfl, rfl, rfl⟩
          · skip
            replace hg87 := i_ne hg87
            exact (hg87 (by omega)).elim
        · skip
          replace hg82 := i_ne hg82
          exact (hg82 rfl).elim
      · skip
        replace hg78 := i_ne hg78
        exact (hg78 (by omega)).elim
    · skip
      replace hg67 := i_ne hg67
      exact (hg67 rfl).elim

end Go.Proofs.Ythfjkdgopkmgoaa
