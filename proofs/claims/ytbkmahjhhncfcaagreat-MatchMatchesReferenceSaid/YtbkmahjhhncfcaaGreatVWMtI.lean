/-
  The laws' helpers: Limited, Mixed, Fits, cost, made.
-/
import Derived.Test.YtbkmahjhhncfcaaGreatVWMtE
import Derived.Test.YtbkmahjhhncfcaaGreatVWMtH
import Derived.Test.YtbkmahjhhncfcaaGreatVOg
import Derived.Test.YtbkmahjhhncfcaaGreatVSlZ
namespace Go.Proofs.YtbkmahjhhncfcaaGreat
open Go.Sl

theorem Ctr.tbM (c : Bool) {f : Nat} {args : List Value} {R H : List Pr} {b : Bool} (h : Ctr X f args R H (fun v R' H' => v = .bool b ∧ R' = [] ∧ H' = [])) (hb : b = c) : Ctr X f args R H (fun v R' H' => v = .bool c ∧ R' = [] ∧ H' = []) := hb ▸ h
theorem Ev.toU8b {X : Cx} {β : Base} {Γ : Env} {R H : List Pr} {s d : Nat} {x : Operand} {k : IntKind} {m : Int} {q : UInt8} {i j : Ti} (hs : tlook s X.tab = some i) (hd : tlook d X.tab = some j) (hj : j.desc = .int .u8) (hx : ev Γ x = some (.int k m)) (hq : m % 256 = (q.toNat : Int)) : Ev X β Γ R H (.convert s d x) (.int .u8 (q.toNat : Int)) :=
 (Ev.pure (v := .int .u8 (IntKind.u8.wrap m)) (by simp [pev, hs, hd, hj, hx])).cast (by rw [show IntKind.u8.wrap m = m % 256 by simp [IntKind.wrap, IntKind.bits, IntKind.signed], hq])
theorem limited_c (B : Option Addr) (b : List UInt8) (bc n : Nat) (hbc : b.length ≤ bc) :
   Ctr X 18 [.slice B b.length bc, .int .i64 (n : Int)] [] [] (fun v R' H' => v = .slice B (b.take n).length bc ∧ R' = [] ∧ H' = []) := by
 refine Ctr.of (X := X) (fn := Tryz.f18) Tryz.func18 rfl (by kernel_rfl) rfl ?_
 intro β
 refine C.seq (C.region ?_); refine Lpu rfl rfl ?_; refine L.nil (QE.seq (C.seq (C.seq (C.region ?_)))); refine Lpu rfl rfl ?_; refine Lpu rfl rfl ?_; refine Lpu rfl rfl ?_; refine Lpu rfl rfl ?_; refine L.nil (QE.seq ?_)
 refine C.condB 8 rfl (fun hc8 => ?_) (fun hc8 => ?_)
 ·
  replace hc8 := of_decide_eq_true hc8
  refine C.seq (C.region ?_); refine Lpu rfl rfl ?_; refine Lpu rfl rfl ?_; refine L.step (Ev.sliceH (h := n) rfl rfl rfl rfl rfl rfl (by omega)) rfl ?_; refine Lpu rfl rfl ?_; refine L.nil (QE.seq (C.ret (QE.tR ?_))); refine QE.ret (js := []) (hs := []) (vs := [_]) rfl ⟨rfl, trivial⟩ (by decide) ?_
  exact ⟨by rw [List.length_take, Nat.min_eq_left (by omega)]; rfl, rfl, rfl⟩
 ·
  replace hc8 := of_decide_eq_false hc8
  refine C.skip (QE.seq (C.seq (C.region ?_))); refine Lpu rfl rfl ?_; refine Lpu rfl rfl ?_; refine L.nil (QE.seq (C.ret ?_)); refine QE.ret (js := []) (hs := []) (vs := [_]) rfl ⟨rfl, trivial⟩ (by decide) ?_
  exact ⟨by rw [List.length_take, Nat.min_eq_right (by omega)]; rfl, rfl, rfl⟩

set_option maxHeartbeats 4000000 in
theorem mixed_c (B LA : Option Addr) (b : List UInt8) (l : List T3) (bc lc : Nat) (hb : b.length ≤ 1000) (hbc : b.length ≤ bc) (hl : l.length ≤ 9223372036854775807) :
   Ctr X 27 [.slice B b.length bc, .slice LA l.length lc] [Rd B (U8 b), Rd LA (triV l)] [] (fun v R' H' => ∃ (A : Option Addr) (c : Nat), v = .tuple #[.slice A (mxA b l).out.length c, .agg (List.toArray [.int .i64 ((mxA b l).n0 : Int), .int .i64 ((mxA b l).n1 : Int), .int .i64 ((mxA b l).n2 : Int)])] ∧ R' = [] ∧ H' = [Own 5 1 A (mxA b l).out.length c (U8 (mxA b l).out)]) := by
 refine Ctr.of (X := X) (fn := Tryz.f27) Tryz.func27 rfl (by kernel_rfl) rfl ?_
 intro β
 refine C.seq (C.region ?_); refine Lpu rfl rfl ?_
 refine L.alloc rfl rfl rfl (fun A5 => ?_)
 refine L.nil (QE.seq (C.seq (C.region ?_)))
 refine L.lit0S rfl rfl rfl rfl (fun A13 => ?_)
 refine Lpu rfl rfl ?_; refine L.nil (QE.seq (C.seq (C.region ?_))); refine L.step (Ev.buildArr rfl rfl rfl rfl rfl rfl rfl) rfl ?_
 refine L.alloc rfl rfl rfl (fun A7 => ?_)
 refine L.storeA (j := 2) rfl rfl rfl rfl rfl (Nat.zero_lt_succ _) rfl rfl ?_; refine L.nil (QE.seq (C.seq (C.region ?_))); refine Lpu rfl rfl ?_; refine L.nil (QE.seq (C.seq (C.seq (C.region ?_)))); refine Lpu rfl rfl ?_; refine L.nil (QE.seq (C.block ?_)); refine C.loop (fun s : Nat × Option Addr × Nat => [(0, .slice B b.length bc), (1, .slice LA l.length lc), (5, ptrOf A5 0), (7, ptrOf A7 0), (9, .int .i64 (s.1 : Int)), (6, .slice s.2.1 (mxN b l s.1).out.length s.2.2), (8, .bool (mxN b l s.1).oth)]) (fun s : Nat × Option Addr × Nat => [Rd B (U8 b), Rd LA (triV l)]) (fun s : Nat × Option Addr × Nat => [Own 69 3 A5 1 1 [.int .i64 0, .int .i64 0, .int .i64 0], Own 69 3 A7 1 1 [.int .i64 ((mxN b l s.1).n0 : Int), .int .i64 ((mxN b l s.1).n1 : Int), .int .i64 ((mxN b l s.1).n2 : Int)], Own 5 1 s.2.1 (mxN b l s.1).out.length s.2.2 (U8 (mxN b l s.1).out)]) (fun s : Nat × Option Addr × Nat => s.1 ≤ min l.length 8) (fun s : Nat × Option Addr × Nat => min l.length 8 - s.1) (0, A13, 0) (Nat.zero_le _) (by exact Le.mk' (rs := [0, 1]) (hs := [0, 2, 1]) ⟨rfl, rfl, rfl, rfl, rfl, rfl, rfl, trivial⟩ ⟨rfl, rfl, trivial⟩ ⟨rfl, rfl, rfl, trivial⟩ (by decide)) ?_
 rintro ⟨i, A0, c0⟩ hi
 dsimp only at hi ⊢
 have hM := mx_le b l i
 have hil := Nat.mul_le_mul hi (show b.length + 6 ≤ 1006 by omega)
 refine C.seq (C.seq (C.region ?_)); refine Lpu rfl rfl ?_; refine Lpu rfl rfl ?_; refine Lpu rfl rfl ?_; refine Lpu rfl rfl ?_; refine Lpu rfl rfl ?_
 refine L.bool 19 rfl (fun hg19 => ?_) (fun hg19 => ?_)
 ·
  replace hg19 := of_decide_eq_true hg19
  refine L.yes rfl ?_; refine Lpu rfl rfl ?_; refine L.yes rfl ?_; refine Lpu rfl rfl ?_; refine Lpu rfl rfl ?_; refine L.nil (QE.seq ?_)
  refine C.condB 22 rfl (fun hc22 => ?_) (fun hc22 => ?_)
  ·
   replace hc22 := of_decide_eq_true hc22
   refine C.skip (QE.seq (C.seq (C.block (C.seq (C.seq (C.region ?_)))))); refine Lpu rfl rfl ?_; refine Lpu rfl rfl ?_; refine L.step (Ev.idx (k := i) (m := i * 3) rfl rfl rfl rfl rfl rfl (by omega) (Src.r 1 rfl) (tri_pos (k := i) (by omega)) rfl) rfl ?_; refine L.step (Ev.idxArr (k := 0) (m := i * 3 + 0) rfl rfl rfl rfl rfl rfl (by decide) (Src.r 1 rfl) (tri_pos (k := i) (by omega)) rfl) rfl ?_; refine L.step (Ev.load rfl rfl rfl (Src.r 1 rfl) ((triV_get (i := i) (j := 0) (by omega) (by decide)).trans rfl)) rfl ?_; refine L.step (Ev.cast (u := .int .u8 ((((l.getD i (0, 0, 0)).1.toNat % 3) : Nat) : Int)) (Ev.rem rfl rfl (by omega) (by decide)) (congrArg (Value.int .u8) (by rw [Int.natCast_emod]; rfl))) rfl ?_; refine Lpu rfl rfl ?_; refine L.nil (QE.seq ?_)
   refine C.condB 31 rfl (fun hc31 => ?_) (fun hc31 => ?_)
   ·
    replace hc31 := i_eq hc31
    have hcz : (l.getD i (0, 0, 0)).1.toNat % 3 = 0 := by omega
    refine C.seq (C.seq (C.region ?_)); refine Lpu rfl rfl ?_; refine L.nil (QE.seq (C.block ?_)); refine C.loop (fun s : Nat × Option Addr × Nat => [(0, .slice B b.length bc), (1, .slice LA l.length lc), (5, ptrOf A5 0), (7, ptrOf A7 0), (9, .int .i64 (i : Int)), (8, .bool (mxN b l i).oth), (6, .slice s.2.1 ((mxN b l i).out ++ mxB (l.getD i (0, 0, 0)).2.2 s.1).length s.2.2), (10, .int .i64 (s.1 : Int))]) (fun s : Nat × Option Addr × Nat => [Rd B (U8 b), Rd LA (triV l)]) (fun s : Nat × Option Addr × Nat => [Own 69 3 A5 1 1 [.int .i64 0, .int .i64 0, .int .i64 0], Own 69 3 A7 1 1 [.int .i64 ((mxN b l i).n0 : Int), .int .i64 ((mxN b l i).n1 : Int), .int .i64 (((mxN b l i).n2 + s.1 : Nat) : Int)], Own 5 1 s.2.1 ((mxN b l i).out ++ mxB (l.getD i (0, 0, 0)).2.2 s.1).length s.2.2 (U8 ((mxN b l i).out ++ mxB (l.getD i (0, 0, 0)).2.2 s.1))]) (fun s : Nat × Option Addr × Nat => s.1 ≤ ((l.getD i (0, 0, 0)).2.1.toNat % 6) + 1) (fun s : Nat × Option Addr × Nat => ((l.getD i (0, 0, 0)).2.1.toNat % 6) + 1 - s.1) (0, A0, c0) (Nat.zero_le _) (by exact Le.mk' (rs := [0, 1]) (hs := [0, 1, 2]) ⟨rfl, rfl, rfl, rfl, rfl, rfl, (by dsimp only; rw [show mxB _ 0 = [] from rfl, List.append_nil]; rfl), rfl, trivial⟩ ⟨rfl, rfl, trivial⟩ ⟨rfl, rfl, (by dsimp only; rw [show mxB _ 0 = [] from rfl, List.append_nil]; rfl), trivial⟩ (by decide)) ?_
    rintro ⟨k, A, c⟩ hk
    dsimp only at hk ⊢
    have hx6 : ((l.getD i (0, 0, 0)).2.1.toNat % 6) < 6 := Nat.mod_lt _ (by decide)
    have hkk := Nat.mul_le_mul (show k ≤ 6 by omega) (show k ≤ 6 by omega)
    have hol : ((mxN b l i).out ++ mxB (l.getD i (0, 0, 0)).2.2 k).length = (mxN b l i).out.length + k := by rw [List.length_append, mxB_len]
    refine C.seq (C.seq (C.region ?_)); refine Lpu rfl rfl ?_; refine Lpu rfl rfl ?_; refine Lpu rfl rfl ?_; refine L.step (Ev.idx (k := i) (m := i * 3) rfl rfl rfl rfl rfl rfl (by omega) (Src.r 1 rfl) (tri_pos (k := i) (by omega)) rfl) rfl ?_; refine L.step (Ev.idxArr (k := 1) (m := i * 3 + 1) rfl rfl rfl rfl rfl rfl (by decide) (Src.r 1 rfl) (tri_pos (k := i) (by omega)) rfl) rfl ?_; refine L.step (Ev.load rfl rfl rfl (Src.r 1 rfl) ((triV_get (i := i) (j := 1) (by omega) (by decide)).trans rfl)) rfl ?_; refine L.step (Ev.cast (u := .int .u8 ((((l.getD i (0, 0, 0)).2.1.toNat % 6) : Nat) : Int)) (Ev.rem rfl rfl (by omega) (by decide)) (congrArg (Value.int .u8) (by rw [Int.natCast_emod]; rfl))) rfl ?_
    first | refine L.step (Ev.byteInt rfl rfl rfl rfl) rfl ?_ | refine L.step (Ev.toInt rfl rfl rfl rfl (by omega) (by omega)) rfl ?_
    refine Lpu rfl rfl ?_; refine L.nil (QE.seq ?_)
    refine C.condB 40 rfl (fun hc40 => ?_) (fun hc40 => ?_)
    ·
     replace hc40 := of_decide_eq_true hc40
     refine C.skip (QE.seq (C.seq (C.block (C.seq (C.region ?_))))); refine Lpu rfl rfl ?_; refine Lpu rfl rfl ?_; refine Lpu rfl rfl ?_; refine L.step (Ev.idx (k := i) (m := i * 3) rfl rfl rfl rfl rfl rfl (by omega) (Src.r 1 rfl) (tri_pos (k := i) (by omega)) rfl) rfl ?_; refine L.step (Ev.idxArr (k := 2) (m := i * 3 + 2) rfl rfl rfl rfl rfl rfl (by decide) (Src.r 1 rfl) (tri_pos (k := i) (by omega)) rfl) rfl ?_; refine L.step (Ev.load rfl rfl rfl (Src.r 1 rfl) ((triV_get (i := i) (j := 2) (by omega) (by decide)).trans rfl)) rfl ?_; refine Lpu rfl rfl ?_; refine Lpu rfl rfl ?_; refine L.step (Ev.cast (u := .int .i64 (((k * k) : Nat) : Int)) (Ev.mul rfl rfl (by rw [← Int.natCast_mul]; omega) (by rw [← Int.natCast_mul]; omega)) (congrArg (Value.int .i64) (Int.natCast_mul _ _).symm)) rfl ?_; refine L.step (Ev.toU8b (q := UInt8.ofNat (k * k % 256)) rfl rfl rfl rfl (by rw [UInt8.toNat_ofNat']; omega)) rfl ?_; refine L.step (Ev.add8 rfl rfl) rfl ?_
     refine L.lit rfl rfl rfl rfl rfl (by rfl) (by rfl) (by rfl) rfl rfl (fun A54 => ?_)
     refine L.append (j := 2) rfl rfl rfl rfl (by decide) rfl rfl rfl rfl (Src.o 3 rfl) rfl (allOne rfl) (by omega) (by show _ * 1 ≤ _; omega) rfl (fun A55 cc55 => ?_)
     refine Lpu rfl rfl ?_; refine L.nil (QE.seq (C.region ?_)); refine L.step (Ev.idxArr (k := 2) (m := 2) rfl rfl rfl rfl rfl rfl (by decide) (Src.o 1 rfl) (Nat.zero_lt_succ _) rfl) rfl ?_; refine L.step (Ev.load rfl rfl rfl (Src.o 1 rfl) rfl) rfl ?_; refine L.step (Ev.add rfl rfl (by omega) (by omega)) rfl ?_; refine L.step (Ev.idxArr (k := 2) (m := 2) rfl rfl rfl rfl rfl rfl (by decide) (Src.o 1 rfl) (Nat.zero_lt_succ _) rfl) rfl ?_; refine L.store (j := 1) rfl rfl rfl rfl rfl rfl rfl rfl ?_; refine L.nil ?_; refine QE.blkN ?_; refine QE.seq (C.region ?_); refine Lpu rfl rfl ?_; refine L.step (Ev.add rfl rfl (by omega) (by omega)) rfl ?_; refine Lpu rfl rfl ?_; refine L.nil ?_
     have he : ((mxN b l i).out ++ mxB (l.getD i (0, 0, 0)).2.2 (k + 1)) = ((mxN b l i).out ++ mxB (l.getD i (0, 0, 0)).2.2 k) ++ [(l.getD i (0, 0, 0)).2.2 + UInt8.ofNat (k * k % 256)] := by rw [mxB_succ, List.append_assoc]
     have hel : ((mxN b l i).out ++ mxB (l.getD i (0, 0, 0)).2.2 (k + 1)).length = ((mxN b l i).out ++ mxB (l.getD i (0, 0, 0)).2.2 k).length + 1 := by rw [he, List.length_append]; rfl
     refine QE.round (i := (k, A, c)) ((k + 1, A55, cc55)) (by dsimp only; omega) (by dsimp only; omega) (by exact Le.mk' (rs := [0, 1]) (hs := [0, 1, 2]) ⟨rfl, rfl, rfl, rfl, rfl, rfl, (by dsimp only; rw [hel]; rfl), rfl, trivial⟩ ⟨rfl, rfl, trivial⟩ ⟨rfl, rfl, (by dsimp only; rw [hel, he, ← U8_app ((mxN b l i).out ++ mxB (l.getD i (0, 0, 0)).2.2 k) _]; rfl), trivial⟩ (by decide))
    ·
     replace hc40 := of_decide_eq_false hc40
     refine C.exit ?_; refine QE.tX ?_; refine QE.tX ?_; refine QE.blk ?_; refine QE.seq ?_; refine C.seqJ (fun m : Nat => [(0, .slice B b.length bc), (1, .slice LA l.length lc), (5, ptrOf A5 0), (7, ptrOf A7 0), (9, .int .i64 (i : Int)), (6, .slice A ((mxN b l i).out ++ mxB (l.getD i (0, 0, 0)).2.2 (((l.getD i (0, 0, 0)).2.1.toNat % 6) + 1)).length c)]) (fun m : Nat => [Rd B (U8 b), Rd LA (triV l)]) (fun m : Nat => [Own 69 3 A5 1 1 [.int .i64 0, .int .i64 0, .int .i64 0], Own 69 3 A7 1 1 [.int .i64 ((mxN b l i).n0 : Int), .int .i64 (m : Int), .int .i64 (((mxN b l i).n2 + (((l.getD i (0, 0, 0)).2.1.toNat % 6) + 1) : Nat) : Int)], Own 5 1 A ((mxN b l i).out ++ mxB (l.getD i (0, 0, 0)).2.2 (((l.getD i (0, 0, 0)).2.1.toNat % 6) + 1)).length c (U8 ((mxN b l i).out ++ mxB (l.getD i (0, 0, 0)).2.2 (((l.getD i (0, 0, 0)).2.1.toNat % 6) + 1)))]) (fun m : Nat => m = if (mxN b l i).oth = true then (mxN b l i).n1 else (mxN b l i).n1 + 1) ?_ ?_
     ·
      refine C.seq ?_
      obtain rfl : k = ((l.getD i (0, 0, 0)).2.1.toNat % 6) + 1 := by omega
      refine C.region ?_; refine Lpu rfl rfl ?_; refine Lpu rfl rfl ?_; refine L.nil (QE.seq ?_)
      refine C.condB 61 rfl (fun hc61 => ?_) (fun hc61 => ?_)
      ·
       refine C.region ?_; refine L.step (Ev.idxArr (k := 1) (m := 1) rfl rfl rfl rfl rfl rfl (by decide) (Src.o 1 rfl) (Nat.zero_lt_succ _) rfl) rfl ?_; refine L.step (Ev.load rfl rfl rfl (Src.o 1 rfl) rfl) rfl ?_; refine L.step (Ev.add rfl rfl (by omega) (by omega)) rfl ?_; refine L.step (Ev.idxArr (k := 1) (m := 1) rfl rfl rfl rfl rfl rfl (by decide) (Src.o 1 rfl) (Nat.zero_lt_succ _) rfl) rfl ?_; refine L.store (j := 1) rfl rfl rfl rfl rfl rfl rfl rfl ?_; refine L.nil ?_
       refine QE.join (((mxN b l i).n1 + 1)) (by rw [if_neg (by simpa using hc61)]) (by exact Le.mk' (rs := [0, 1]) (hs := [0, 1, 2]) ⟨rfl, rfl, rfl, rfl, rfl, rfl, trivial⟩ ⟨rfl, rfl, trivial⟩ ⟨rfl, rfl, rfl, trivial⟩ (by decide))
      ·
       refine C.skip ?_
       refine QE.join ((mxN b l i).n1) (by rw [if_pos (by simpa using hc61)]) (by exact Le.mk' (rs := [0, 1]) (hs := [0, 1, 2]) ⟨rfl, rfl, rfl, rfl, rfl, rfl, trivial⟩ ⟨rfl, rfl, trivial⟩ ⟨rfl, rfl, rfl, trivial⟩ (by decide))
     ·
      intro m hm
      refine C.seq (C.region ?_); refine Lpu rfl rfl ?_; refine L.nil (QE.seq ?_); refine C.exit ?_; refine QE.tX ?_; refine QE.blk ?_; refine QE.seq (C.region ?_); refine Lpu rfl rfl ?_; refine L.step (Ev.add rfl rfl (by omega) (by omega)) rfl ?_; refine Lpu rfl rfl ?_; refine L.nil ?_
      have hS : (mxN b l (i + 1)) = mxS b (mxN b l i) (l.getD i (0, 0, 0)) := rfl
      rw [mxS, if_pos hcz] at hS
      refine QE.round (i := (i, A0, c0)) ((i + 1, A, c)) (by dsimp only; omega) (by dsimp only; omega) (by exact Le.mk' (rs := [0, 1]) (hs := [0, 1, 2]) ⟨rfl, rfl, rfl, rfl, rfl, (by dsimp only; rw [hS]; rfl), (by dsimp only; rw [hS]; rfl), trivial⟩ ⟨rfl, rfl, trivial⟩ ⟨rfl, (by dsimp only; rw [hS, hm]; rfl), (by dsimp only; rw [hS]; rfl), trivial⟩ (by decide))
   ·
    replace hc31 := i_ne hc31
    have hcz : ¬ (l.getD i (0, 0, 0)).1.toNat % 3 = 0 := by omega
    refine C.skip (QE.seq (C.seq (C.seq (C.region ?_)))); refine Lpu rfl rfl ?_; refine Lpu rfl rfl ?_; refine Lpu rfl rfl ?_; refine L.nil (QE.seq ?_)
    refine C.condB 68 rfl (fun hc68 => ?_) (fun hc68 => ?_)
    ·
     replace hc68 := i_eq hc68
     have hbz : b.length = 0 := by omega
     refine C.exit ?_; refine QE.tX ?_; refine QE.blk ?_; refine QE.seq (C.region ?_); refine Lpu rfl rfl ?_; refine L.step (Ev.add rfl rfl (by omega) (by omega)) rfl ?_; refine Lpu rfl rfl ?_; refine L.nil ?_
     have hS : (mxN b l (i + 1)) = mxS b (mxN b l i) (l.getD i (0, 0, 0)) := rfl
     rw [mxS, if_neg hcz, if_pos hbz] at hS
     refine QE.round (i := (i, A0, c0)) ((i + 1, A0, c0)) (by dsimp only; omega) (by dsimp only; omega) (by exact Le.mk' (rs := [0, 1]) (hs := [0, 1, 2]) ⟨rfl, rfl, rfl, rfl, rfl, (by dsimp only; rw [hS]; rfl), (by dsimp only; rw [hS]; rfl), trivial⟩ ⟨rfl, rfl, trivial⟩ ⟨rfl, (by dsimp only; rw [hS]; rfl), (by dsimp only; rw [hS]; rfl), trivial⟩ (by decide))
    ·
     replace hc68 := i_ne hc68
     have hbz : ¬ b.length = 0 := by omega
     refine C.skip (QE.seq (C.seq ?_))
     have hfl := mxF_lt hbz (l.getD i (0, 0, 0))
     have hmo : (l.getD i (0, 0, 0)).2.2.toNat % (b.length - (mxF b (l.getD i (0, 0, 0)))) < b.length - (mxF b (l.getD i (0, 0, 0))) := Nat.mod_lt _ (by omega)
     refine C.region ?_; refine Lpu rfl rfl ?_; refine Lpu rfl rfl ?_; refine L.step (Ev.idx (k := i) (m := i * 3) rfl rfl rfl rfl rfl rfl (by omega) (Src.r 1 rfl) (tri_pos (k := i) (by omega)) rfl) rfl ?_; refine L.step (Ev.idxArr (k := 1) (m := i * 3 + 1) rfl rfl rfl rfl rfl rfl (by decide) (Src.r 1 rfl) (tri_pos (k := i) (by omega)) rfl) rfl ?_; refine L.step (Ev.load rfl rfl rfl (Src.r 1 rfl) ((triV_get (i := i) (j := 1) (by omega) (by decide)).trans rfl)) rfl ?_
     first | refine L.step (Ev.byteInt rfl rfl rfl rfl) rfl ?_ | refine L.step (Ev.toInt rfl rfl rfl rfl (by omega) (by omega)) rfl ?_
     refine Lpu rfl rfl ?_; refine Lpu rfl rfl ?_; refine L.step (Ev.cast (u := .int .i64 (((mxF b (l.getD i (0, 0, 0))) : Nat) : Int)) (Ev.rem rfl rfl (by omega) (by omega)) (congrArg (Value.int .i64) (by unfold mxF; rw [Int.natCast_emod]))) rfl ?_; refine Lpu rfl rfl ?_; refine L.nil (QE.seq (C.seq (C.region ?_))); refine Lpu rfl rfl ?_; refine L.step (Ev.add rfl rfl (by omega) (by omega)) rfl ?_; refine Lpu rfl rfl ?_; refine Lpu rfl rfl ?_; refine L.step (Ev.idx (k := i) (m := i * 3) rfl rfl rfl rfl rfl rfl (by omega) (Src.r 1 rfl) (tri_pos (k := i) (by omega)) rfl) rfl ?_; refine L.step (Ev.idxArr (k := 2) (m := i * 3 + 2) rfl rfl rfl rfl rfl rfl (by decide) (Src.r 1 rfl) (tri_pos (k := i) (by omega)) rfl) rfl ?_; refine L.step (Ev.load rfl rfl rfl (Src.r 1 rfl) ((triV_get (i := i) (j := 2) (by omega) (by decide)).trans rfl)) rfl ?_
     first | refine L.step (Ev.byteInt rfl rfl rfl rfl) rfl ?_ | refine L.step (Ev.toInt rfl rfl rfl rfl (by omega) (by omega)) rfl ?_
     refine Lpu rfl rfl ?_; refine Lpu rfl rfl ?_; refine Lpu rfl rfl ?_; refine L.step (Ev.cast (u := .int .i64 (((b.length - (mxF b (l.getD i (0, 0, 0)))) : Nat) : Int)) (Ev.sub rfl rfl (by omega) (by omega)) (congrArg (Value.int .i64) (by omega))) rfl ?_; refine L.step (Ev.cast (u := .int .i64 ((((l.getD i (0, 0, 0)).2.2.toNat % (b.length - (mxF b (l.getD i (0, 0, 0))))) : Nat) : Int)) (Ev.rem rfl rfl (by omega) (by omega)) (congrArg (Value.int .i64) (Int.natCast_emod _ _).symm)) rfl ?_; refine L.step (Ev.cast (u := .int .i64 ((((mxF b (l.getD i (0, 0, 0))) + (mxL b (l.getD i (0, 0, 0)))) : Nat) : Int)) (Ev.add rfl rfl (by omega) (by omega)) (congrArg (Value.int .i64) (by unfold mxL; omega))) rfl ?_; refine Lpu rfl rfl ?_; refine L.nil (QE.seq (C.seq ?_)); refine C.more (r := Rd (subA B bc (mxF b (l.getD i (0, 0, 0))) 1) (U8 ((b.drop (mxF b (l.getD i (0, 0, 0)))).take (mxL b (l.getD i (0, 0, 0)))))) (Has.cast (Has.part (Has.r 0 rfl) bc (mxF b (l.getD i (0, 0, 0))) (mxL b (l.getD i (0, 0, 0))) (by omega)) (by unfold U8; rw [List.map_take, List.map_drop])) ?_; refine C.region ?_; refine Lpu rfl rfl ?_; refine Lpu rfl rfl ?_; refine Lpu rfl rfl ?_; refine Lpu rfl rfl ?_; refine L.step (Ev.sliceLH (l := (mxF b (l.getD i (0, 0, 0)))) (h := (mxF b (l.getD i (0, 0, 0))) + (mxL b (l.getD i (0, 0, 0)))) rfl rfl rfl rfl rfl rfl rfl rfl (by omega) (by omega)) rfl ?_
     refine L.append (j := 2) rfl rfl rfl rfl (by decide) rfl rfl rfl rfl (Src.r 0 rfl) (by show _ = _ * 1; rw [U8_len, List.length_take, List.length_drop]; omega) (U8_one _) (by omega) (by show _ * 1 ≤ _; omega) rfl (fun A97 cc97 => ?_)
     refine Lpu rfl rfl ?_; refine L.nil (QE.seq (C.seq (C.region ?_))); refine L.step (Ev.idxArr (k := 0) (m := 0) rfl rfl rfl rfl rfl rfl (by decide) (Src.o 1 rfl) (Nat.zero_lt_succ _) rfl) rfl ?_; refine L.step (Ev.load rfl rfl rfl (Src.o 1 rfl) rfl) rfl ?_; refine L.step (Ev.add rfl rfl (by omega) (by omega)) rfl ?_; refine L.step (Ev.idxArr (k := 0) (m := 0) rfl rfl rfl rfl rfl rfl (by decide) (Src.o 1 rfl) (Nat.zero_lt_succ _) rfl) rfl ?_; refine L.store (j := 1) rfl rfl rfl rfl rfl rfl rfl rfl ?_; refine L.nil (QE.seq (C.region ?_)); refine Lpu rfl rfl ?_; refine L.nil ?_; refine QE.blkN ?_; refine QE.seq (C.region ?_); refine Lpu rfl rfl ?_; refine L.step (Ev.add rfl rfl (by omega) (by omega)) rfl ?_; refine Lpu rfl rfl ?_; refine L.nil ?_
     have hS : (mxN b l (i + 1)) = mxS b (mxN b l i) (l.getD i (0, 0, 0)) := rfl
     rw [mxS, if_neg hcz, if_neg hbz] at hS
     have hle : ((mxN b l i).out ++ (b.drop (mxF b (l.getD i (0, 0, 0)))).take (mxL b (l.getD i (0, 0, 0)))).length = (mxN b l i).out.length + ((mxF b (l.getD i (0, 0, 0))) + (mxL b (l.getD i (0, 0, 0))) - (mxF b (l.getD i (0, 0, 0)))) := by rw [List.length_append, List.length_take, List.length_drop]; omega
     refine QE.round (i := (i, A0, c0)) ((i + 1, A97, cc97)) (by dsimp only; omega) (by dsimp only; omega) (by exact Le.mk' (rs := [1, 2]) (hs := [0, 1, 2]) ⟨rfl, rfl, rfl, rfl, rfl, (by dsimp only; rw [hS]; dsimp only; rw [hle]; rfl), (by dsimp only; rw [hS]; rfl), trivial⟩ ⟨rfl, rfl, trivial⟩ ⟨rfl, (by dsimp only; rw [hS]; rfl), (by dsimp only; rw [hS]; dsimp only; rw [hle, ← U8_app]; rfl), trivial⟩ (by decide))
  ·
   replace hc22 := of_decide_eq_false hc22
   refine C.exit ?_; refine QE.tX ?_; refine QE.tX ?_; refine QE.blk ?_; refine QE.seq (C.seq ?_); refine C.regionM [Rd A7 [.int .i64 ((mxN b l i).n0 : Int), .int .i64 ((mxN b l i).n1 : Int), .int .i64 ((mxN b l i).n2 : Int)]] ⟨Has.o 1 rfl, trivial⟩ ?_; refine LM.q 0 rfl (by kernel_rfl) (Ev.pure rfl) rfl ⟨Has.o 1 rfl, trivial⟩ ?_; refine LM.q 1 rfl (by kernel_rfl) (Ev.loadA rfl rfl rfl (Src.r 0 rfl) rfl rfl (by decide)) rfl ⟨Has.o 1 rfl, trivial⟩ ?_; refine LM.f 2 rfl (by kernel_rfl) ⟨Has.o 1 rfl, trivial⟩ ?_; refine Lpu rfl rfl ?_
   refine L.nil (QE.m (by kernel_rfl) ?_)
   refine LM.cut [] (by kernel_rfl) ⟨Has.o 1 rfl, trivial⟩ ?_; refine LM.f 3 rfl (by kernel_rfl) trivial ?_; refine L.storeA (j := 0) rfl rfl rfl rfl rfl (Nat.zero_lt_succ _) rfl rfl ?_
   refine L.nil (QE.m (by kernel_rfl) ?_)
   refine LM.nil (by kernel_rfl) trivial ?_; refine QE.seq (C.ret ?_); refine QE.ret (js := []) (hs := [2]) (vs := [_, _]) rfl ⟨rfl, ⟨_, _, 0, _, rfl, rfl, Src.o 0 rfl, .inl ⟨rfl, by decide, _, rfl, rfl, rfl⟩⟩, trivial⟩ (by decide) ?_
   obtain rfl : i = min l.length 8 := by omega
   exact ⟨A0, c0, rfl, rfl, rfl⟩
 ·
  replace hg19 := of_decide_eq_false hg19
  refine L.no rfl rfl rfl ?_; refine L.no rfl rfl rfl ?_; refine Lpu rfl rfl ?_; refine L.nil (QE.seq ?_)
  refine C.cond rfl (fun h => by cases h) (fun _ => ?_)
  refine C.exit ?_; refine QE.tX ?_; refine QE.tX ?_; refine QE.blk ?_; refine QE.seq (C.seq ?_); refine C.regionM [Rd A7 [.int .i64 ((mxN b l i).n0 : Int), .int .i64 ((mxN b l i).n1 : Int), .int .i64 ((mxN b l i).n2 : Int)]] ⟨Has.o 1 rfl, trivial⟩ ?_; refine LM.q 0 rfl (by kernel_rfl) (Ev.pure rfl) rfl ⟨Has.o 1 rfl, trivial⟩ ?_; refine LM.q 1 rfl (by kernel_rfl) (Ev.loadA rfl rfl rfl (Src.r 0 rfl) rfl rfl (by decide)) rfl ⟨Has.o 1 rfl, trivial⟩ ?_; refine LM.f 2 rfl (by kernel_rfl) ⟨Has.o 1 rfl, trivial⟩ ?_; refine Lpu rfl rfl ?_
  refine L.nil (QE.m (by kernel_rfl) ?_)
  refine LM.cut [] (by kernel_rfl) ⟨Has.o 1 rfl, trivial⟩ ?_; refine LM.f 3 rfl (by kernel_rfl) trivial ?_; refine L.storeA (j := 0) rfl rfl rfl rfl rfl (Nat.zero_lt_succ _) rfl rfl ?_
  refine L.nil (QE.m (by kernel_rfl) ?_)
  refine LM.nil (by kernel_rfl) trivial ?_; refine QE.seq (C.ret ?_); refine QE.ret (js := []) (hs := [2]) (vs := [_, _]) rfl ⟨rfl, ⟨_, _, 0, _, rfl, rfl, Src.o 0 rfl, .inl ⟨rfl, by decide, _, rfl, rfl, rfl⟩⟩, trivial⟩ (by decide) ?_
  obtain rfl : i = min l.length 8 := by omega
  exact ⟨A0, c0, rfl, rfl, rfl⟩

theorem fits_c (B C_ : Option Addr) (bc cc : Nat) (ol nl : Nat) (lf : Bool) (inn out : Int) (ops : List Pq) (OA : Option Addr) (oc : Nat) (hops : ops.length ≤ 9223372036854775807) (hE : chkP inn out ops = 0) (hin : inn = (ol : Int)) (hout : out = (nl : Int)) :
   Ctr X 28 [.agg (List.toArray [.bool lf, .int .i64 inn, .int .i64 out, .slice OA ops.length oc]), .slice B ol bc, .slice C_ nl cc] [Rd OA (pqV ops)] [] (fun v R' H' => v = .bool true ∧ R' = [] ∧ H' = []) := by
 refine Ctr.of (X := X) (fn := Tryz.f28) Tryz.func28 rfl (by kernel_rfl) rfl ?_
 intro β
 refine C.seq (C.region ?_)
 refine L.boxA rfl rfl (fun A3 => ?_)
 refine Lpu rfl rfl ?_; refine L.nil (QE.seq (C.seq ?_)); refine C.freeze 0 rfl [] (by decide) (by decide) ?_; refine C.region ?_; refine L.step (Ev.loadA (vs := [.bool lf, .int .i64 inn, .int .i64 out, .slice OA ops.length oc]) rfl rfl rfl (Src.r 0 rfl) rfl rfl (by decide)) rfl ?_; refine L.call (js := []) (js' := []) (Ctr.tbM true (right06Q_c lf inn out ops OA oc hops) (by rw [hE]; rfl)) rfl rfl rfl (by decide) (Hq [1] rfl) rfl ?_
 rintro _ _ _ ⟨rfl, rfl, rfl⟩
 refine Lpu rfl rfl ?_; refine L.yes rfl ?_; refine L.step (Ev.fieldAddr rfl rfl rfl rfl rfl rfl (Src.r 0 rfl) (Nat.zero_lt_succ _) rfl) rfl ?_; refine L.yes rfl ?_; refine L.step (Ev.load rfl rfl rfl (Src.r 0 rfl) rfl) rfl ?_; refine L.yes rfl ?_; refine Lpu rfl rfl ?_; refine L.yes rfl ?_; refine Lpu rfl rfl ?_; refine L.yes rfl ?_; refine L.step (Ev.cast (u := .bool true) (Ev.pure rfl) (congrArg Value.bool (by rw [hin]; simp))) rfl ?_; refine Lpu rfl rfl ?_; refine Lpu rfl rfl ?_
 refine L.bool 16 rfl (fun hg16 => ?_) (fun hg16 => ?_)
 ·
  refine L.yes rfl ?_; refine L.step (Ev.fieldAddr rfl rfl rfl rfl rfl rfl (Src.r 0 rfl) (Nat.zero_lt_succ _) rfl) rfl ?_; refine L.yes rfl ?_; refine L.step (Ev.load rfl rfl rfl (Src.r 0 rfl) rfl) rfl ?_; refine L.yes rfl ?_; refine Lpu rfl rfl ?_; refine L.yes rfl ?_; refine Lpu rfl rfl ?_; refine L.yes rfl ?_; refine L.step (Ev.cast (u := .bool true) (Ev.pure rfl) (congrArg Value.bool (by rw [hout]; simp))) rfl ?_; refine Lpu rfl rfl ?_; refine Lpu rfl rfl ?_; refine L.nil (QE.seq (C.ret ?_)); refine QE.ret (js := []) (hs := []) (vs := [_]) rfl ⟨rfl, trivial⟩ (by decide) ?_
  exact ⟨rfl, rfl, rfl⟩
 ·
  cases hg16

theorem costL_c (OA NA : Option Addr) (old new : List UInt8) (oc nc : Nat) (ho : old.length ≤ 65536) (hn : new.length ≤ 4096) (hnc : new.length ≤ nc) :
   Ctr X 10 [.slice OA old.length oc, .slice NA new.length nc] [Rd OA (U8 old), Rd NA (U8 new)] [] (fun v R' H' => v = .int .i64 (refL old new : Int) ∧ R' = [] ∧ H' = []) := by
 refine Ctr.of (X := X) (fn := Tryz.f10) Tryz.func10 rfl (by kernel_rfl) rfl ?_
 intro β
 refine C.seq (C.region ?_); refine Lpu rfl rfl ?_; refine L.nil (QE.seq (C.seq (C.region ?_))); refine Lpu rfl rfl ?_; refine Lpu rfl rfl ?_; refine L.callR (js := []) (js' := []) (plain_c OA NA old new oc nc ho hn hnc) rfl rfl rfl (by decide) (Hq [0, 1] rfl) rfl ?_
 rintro _ _ _ ⟨PA, pc, pl, rfl, rfl, rfl, hmk⟩
 have hpl := (chkP_iff.1 hmk.chk).2.2.2.2.1
 refine Lpu rfl rfl ?_; refine Lpu rfl rfl ?_; refine Lpu rfl rfl ?_
 refine L.alloc rfl rfl rfl (fun A5 => ?_)
 refine L.storeA (j := 0) rfl rfl rfl rfl rfl (Nat.zero_lt_succ _) rfl rfl ?_; refine Lpu rfl rfl ?_; refine L.nil (QE.seq (C.seq (C.seq (C.region ?_)))); refine Lpu rfl rfl ?_; refine Lpu rfl rfl ?_; refine Lpu rfl rfl ?_
 refine L.bool 15 rfl (fun hg15 => ?_) (fun hg15 => ?_)
 ·
  replace hg15 := b_ne hg15
  exact absurd rfl hg15
 ·
  replace hg15 := b_eq hg15
  refine L.yes rfl ?_; refine L.step (Ev.loadA (vs := [.bool false, .int .i64 (old.length : Int), .int .i64 (new.length : Int), .slice PA pl.length pc]) rfl rfl rfl (Src.o 0 rfl) rfl rfl (by decide)) rfl ?_; refine L.yes rfl ?_; refine Lpu rfl rfl ?_; refine L.yes rfl ?_; refine Lpu rfl rfl ?_; refine L.yes rfl ?_; refine L.call (js := []) (js' := [0]) (fits_c OA NA oc nc old.length new.length false (old.length : Int) (new.length : Int) pl PA pc (by omega) hmk.chk rfl rfl) rfl rfl rfl (by decide) (Hq [0] rfl) rfl ?_
  rintro _ _ _ ⟨rfl, rfl, rfl⟩
  refine L.norm (H' := [_]) [0] ⟨rfl, trivial⟩ (by decide) ?_; refine L.yes rfl ?_; refine Lpu rfl rfl ?_; refine Lpu rfl rfl ?_; refine Lpu rfl rfl ?_; refine L.yes rfl ?_; refine L.step (Ev.fieldAddr rfl rfl rfl rfl rfl rfl (Src.o 0 rfl) (Nat.zero_lt_succ _) rfl) rfl ?_; refine L.yes rfl ?_; refine L.step (Ev.load rfl rfl rfl (Src.o 0 rfl) rfl) rfl ?_; refine Lpu rfl rfl ?_; refine L.nil (QE.seq ?_)
  refine C.condB 25 rfl (fun hc25 => ?_) (fun hc25 => ?_)
  ·
   cases hc25
  ·
   refine C.skip (QE.seq (C.seq (C.region ?_))); refine L.step (Ev.loadA (vs := [.bool false, .int .i64 (old.length : Int), .int .i64 (new.length : Int), .slice PA pl.length pc]) rfl rfl rfl (Src.o 0 rfl) rfl rfl (by decide)) rfl ?_; refine L.call (js := []) (js' := [0]) (costQ_c false (old.length : Int) (new.length : Int) pl PA pc (by omega) hmk.chk) rfl rfl rfl (by decide) (Hq [0] rfl) rfl ?_
   rintro _ _ _ ⟨rfl, rfl, rfl⟩
   refine L.norm (H' := [_]) [0] ⟨rfl, trivial⟩ (by decide) ?_; refine Lpu rfl rfl ?_; refine L.nil (QE.seq (C.ret ?_)); refine QE.ret (js := []) (hs := []) (vs := [_]) rfl ⟨rfl, trivial⟩ (by decide) ?_
   exact ⟨by rw [hmk.cost]; rfl, rfl, rfl⟩

end Go.Proofs.YtbkmahjhhncfcaaGreat
