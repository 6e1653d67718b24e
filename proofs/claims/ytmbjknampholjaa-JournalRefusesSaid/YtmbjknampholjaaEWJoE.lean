/-
  The contracts of the reference: Code, Plain, Number, Value, Right.
-/
import Derived.Test.YtmbjknampholjaaEWJoD
namespace Go.Proofs.Ytmbjknampholjaa
open Go.Sl

theorem codeR_c (A : Option Addr) (c : Nat) (l : List UInt8) (hl : l.length ≤ 1000) :
   Ctr X 42 [.slice A l.length c] [Rd A (U8 l)] [] (fun v R' H' => ∃ (O : Option Addr) (oc : Nat), v = .slice O (codeB l).length oc ∧ R' = [] ∧ H' = [Own 5 1 O (codeB l).length oc (U8 (codeB l))]) := by
 refine Ctr.of (X := X) (fn := Try.f42) Try.func42 rfl (by kernel_rfl) rfl ?_
 intro β
 refine C.seq (C.region ?_); refine Lpu rfl rfl ?_; refine L.nil (QE.seq (C.seq (C.region ?_)))
 refine L.lit rfl rfl rfl rfl rfl (by rfl) (by rfl) (by rfl) rfl rfl (fun A5 => ?_)
 refine Lpu rfl rfl ?_; refine L.nil (QE.seq (C.seq (C.seq (C.region ?_)))); refine Lpu rfl rfl ?_; refine L.nil (QE.seq (C.block ?_)); refine C.loop (fun q : Nat × Option Addr × Nat => [(0, .slice A l.length c), (3, .slice q.2.1 (codeB (l.take (q.1))).length q.2.2), (4, .int .i64 (q.1 : Int))]) (fun q : Nat × Option Addr × Nat => [Rd A (U8 l)]) (fun q : Nat × Option Addr × Nat => [Own 5 1 q.2.1 (codeB (l.take (q.1))).length q.2.2 (U8 (codeB (l.take (q.1))))]) (fun q : Nat × Option Addr × Nat => q.1 ≤ l.length) (fun q : Nat × Option Addr × Nat => l.length - q.1) (0, A5, 0) (Nat.zero_le _) (by exact Le.mk' (rs := [0]) (hs := [0]) ⟨rfl, rfl, rfl, trivial⟩ ⟨rfl, trivial⟩ ⟨rfl, trivial⟩ (by decide)) ?_
 rintro ⟨k, O, oc⟩ hk
 dsimp only at hk ⊢
 refine C.seq (C.seq (C.region ?_)); refine Lpu rfl rfl ?_; refine Lpu rfl rfl ?_; refine Lpu rfl rfl ?_; refine Lpu rfl rfl ?_; refine L.nil (QE.seq ?_)
 refine C.condB 9 rfl (fun hc9 => ?_) (fun hc9 => ?_)
 ·
  replace hc9 := of_decide_eq_true hc9
  have hbl : (codeB (l.take (k))).length ≤ 2000 := by rw [codeB_len, List.length_take]; omega
  have hst : (codeB (l.take (k + 1))) = (codeB (l.take (k))) ++ [l.getD k 0, ~~~(l.getD k 0)] := by rw [take_snoc' _ 0 k (by omega), codeB_app, codeB_one]
  refine C.skip (QE.seq (C.seq (C.block ?_))); refine C.regionM [Rd A (U8 l)] (Hq [0] rfl) ?_; refine LM.q 0 rfl (by kernel_rfl) (Ev.pure rfl) rfl (Hq [0] rfl) ?_; refine LM.q 1 rfl (by kernel_rfl) (Ev.pure rfl) rfl (Hq [0] rfl) ?_; refine LM.q 2 rfl (by kernel_rfl) (Ev.pure rfl) rfl (Hq [0] rfl) ?_; refine LM.q 3 rfl (by kernel_rfl) (Ev.idx1 (k := k) rfl rfl rfl rfl rfl rfl rfl (by omega) (Src.r 0 rfl) (by rw [U8_len]; omega)) rfl (Hq [0] rfl) ?_; refine LM.q 4 rfl (by kernel_rfl) (Ev.load rfl rfl rfl (Src.r 0 rfl) (U8_get (by omega))) rfl (Hq [0] rfl) ?_; refine LM.q 5 rfl (by kernel_rfl) (Ev.pure rfl) rfl (Hq [0] rfl) ?_; refine LM.f 6 rfl (by kernel_rfl) (Hq [0] rfl) ?_; refine Lpu rfl rfl ?_
  refine L.nil (QE.m (by kernel_rfl) ?_)
  refine LM.f 7 rfl (by kernel_rfl) (Hq [0] rfl) ?_; refine L.step (Ev.idx1 (k := k) rfl rfl rfl rfl rfl rfl rfl (by omega) (Src.r 0 rfl) (by rw [U8_len]; omega)) rfl ?_
  refine L.nil (QE.m (by kernel_rfl) ?_)
  refine LM.f 8 rfl (by kernel_rfl) (Hq [0] rfl) ?_; refine L.step (Ev.load rfl rfl rfl (Src.r 0 rfl) (U8_get (by omega))) rfl ?_
  refine L.nil (QE.m (by kernel_rfl) ?_)
  refine LM.f 9 rfl (by kernel_rfl) (Hq [0] rfl) ?_; refine L.step (Ev.sub255 rfl) rfl ?_
  refine L.nil (QE.m (by kernel_rfl) ?_)
  refine LM.f 10 rfl (by kernel_rfl) (Hq [0] rfl) ?_
  refine L.lit rfl rfl rfl rfl rfl (by rfl) (by rfl) (by rfl) rfl rfl (fun A22 => ?_)
  refine L.nil (QE.m (by kernel_rfl) ?_)
  refine LM.cut [] (by kernel_rfl) (Hq [0] rfl) ?_; refine LM.f 11 rfl (by kernel_rfl) trivial ?_
  refine L.append (j := 0) rfl rfl rfl rfl (by decide) rfl rfl rfl rfl (Src.o 1 rfl) rfl (by intro v hv; simp at hv; rcases hv with rfl | rfl <;> rfl) (by omega) (by show _ * 1 ≤ _; omega) rfl (fun A23 cc23 => ?_)
  refine L.nil (QE.m (by kernel_rfl) ?_)
  refine LM.f 12 rfl (by kernel_rfl) trivial ?_; refine Lpu rfl rfl ?_
  refine L.nil (QE.m (by kernel_rfl) ?_)
  refine LM.nil (by kernel_rfl) trivial ?_; refine QE.blkN ?_; refine QE.seq (C.region ?_); refine Lpu rfl rfl ?_; refine L.step (Ev.add rfl rfl (by omega) (by omega)) rfl ?_; refine Lpu rfl rfl ?_; refine L.nil ?_
  refine QE.round (i := (k, O, oc)) ((k + 1, A23, cc23)) (by dsimp only; omega) (by dsimp only; omega) (by exact Le.mk' (rs := [0]) (hs := [0]) ⟨rfl, (by dsimp only; rw [hst, List.length_append (bs := [_, _])]; rfl), rfl, trivial⟩ ⟨rfl, trivial⟩ ⟨(by exact congrArg some (own_eq (by dsimp only; rw [hst, List.length_append (bs := [_, _])]; rfl) (by dsimp only; rw [hst, ← U8_app _ [_, _]]; rfl))), trivial⟩ (by decide))
 ·
  replace hc9 := of_decide_eq_false hc9
  refine C.exit ?_; refine QE.tX ?_; refine QE.tX ?_; refine QE.blk ?_; refine QE.seq (C.seq (C.region ?_)); refine Lpu rfl rfl ?_; refine Lpu rfl rfl ?_; refine L.nil (QE.seq (C.ret ?_))
  obtain rfl : k = l.length := by omega
  rw [List.take_length]
  refine QE.ret (js := []) (hs := [0]) (vs := [_]) rfl ⟨rfl, trivial⟩ (by decide) ?_
  exact ⟨O, oc, rfl, rfl, rfl⟩

theorem numberR_c (m w : Nat) (hw : w ≤ 4) :
   Ctr X 41 [.int .i64 (m : Int), .int .i64 (w : Int)] [] [] (fun v R' H' => ∃ (O : Option Addr) (oc : Nat), v = .slice O w oc ∧ R' = [] ∧ H' = [Own 5 1 O w oc (U8 (numB m w))]) := by
 refine Ctr.of (X := X) (fn := Try.f41) Try.func41 rfl (by kernel_rfl) rfl ?_
 intro β
 refine C.seq (C.region ?_); refine Lpu rfl rfl ?_; refine L.nil (QE.seq (C.seq (C.region ?_)))
 refine L.lit rfl rfl rfl rfl rfl (by rfl) (by rfl) (by rfl) rfl rfl (fun A7 => ?_)
 refine Lpu rfl rfl ?_; refine L.nil (QE.seq (C.seq (C.seq (C.region ?_)))); refine Lpu rfl rfl ?_; refine L.step (Ev.sub rfl rfl (by omega) (by omega)) rfl ?_; refine Lpu rfl rfl ?_; refine L.nil (QE.seq (C.block ?_)); refine C.loop (fun q : Nat × Option Addr × Nat => [(0, .int .i64 (m : Int)), (5, .slice q.2.1 q.1 q.2.2), (6, .int .i64 ((w : Int) - 1 - (q.1 : Int)))]) (fun q : Nat × Option Addr × Nat => []) (fun q : Nat × Option Addr × Nat => [Own 5 1 q.2.1 q.1 q.2.2 (U8 ((numB m w).take q.1))]) (fun q : Nat × Option Addr × Nat => q.1 ≤ w) (fun q : Nat × Option Addr × Nat => w - q.1) (0, A7, 0) (Nat.zero_le _) (by exact Le.mk' (rs := []) (hs := [0]) ⟨rfl, rfl, (by show some (Value.int IntKind.i64 ((w : Int) - 1)) = _; simp), trivial⟩ trivial ⟨rfl, trivial⟩ (by decide)) ?_
 rintro ⟨k, O, oc⟩ hk
 dsimp only at hk ⊢
 refine C.seq (C.seq (C.region ?_)); refine Lpu rfl rfl ?_; refine Lpu rfl rfl ?_; refine L.nil (QE.seq ?_)
 refine C.condB 11 rfl (fun hc11 => ?_) (fun hc11 => ?_)
 ·
  replace hc11 := of_decide_eq_true hc11
  have hb : (numB m w).getD k 0 = UInt8.ofNat (m / 2 ^ (8 * (w - 1 - k))) := by rw [numB_get (by omega), pow256]
  refine C.skip (QE.seq (C.seq (C.block (C.region ?_)))); refine Lpu rfl rfl ?_; refine Lpu rfl rfl ?_; refine Lpu rfl rfl ?_; refine L.step (Ev.cast (u := .int .i64 ((8 * (w - 1 - k) : Nat) : Int)) (Ev.mul rfl rfl (by omega) (by omega)) (congrArg (Value.int .i64) (by omega))) rfl ?_; refine L.step (Ev.shrI rfl rfl (by omega)) rfl ?_; refine L.step (Ev.toByteN rfl rfl rfl rfl) rfl ?_
  refine L.lit rfl rfl rfl rfl rfl (by rfl) (by rfl) (by rfl) rfl rfl (fun A20 => ?_)
  refine L.append (j := 0) rfl rfl rfl rfl (by decide) rfl rfl rfl rfl (Src.o 1 rfl) rfl (by intro v hv; simp at hv; subst hv; rfl) (by omega) (by show _ * 1 ≤ _; omega) rfl (fun A21 cc21 => ?_)
  refine Lpu rfl rfl ?_; refine L.nil ?_; refine QE.blkN ?_; refine QE.seq (C.region ?_); refine Lpu rfl rfl ?_; refine L.step (Ev.sub rfl rfl (by omega) (by omega)) rfl ?_; refine Lpu rfl rfl ?_; refine L.nil ?_
  refine QE.round (i := (k, O, oc)) ((k + 1, A21, cc21)) (by dsimp only; omega) (by dsimp only; omega) (by exact Le.mk' (rs := []) (hs := [0]) ⟨rfl, rfl, (by exact congrArg some (congrArg (Value.int .i64) (by dsimp only; omega))), trivial⟩ trivial ⟨(by dsimp only; rw [take_snoc' _ 0 k (by rw [numB_len]; omega), hb, ← U8_app]; rfl), trivial⟩ (by decide))
 ·
  replace hc11 := of_decide_eq_false hc11
  refine C.exit ?_; refine QE.tX ?_; refine QE.tX ?_; refine QE.blk ?_; refine QE.seq (C.seq (C.region ?_)); refine Lpu rfl rfl ?_; refine Lpu rfl rfl ?_; refine L.nil (QE.seq (C.ret ?_))
  obtain rfl : k = w := by omega
  rw [List.take_of_length_le (by rw [numB_len]; omega)]
  refine QE.ret (js := []) (hs := [0]) (vs := [_]) rfl ⟨rfl, trivial⟩ (by decide) ?_
  exact ⟨O, oc, rfl, rfl, rfl⟩

theorem rightR_c (s : List Int) :
   Ctr X 40 [.agg (List.toArray (st9 s))] [] [] (fun v R' H' => v = .bool (rightS s) ∧ R' = [] ∧ H' = []) := by
 refine Ctr.of (X := X) (fn := Try.f40) Try.func40 rfl (by kernel_rfl) rfl ?_
 intro β
 refine C.seq (C.region ?_)
 refine L.boxA rfl rfl (fun A1 => ?_)
 refine Lpu rfl rfl ?_; refine L.nil (QE.seq (C.seq ?_)); refine C.freeze 0 rfl [] (by decide) (by decide) ?_; refine C.join (fun q : Option Addr × Option Addr => [(1, ptrOf A1 0), (3, ptrOf q.1 0), (4, ptrOf q.2 0)]) (fun q : Option Addr × Option Addr => [Rd A1 (st9 s)]) (fun q : Option Addr × Option Addr => [Own 118 5 q.1 1 1 (smV s), Own 119 3 q.2 1 1 (lgV s)]) (fun q : Option Addr × Option Addr => True) ?_ ?_
 ·
  refine C.regionM [Rd A1 (st9 s)] (Hq [0] rfl) ?_; refine LM.q 0 rfl (by kernel_rfl) (Ev.fieldAddr rfl rfl rfl rfl rfl rfl (Src.r 0 rfl) (Nat.zero_lt_succ _) rfl) rfl (Hq [0] rfl) ?_; refine LM.q 1 rfl (by kernel_rfl) (Ev.load rfl rfl rfl (Src.r 0 rfl) rfl) rfl (Hq [0] rfl) ?_; refine LM.q 2 rfl (by kernel_rfl) (Ev.fieldAddr rfl rfl rfl rfl rfl rfl (Src.r 0 rfl) (Nat.zero_lt_succ _) rfl) rfl (Hq [0] rfl) ?_; refine LM.q 3 rfl (by kernel_rfl) (Ev.load rfl rfl rfl (Src.r 0 rfl) rfl) rfl (Hq [0] rfl) ?_; refine LM.q 4 rfl (by kernel_rfl) (Ev.fieldAddr rfl rfl rfl rfl rfl rfl (Src.r 0 rfl) (Nat.zero_lt_succ _) rfl) rfl (Hq [0] rfl) ?_; refine LM.q 5 rfl (by kernel_rfl) (Ev.load rfl rfl rfl (Src.r 0 rfl) rfl) rfl (Hq [0] rfl) ?_; refine LM.q 6 rfl (by kernel_rfl) (Ev.fieldAddr rfl rfl rfl rfl rfl rfl (Src.r 0 rfl) (Nat.zero_lt_succ _) rfl) rfl (Hq [0] rfl) ?_; refine LM.q 7 rfl (by kernel_rfl) (Ev.load rfl rfl rfl (Src.r 0 rfl) rfl) rfl (Hq [0] rfl) ?_; refine LM.q 8 rfl (by kernel_rfl) (Ev.fieldAddr rfl rfl rfl rfl rfl rfl (Src.r 0 rfl) (Nat.zero_lt_succ _) rfl) rfl (Hq [0] rfl) ?_; refine LM.q 9 rfl (by kernel_rfl) (Ev.load rfl rfl rfl (Src.r 0 rfl) rfl) rfl (Hq [0] rfl) ?_; refine LM.q 10 rfl (by kernel_rfl) (Ev.buildArr rfl rfl rfl rfl rfl rfl rfl) rfl (Hq [0] rfl) ?_; refine LM.q 11 rfl (by kernel_rfl) (Ev.fieldAddr rfl rfl rfl rfl rfl rfl (Src.r 0 rfl) (Nat.zero_lt_succ _) rfl) rfl (Hq [0] rfl) ?_; refine LM.q 12 rfl (by kernel_rfl) (Ev.load rfl rfl rfl (Src.r 0 rfl) rfl) rfl (Hq [0] rfl) ?_; refine LM.q 13 rfl (by kernel_rfl) (Ev.fieldAddr rfl rfl rfl rfl rfl rfl (Src.r 0 rfl) (Nat.zero_lt_succ _) rfl) rfl (Hq [0] rfl) ?_; refine LM.q 14 rfl (by kernel_rfl) (Ev.load rfl rfl rfl (Src.r 0 rfl) rfl) rfl (Hq [0] rfl) ?_; refine LM.q 15 rfl (by kernel_rfl) (Ev.fieldAddr rfl rfl rfl rfl rfl rfl (Src.r 0 rfl) (Nat.zero_lt_succ _) rfl) rfl (Hq [0] rfl) ?_; refine LM.q 16 rfl (by kernel_rfl) (Ev.load rfl rfl rfl (Src.r 0 rfl) rfl) rfl (Hq [0] rfl) ?_; refine LM.q 17 rfl (by kernel_rfl) (Ev.buildArr rfl rfl rfl rfl rfl rfl rfl) rfl (Hq [0] rfl) ?_
  refine LM.alt [18, 19] (by kernel_rfl) (by decide) (Hq [0] rfl) ⟨⟨_, rfl, ?_⟩, ⟨_, rfl, ?_⟩, trivial⟩
  ·
   refine L.alloc rfl rfl rfl (fun A3 => ?_)
   refine L.nil (QE.m (by kernel_rfl) ?_)
   refine LM.f 19 rfl (by kernel_rfl) (Hq [0] rfl) ?_
   refine L.alloc rfl rfl rfl (fun A4 => ?_)
   refine L.nil (QE.m (by kernel_rfl) ?_)
   refine LM.f 20 rfl (by kernel_rfl) (Hq [0] rfl) ?_; refine L.storeA (j := 0) rfl rfl rfl rfl rfl (Nat.zero_lt_succ _) rfl rfl ?_
   refine L.nil (QE.m (by kernel_rfl) ?_)
   refine LM.cut [] (by kernel_rfl) (Hq [0] rfl) ?_; refine LM.f 21 rfl (by kernel_rfl) trivial ?_; refine L.storeA (j := 1) rfl rfl rfl rfl rfl (Nat.zero_lt_succ _) rfl rfl ?_
   refine L.nil (QE.m (by kernel_rfl) ?_)
   refine LM.nil (by kernel_rfl) trivial ?_
   first | exact QE.joined ((A3, A4)) trivial (by exact Le.mk' (rs := [0]) (hs := [0, 1]) ⟨rfl, rfl, rfl, trivial⟩ ⟨rfl, trivial⟩ ⟨rfl, rfl, trivial⟩ (by decide)) | exact QE.joined ((A3, A4)) trivial (by exact Le.mk' (rs := [0]) (hs := [1, 0]) ⟨rfl, rfl, rfl, trivial⟩ ⟨rfl, trivial⟩ ⟨rfl, rfl, trivial⟩ (by decide))
  ·
   refine L.alloc rfl rfl rfl (fun A4 => ?_)
   refine L.nil (QE.m (by kernel_rfl) ?_)
   refine LM.f 18 rfl (by kernel_rfl) (Hq [0] rfl) ?_
   refine L.alloc rfl rfl rfl (fun A3 => ?_)
   refine L.nil (QE.m (by kernel_rfl) ?_)
   refine LM.f 20 rfl (by kernel_rfl) (Hq [0] rfl) ?_; refine L.storeA (j := 1) rfl rfl rfl rfl rfl (Nat.zero_lt_succ _) rfl rfl ?_
   refine L.nil (QE.m (by kernel_rfl) ?_)
   refine LM.cut [] (by kernel_rfl) (Hq [0] rfl) ?_; refine LM.f 21 rfl (by kernel_rfl) trivial ?_; refine L.storeA (j := 0) rfl rfl rfl rfl rfl (Nat.zero_lt_succ _) rfl rfl ?_
   refine L.nil (QE.m (by kernel_rfl) ?_)
   refine LM.nil (by kernel_rfl) trivial ?_
   first | exact QE.joined ((A3, A4)) trivial (by exact Le.mk' (rs := [0]) (hs := [0, 1]) ⟨rfl, rfl, rfl, trivial⟩ ⟨rfl, trivial⟩ ⟨rfl, rfl, trivial⟩ (by decide)) | exact QE.joined ((A3, A4)) trivial (by exact Le.mk' (rs := [0]) (hs := [1, 0]) ⟨rfl, rfl, rfl, trivial⟩ ⟨rfl, trivial⟩ ⟨rfl, rfl, trivial⟩ (by decide))
 ·
  rintro ⟨A3, A4⟩ _
  dsimp only
  refine QE.seq (C.seq (C.seq (C.region ?_))); refine Lpu rfl rfl ?_; refine L.nil (QE.seq (C.block ?_)); refine C.loop (fun k : Nat => [(1, ptrOf A1 0), (3, ptrOf A3 0), (4, ptrOf A4 0), (5, .int .i64 (k : Int))]) (fun k : Nat => [Rd A1 (st9 s)]) (fun k : Nat => [Own 118 5 A3 1 1 (smV s), Own 119 3 A4 1 1 (lgV s)]) (fun k : Nat => k ≤ 5 ∧ small s k) (fun k : Nat => 5 - k) 0 ⟨by decide, fun j hj => by omega⟩ (by exact Le.mk' (rs := [0]) (hs := [0, 1]) ⟨rfl, rfl, rfl, rfl, trivial⟩ ⟨rfl, trivial⟩ ⟨rfl, rfl, trivial⟩ (by decide)) ?_
  rintro k ⟨hk, hs⟩
  refine C.seq (C.seq (C.region ?_)); refine Lpu rfl rfl ?_; refine Lpu rfl rfl ?_; refine L.nil (QE.seq ?_)
  refine C.condB 26 rfl (fun hc26 => ?_) (fun hc26 => ?_)
  ·
   replace hc26 := of_decide_eq_true hc26
   refine C.skip (QE.seq (C.seq (C.block (C.seq (C.region ?_))))); refine Lpu rfl rfl ?_; refine L.step (Ev.idxArr (k := k) (m := k) rfl rfl rfl rfl rfl rfl (by omega) (Src.o 0 rfl) (by exact Nat.zero_lt_succ _) (by rw [Nat.zero_add]; exact Nat.mul_one _)) rfl ?_; refine L.step (Ev.load rfl rfl rfl (Src.o 0 rfl) (smV_get s (by omega))) rfl ?_; refine L.call (js := []) (js' := [0, 1]) (in_c _ _ _) rfl rfl rfl (by decide) trivial rfl ?_
   rintro _ _ _ ⟨rfl, rfl, rfl⟩
   refine Lpu rfl rfl ?_; refine L.nil (QE.seq ?_)
   refine C.condB 33 rfl (fun hc33 => ?_) (fun hc33 => ?_)
   ·
    have q : ¬(0 ≤ s.getD (smI.getD k 0) 0 ∧ s.getD (smI.getD k 0) 0 ≤ 255) := by simp [-List.getD_eq_getElem?_getD] at hc33; omega
    refine C.seq (C.region ?_); refine Lpu rfl rfl ?_; refine L.nil (QE.seq (C.ret (QE.bR (QE.tR (QE.tR (QE.bR (QE.tR ?_))))))); refine QE.ret (js := []) (hs := []) (vs := [_]) rfl ⟨rfl, trivial⟩ (by decide) ?_
    refine ⟨congrArg Value.bool ?_, rfl, rfl⟩
    symm
    rw [← Bool.not_eq_true, right_all]
    exact fun h => q (h.1 k (by omega))
   ·
    have q : 0 ≤ s.getD (smI.getD k 0) 0 ∧ s.getD (smI.getD k 0) 0 ≤ 255 := by simp [-List.getD_eq_getElem?_getD] at hc33; omega
    refine C.skip ?_; refine QE.blkN ?_; refine QE.seq (C.region ?_); refine Lpu rfl rfl ?_; refine L.step (Ev.add rfl rfl (by omega) (by omega)) rfl ?_; refine Lpu rfl rfl ?_; refine L.nil ?_
    refine QE.round (k + 1) (by exact ⟨by omega, small_next hs q⟩) (by omega) (by exact Le.mk' (rs := [0]) (hs := [0, 1]) ⟨rfl, rfl, rfl, rfl, trivial⟩ ⟨rfl, trivial⟩ ⟨rfl, rfl, trivial⟩ (by decide))
  ·
   replace hc26 := of_decide_eq_false hc26
   refine C.exit ?_; refine QE.tX ?_; refine QE.tX ?_; refine QE.blk ?_; refine QE.seq (C.seq (C.seq (C.region ?_))); refine Lpu rfl rfl ?_; refine L.nil (QE.seq (C.block ?_)); refine C.loop (fun k : Nat => [(1, ptrOf A1 0), (4, ptrOf A4 0), (6, .int .i64 (k : Int))]) (fun k : Nat => [Rd A1 (st9 s)]) (fun k : Nat => [Own 119 3 A4 1 1 (lgV s)]) (fun k : Nat => k ≤ 3 ∧ large s k) (fun k : Nat => 3 - k) 0 ⟨by decide, fun j hj => by omega⟩ (by exact Le.mk' (rs := [0]) (hs := [1]) ⟨rfl, rfl, rfl, trivial⟩ ⟨rfl, trivial⟩ ⟨rfl, trivial⟩ (by decide)) ?_
   obtain rfl : k = 5 := by omega
   rintro k ⟨hk3, hl⟩
   refine C.seq (C.seq (C.region ?_)); refine Lpu rfl rfl ?_; refine Lpu rfl rfl ?_; refine L.nil (QE.seq ?_)
   refine C.condB 35 rfl (fun hc35 => ?_) (fun hc35 => ?_)
   ·
    replace hc35 := of_decide_eq_true hc35
    refine C.skip (QE.seq (C.seq (C.block (C.seq (C.region ?_))))); refine Lpu rfl rfl ?_; refine L.step (Ev.idxArr (k := k) (m := k) rfl rfl rfl rfl rfl rfl (by omega) (Src.o 0 rfl) (by exact Nat.zero_lt_succ _) (by rw [Nat.zero_add]; exact Nat.mul_one _)) rfl ?_; refine L.step (Ev.load rfl rfl rfl (Src.o 0 rfl) (lgV_get s (by omega))) rfl ?_; refine L.call (js := []) (js' := [0]) (in_c _ _ _) rfl rfl rfl (by decide) trivial rfl ?_
    rintro _ _ _ ⟨rfl, rfl, rfl⟩
    refine Lpu rfl rfl ?_; refine L.nil (QE.seq ?_)
    refine C.condB 42 rfl (fun hc42 => ?_) (fun hc42 => ?_)
    ·
     have q : ¬(0 ≤ s.getD (lgI.getD k 0) 0 ∧ s.getD (lgI.getD k 0) 0 ≤ 65535) := by simp [-List.getD_eq_getElem?_getD] at hc42; omega
     refine C.seq (C.region ?_); refine Lpu rfl rfl ?_; refine L.nil (QE.seq (C.ret (QE.bR (QE.tR (QE.tR (QE.bR (QE.tR ?_))))))); refine QE.ret (js := []) (hs := []) (vs := [_]) rfl ⟨rfl, trivial⟩ (by decide) ?_
     refine ⟨congrArg Value.bool ?_, rfl, rfl⟩
     symm
     rw [← Bool.not_eq_true, right_all]
     exact fun h => q (h.2.1 k (by omega))
    ·
     have q : 0 ≤ s.getD (lgI.getD k 0) 0 ∧ s.getD (lgI.getD k 0) 0 ≤ 65535 := by simp [-List.getD_eq_getElem?_getD] at hc42; omega
     refine C.skip ?_; refine QE.blkN ?_; refine QE.seq (C.region ?_); refine Lpu rfl rfl ?_; refine L.step (Ev.add rfl rfl (by omega) (by omega)) rfl ?_; refine Lpu rfl rfl ?_; refine L.nil ?_
     refine QE.round (k + 1) (by exact ⟨by omega, large_next hl q⟩) (by omega) (by exact Le.mk' (rs := [0]) (hs := [0]) ⟨rfl, rfl, rfl, trivial⟩ ⟨rfl, trivial⟩ ⟨rfl, trivial⟩ (by decide))
   ·
    replace hc35 := of_decide_eq_false hc35
    refine C.exit ?_; refine QE.tX ?_; refine QE.tX ?_; refine QE.blk ?_; refine QE.seq (C.seq (C.region ?_)); refine L.step (Ev.fieldAddr rfl rfl rfl rfl rfl rfl (Src.r 0 rfl) (Nat.zero_lt_succ _) rfl) rfl ?_; refine L.step (Ev.load rfl rfl rfl (Src.r 0 rfl) rfl) rfl ?_; refine L.call (js := []) (js' := [0]) (in_c _ _ _) rfl rfl rfl (by decide) trivial rfl ?_
    rintro _ _ _ ⟨rfl, rfl, rfl⟩
    refine Lpu rfl rfl ?_; refine L.nil (QE.seq (C.ret ?_))
    obtain rfl : k = 3 := by omega
    refine QE.ret (js := []) (hs := []) (vs := [_]) rfl ⟨rfl, trivial⟩ (by decide) ?_
    refine ⟨congrArg Value.bool ?_, rfl, rfl⟩
    rw [Bool.eq_iff_iff, right_all, Bool.and_eq_true, decide_eq_true_eq, decide_eq_true_eq]
    exact ⟨fun h => ⟨hs, hl, h⟩, fun h => h.2.2⟩

end Go.Proofs.Ytmbjknampholjaa
