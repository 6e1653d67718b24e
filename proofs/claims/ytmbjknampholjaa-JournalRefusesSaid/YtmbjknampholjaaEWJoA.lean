/-
  The contracts of the journal: put, fields, Slot.
-/
import Derived.Test.YtmbjknampholjaaESlK
import Derived.Test.YtmbjknampholjaaEJa
import Derived.Test.YtmbjknampholjaaEWFlH
import Derived.Test.YtmbjknampholjaaEWFlJ
namespace Go.Proofs.Ytmbjknampholjaa
open Go.Sl

theorem pow256 (m i : Nat) : UInt8.ofNat (m / 256 ^ i) = UInt8.ofNat (m / 2 ^ (8 * i)) := by rw [Nat.pow_mul]

theorem put_c (D A : Option Addr) (l : List UInt8) (c m w : Nat) (hl : l.length ≤ 1000) (hw : w ≤ 4) :
   Ctr X 39 [ptrOf D 0, .int .i64 (m : Int), .int .i64 (w : Int)] [] [Own 86 1 D 1 1 [.slice A l.length c], Own 5 1 A l.length c (U8 l)] (fun v R' H' => ∃ (A' : Option Addr) (c' : Nat), v = .tuple #[] ∧ R' = [] ∧ H' = [Own 86 1 D 1 1 [.slice A' (l ++ codeB (numB m w)).length c'], Own 5 1 A' (l ++ codeB (numB m w)).length c' (U8 (l ++ codeB (numB m w)))]) := by
 refine Ctr.of (X := X) (fn := Try.f39) Try.func39 rfl (by kernel_rfl) rfl ?_
 intro β
 refine C.seq (C.region ?_); refine Lpu rfl rfl ?_; refine L.step (Ev.sub rfl rfl (by omega) (by omega)) rfl ?_; refine Lpu rfl rfl ?_; refine L.nil (QE.seq (C.block ?_)); refine C.loop (fun q : Nat × Option Addr × Nat => [(0, ptrOf D 0), (1, .int .i64 (m : Int)), (6, .int .i64 ((w : Int) - 1 - (q.1 : Int)))]) (fun q : Nat × Option Addr × Nat => []) (fun q : Nat × Option Addr × Nat => [Own 86 1 D 1 1 [.slice q.2.1 (l ++ codeB ((numB m w).take (q.1))).length q.2.2], Own 5 1 q.2.1 (l ++ codeB ((numB m w).take (q.1))).length q.2.2 (U8 (l ++ codeB ((numB m w).take (q.1))))]) (fun q : Nat × Option Addr × Nat => q.1 ≤ w) (fun q : Nat × Option Addr × Nat => w - q.1) (0, A, c) (Nat.zero_le _) (by exact Le.mk' (rs := []) (hs := [0, 1]) ⟨rfl, rfl, (by show some (Value.int IntKind.i64 ((w : Int) - 1)) = _; simp), trivial⟩ trivial ⟨(by simp [codeB]), (by simp [codeB]), trivial⟩ (by decide)) ?_
 rintro ⟨k, A, c⟩ hk
 dsimp only at hk ⊢
 refine C.seq (C.seq (C.region ?_)); refine Lpu rfl rfl ?_; refine Lpu rfl rfl ?_; refine L.nil (QE.seq ?_)
 refine C.condB 11 rfl (fun hc11 => ?_) (fun hc11 => ?_)
 ·
  replace hc11 := of_decide_eq_true hc11
  have hb : (numB m w).getD k 0 = UInt8.ofNat (m / 2 ^ (8 * (w - 1 - k))) := by rw [numB_get (by omega), pow256]
  have hbl : (l ++ codeB ((numB m w).take (k))).length ≤ 1100 := by rw [List.length_append, codeB_len, List.length_take, numB_len]; omega
  have hst : (l ++ codeB ((numB m w).take (k + 1))) = (l ++ codeB ((numB m w).take (k))) ++ [UInt8.ofNat (m / 2 ^ (8 * (w - 1 - k))), ~~~(UInt8.ofNat (m / 2 ^ (8 * (w - 1 - k))))] := by rw [take_snoc' _ 0 k (by rw [numB_len]; omega), codeB_app, hb, codeB_one, List.append_assoc]
  refine C.skip (QE.seq (C.seq (C.block (C.seq (C.region ?_))))); refine Lpu rfl rfl ?_; refine Lpu rfl rfl ?_; refine L.step (Ev.cast (u := .int .i64 ((8 * (w - 1 - k) : Nat) : Int)) (Ev.mul rfl rfl (by omega) (by omega)) (congrArg (Value.int .i64) (by omega))) rfl ?_; refine L.step (Ev.shrI rfl rfl (by omega)) rfl ?_; refine L.step (Ev.toByteN rfl rfl rfl rfl) rfl ?_; refine Lpu rfl rfl ?_; refine L.nil (QE.seq (C.region ?_)); refine Lpu rfl rfl ?_; refine Lpu rfl rfl ?_; refine L.step (Ev.nilCheck rfl (Src.o 0 rfl) (Nat.zero_lt_succ _)) rfl ?_; refine L.step (Ev.fieldAddr rfl rfl rfl rfl rfl rfl (Src.o 0 rfl) (Nat.zero_lt_succ _) rfl) rfl ?_; refine L.step (Ev.load rfl rfl rfl (Src.o 0 rfl) rfl) rfl ?_; refine Lpu rfl rfl ?_; refine Lpu rfl rfl ?_; refine L.step (Ev.com8 rfl) rfl ?_
  refine L.lit rfl rfl rfl rfl rfl (by rfl) (by rfl) (by rfl) rfl rfl (fun A27 => ?_)
  refine L.append (j := 1) rfl rfl rfl rfl (by decide) rfl rfl rfl rfl (Src.o 2 rfl) rfl (by intro v hv; simp at hv; rcases hv with rfl | rfl <;> rfl) (by omega) (by show _ * 1 ≤ _; omega) rfl (fun A28 cc28 => ?_)
  refine L.step (Ev.nilCheck rfl (Src.o 0 rfl) (by exact Nat.zero_lt_succ _)) rfl ?_; refine L.step (Ev.fieldAddr rfl rfl rfl rfl rfl rfl (Src.o 0 rfl) (by exact Nat.zero_lt_succ _) rfl) rfl ?_
  first | refine L.store (j := 0) rfl rfl rfl rfl rfl rfl rfl rfl ?_ | refine L.store (j := 1) rfl rfl rfl rfl rfl rfl rfl rfl ?_ | refine L.store (j := 2) rfl rfl rfl rfl rfl rfl rfl rfl ?_ | refine L.store (j := 3) rfl rfl rfl rfl rfl rfl rfl rfl ?_ | refine L.store (j := 4) rfl rfl rfl rfl rfl rfl rfl rfl ?_ | refine L.store (j := 5) rfl rfl rfl rfl rfl rfl rfl rfl ?_
  refine L.nil ?_; refine QE.blkN ?_; refine QE.seq (C.region ?_); refine Lpu rfl rfl ?_; refine L.step (Ev.sub rfl rfl (by omega) (by omega)) rfl ?_; refine Lpu rfl rfl ?_; refine L.nil ?_
  refine QE.round (i := (k, A, c)) ((k + 1, A28, cc28)) (by dsimp only; omega) (by dsimp only; omega) (by exact Le.mk' (rs := []) (hs := [0, 1]) ⟨rfl, rfl, (by exact congrArg some (congrArg (Value.int .i64) (by dsimp only; omega))), trivial⟩ trivial ⟨(by exact congrArg some (own_eq rfl (by dsimp only; rw [hst, List.length_append (bs := [_, _])]; rfl))), (by exact congrArg some (own_eq (by dsimp only; rw [hst, List.length_append (bs := [_, _])]; rfl) (by dsimp only; rw [hst, ← U8_app _ [_, _]]; rfl))), trivial⟩ (by decide))
 ·
  replace hc11 := of_decide_eq_false hc11
  refine C.exit ?_; refine QE.tX ?_; refine QE.tX ?_; refine QE.blk ?_; refine QE.retN ?_
  obtain rfl : k = w := by omega
  refine QE.ret (js := []) (hs := [0, 1]) (vs := []) rfl trivial (by decide) ?_
  rw [show (numB m k).take k = numB m k from by rw [List.take_of_length_le (by rw [numB_len]; omega)]]
  exact ⟨A, c, rfl, rfl, rfl⟩

theorem fields_c (S : Option Addr) (s : List Int) (hs : s.length = 9) :
   Ctr X 38 [ptrOf S 0] [Rd S (I64 s)] [] (fun v R' H' => ∃ A, v = .slice A 9 9 ∧ R' = [] ∧ H' = [Own 92 2 A 9 9 (fieldsV S)]) := by
 refine Ctr.of (X := X) (fn := Try.f38) Try.func38 rfl (by kernel_rfl) rfl ?_
 intro β
 refine C.seq (C.region ?_); refine Lpu rfl rfl ?_; refine L.nil (QE.seq (C.seq ?_)); refine C.regionM [Rd S (I64 s)] (Hq [0] rfl) ?_; refine LM.q 0 rfl (by kernel_rfl) (Ev.pure rfl) rfl (Hq [0] rfl) ?_; refine LM.q 1 rfl (by kernel_rfl) (Ev.nilCheck rfl (Src.r 0 rfl) (by rw [I64_len]; omega)) rfl (Hq [0] rfl) ?_; refine LM.q 2 rfl (by kernel_rfl) (Ev.fieldAddr rfl rfl rfl rfl rfl rfl (Src.r 0 rfl) (by rw [I64_len]; omega) rfl) rfl (Hq [0] rfl) ?_; refine LM.q 3 rfl (by kernel_rfl) (Ev.build rfl rfl rfl rfl rfl rfl rfl) rfl (Hq [0] rfl) ?_; refine LM.q 4 rfl (by kernel_rfl) (Ev.pure rfl) rfl (Hq [0] rfl) ?_; refine LM.q 5 rfl (by kernel_rfl) (Ev.nilCheck rfl (Src.r 0 rfl) (by rw [I64_len]; omega)) rfl (Hq [0] rfl) ?_; refine LM.q 6 rfl (by kernel_rfl) (Ev.fieldAddr rfl rfl rfl rfl rfl rfl (Src.r 0 rfl) (by rw [I64_len]; omega) rfl) rfl (Hq [0] rfl) ?_; refine LM.q 7 rfl (by kernel_rfl) (Ev.build rfl rfl rfl rfl rfl rfl rfl) rfl (Hq [0] rfl) ?_; refine LM.q 8 rfl (by kernel_rfl) (Ev.pure rfl) rfl (Hq [0] rfl) ?_; refine LM.q 9 rfl (by kernel_rfl) (Ev.nilCheck rfl (Src.r 0 rfl) (by rw [I64_len]; omega)) rfl (Hq [0] rfl) ?_; refine LM.q 10 rfl (by kernel_rfl) (Ev.fieldAddr rfl rfl rfl rfl rfl rfl (Src.r 0 rfl) (by rw [I64_len]; omega) rfl) rfl (Hq [0] rfl) ?_; refine LM.q 11 rfl (by kernel_rfl) (Ev.build rfl rfl rfl rfl rfl rfl rfl) rfl (Hq [0] rfl) ?_; refine LM.q 12 rfl (by kernel_rfl) (Ev.pure rfl) rfl (Hq [0] rfl) ?_; refine LM.q 13 rfl (by kernel_rfl) (Ev.nilCheck rfl (Src.r 0 rfl) (by rw [I64_len]; omega)) rfl (Hq [0] rfl) ?_; refine LM.q 14 rfl (by kernel_rfl) (Ev.fieldAddr rfl rfl rfl rfl rfl rfl (Src.r 0 rfl) (by rw [I64_len]; omega) rfl) rfl (Hq [0] rfl) ?_; refine LM.q 15 rfl (by kernel_rfl) (Ev.build rfl rfl rfl rfl rfl rfl rfl) rfl (Hq [0] rfl) ?_; refine LM.q 16 rfl (by kernel_rfl) (Ev.pure rfl) rfl (Hq [0] rfl) ?_; refine LM.q 17 rfl (by kernel_rfl) (Ev.nilCheck rfl (Src.r 0 rfl) (by rw [I64_len]; omega)) rfl (Hq [0] rfl) ?_; refine LM.q 18 rfl (by kernel_rfl) (Ev.fieldAddr rfl rfl rfl rfl rfl rfl (Src.r 0 rfl) (by rw [I64_len]; omega) rfl) rfl (Hq [0] rfl) ?_; refine LM.q 19 rfl (by kernel_rfl) (Ev.build rfl rfl rfl rfl rfl rfl rfl) rfl (Hq [0] rfl) ?_; refine LM.q 20 rfl (by kernel_rfl) (Ev.pure rfl) rfl (Hq [0] rfl) ?_; refine LM.q 21 rfl (by kernel_rfl) (Ev.nilCheck rfl (Src.r 0 rfl) (by rw [I64_len]; omega)) rfl (Hq [0] rfl) ?_; refine LM.q 22 rfl (by kernel_rfl) (Ev.fieldAddr rfl rfl rfl rfl rfl rfl (Src.r 0 rfl) (by rw [I64_len]; omega) rfl) rfl (Hq [0] rfl) ?_; refine LM.q 23 rfl (by kernel_rfl) (Ev.build rfl rfl rfl rfl rfl rfl rfl) rfl (Hq [0] rfl) ?_; refine LM.q 24 rfl (by kernel_rfl) (Ev.pure rfl) rfl (Hq [0] rfl) ?_; refine LM.q 25 rfl (by kernel_rfl) (Ev.nilCheck rfl (Src.r 0 rfl) (by rw [I64_len]; omega)) rfl (Hq [0] rfl) ?_; refine LM.q 26 rfl (by kernel_rfl) (Ev.fieldAddr rfl rfl rfl rfl rfl rfl (Src.r 0 rfl) (by rw [I64_len]; omega) rfl) rfl (Hq [0] rfl) ?_; refine LM.q 27 rfl (by kernel_rfl) (Ev.build rfl rfl rfl rfl rfl rfl rfl) rfl (Hq [0] rfl) ?_; refine LM.q 28 rfl (by kernel_rfl) (Ev.pure rfl) rfl (Hq [0] rfl) ?_; refine LM.q 29 rfl (by kernel_rfl) (Ev.nilCheck rfl (Src.r 0 rfl) (by rw [I64_len]; omega)) rfl (Hq [0] rfl) ?_; refine LM.q 30 rfl (by kernel_rfl) (Ev.fieldAddr rfl rfl rfl rfl rfl rfl (Src.r 0 rfl) (by rw [I64_len]; omega) rfl) rfl (Hq [0] rfl) ?_; refine LM.q 31 rfl (by kernel_rfl) (Ev.build rfl rfl rfl rfl rfl rfl rfl) rfl (Hq [0] rfl) ?_; refine LM.f 32 rfl (by kernel_rfl) (Hq [0] rfl) ?_; refine Lpu rfl rfl ?_
 refine L.nil (QE.m (by kernel_rfl) ?_)
 refine LM.f 33 rfl (by kernel_rfl) (Hq [0] rfl) ?_; refine L.step (Ev.nilCheck rfl (Src.r 0 rfl) (by rw [I64_len]; omega)) rfl ?_
 refine L.nil (QE.m (by kernel_rfl) ?_)
 refine LM.f 34 rfl (by kernel_rfl) (Hq [0] rfl) ?_; refine L.step (Ev.fieldAddr rfl rfl rfl rfl rfl rfl (Src.r 0 rfl) (by rw [I64_len]; omega) rfl) rfl ?_
 refine L.nil (QE.m (by kernel_rfl) ?_)
 refine LM.f 35 rfl (by kernel_rfl) (Hq [0] rfl) ?_; refine L.step (Ev.build rfl rfl rfl rfl rfl rfl rfl) rfl ?_
 refine L.nil (QE.m (by kernel_rfl) ?_)
 refine LM.cut [] (by kernel_rfl) (Hq [0] rfl) ?_; refine LM.f 36 rfl (by kernel_rfl) trivial ?_
 refine L.litS (cs := fieldsV S) rfl rfl rfl rfl rfl (by kernel_rfl) rfl rfl rfl rfl rfl (fun A39 => ?_)
 refine L.nil (QE.m (by kernel_rfl) ?_)
 refine LM.f 37 rfl (by kernel_rfl) trivial ?_; refine Lpu rfl rfl ?_
 refine L.nil (QE.m (by kernel_rfl) ?_)
 refine LM.nil (by kernel_rfl) trivial ?_; refine QE.seq (C.ret ?_); refine QE.ret (js := []) (hs := [0]) (vs := [_]) rfl ⟨rfl, trivial⟩ (by decide) ?_
 exact ⟨A39, rfl, rfl, rfl⟩

theorem slotP_c (s : List Int) (hs : s.length = 9) :
   Ctr X 15 [.agg (List.toArray (st9 s))] [] [] (fun v R' H' => ∃ (A : Option Addr) (c : Nat), v = .slice A (slotF s).length c ∧ A.isSome = rightS s ∧ R' = [] ∧ H' = [Own 5 1 A (slotF s).length c (U8 (slotF s))]) := by
 rw [← st9_eq hs]
 refine Ctr.of (X := X) (fn := Try.f15) Try.func15 rfl (by kernel_rfl) rfl ?_
 intro β
 refine C.seq (C.region ?_)
 refine L.boxA rfl rfl (fun A1 => ?_)
 refine Lpu rfl rfl ?_; refine L.nil (QE.seq (C.seq ?_)); refine C.freeze 0 rfl [] (by decide) (by decide) ?_; refine C.region ?_; refine L.step (Ev.build rfl rfl rfl rfl rfl rfl rfl) rfl ?_
 refine L.boxA rfl rfl (fun A7 => ?_)
 refine Lpu rfl rfl ?_; refine L.nil (QE.seq (C.seq (C.seq (C.region ?_)))); refine L.call (js := []) (js' := [0]) (fields_c A1 s hs) rfl rfl rfl (by decide) (Hq [0] rfl) rfl ?_
 rintro _ _ _ ⟨A8, rfl, rfl, rfl⟩
 refine L.norm (H' := [_, _]) [0, 1] ⟨rfl, rfl, trivial⟩ (by decide) ?_; refine Lpu rfl rfl ?_; refine Lpu rfl rfl ?_; refine L.nil (QE.seq (C.block ?_)); refine C.nil_own 5 1 ?_; refine C.loop (fun q : Nat × Option Addr × Nat => [(1, ptrOf A1 0), (3, ptrOf A7 0), (8, .slice A8 9 9), (9, .int .i64 9), (10, .int .i64 (q.1 : Int))]) (fun q : Nat × Option Addr × Nat => [Rd A1 (I64 s)]) (fun q : Nat × Option Addr × Nat => [Own 92 2 A8 9 9 (fieldsV A1), Own 86 1 A7 1 1 [.slice q.2.1 (codeB (bytesTo s (q.1))).length q.2.2], Own 5 1 q.2.1 (codeB (bytesTo s (q.1))).length q.2.2 (U8 (codeB (bytesTo s (q.1))))]) (fun q : Nat × Option Addr × Nat => q.1 ≤ 9 ∧ rightTo s q.1 = true) (fun q : Nat × Option Addr × Nat => 9 - q.1) (0, none, 0) ⟨Nat.zero_le _, rfl⟩ (by exact Le.mk' (rs := [0]) (hs := [0, 1, 2]) ⟨rfl, rfl, rfl, rfl, rfl, trivial⟩ ⟨rfl, trivial⟩ ⟨rfl, rfl, rfl, trivial⟩ (by decide)) ?_
 rintro ⟨k, A, c⟩ ⟨hk, hr⟩
 dsimp only at hk hr ⊢
 refine C.seq (C.region ?_); refine Lpu rfl rfl ?_; refine L.nil (QE.seq (C.seq ?_))
 refine C.condB 11 rfl (fun hc11 => ?_) (fun hc11 => ?_)
 ·
  replace hc11 := of_decide_eq_true hc11
  have hw := wds_le (k := k) (by omega)
  have hbl : (codeB (bytesTo s (k))).length ≤ 30 := by rw [codeB_len]; have := bytesTo_le s (k := k) (by omega); omega
  refine C.skip (QE.seq (C.seq (C.block (C.seq (C.region ?_))))); refine L.step (Ev.idx (k := k) (m := k * 2) rfl rfl rfl rfl rfl rfl (by omega) (Src.o 0 rfl) (by exact Nat.zero_lt_succ _) rfl) rfl ?_; refine L.step (Ev.loadA (k := k * 2) rfl rfl rfl (Src.o 0 rfl) (fieldsV_at A1 (by omega)) rfl (by decide)) rfl ?_
  refine L.alloc rfl rfl rfl (fun A5 => ?_)
  refine L.storeA (j := 3) rfl rfl rfl rfl rfl (Nat.zero_lt_succ _) rfl rfl ?_; refine L.nil (QE.seq (C.seq (C.seq ?_))); refine C.regionQ (by kernel_rfl) ?_; refine LQ.step (Ev.fieldAddr rfl rfl rfl rfl rfl rfl (Src.o 3 rfl) (Nat.zero_lt_succ _) rfl) rfl ?_; refine LQ.step (Ev.load rfl rfl rfl (Src.o 3 rfl) rfl) rfl ?_; refine LQ.step (Ev.nilCheck rfl (Src.r 0 rfl) (by rw [I64_len]; omega)) rfl ?_; refine LQ.step (Ev.load rfl rfl rfl (Src.r 0 rfl) (I64_get (by omega))) rfl ?_; refine LQ.step (Ev.pure rfl) rfl ?_; refine LQ.step (Ev.pure rfl) rfl ?_
  refine LQ.bool 19 rfl (fun hg19 => ?_) (fun hg19 => ?_)
  ·
   replace hg19 := of_decide_eq_true hg19
   refine LQ.no rfl rfl rfl ?_; refine LQ.no rfl rfl rfl ?_; refine LQ.no rfl rfl rfl ?_; refine LQ.no rfl rfl rfl ?_; refine LQ.no rfl rfl rfl ?_; refine LQ.no rfl rfl rfl ?_; refine LQ.no rfl rfl rfl ?_; refine LQ.no rfl rfl rfl ?_; refine LQ.no rfl rfl rfl ?_; refine LQ.step (Ev.pure rfl) rfl ?_; refine LQ.nil ?_; refine QE.seq ?_
   refine C.cond rfl (fun _ => ?_) (fun h => by cases h)
   refine C.seq (C.region ?_); refine Lpu rfl rfl ?_; refine L.nil (QE.seq (C.ret (QE.tR (QE.bR (QE.tR (QE.tR (QE.bR (QE.tR ?_)))))))); refine QE.nil_own 5 1 ?_
   have hno : rightS s = false := rightTo_no (k := k) (by omega) (by unfold fitW; exact decide_eq_false (by omega))
   refine QE.ret (js := []) (hs := [4]) (vs := [_]) rfl ⟨rfl, trivial⟩ (by decide) ?_
   exact ⟨none, 0, by rw [slotF_no hno]; rfl, hno.symm, rfl, by rw [slotF_no hno]; rfl⟩
  ·
   replace hg19 := of_decide_eq_false hg19
   refine LQ.yes rfl ?_; refine LQ.step (Ev.fieldAddr rfl rfl rfl rfl rfl rfl (Src.o 3 rfl) (Nat.zero_lt_succ _) rfl) rfl ?_; refine LQ.yes rfl ?_; refine LQ.step (Ev.load rfl rfl rfl (Src.o 3 rfl) rfl) rfl ?_; refine LQ.yes rfl ?_; refine LQ.step (Ev.nilCheck rfl (Src.r 0 rfl) (by rw [I64_len]; omega)) rfl ?_; refine LQ.yes rfl ?_; refine LQ.step (Ev.load rfl rfl rfl (Src.r 0 rfl) (I64_get (by omega))) rfl ?_; refine LQ.yes rfl ?_; refine LQ.step (Ev.fieldAddr rfl rfl rfl rfl rfl rfl (Src.o 3 rfl) (Nat.zero_lt_succ _) rfl) rfl ?_; refine LQ.yes rfl ?_; refine LQ.step (Ev.load rfl rfl rfl (Src.o 3 rfl) rfl) rfl ?_; refine LQ.yes rfl ?_; refine LQ.step (Ev.cast (u := .int .i64 ((8 * (wds.getD k 0) : Nat) : Int)) (Ev.mul rfl rfl (by omega) (by omega)) (congrArg (Value.int .i64) (by omega))) rfl ?_; refine LQ.yes rfl ?_; refine LQ.step (Ev.cast (u := .int .i64 ((256 ^ (wds.getD k 0) : Nat) : Int)) (Ev.shlI (m := 1) rfl rfl (by omega) (by rw [Nat.one_mul]; exact Nat.lt_of_le_of_lt (Nat.pow_le_pow_right (n := 2) (by decide) (show 8 * (wds.getD k 0) ≤ 32 by omega)) (by decide))) (by rw [Nat.one_mul, Nat.pow_mul])) rfl ?_; refine LQ.yes rfl ?_; refine LQ.step (Ev.pure rfl) rfl ?_; refine LQ.step (Ev.pure rfl) rfl ?_; refine LQ.nil ?_; refine QE.seq ?_
   refine C.condB 29 rfl (fun hc29 => ?_) (fun hc29 => ?_)
   ·
    replace hc29 := of_decide_eq_true hc29
    refine C.seq (C.region ?_); refine Lpu rfl rfl ?_; refine L.nil (QE.seq (C.ret (QE.tR (QE.bR (QE.tR (QE.tR (QE.bR (QE.tR ?_)))))))); refine QE.nil_own 5 1 ?_
    have hno : rightS s = false := rightTo_no (k := k) (by omega) (by unfold fitW; exact decide_eq_false (by omega))
    refine QE.ret (js := []) (hs := [4]) (vs := [_]) rfl ⟨rfl, trivial⟩ (by decide) ?_
    exact ⟨none, 0, by rw [slotF_no hno]; rfl, hno.symm, rfl, by rw [slotF_no hno]; rfl⟩
   ·
    replace hc29 := of_decide_eq_false hc29
    have hfit : fitW (s.getD k 0) (wds.getD k 0) = true := by unfold fitW; exact decide_eq_true (by omega)
    have hpw : (256 ^ (wds.getD k 0) : Nat) ≤ 4294967296 := Nat.le_trans (Nat.pow_le_pow_right (by decide) (show (wds.getD k 0) ≤ 4 by omega)) (by decide)
    have hst : (codeB (bytesTo s (k + 1))) = (codeB (bytesTo s (k))) ++ codeB (numB (s.getD k 0).toNat (wds.getD k 0)) := by rw [bytesTo_succ, codeB_app]
    refine C.skip (QE.seq ?_); refine C.regionM [Rd A1 (I64 s), Rd A5 [ptrOf A1 k, .int .i64 ((wds.getD k 0) : Int)]] ⟨Has.r 0 rfl, Has.o 3 rfl, trivial⟩ ?_; refine LM.q 0 rfl (by kernel_rfl) (Ev.pure rfl) rfl ⟨Has.r 0 rfl, Has.o 3 rfl, trivial⟩ ?_; refine LM.q 1 rfl (by kernel_rfl) (Ev.fieldAddr rfl rfl rfl rfl rfl rfl (Src.r 1 rfl) (Nat.zero_lt_succ _) rfl) rfl ⟨Has.r 0 rfl, Has.o 3 rfl, trivial⟩ ?_; refine LM.q 2 rfl (by kernel_rfl) (Ev.load rfl rfl rfl (Src.r 1 rfl) rfl) rfl ⟨Has.r 0 rfl, Has.o 3 rfl, trivial⟩ ?_; refine LM.q 3 rfl (by kernel_rfl) (Ev.nilCheck rfl (Src.r 0 rfl) (by rw [I64_len]; omega)) rfl ⟨Has.r 0 rfl, Has.o 3 rfl, trivial⟩ ?_; refine LM.q 4 rfl (by kernel_rfl) (Ev.cast (u := .int .i64 (((s.getD k 0).toNat : Nat) : Int)) (Ev.load rfl rfl rfl (Src.r 0 rfl) (I64_get (by omega))) (congrArg (Value.int .i64) (by omega))) rfl ⟨Has.r 0 rfl, Has.o 3 rfl, trivial⟩ ?_; refine LM.f 5 rfl (by kernel_rfl) ⟨Has.r 0 rfl, Has.o 3 rfl, trivial⟩ ?_; refine L.step (Ev.fieldAddr rfl rfl rfl rfl rfl rfl (Src.o 3 rfl) (Nat.zero_lt_succ _) rfl) rfl ?_
    refine L.nil (QE.m (by kernel_rfl) ?_)
    refine LM.f 6 rfl (by kernel_rfl) ⟨Has.r 0 rfl, Has.o 3 rfl, trivial⟩ ?_; refine L.step (Ev.load rfl rfl rfl (Src.o 3 rfl) rfl) rfl ?_
    refine L.nil (QE.m (by kernel_rfl) ?_)
    refine LM.cut [] (by kernel_rfl) ⟨Has.r 0 rfl, Has.o 3 rfl, trivial⟩ ?_; refine LM.f 7 rfl (by kernel_rfl) trivial ?_; refine L.call (js := [1, 2]) (js' := [0, 3]) (put_c A7 A (codeB (bytesTo s (k))) c (s.getD k 0).toNat (wds.getD k 0) (by omega) (by omega)) rfl rfl rfl (by decide) trivial rfl ?_
    rintro _ _ _ ⟨A', c', rfl, rfl, rfl⟩
    refine L.norm (H' := [_, _, _, _]) [0, 1, 2, 3] ⟨rfl, rfl, rfl, rfl, trivial⟩ (by decide) ?_
    refine L.nil (QE.m (by kernel_rfl) ?_)
    refine LM.nil (by kernel_rfl) trivial ?_; refine QE.blkN ?_; refine QE.seq (C.region ?_); refine L.step (Ev.add rfl rfl (by omega) (by omega)) rfl ?_; refine Lpu rfl rfl ?_; refine L.nil ?_
    refine QE.round (i := (k, A, c)) ((k + 1, A', c')) (by exact ⟨by dsimp only; omega, by dsimp only; rw [rightTo_succ, hr, hfit]; rfl⟩) (by dsimp only; omega) (by exact Le.mk' (rs := [0]) (hs := [2, 0, 1]) ⟨rfl, rfl, rfl, rfl, rfl, trivial⟩ ⟨rfl, trivial⟩ ⟨rfl, (by dsimp only; rw [hst]; rfl), (by dsimp only; rw [hst]; rfl), trivial⟩ (by decide))
 ·
  replace hc11 := of_decide_eq_false hc11
  refine C.exit ?_; refine QE.tX ?_; refine QE.tX ?_; refine QE.blk ?_; refine QE.seq (C.seq (C.region ?_)); refine Lpu rfl rfl ?_; refine L.step (Ev.nilCheck rfl (Src.o 1 rfl) (Nat.zero_lt_succ _)) rfl ?_; refine L.step (Ev.fieldAddr rfl rfl rfl rfl rfl rfl (Src.o 1 rfl) (Nat.zero_lt_succ _) rfl) rfl ?_; refine L.step (Ev.load rfl rfl rfl (Src.o 1 rfl) rfl) rfl ?_; refine Lpu rfl rfl ?_; refine L.nil (QE.seq (C.ret ?_))
  obtain rfl : k = 9 := by omega
  refine QE.someI 2 rfl (fun hsome => ?_)
  refine QE.ret (js := []) (hs := [2]) (vs := [_]) rfl ⟨rfl, trivial⟩ (by decide) ?_
  exact ⟨A, c, by rw [slotF_yes hr]; rfl, by rw [show rightS s = true from hr]; exact hsome (by rw [U8_len, codeB_len, bytesTo_nine]; decide), rfl, by rw [slotF_yes hr]; rfl⟩

end Go.Proofs.Ytmbjknampholjaa
