/-
  The contract of the program's Lift.
-/
import Derived.Test.YtbkmahjhhncfcaaGreatQLad
namespace Go.Proofs.YtbkmahjhhncfcaaGreat
open Go.Sl

theorem compactS_c (A : Option Addr) (t : List Int) (c : Nat) (ht : t.length ≤ 1000000) :
   Ctr X 66 [.slice A t.length c] [] [Own 3 1 A t.length c (I64 (t.mergeSort fun x y => decide (x ≤ y)))] (fun v R' H' => v = .slice A (labsOf t).length c ∧ R' = [] ∧ H' = [Own 3 1 A (labsOf t).length c (I64 (labsOf t))]) := by
 have hl : (t.mergeSort fun x y => decide (x ≤ y)).length = t.length := List.length_mergeSort t
 have h := compact_c A (t.mergeSort fun x y => decide (x ≤ y)) c (by omega)
 rw [hl, compact_sort] at h
 exact h

set_option maxHeartbeats 4000000 in
theorem lift_c (B : Option Addr) (b : List UInt8) (bc : Nat) (hb : b.length ≤ bc) (hl : b.length ≤ 1000000) :
   Ctr X 34 [.slice B b.length bc] [Rd B (U8 b)] [] (fun v R' H' => ∃ (WA MA LA : Option Addr) (lc : Nat), v = .tuple #[.agg (List.toArray [.slice WA (liftR b).ws.length (liftR b).ws.length, .slice MA (liftR b).ms.length (liftR b).ms.length, .slice LA (liftR b).ls.length lc]), .int .i64 (liftE b)] ∧ R' = [] ∧ H' = [Own 73 1 WA (liftR b).ws.length (liftR b).ws.length (N32 (liftR b).ws), Own 4 1 MA (liftR b).ms.length (liftR b).ms.length (Bs (liftR b).ms), Own 3 1 LA (liftR b).ls.length lc (I64 (liftR b).ls)]) := by
 refine Ctr.ofM (X := X) (fn := Tryz.f34) Tryz.func34 rfl (by kernel_rfl) rfl ?_
 intro β
 have hw := wordsR_w32 b
 have hwl := wordsR_len b
 refine C.seq (C.region ?_)
 refine L.alloc rfl rfl rfl (fun A2 => ?_)
 refine Lpu rfl rfl ?_; refine L.nil (QE.seq (C.seq (C.region ?_))); refine Lpu rfl rfl ?_; refine L.call (js := []) (js' := [0]) (words_c B b bc hb hl) rfl rfl rfl (by decide) (Hq [0] rfl) rfl ?_
 rintro _ _ _ ⟨WA, wc, rfl, rfl, rfl⟩
 refine L.norm (H' := [_, _]) [0, 1] ⟨rfl, rfl, trivial⟩ (by decide) ?_; refine Lpu rfl rfl ?_; refine Lpu rfl rfl ?_; refine Lpu rfl rfl ?_
 refine L.alloc rfl rfl rfl (fun A4 => ?_)
 refine L.store (j := 2) rfl rfl rfl rfl rfl rfl rfl rfl ?_; refine Lpu rfl rfl ?_; refine L.nil (QE.seq (C.seq (C.seq (C.region ?_)))); refine Lpu rfl rfl ?_; refine Lpu rfl rfl ?_; refine Lpu rfl rfl ?_
 refine L.bool 20 rfl (fun hg20 => ?_) (fun hg20 => ?_)
 ·
  replace hg20 := b_ne hg20
  have hno : ¬ codeB b := fun h => hg20 (by unfold wordsE; rw [if_pos h.1])
  refine L.no rfl rfl rfl ?_; refine L.no rfl rfl rfl ?_; refine L.no rfl rfl rfl ?_; refine Lpu rfl rfl ?_; refine L.nil (QE.seq ?_)
  refine C.cond rfl (fun _ => ?_) (fun h => by cases h)
  refine C.seq (C.region ?_); refine L.step (Ev.build rfl rfl rfl rfl rfl rfl rfl) rfl ?_; refine L.storeA (j := 1) rfl rfl rfl rfl rfl (Nat.zero_lt_succ _) rfl rfl ?_; refine Lpu rfl rfl ?_; refine L.nil (QE.seq (C.ret (QE.tR ?_))); refine QE.nil_own 73 1 ?_; refine QE.nil_own 4 1 ?_; refine QE.nil_own 3 1 ?_; refine QE.retM0 (js := []) (hs := [3, 4, 5]) (vs := [_, _]) rfl ⟨⟨_, _, 0, _, rfl, rfl, Src.o 1 rfl, .inl ⟨rfl, by decide, _, rfl, rfl, rfl⟩⟩, rfl, trivial⟩ (by decide) ?_
  have e1 : liftR b = Lf.zero := by unfold liftR; rw [if_neg hno]
  have e2 : liftE b = 30 := by unfold liftE; rw [if_neg hno]
  rw [e1, e2]
  exact ⟨none, none, none, 0, rfl, rfl, rfl⟩
 ·
  replace hg20 := b_eq hg20
  refine L.yes rfl ?_; refine Lpu rfl rfl ?_; refine L.yes rfl ?_; refine Lpu rfl rfl ?_; refine L.yes rfl ?_; refine Lpu rfl rfl ?_; refine Lpu rfl rfl ?_; refine L.nil (QE.seq ?_)
  refine C.condB 24 rfl (fun hc24 => ?_) (fun hc24 => ?_)
  ·
   replace hc24 := of_decide_eq_true hc24
   have hno : ¬ codeB b := fun h => by have := h.2; omega
   refine C.seq (C.region ?_); refine L.step (Ev.build rfl rfl rfl rfl rfl rfl rfl) rfl ?_; refine L.storeA (j := 1) rfl rfl rfl rfl rfl (Nat.zero_lt_succ _) rfl rfl ?_; refine Lpu rfl rfl ?_; refine L.nil (QE.seq (C.ret (QE.tR ?_))); refine QE.nil_own 73 1 ?_; refine QE.nil_own 4 1 ?_; refine QE.nil_own 3 1 ?_; refine QE.retM0 (js := []) (hs := [3, 4, 5]) (vs := [_, _]) rfl ⟨⟨_, _, 0, _, rfl, rfl, Src.o 1 rfl, .inl ⟨rfl, by decide, _, rfl, rfl, rfl⟩⟩, rfl, trivial⟩ (by decide) ?_
   have e1 : liftR b = Lf.zero := by unfold liftR; rw [if_neg hno]
   have e2 : liftE b = 30 := by unfold liftE; rw [if_neg hno]
   rw [e1, e2]
   exact ⟨none, none, none, 0, rfl, rfl, rfl⟩
  ·
   replace hc24 := of_decide_eq_false hc24
   have h4 : b.length % 4 = 0 := by
     unfold wordsE at hg20
     split at hg20
     · assumption
     · cases hg20
   have hco : codeB b := ⟨h4, by omega⟩
   have hn16 : (wordsR b).length ≤ 16384 := by omega
   have hll : (labs (wordsR b)).length ≤ 16384 := by have := labs_len (wordsR b); omega
   refine C.skip (QE.seq (C.seq (C.region ?_)))
   refine L.alloc rfl rfl rfl (fun A6 => ?_)
   refine L.nil (QE.seq (C.seq (C.seq ?_))); refine C.freeze 2 rfl [0, 1, 3] (by decide) (by decide) ?_; refine C.norm (H' := [_, _, _]) [0, 1, 2] ⟨rfl, rfl, rfl, trivial⟩ (by decide) ?_; refine C.freeze 0 rfl [1, 2] (by decide) (by decide) ?_; refine C.norm (H' := [_, _]) [0, 1] ⟨rfl, rfl, trivial⟩ (by decide) ?_; refine C.own0 3 1 ?_; refine C.region ?_; refine L.step (Ev.load rfl rfl rfl (Src.r 1 rfl) rfl) rfl ?_; refine L.callR (js := []) (js' := [0, 1, 2]) (links_c WA (wordsR b).length wc) rfl rfl rfl (by decide) trivial rfl ?_
   rintro _ _ _ ⟨PA, rfl, rfl, rfl⟩
   refine L.norm (H' := [_, _, _]) [0, 1, 2] ⟨rfl, rfl, rfl, trivial⟩ (by decide) ?_; refine L.nil (QE.seq (C.block ?_))
   refine C.rangeF (Rf := [Rd PA [.slice WA (wordsR b).length wc], Rd WA (N32 (wordsR b))]) (js := [1, 2]) (js' := [0]) (He := fun i : Option Addr × Nat => StA A6 ((targN (wordsR b) (wordsR b).length), i.1, i.2)) rfl rfl rfl (by decide) (Hq [0, 1] rfl) (fun l d fn tmps hfr => ?_) (fun d i => ?_)
   ·
    refine (iterA_c l _ PA WA (wordsR b) wc hw hn16 A6 ?_).mono ?_
    ·
     intro β2 w2 s x hg hs2
     obtain ⟨ls, O, c⟩ := s
     obtain ⟨p, q⟩ := x
     have hlc : ls.length ≤ 100000 := hg
     unfold StA at hs2
     dsimp only at hs2
     refine roundR (bl := 0) (ps := [28, 29]) (vs := [.int .i64 (p : Int), .agg (List.toArray (in5 q))]) (He := StA A6) (good := nxtA (ls, O, c) (p, q)) (by exact ((((hfr).put (Nat.le_of_ble_eq_true rfl) (.int .i64 (p : Int)))).put (Nat.le_of_ble_eq_true rfl) (.agg (List.toArray (in5 q))))) rfl rfl rfl rfl rfl rfl (by kernel_rfl) (by kernel_rfl) hs2 ?_; refine Rn.region ?_
     refine L.alloc rfl rfl rfl (fun A8 => ?_)
     refine L.storeA (j := 3) rfl rfl rfl rfl rfl (Nat.zero_lt_succ _) rfl rfl ?_; refine L.nil ?_
     refine fun a1 w1 hf1 hs1 => ⟨rfl, _, _, hf1, hs1, ?_⟩
     refine Rn.block ?_; refine Rn.region ?_; refine L.step (Ev.load rfl rfl rfl (Src.o 1 rfl) rfl) rfl ?_; refine L.step (Ev.fieldAddr rfl rfl rfl rfl rfl rfl (Src.o 3 rfl) (Nat.zero_lt_succ _) rfl) rfl ?_; refine L.step (Ev.load rfl rfl rfl (Src.o 3 rfl) rfl) rfl ?_
     refine L.lit rfl rfl rfl rfl rfl (by rfl) (by rfl) (by rfl) rfl rfl (fun A33 => ?_)
     refine L.append (j := 2) rfl rfl rfl rfl (by decide) rfl rfl rfl rfl (Src.o 4 rfl) rfl (I64_one [q.n]) (by omega) (by show _ * 8 ≤ _; omega) rfl (fun A34 cc34 => ?_)
     refine L.store (j := 1) rfl rfl rfl rfl rfl rfl rfl rfl ?_; refine L.nil ?_; refine QE.blkN ?_
     refine fun a2 w3 hf2 hs3 => ⟨rfl, (ls ++ [q.n], A34, cc34), rfl, ?_⟩
     have h3 := hs3.sel (js := [0, 1, 2]) (by decide)
     have e1 : (ls ++ [q.n]).length = ls.length + 1 := by simp
     unfold StA
     dsimp only
     rw [e1, ← I64_app]
     exact h3
    ·
     rintro v R' H' ⟨rfl, O, c, rfl⟩
     exact ⟨rfl, (O, c), rfl⟩
   ·
    obtain ⟨O, oc⟩ := i
    dsimp only [StA]
    refine QE.blkN ?_; refine QE.seq (C.seq (C.region ?_)); refine L.step (Ev.load rfl rfl rfl (Src.o 1 rfl) rfl) rfl ?_; refine L.call (js := [2]) (js' := [0, 1, 3]) (sort_c O (targN (wordsR b) (wordsR b).length) oc (by have := targN_len (wordsR b) (wordsR b).length; omega)) rfl rfl rfl (by decide) trivial rfl ?_
    rintro _ _ _ ⟨rfl, rfl, rfl⟩
    refine L.norm (H' := [_, _, _, _]) [0, 1, 2, 3] ⟨rfl, rfl, rfl, rfl, trivial⟩ (by decide) ?_; refine L.nil (QE.seq (C.seq (C.region ?_))); refine L.step (Ev.load rfl rfl rfl (Src.o 2 rfl) rfl) rfl ?_; refine L.call (js := [0]) (js' := [1, 2, 3]) (compactS_c O (targN (wordsR b) (wordsR b).length) oc (by have := targN_len (wordsR b) (wordsR b).length; omega)) rfl rfl rfl (by decide) trivial rfl ?_
    rintro _ _ _ ⟨rfl, rfl, rfl⟩
    refine L.norm (H' := [_, _, _, _]) [0, 1, 2, 3] ⟨rfl, rfl, rfl, rfl, trivial⟩ (by decide) ?_; refine L.store (j := 2) rfl rfl rfl rfl rfl rfl rfl rfl ?_; refine L.nil (QE.seq (C.seq (C.region ?_))); refine Lpu rfl rfl ?_
    refine L.alloc rfl rfl rfl (fun A9 => ?_)
    refine L.store (j := 4) rfl rfl rfl rfl rfl rfl rfl rfl ?_; refine L.nil (QE.seq (C.seq ?_)); refine C.join (fun q : Option Addr × Option Addr × Option Addr => [(2, ptrOf A2 0), (4, ptrOf A4 0), (6, ptrOf A6 0), (9, ptrOf A9 0), (10, ptrOf q.1 0)]) (fun q : Option Addr × Option Addr × Option Addr => [Rd WA (N32 (wordsR b)), Rd A4 [.slice WA (wordsR b).length wc]]) (fun q : Option Addr × Option Addr × Option Addr => [DefP d, Own 55 1 A6 1 1 [.slice O (labs (wordsR b)).length oc], Own 3 1 O (labs (wordsR b)).length oc (I64 (labs (wordsR b))), Own 123 1 A9 1 1 [.func (.func 67) #[] #[ptrOf A6 0]], Own 57 3 A2 1 1 [.slice none 0 0, .slice none 0 0, .slice none 0 0], Own 57 3 q.1 1 1 [.slice q.2.1 (wordsR b).length (wordsR b).length, .slice q.2.2 (wordsR b).length (wordsR b).length, .slice O (labs (wordsR b)).length oc], Own 73 1 q.2.1 (wordsR b).length (wordsR b).length (N32 (List.replicate (wordsR b).length 0)), Own 4 1 q.2.2 (wordsR b).length (wordsR b).length (Bs (List.replicate (wordsR b).length false))]) (fun q : Option Addr × Option Addr × Option Addr => True) ?_ ?_
    ·
     refine C.regionM [Rd A4 [.slice WA (wordsR b).length wc], Rd A6 [.slice O (labs (wordsR b)).length oc]] ⟨Has.r 2 rfl, Has.o 2 rfl, trivial⟩ ?_; refine LM.q 0 rfl (by kernel_rfl) (Ev.load rfl rfl rfl (Src.r 0 rfl) rfl) rfl ⟨Has.r 2 rfl, Has.o 2 rfl, trivial⟩ ?_; refine LM.q 1 rfl (by kernel_rfl) (Ev.pure rfl) rfl ⟨Has.r 2 rfl, Has.o 2 rfl, trivial⟩ ?_; refine LM.q 3 rfl (by kernel_rfl) (Ev.load rfl rfl rfl (Src.r 0 rfl) rfl) rfl ⟨Has.r 2 rfl, Has.o 2 rfl, trivial⟩ ?_; refine LM.q 4 rfl (by kernel_rfl) (Ev.pure rfl) rfl ⟨Has.r 2 rfl, Has.o 2 rfl, trivial⟩ ?_; refine LM.q 6 rfl (by kernel_rfl) (Ev.load rfl rfl rfl (Src.r 1 rfl) rfl) rfl ⟨Has.r 2 rfl, Has.o 2 rfl, trivial⟩ ?_; refine LM.a3 2 5 8 (by kernel_rfl) ⟨Has.r 2 rfl, Has.o 2 rfl, trivial⟩ rfl rfl rfl ?_ ?_ ?_
     refine L.make (m := (wordsR b).length) rfl rfl rfl rfl rfl rfl rfl rfl rfl (by show 4 * _ ≤ _; omega) (by omega) rfl (fun A42 => ?_)
     refine L.nm (by kernel_rfl) ?_; refine LM.a2 5 8 (by kernel_rfl) ⟨Has.r 2 rfl, Has.o 2 rfl, trivial⟩ rfl rfl ?_ ?_
     refine L.make (m := (wordsR b).length) rfl rfl rfl rfl rfl rfl rfl rfl rfl (by show 1 * _ ≤ _; omega) (by omega) rfl (fun A45 => ?_)
     refine L.nm (by kernel_rfl) ?_; refine LM.q 7 rfl (by kernel_rfl) (Ev.build rfl rfl rfl rfl rfl rfl rfl) rfl ⟨Has.r 2 rfl, Has.o 2 rfl, trivial⟩ ?_; refine LM.f 8 rfl (by kernel_rfl) ⟨Has.r 2 rfl, Has.o 2 rfl, trivial⟩ ?_
     refine L.alloc rfl rfl rfl (fun A10 => ?_)
     refine L.norm (H' := [_, _, _, _, _, _, _, _]) [3, 2, 4, 7, 5, 6, 1, 0] ⟨rfl, rfl, rfl, rfl, rfl, rfl, rfl, rfl, trivial⟩ (by decide) ?_; refine L.nm (by kernel_rfl) ?_
     rotate_left
     refine L.alloc rfl rfl rfl (fun A10 => ?_)
     refine L.nm (by kernel_rfl) ?_; refine LM.f 5 rfl (by kernel_rfl) ⟨Has.r 2 rfl, Has.o 2 rfl, trivial⟩ ?_
     refine L.make (m := (wordsR b).length) rfl rfl rfl rfl rfl rfl rfl rfl rfl (by show 1 * _ ≤ _; omega) (by omega) rfl (fun A45 => ?_)
     refine L.nm (by kernel_rfl) ?_; refine LM.f 7 rfl (by kernel_rfl) ⟨Has.r 2 rfl, Has.o 2 rfl, trivial⟩ ?_; refine L.step (Ev.build rfl rfl rfl rfl rfl rfl rfl) rfl ?_; refine L.norm (H' := [_, _, _, _, _, _, _, _]) [3, 2, 4, 6, 5, 7, 1, 0] ⟨rfl, rfl, rfl, rfl, rfl, rfl, rfl, rfl, trivial⟩ (by decide) ?_; refine L.nm (by kernel_rfl) ?_
     rotate_left
     refine L.make (m := (wordsR b).length) rfl rfl rfl rfl rfl rfl rfl rfl rfl (by show 1 * _ ≤ _; omega) (by omega) rfl (fun A45 => ?_)
     refine L.nm (by kernel_rfl) ?_; refine LM.a2 2 8 (by kernel_rfl) ⟨Has.r 2 rfl, Has.o 2 rfl, trivial⟩ rfl rfl ?_ ?_
     refine L.make (m := (wordsR b).length) rfl rfl rfl rfl rfl rfl rfl rfl rfl (by show 4 * _ ≤ _; omega) (by omega) rfl (fun A42 => ?_)
     refine L.nm (by kernel_rfl) ?_; refine LM.q 7 rfl (by kernel_rfl) (Ev.build rfl rfl rfl rfl rfl rfl rfl) rfl ⟨Has.r 2 rfl, Has.o 2 rfl, trivial⟩ ?_; refine LM.f 8 rfl (by kernel_rfl) ⟨Has.r 2 rfl, Has.o 2 rfl, trivial⟩ ?_
     refine L.alloc rfl rfl rfl (fun A10 => ?_)
     refine L.norm (H' := [_, _, _, _, _, _, _, _]) [3, 2, 4, 7, 6, 5, 1, 0] ⟨rfl, rfl, rfl, rfl, rfl, rfl, rfl, rfl, trivial⟩ (by decide) ?_; refine L.nm (by kernel_rfl) ?_
     rotate_left
     refine L.alloc rfl rfl rfl (fun A10 => ?_)
     refine L.nm (by kernel_rfl) ?_; refine LM.f 2 rfl (by kernel_rfl) ⟨Has.r 2 rfl, Has.o 2 rfl, trivial⟩ ?_
     refine L.make (m := (wordsR b).length) rfl rfl rfl rfl rfl rfl rfl rfl rfl (by show 4 * _ ≤ _; omega) (by omega) rfl (fun A42 => ?_)
     refine L.nm (by kernel_rfl) ?_; refine LM.f 7 rfl (by kernel_rfl) ⟨Has.r 2 rfl, Has.o 2 rfl, trivial⟩ ?_; refine L.step (Ev.build rfl rfl rfl rfl rfl rfl rfl) rfl ?_; refine L.norm (H' := [_, _, _, _, _, _, _, _]) [3, 2, 4, 6, 7, 5, 1, 0] ⟨rfl, rfl, rfl, rfl, rfl, rfl, rfl, rfl, trivial⟩ (by decide) ?_; refine L.nm (by kernel_rfl) ?_
     rotate_left
     refine L.alloc rfl rfl rfl (fun A10 => ?_)
     refine L.nm (by kernel_rfl) ?_; refine LM.a2 2 5 (by kernel_rfl) ⟨Has.r 2 rfl, Has.o 2 rfl, trivial⟩ rfl rfl ?_ ?_
     refine L.make (m := (wordsR b).length) rfl rfl rfl rfl rfl rfl rfl rfl rfl (by show 4 * _ ≤ _; omega) (by omega) rfl (fun A42 => ?_)
     refine L.nm (by kernel_rfl) ?_; refine LM.f 5 rfl (by kernel_rfl) ⟨Has.r 2 rfl, Has.o 2 rfl, trivial⟩ ?_
     refine L.make (m := (wordsR b).length) rfl rfl rfl rfl rfl rfl rfl rfl rfl (by show 1 * _ ≤ _; omega) (by omega) rfl (fun A45 => ?_)
     refine L.nm (by kernel_rfl) ?_; refine LM.f 7 rfl (by kernel_rfl) ⟨Has.r 2 rfl, Has.o 2 rfl, trivial⟩ ?_; refine L.step (Ev.build rfl rfl rfl rfl rfl rfl rfl) rfl ?_; refine L.norm (H' := [_, _, _, _, _, _, _, _]) [3, 2, 4, 5, 6, 7, 1, 0] ⟨rfl, rfl, rfl, rfl, rfl, rfl, rfl, rfl, trivial⟩ (by decide) ?_; refine L.nm (by kernel_rfl) ?_
     rotate_left
     refine L.make (m := (wordsR b).length) rfl rfl rfl rfl rfl rfl rfl rfl rfl (by show 1 * _ ≤ _; omega) (by omega) rfl (fun A45 => ?_)
     refine L.nm (by kernel_rfl) ?_; refine LM.f 2 rfl (by kernel_rfl) ⟨Has.r 2 rfl, Has.o 2 rfl, trivial⟩ ?_
     refine L.make (m := (wordsR b).length) rfl rfl rfl rfl rfl rfl rfl rfl rfl (by show 4 * _ ≤ _; omega) (by omega) rfl (fun A42 => ?_)
     refine L.nm (by kernel_rfl) ?_; refine LM.f 7 rfl (by kernel_rfl) ⟨Has.r 2 rfl, Has.o 2 rfl, trivial⟩ ?_; refine L.step (Ev.build rfl rfl rfl rfl rfl rfl rfl) rfl ?_; refine L.norm (H' := [_, _, _, _, _, _, _, _]) [3, 2, 4, 5, 7, 6, 1, 0] ⟨rfl, rfl, rfl, rfl, rfl, rfl, rfl, rfl, trivial⟩ (by decide) ?_; refine L.nm (by kernel_rfl) ?_
     rotate_left
     all_goals (
       refine LM.cut [] (by kernel_rfl) ⟨Has.r 2 rfl, Has.o 1 rfl, trivial⟩ ?_; refine LM.f 9 rfl (by kernel_rfl) trivial ?_; refine L.storeA (j := 3) rfl rfl rfl rfl rfl (Nat.zero_lt_succ _) rfl rfl ?_
       refine L.nil (QE.m (by kernel_rfl) ?_)
       refine LM.nil (by kernel_rfl) trivial ?_
       refine QE.joined ((A10, A42, A45)) (by exact trivial) (by exact Le.mk' (rs := [1, 2]) (hs := [6, 1, 7, 2, 0, 3, 4, 5]) ⟨rfl, rfl, rfl, rfl, rfl, trivial⟩ ⟨rfl, rfl, trivial⟩ ⟨rfl, rfl, rfl, rfl, rfl, rfl, (congrArg some (own_eq2 rfl (N32_rep _).symm)), (congrArg some (own_eq2 rfl (Bs_rep2 _).symm)), trivial⟩ (by decide)))
    ·
     rintro ⟨A10, A42, A45⟩ _
     dsimp only
     refine QE.seq (C.seq (C.region ?_)); refine L.step (Ev.fieldAddr rfl rfl rfl rfl rfl rfl (Src.o 5 rfl) (Nat.zero_lt_succ _) rfl) rfl ?_; refine L.step (Ev.load rfl rfl rfl (Src.o 5 rfl) rfl) rfl ?_; refine L.step (Ev.load rfl rfl rfl (Src.r 1 rfl) rfl) rfl ?_; refine L.copy (j := 6) (o := 0) rfl rfl rfl rfl rfl (fun g hg _ => hg) rfl rfl (Src.r 0 rfl) (by rw [N32_len]; simp) (N32_one _) (by rw [N32_len, N32_len]; simp) rfl ?_; refine L.nil (QE.seq (C.seq (C.seq ?_))); refine C.le (Γ' := [(2, ptrOf A2 0), (4, ptrOf A4 0), (6, ptrOf A6 0), (9, ptrOf A9 0), (10, ptrOf A10 0)]) (R' := [Rd WA (N32 (wordsR b)), Rd A4 [.slice WA (wordsR b).length wc]]) (H' := [DefP d, Own 55 1 A6 1 1 [.slice O (labs (wordsR b)).length oc], Own 3 1 O (labs (wordsR b)).length oc (I64 (labs (wordsR b))), Own 123 1 A9 1 1 [.func (.func 67) #[] #[ptrOf A6 0]], Own 57 3 A2 1 1 [.slice none 0 0, .slice none 0 0, .slice none 0 0], Own 57 3 A10 1 1 [.slice A42 (wordsR b).length (wordsR b).length, .slice A45 (wordsR b).length (wordsR b).length, .slice O (labs (wordsR b)).length oc], Own 73 1 A42 (wordsR b).length (wordsR b).length (N32 (liftN (wordsR b) 0)), Own 4 1 A45 (wordsR b).length (wordsR b).length (Bs (markN (wordsR b) 0))]) (by exact Le.mk' (rs := [0, 1]) (hs := [0, 1, 2, 3, 4, 5, 6, 7]) ⟨rfl, rfl, rfl, rfl, rfl, trivial⟩ ⟨rfl, rfl, trivial⟩ ⟨rfl, rfl, rfl, rfl, rfl, rfl, (congrArg some (own_eq2 rfl (by rw [liftN_zero, N32_len, Nat.zero_add, N32_drop, List.take_zero, List.nil_append, List.drop_eq_nil_of_le (by simp)]; exact List.append_nil _))), (congrArg some (own_eq2 rfl (by rw [markN_zero]))), trivial⟩ (by decide)) ?_; refine C.region ?_; refine L.step (Ev.load rfl rfl rfl (Src.r 1 rfl) rfl) rfl ?_; refine L.callR (js := []) (js' := [0, 1, 2, 3, 4, 5, 6, 7]) (links_c WA (wordsR b).length wc) rfl rfl rfl (by decide) trivial rfl ?_
     rintro _ _ _ ⟨PB, rfl, rfl, rfl⟩
     refine L.norm (H' := [_, _, _, _, _, _, _, _]) [0, 1, 2, 3, 4, 5, 6, 7] ⟨rfl, rfl, rfl, rfl, rfl, rfl, rfl, rfl, trivial⟩ (by decide) ?_; refine L.nil (QE.seq (C.block ?_))
     refine C.rangeF (Rf := [Rd PB [.slice WA (wordsR b).length wc], Rd WA (N32 (wordsR b)), Rd A4 [.slice WA (wordsR b).length wc]]) (js := [1, 2, 3, 5, 6, 7]) (js' := [0, 4]) (He := fun i : Unit => StB (wordsR b) A6 O A9 A10 A42 A45 oc (liftN (wordsR b) (wordsR b).length, markN (wordsR b) (wordsR b).length)) rfl rfl rfl (by decide) (Hq [0, 1, 2] rfl) (fun l d fn tmps hfr => ?_) (fun d11 i => ?_)
     ·
      refine (iterB_c l _ PB WA (wordsR b) wc hw hn16 A4 A6 O A9 A10 A42 A45 oc ?_).mono ?_
      ·
       intro β2 w2 s x hg hs2
       obtain ⟨w, m⟩ := s
       obtain ⟨p, q⟩ := x
       obtain ⟨hp, hlk, hq, hwl2, hml⟩ := hg
       dsimp only at hp hlk hq hwl2 hml
       subst hq
       have hsp := lnk_spec hlk
       have hix : (idxL (labs (wordsR b)) (insAt (wordsR b) p).n) < 2 ^ fldF (insAt (wordsR b) p).op.toNat := by
         have := idxL_le (labs (wordsR b)) (insAt (wordsR b) p).n
         rcases fld_cases (insAt (wordsR b) p).op.toNat with e | e <;> rw [e] <;> omega
       have hix2 := idxL_le (labs (wordsR b)) (insAt (wordsR b) p).n
       unfold StB at hs2
       dsimp only at hs2
       refine roundR (bl := 0) (ps := [54, 55]) (vs := [.int .i64 (p : Int), .agg (List.toArray (in5 (insAt (wordsR b) p)))]) (He := StB (wordsR b) A6 O A9 A10 A42 A45 oc) (good := nxtB (wordsR b) (w, m) (p, (insAt (wordsR b) p))) (by exact ((((hfr).put (Nat.le_of_ble_eq_true rfl) (.int .i64 (p : Int)))).put (Nat.le_of_ble_eq_true rfl) (.agg (List.toArray (in5 (insAt (wordsR b) p)))))) rfl rfl rfl rfl rfl rfl (by kernel_rfl) (by kernel_rfl) hs2 ?_; refine Rn.seq ?_; refine Rn.region ?_; refine Lpu rfl rfl ?_; refine L.nil ?_; refine QE.seqR ?_; refine Rn.region ?_
       refine L.alloc rfl rfl rfl (fun A12 => ?_)
       refine L.storeA (j := 7) rfl rfl rfl rfl rfl (Nat.zero_lt_succ _) rfl rfl ?_; refine L.nil ?_
       refine fun a1 w1 hf1 hs1 => ⟨rfl, _, _, hf1, hs1, ?_⟩
       refine Rn.block ?_; refine Rn.seq ?_; refine Rn.regionM [Rd A10 [.slice A42 (wordsR b).length (wordsR b).length, .slice A45 (wordsR b).length (wordsR b).length, .slice O (labs (wordsR b)).length oc], Rd A4 [.slice WA (wordsR b).length wc], Rd WA (N32 (wordsR b)), Rd A12 (in5 (insAt (wordsR b) p)), Rd A9 [.func (.func 67) #[] #[ptrOf A6 0]]] ⟨Has.o 4 rfl, Has.r 2 rfl, Has.r 1 rfl, Has.o 7 rfl, Has.o 3 rfl, trivial⟩ ?_; refine LM.q 0 rfl (by kernel_rfl) (Ev.fieldAddr rfl rfl rfl rfl rfl rfl (Src.r 0 rfl) (Nat.zero_lt_succ _) rfl) rfl ⟨Has.o 4 rfl, Has.r 2 rfl, Has.r 1 rfl, Has.o 7 rfl, Has.o 3 rfl, trivial⟩ ?_; refine LM.q 1 rfl (by kernel_rfl) (Ev.load rfl rfl rfl (Src.r 0 rfl) rfl) rfl ⟨Has.o 4 rfl, Has.r 2 rfl, Has.r 1 rfl, Has.o 7 rfl, Has.o 3 rfl, trivial⟩ ?_; refine LM.q 2 rfl (by kernel_rfl) (Ev.pure rfl) rfl ⟨Has.o 4 rfl, Has.r 2 rfl, Has.r 1 rfl, Has.o 7 rfl, Has.o 3 rfl, trivial⟩ ?_; refine LM.q 3 rfl (by kernel_rfl) (Ev.load rfl rfl rfl (Src.r 1 rfl) rfl) rfl ⟨Has.o 4 rfl, Has.r 2 rfl, Has.r 1 rfl, Has.o 7 rfl, Has.o 3 rfl, trivial⟩ ?_; refine LM.q 4 rfl (by kernel_rfl) (Ev.pure rfl) rfl ⟨Has.o 4 rfl, Has.r 2 rfl, Has.r 1 rfl, Has.o 7 rfl, Has.o 3 rfl, trivial⟩ ?_; refine LM.q 5 rfl (by kernel_rfl) (Ev.idx1 (k := p) rfl rfl rfl rfl rfl rfl rfl (by omega) (Src.r 2 rfl) (by rw [N32_len]; omega)) rfl ⟨Has.o 4 rfl, Has.r 2 rfl, Has.r 1 rfl, Has.o 7 rfl, Has.o 3 rfl, trivial⟩ ?_; refine LM.q 6 rfl (by kernel_rfl) (Ev.load rfl rfl rfl (Src.r 2 rfl) (N32_get (by omega))) rfl ⟨Has.o 4 rfl, Has.r 2 rfl, Has.r 1 rfl, Has.o 7 rfl, Has.o 3 rfl, trivial⟩ ?_; refine LM.q 7 rfl (by kernel_rfl) (Ev.fieldAddr rfl rfl rfl rfl rfl rfl (Src.r 3 rfl) (Nat.zero_lt_succ _) rfl) rfl ⟨Has.o 4 rfl, Has.r 2 rfl, Has.r 1 rfl, Has.o 7 rfl, Has.o 3 rfl, trivial⟩ ?_; refine LM.q 8 rfl (by kernel_rfl) (Ev.cast (u := .int .i64 (((insAt (wordsR b) p).op.toNat : Nat) : Int)) (Ev.load rfl rfl rfl (Src.r 3 rfl) rfl) (congrArg (Value.int .i64) (by omega))) rfl ⟨Has.o 4 rfl, Has.r 2 rfl, Has.r 1 rfl, Has.o 7 rfl, Has.o 3 rfl, trivial⟩ ?_; refine LM.q 11 rfl (by kernel_rfl) (Ev.load rfl rfl rfl (Src.r 4 rfl) rfl) rfl ⟨Has.o 4 rfl, Has.r 2 rfl, Has.r 1 rfl, Has.o 7 rfl, Has.o 3 rfl, trivial⟩ ?_; refine LM.q 12 rfl (by kernel_rfl) (Ev.fieldAddr rfl rfl rfl rfl rfl rfl (Src.r 3 rfl) (Nat.zero_lt_succ _) rfl) rfl ⟨Has.o 4 rfl, Has.r 2 rfl, Has.r 1 rfl, Has.o 7 rfl, Has.o 3 rfl, trivial⟩ ?_; refine LM.q 13 rfl (by kernel_rfl) (Ev.load rfl rfl rfl (Src.r 3 rfl) rfl) rfl ⟨Has.o 4 rfl, Has.r 2 rfl, Has.r 1 rfl, Has.o 7 rfl, Has.o 3 rfl, trivial⟩ ?_; refine LM.f 9 rfl (by kernel_rfl) ⟨Has.o 4 rfl, Has.r 2 rfl, Has.r 1 rfl, Has.o 7 rfl, Has.o 3 rfl, trivial⟩ ?_; refine L.call (js := []) (js' := [0, 1, 2, 3, 4, 5, 6, 7]) (field_c (insAt (wordsR b) p).op.toNat) rfl rfl rfl (by decide) trivial rfl ?_
       rintro _ _ _ ⟨rfl, rfl, rfl⟩
       refine L.norm (H' := [_, _, _, _, _, _, _, _]) [0, 1, 2, 3, 4, 5, 6, 7] ⟨rfl, rfl, rfl, rfl, rfl, rfl, rfl, rfl, trivial⟩ (by decide) ?_
       refine L.nil (QE.m (by kernel_rfl) ?_)
       refine LM.q 10 rfl (by kernel_rfl) (Ev.high32 (fldF (insAt (wordsR b) p).op.toNat) (q := ((wordsR b).getD p 0) / 2 ^ fldF (insAt (wordsR b) p).op.toNat * 2 ^ fldF (insAt (wordsR b) p).op.toNat) rfl rfl rfl (hw p) (fld_le _) rfl) rfl ⟨Has.o 4 rfl, Has.r 2 rfl, Has.r 1 rfl, Has.o 7 rfl, Has.o 3 rfl, trivial⟩ ?_; refine LM.f 14 rfl (by kernel_rfl) ⟨Has.o 4 rfl, Has.r 2 rfl, Has.r 1 rfl, Has.o 7 rfl, Has.o 3 rfl, trivial⟩ ?_; refine L.callv (js := [1, 2]) (js' := [0, 3, 4, 5, 6, 7]) (find_c A6 O (labs (wordsR b)) oc (insAt (wordsR b) p).n (by omega) (labs_sorted _)) rfl rfl rfl rfl rfl (by decide) trivial rfl ?_
       rintro _ _ _ ⟨rfl, rfl, rfl⟩
       refine L.norm (H' := [_, _, _, _, _, _, _, _]) [0, 1, 2, 3, 4, 5, 6, 7] ⟨rfl, rfl, rfl, rfl, rfl, rfl, rfl, rfl, trivial⟩ (by decide) ?_
       refine L.nil (QE.m (by kernel_rfl) ?_)
       refine LM.f 15 rfl (by kernel_rfl) ⟨Has.o 4 rfl, Has.r 2 rfl, Has.r 1 rfl, Has.o 7 rfl, Has.o 3 rfl, trivial⟩ ?_; refine L.step (Ev.beside32 (fldF (insAt (wordsR b) p).op.toNat) (p := 2 ^ fldF (insAt (wordsR b) p).op.toNat) rfl (c := ((wordsR b).getD p 0) / 2 ^ fldF (insAt (wordsR b) p).op.toNat) (q := numW ((wordsR b).getD p 0) (insAt (wordsR b) p).op (idxL (labs (wordsR b)) (insAt (wordsR b) p).n)) rfl rfl rfl (Nat.lt_of_le_of_lt (Nat.div_mul_le_self _ _) (hw p)) hix (by omega) rfl) rfl ?_
       refine L.nil (QE.m (by kernel_rfl) ?_)
       refine LM.cut [] (by kernel_rfl) ⟨Has.o 4 rfl, Has.r 2 rfl, Has.r 1 rfl, Has.o 7 rfl, Has.o 3 rfl, trivial⟩ ?_; refine LM.f 16 rfl (by kernel_rfl) trivial ?_; refine L.step (Ev.idx1 (k := p) rfl rfl rfl rfl rfl rfl rfl (by omega) (Src.o 5 rfl) (by rw [N32_len]; omega)) rfl ?_
       refine L.nil (QE.m (by kernel_rfl) ?_)
       refine LM.f 17 rfl (by kernel_rfl) trivial ?_; refine L.store (j := 5) rfl rfl rfl rfl rfl rfl rfl (N32_get (by omega)) ?_
       refine L.nil (QE.m (by kernel_rfl) ?_)
       refine LM.nil (by kernel_rfl) trivial ?_; refine QE.seqR ?_; refine Rn.region ?_; refine L.step (Ev.fieldAddr rfl rfl rfl rfl rfl rfl (Src.o 4 rfl) (Nat.zero_lt_succ _) rfl) rfl ?_; refine L.step (Ev.load rfl rfl rfl (Src.o 4 rfl) rfl) rfl ?_; refine Lpu rfl rfl ?_; refine L.step (Ev.idx1 (k := p) rfl rfl rfl rfl rfl rfl rfl (by omega) (Src.o 6 rfl) (by rw [Bs_len]; omega)) rfl ?_; refine L.store (j := 6) rfl rfl rfl rfl rfl rfl rfl (Bs_get (by omega)) ?_; refine L.nil ?_; refine QE.blkN ?_
       refine fun a2 w3 hf2 hs3 => ⟨rfl, (w.set p (numW ((wordsR b).getD p 0) (insAt (wordsR b) p).op (idxL (labs (wordsR b)) (insAt (wordsR b) p).n)), m.set p true), rfl, ?_⟩
       have h3 := hs3.sel (js := [2, 0, 1, 3, 4, 5, 6]) (by decide)
       rw [N32_set, Bs_set] at h3
       exact h3
      ·
       rintro v R' H' ⟨rfl, rfl⟩
       exact ⟨rfl, (), rfl⟩
     ·
      dsimp only [StB]
      rw [liftN_all, markN_all]
      refine QE.blkN ?_; refine QE.seq (C.seq (C.region ?_)); refine L.step (Ev.loadA rfl rfl rfl (Src.o 4 rfl) rfl rfl (by decide)) rfl ?_; refine L.storeA (j := 8) rfl rfl rfl rfl rfl (Nat.zero_lt_succ _) rfl rfl ?_; refine Lpu rfl rfl ?_; refine L.nil (QE.seq (C.ret ?_)); refine QE.retM2 (j := 0) (j' := 7) (js := []) (hs := [5, 6, 2]) (vs := [_, _]) rfl rfl rfl ⟨⟨_, _, 0, _, rfl, rfl, Src.o 8 rfl, .inl ⟨rfl, by decide, _, rfl, rfl, rfl⟩⟩, rfl, trivial⟩ (by decide) ?_
      have e1 : liftR b = liftF (wordsR b) := by unfold liftR; rw [if_pos hco]; unfold wordsR; rw [if_pos hco.1]
      have e2 : liftE b = 0 := by unfold liftE; rw [if_pos hco]
      have e3 := liftF_lens (wordsR b)
      rw [e1, e2, e3.1, e3.2]
      exact ⟨A42, A45, O, oc, rfl, rfl, rfl⟩

end Go.Proofs.YtbkmahjhhncfcaaGreat
