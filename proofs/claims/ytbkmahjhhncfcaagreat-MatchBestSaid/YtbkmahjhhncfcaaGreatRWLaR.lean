/-
  The contract of the reference's Lift.
-/
import Derived.Test.YtbkmahjhhncfcaaGreatRWLaQ
namespace Go.Proofs.YtbkmahjhhncfcaaGreat
open Go.Sl

set_option maxHeartbeats 4000000 in
theorem lift3_c (B : Option Addr) (b : List UInt8) (bc : Nat) (hl : b.length ≤ 1000000) :
   Ctr X 20 [.slice B b.length bc] [Rd B (U8 b)] [] (fun v R' H' => ∃ (WA MA LA : Option Addr) (wc mc lc : Nat), v = .tuple #[.agg (List.toArray [.slice WA (liftR b).ws.length wc, .slice MA (liftR b).ms.length mc, .slice LA (liftR b).ls.length lc]), .int .i64 (liftE b)] ∧ R' = [] ∧ H' = [Own 73 1 WA (liftR b).ws.length wc (N32 (liftR b).ws), Own 4 1 MA (liftR b).ms.length mc (Bs (liftR b).ms), Own 3 1 LA (liftR b).ls.length lc (I64 (liftR b).ls)]) := by
 refine Ctr.of (X := X) (fn := Tryz.f20) Tryz.func20 rfl (by kernel_rfl) rfl ?_
 intro β
 have hw := wordsR_w32 b
 have hwl := wordsR_len b
 refine C.seq (C.region ?_)
 refine L.alloc rfl rfl rfl (fun A2 => ?_)
 refine Lpu rfl rfl ?_; refine L.nil (QE.seq (C.seq (C.seq (C.region ?_)))); refine Lpu rfl rfl ?_; refine L.call (js := []) (js' := [0]) (isCode_c B b bc hl) rfl rfl rfl (by decide) trivial rfl ?_
 rintro _ _ _ ⟨rfl, rfl, rfl⟩
 refine L.norm (H' := [_]) [0] ⟨rfl, trivial⟩ (by decide) ?_; refine Lpu rfl rfl ?_; refine L.nil (QE.seq ?_)
 refine C.condB 15 rfl (fun hc15 => ?_) (fun hc15 => ?_)
 ·
  have hno : ¬ codeB b := fun h => by rw [decide_eq_true h] at hc15; cases hc15
  refine C.seq (C.region ?_); refine L.step (Ev.build rfl rfl rfl rfl rfl rfl rfl) rfl ?_; refine L.storeA (j := 0) rfl rfl rfl rfl rfl (Nat.zero_lt_succ _) rfl rfl ?_; refine Lpu rfl rfl ?_; refine L.nil (QE.seq (C.ret (QE.tR ?_))); refine QE.nil_own 73 1 ?_; refine QE.nil_own 4 1 ?_; refine QE.nil_own 3 1 ?_; refine QE.ret (js := []) (hs := [1, 2, 3]) (vs := [_, _]) rfl ⟨⟨_, _, 0, _, rfl, rfl, Src.o 0 rfl, .inl ⟨rfl, by decide, _, rfl, rfl, rfl⟩⟩, rfl, trivial⟩ (by decide) ?_
  have e1 : liftR b = Lf.zero := by unfold liftR; rw [if_neg hno]
  have e2 : liftE b = 30 := by unfold liftE; rw [if_neg hno]
  rw [e1, e2]
  exact ⟨none, none, none, 0, 0, 0, rfl, rfl, rfl⟩
 ·
  have hco : codeB b := by simpa using hc15
  have hn4 : b.length = 4 * (wordsR b).length := by unfold wordsR; rw [if_pos hco.1, wordsF_len]; have := hco.1; omega
  have hn16 : (wordsR b).length ≤ 16384 := by have := hco.2; omega
  have hll : (labs (wordsR b)).length ≤ 16384 := by have := labs_len (wordsR b); omega
  refine C.skip (QE.seq (C.seq (C.region ?_))); refine Lpu rfl rfl ?_; refine L.call (js := []) (js' := [0]) (words2_c B b bc hl) rfl rfl rfl (by decide) (Hq [0] rfl) rfl ?_
  rintro _ _ _ ⟨WA, wc, rfl, rfl, rfl⟩
  refine L.norm (H' := [_, _]) [0, 1] ⟨rfl, rfl, trivial⟩ (by decide) ?_; refine Lpu rfl rfl ?_; refine Lpu rfl rfl ?_; refine Lpu rfl rfl ?_; refine Lpu rfl rfl ?_; refine Lpu rfl rfl ?_; refine L.nil (QE.seq (C.seq ?_)); refine C.freeze 0 rfl [1] (by decide) (by decide) ?_; refine C.norm (H' := [_]) [0] ⟨rfl, trivial⟩ (by decide) ?_; refine C.region ?_; refine L.step (Ev.build rfl rfl rfl rfl rfl rfl rfl) rfl ?_
  refine L.alloc rfl rfl rfl (fun A6 => ?_)
  refine L.storeA (j := 1) rfl rfl rfl rfl rfl (Nat.zero_lt_succ _) rfl rfl ?_; refine L.nil (QE.seq (C.seq (C.seq (C.region ?_)))); refine Lpu rfl rfl ?_; refine L.nil (QE.seq (C.block ?_)); refine C.nil_own 3 1 ?_; refine C.loop (fun q : Nat × Option Addr × Nat => [(0, .slice B b.length bc), (2, ptrOf A2 0), (4, .slice WA (wordsR b).length wc), (6, ptrOf A6 0), (7, .int .i64 (q.1 : Int))]) (fun q : Nat × Option Addr × Nat => [Rd B (U8 b), Rd WA (N32 (wordsR b))]) (fun q : Nat × Option Addr × Nat => [Own 57 3 A2 1 1 [.slice none 0 0, .slice none 0 0, .slice none 0 0], Own 57 3 A6 1 1 [.slice none 0 0, .slice none 0 0, .slice q.2.1 (labsK (wordsR b) q.1).length q.2.2], Own 3 1 q.2.1 (labsK (wordsR b) q.1).length q.2.2 (I64 (labsK (wordsR b) q.1))]) (fun q : Nat × Option Addr × Nat => q.1 ≤ (wordsR b).length) (fun q : Nat × Option Addr × Nat => (wordsR b).length - q.1) (0, none, 0) (Nat.zero_le _) (by exact Le.mk' (rs := [1, 0]) (hs := [0, 1, 2]) ⟨rfl, rfl, rfl, rfl, rfl, trivial⟩ ⟨rfl, rfl, trivial⟩ ⟨rfl, rfl, rfl, trivial⟩ (by decide)) ?_
  rintro ⟨i, LA, lc⟩ hi
  dsimp only at hi ⊢
  refine C.seq (C.seq (C.region ?_)); refine Lpu rfl rfl ?_; refine Lpu rfl rfl ?_; refine Lpu rfl rfl ?_; refine Lpu rfl rfl ?_; refine L.nil (QE.seq ?_)
  refine C.condB 26 rfl (fun hc26 => ?_) (fun hc26 => ?_)
  ·
   replace hc26 := of_decide_eq_true hc26
   have hkl := labsK_len (wordsR b) i
   refine C.skip (QE.seq (C.seq (C.block (C.seq (C.region ?_))))); refine Lpu rfl rfl ?_; refine Lpu rfl rfl ?_; refine L.step (Ev.idx1 (k := i) rfl rfl rfl rfl rfl rfl rfl (by omega) (Src.r 1 rfl) (by rw [N32_len]; omega)) rfl ?_; refine L.step (Ev.load rfl rfl rfl (Src.r 1 rfl) (N32_get (by omega))) rfl ?_; refine Lpu rfl rfl ?_; refine L.step (Ev.mul rfl rfl (by omega) (by omega)) rfl ?_; refine L.call (js := []) (js' := [0, 1, 2]) (decode2_c ((wordsR b).getD i 0) (4 * (i : Int)) (hw i) (by omega)) rfl rfl rfl (by decide) trivial rfl ?_
   rintro _ _ _ ⟨rfl, rfl, rfl⟩
   refine L.norm (H' := [_, _, _]) [0, 1, 2] ⟨rfl, rfl, rfl, trivial⟩ (by decide) ?_
   refine L.alloc rfl rfl rfl (fun A8 => ?_)
   refine L.storeA (j := 3) rfl rfl rfl rfl rfl (Nat.zero_lt_succ _) rfl rfl ?_; refine L.nil (QE.seq (C.seq (C.region ?_))); refine L.step (Ev.loadA (vs := in5 (insAt (wordsR b) i)) rfl rfl rfl (Src.o 3 rfl) rfl rfl (by decide)) rfl ?_; refine Lpu rfl rfl ?_; refine Lpu rfl rfl ?_; refine L.call (js := []) (js' := [0, 1, 2, 3]) (linkedR_c (insAt (wordsR b) i) (b.length : Int)) rfl rfl rfl (by decide) trivial rfl ?_
   rintro _ _ _ ⟨rfl, rfl, rfl⟩
   refine L.norm (H' := [_, _, _, _]) [0, 1, 2, 3] ⟨rfl, rfl, rfl, rfl, trivial⟩ (by decide) ?_; refine L.nil (QE.seq ?_)
   refine C.condB 39 rfl (fun hc39 => ?_) (fun hc39 => ?_)
   ·
    have hlk : lnk (wordsR b) i = true := by unfold lnk; rw [← hc39]; congr 1; omega
    refine C.region ?_; refine L.step (Ev.fieldAddr rfl rfl rfl rfl rfl rfl (Src.o 1 rfl) (Nat.zero_lt_succ _) rfl) rfl ?_; refine L.step (Ev.load rfl rfl rfl (Src.o 1 rfl) rfl) rfl ?_; refine L.step (Ev.fieldAddr rfl rfl rfl rfl rfl rfl (Src.o 3 rfl) (Nat.zero_lt_succ _) rfl) rfl ?_; refine L.step (Ev.load rfl rfl rfl (Src.o 3 rfl) rfl) rfl ?_; refine L.call (js := [2]) (js' := [0, 1, 3]) (insertR_c LA (labsK (wordsR b) i) lc (insAt (wordsR b) i).n (by omega) (labsK_sorted _ _)) rfl rfl rfl (by decide) trivial rfl ?_
    rintro _ _ _ ⟨LA2, lc2, rfl, rfl, rfl⟩
    refine L.norm (H' := [_, _, _, _]) [0, 1, 2, 3] ⟨rfl, rfl, rfl, rfl, trivial⟩ (by decide) ?_; refine L.step (Ev.fieldAddr rfl rfl rfl rfl rfl rfl (Src.o 2 rfl) (Nat.zero_lt_succ _) rfl) rfl ?_
    first | refine L.store (j := 0) rfl rfl rfl rfl rfl rfl rfl rfl ?_ | refine L.store (j := 1) rfl rfl rfl rfl rfl rfl rfl rfl ?_ | refine L.store (j := 2) rfl rfl rfl rfl rfl rfl rfl rfl ?_ | refine L.store (j := 3) rfl rfl rfl rfl rfl rfl rfl rfl ?_ | refine L.store (j := 4) rfl rfl rfl rfl rfl rfl rfl rfl ?_ | refine L.store (j := 5) rfl rfl rfl rfl rfl rfl rfl rfl ?_
    refine L.nil ?_; refine QE.blkN ?_; refine QE.seq (C.region ?_); refine Lpu rfl rfl ?_; refine L.step (Ev.add rfl rfl (by omega) (by omega)) rfl ?_; refine Lpu rfl rfl ?_; refine L.nil ?_
    refine QE.round (i := (i, LA, lc)) ((i + 1, LA2, lc2)) (by dsimp only; omega) (by dsimp only; omega) (by exact Le.mk' (rs := [0, 1]) (hs := [1, 2, 0]) ⟨rfl, rfl, rfl, rfl, rfl, trivial⟩ ⟨rfl, rfl, trivial⟩ ⟨rfl, (congrArg some (by dsimp only; rw [labsK_yes hlk]; rfl)), (congrArg some (by dsimp only; rw [labsK_yes hlk])), trivial⟩ (by decide))
   ·
    have hlk : lnk (wordsR b) i = false := by unfold lnk; rw [← hc39]; congr 1; omega
    refine C.skip ?_; refine QE.blkN ?_; refine QE.seq (C.region ?_); refine Lpu rfl rfl ?_; refine L.step (Ev.add rfl rfl (by omega) (by omega)) rfl ?_; refine Lpu rfl rfl ?_; refine L.nil ?_
    refine QE.round (i := (i, LA, lc)) ((i + 1, LA, lc)) (by dsimp only; omega) (by dsimp only; omega) (by exact Le.mk' (rs := [0, 1]) (hs := [0, 1, 2]) ⟨rfl, rfl, rfl, rfl, rfl, trivial⟩ ⟨rfl, rfl, trivial⟩ ⟨rfl, (congrArg some (by dsimp only; rw [labsK_no hlk])), (congrArg some (by dsimp only; rw [labsK_no hlk])), trivial⟩ (by decide))
  ·
   replace hc26 := of_decide_eq_false hc26
   refine C.exit ?_; refine QE.tX ?_; refine QE.tX ?_; refine QE.blk ?_; refine QE.seq (C.seq (C.seq (C.region ?_))); refine Lpu rfl rfl ?_; refine L.nil (QE.seq (C.block ?_))
   obtain rfl : i = (wordsR b).length := by omega
   refine C.nil_own 73 1 ?_; refine C.nil_own 4 1 ?_; refine C.loop (fun q : Nat × (Option Addr × Nat) × Option Addr × Nat => [(0, .slice B b.length bc), (2, ptrOf A2 0), (4, .slice WA (wordsR b).length wc), (6, ptrOf A6 0), (9, .int .i64 (q.1 : Int))]) (fun q : Nat × (Option Addr × Nat) × Option Addr × Nat => [Rd B (U8 b), Rd WA (N32 (wordsR b))]) (fun q : Nat × (Option Addr × Nat) × Option Addr × Nat => [Own 57 3 A2 1 1 [.slice none 0 0, .slice none 0 0, .slice none 0 0], Own 57 3 A6 1 1 [.slice q.2.1.1 (liftT (wordsR b) q.1).length q.2.1.2, .slice q.2.2.1 (markT (wordsR b) q.1).length q.2.2.2, .slice LA (labs (wordsR b)).length lc], Own 3 1 LA (labs (wordsR b)).length lc (I64 (labs (wordsR b))), Own 73 1 q.2.1.1 (liftT (wordsR b) q.1).length q.2.1.2 (N32 (liftT (wordsR b) q.1)), Own 4 1 q.2.2.1 (markT (wordsR b) q.1).length q.2.2.2 (Bs (markT (wordsR b) q.1))]) (fun q : Nat × (Option Addr × Nat) × Option Addr × Nat => q.1 ≤ (wordsR b).length) (fun q : Nat × (Option Addr × Nat) × Option Addr × Nat => (wordsR b).length - q.1) (0, (none, 0), none, 0) (Nat.zero_le _) (by exact Le.mk' (rs := [0, 1]) (hs := [0, 1, 2, 3, 4]) ⟨rfl, rfl, rfl, rfl, rfl, trivial⟩ ⟨rfl, rfl, trivial⟩ ⟨rfl, rfl, rfl, rfl, rfl, trivial⟩ (by decide)) ?_
   rintro ⟨i, ⟨WA2, wc2⟩, MA2, mc2⟩ hi
   dsimp only at hi ⊢
   refine C.seq (C.seq (C.region ?_)); refine Lpu rfl rfl ?_; refine Lpu rfl rfl ?_; refine Lpu rfl rfl ?_; refine Lpu rfl rfl ?_; refine L.nil (QE.seq ?_)
   refine C.condB 49 rfl (fun hc49 => ?_) (fun hc49 => ?_)
   ·
    replace hc49 := of_decide_eq_true hc49
    have htl := liftT_len (wordsR b) i
    have hml := markT_len (wordsR b) i
    refine C.skip (QE.seq (C.seq (C.block (C.seq ?_)))); refine C.join (fun q : Option Addr => [(0, .slice B b.length bc), (2, ptrOf A2 0), (4, .slice WA (wordsR b).length wc), (6, ptrOf A6 0), (9, .int .i64 (i : Int)), (10, ptrOf q 0), (11, .int .u32 ((((wordsR b).getD i 0) : Nat) : Int))]) (fun q : Option Addr => [Rd B (U8 b), Rd WA (N32 (wordsR b))]) (fun q : Option Addr => [Own 57 3 A2 1 1 [.slice none 0 0, .slice none 0 0, .slice none 0 0], Own 57 3 A6 1 1 [.slice WA2 (liftT (wordsR b) i).length wc2, .slice MA2 (markT (wordsR b) i).length mc2, .slice LA (labs (wordsR b)).length lc], Own 3 1 LA (labs (wordsR b)).length lc (I64 (labs (wordsR b))), Own 73 1 WA2 (liftT (wordsR b) i).length wc2 (N32 (liftT (wordsR b) i)), Own 4 1 MA2 (markT (wordsR b) i).length mc2 (Bs (markT (wordsR b) i)), Own 78 5 q 1 1 (in5 (insAt (wordsR b) i))]) (fun q : Option Addr => True) ?_ ?_
    ·
     refine C.regionM [Rd B (U8 b), Rd WA (N32 (wordsR b))] (Hq [0, 1] rfl) ?_; refine LM.q 0 rfl (by kernel_rfl) (Ev.pure rfl) rfl (Hq [0, 1] rfl) ?_; refine LM.q 1 rfl (by kernel_rfl) (Ev.pure rfl) rfl (Hq [0, 1] rfl) ?_; refine LM.q 2 rfl (by kernel_rfl) (Ev.idx1 (k := i) rfl rfl rfl rfl rfl rfl rfl (by omega) (Src.r 1 rfl) (by rw [N32_len]; omega)) rfl (Hq [0, 1] rfl) ?_; refine LM.q 3 rfl (by kernel_rfl) (Ev.load rfl rfl rfl (Src.r 1 rfl) (N32_get (by omega))) rfl (Hq [0, 1] rfl) ?_; refine LM.q 4 rfl (by kernel_rfl) (Ev.pure rfl) rfl (Hq [0, 1] rfl) ?_; refine LM.q 5 rfl (by kernel_rfl) (Ev.mul rfl rfl (by omega) (by omega)) rfl (Hq [0, 1] rfl) ?_; refine LM.q 7 rfl (by kernel_rfl) (Ev.pure rfl) rfl (Hq [0, 1] rfl) ?_; refine LM.q 8 rfl (by kernel_rfl) (Ev.pure rfl) rfl (Hq [0, 1] rfl) ?_; refine LM.q 9 rfl (by kernel_rfl) (Ev.idx1 (k := i) rfl rfl rfl rfl rfl rfl rfl (by omega) (Src.r 1 rfl) (by rw [N32_len]; omega)) rfl (Hq [0, 1] rfl) ?_; refine LM.q 10 rfl (by kernel_rfl) (Ev.load rfl rfl rfl (Src.r 1 rfl) (N32_get (by omega))) rfl (Hq [0, 1] rfl) ?_
     refine LM.alt [6, 11] (by kernel_rfl) (by decide) (Hq [0, 1] rfl) ⟨⟨_, rfl, ?_⟩, ⟨_, rfl, ?_⟩, trivial⟩
     ·
      refine L.call (js := []) (js' := [0, 1, 2, 3, 4]) (decode2_c ((wordsR b).getD i 0) (4 * (i : Int)) (hw i) (by omega)) rfl rfl rfl (by decide) trivial rfl ?_
      rintro _ _ _ ⟨rfl, rfl, rfl⟩
      refine L.norm (H' := [_, _, _, _, _]) [0, 1, 2, 3, 4] ⟨rfl, rfl, rfl, rfl, rfl, trivial⟩ (by decide) ?_
      refine L.nil (QE.m (by kernel_rfl) ?_)
      refine LM.f 11 rfl (by kernel_rfl) (Hq [0, 1] rfl) ?_
      refine L.alloc rfl rfl rfl (fun A10 => ?_)
      refine L.nil (QE.m (by kernel_rfl) ?_)
      refine LM.f 12 rfl (by kernel_rfl) (Hq [0, 1] rfl) ?_; refine L.storeA (j := 5) rfl rfl rfl rfl rfl (Nat.zero_lt_succ _) rfl rfl ?_
      refine L.nil (QE.m (by kernel_rfl) ?_)
      refine LM.cut [] (by kernel_rfl) (Hq [0, 1] rfl) ?_; refine LM.f 13 rfl (by kernel_rfl) trivial ?_; refine Lpu rfl rfl ?_
      refine L.nil (QE.m (by kernel_rfl) ?_)
      refine LM.nil (by kernel_rfl) trivial ?_
      refine QE.joined (A10) (by exact trivial) (by exact Le.mk' (rs := [0, 1]) (hs := [0, 1, 2, 3, 4, 5]) ⟨rfl, rfl, rfl, rfl, rfl, rfl, rfl, trivial⟩ ⟨rfl, rfl, trivial⟩ ⟨rfl, rfl, rfl, rfl, rfl, rfl, trivial⟩ (by decide))
     ·
      refine L.alloc rfl rfl rfl (fun A10 => ?_)
      refine L.nil (QE.m (by kernel_rfl) ?_)
      refine LM.f 6 rfl (by kernel_rfl) (Hq [0, 1] rfl) ?_; refine L.call (js := []) (js' := [0, 1, 2, 3, 4, 5]) (decode2_c ((wordsR b).getD i 0) (4 * (i : Int)) (hw i) (by omega)) rfl rfl rfl (by decide) trivial rfl ?_
      rintro _ _ _ ⟨rfl, rfl, rfl⟩
      refine L.norm (H' := [_, _, _, _, _, _]) [0, 1, 2, 3, 4, 5] ⟨rfl, rfl, rfl, rfl, rfl, rfl, trivial⟩ (by decide) ?_
      refine L.nil (QE.m (by kernel_rfl) ?_)
      refine LM.f 12 rfl (by kernel_rfl) (Hq [0, 1] rfl) ?_; refine L.storeA (j := 5) rfl rfl rfl rfl rfl (Nat.zero_lt_succ _) rfl rfl ?_
      refine L.nil (QE.m (by kernel_rfl) ?_)
      refine LM.cut [] (by kernel_rfl) (Hq [0, 1] rfl) ?_; refine LM.f 13 rfl (by kernel_rfl) trivial ?_; refine Lpu rfl rfl ?_
      refine L.nil (QE.m (by kernel_rfl) ?_)
      refine LM.nil (by kernel_rfl) trivial ?_
      refine QE.joined (A10) (by exact trivial) (by exact Le.mk' (rs := [0, 1]) (hs := [0, 1, 2, 3, 4, 5]) ⟨rfl, rfl, rfl, rfl, rfl, rfl, rfl, trivial⟩ ⟨rfl, rfl, trivial⟩ ⟨rfl, rfl, rfl, rfl, rfl, rfl, trivial⟩ (by decide))
    ·
     intro A10 _
     refine QE.seq (C.seq (C.region ?_)); refine L.step (Ev.loadA (vs := in5 (insAt (wordsR b) i)) rfl rfl rfl (Src.o 5 rfl) rfl rfl (by decide)) rfl ?_; refine Lpu rfl rfl ?_; refine Lpu rfl rfl ?_; refine L.call (js := []) (js' := [0, 1, 2, 3, 4, 5]) (linkedR_c (insAt (wordsR b) i) (b.length : Int)) rfl rfl rfl (by decide) trivial rfl ?_
     rintro _ _ _ ⟨rfl, rfl, rfl⟩
     refine L.norm (H' := [_, _, _, _, _, _]) [0, 1, 2, 3, 4, 5] ⟨rfl, rfl, rfl, rfl, rfl, rfl, trivial⟩ (by decide) ?_; refine Lpu rfl rfl ?_; refine L.nil (QE.seq ?_); refine C.seqJ (fun u : Unit => [(0, .slice B b.length bc), (2, ptrOf A2 0), (4, .slice WA (wordsR b).length wc), (6, ptrOf A6 0), (9, .int .i64 (i : Int)), (11, .int .u32 (((liftW (wordsR b) i) : Nat) : Int)), (12, .bool (lnk (wordsR b) i))]) (fun u : Unit => [Rd B (U8 b), Rd WA (N32 (wordsR b))]) (fun u : Unit => [Own 57 3 A2 1 1 [.slice none 0 0, .slice none 0 0, .slice none 0 0], Own 57 3 A6 1 1 [.slice WA2 (liftT (wordsR b) i).length wc2, .slice MA2 (markT (wordsR b) i).length mc2, .slice LA (labs (wordsR b)).length lc], Own 3 1 LA (labs (wordsR b)).length lc (I64 (labs (wordsR b))), Own 73 1 WA2 (liftT (wordsR b) i).length wc2 (N32 (liftT (wordsR b) i)), Own 4 1 MA2 (markT (wordsR b) i).length mc2 (Bs (markT (wordsR b) i))]) (fun u : Unit => True) ?_ ?_
     ·
      refine C.seq (C.region ?_); refine Lpu rfl rfl ?_; refine L.nil (QE.seq ?_)
      refine C.condB 67 rfl (fun hc67 => ?_) (fun hc67 => ?_)
      ·
       have hlk : lnk (wordsR b) i = true := by unfold lnk; rw [← hc67]; congr 1; omega
       have hsp := lnk_spec hlk
       refine C.regionM [Rd A6 [.slice WA2 (liftT (wordsR b) i).length wc2, .slice MA2 (markT (wordsR b) i).length mc2, .slice LA (labs (wordsR b)).length lc], Rd A10 (in5 (insAt (wordsR b) i))] ⟨Has.o 1 rfl, Has.o 5 rfl, trivial⟩ ?_; refine LM.q 0 rfl (by kernel_rfl) (Ev.pure rfl) rfl ⟨Has.o 1 rfl, Has.o 5 rfl, trivial⟩ ?_; refine LM.q 1 rfl (by kernel_rfl) (Ev.fieldAddr rfl rfl rfl rfl rfl rfl (Src.r 1 rfl) (Nat.zero_lt_succ _) rfl) rfl ⟨Has.o 1 rfl, Has.o 5 rfl, trivial⟩ ?_; refine LM.q 2 rfl (by kernel_rfl) (Ev.cast (u := .int .i64 (((insAt (wordsR b) i).op.toNat : Nat) : Int)) (Ev.load rfl rfl rfl (Src.r 1 rfl) rfl) (congrArg (Value.int .i64) (by omega))) rfl ⟨Has.o 1 rfl, Has.o 5 rfl, trivial⟩ ?_; refine LM.q 3 rfl (by kernel_rfl) (Ev.fieldAddr rfl rfl rfl rfl rfl rfl (Src.r 0 rfl) (Nat.zero_lt_succ _) rfl) rfl ⟨Has.o 1 rfl, Has.o 5 rfl, trivial⟩ ?_; refine LM.q 4 rfl (by kernel_rfl) (Ev.load rfl rfl rfl (Src.r 0 rfl) rfl) rfl ⟨Has.o 1 rfl, Has.o 5 rfl, trivial⟩ ?_; refine LM.f 5 rfl (by kernel_rfl) ⟨Has.o 1 rfl, Has.o 5 rfl, trivial⟩ ?_; refine L.step (Ev.fieldAddr rfl rfl rfl rfl rfl rfl (Src.o 5 rfl) (Nat.zero_lt_succ _) rfl) rfl ?_
       refine L.nil (QE.m (by kernel_rfl) ?_)
       refine LM.f 6 rfl (by kernel_rfl) ⟨Has.o 1 rfl, Has.o 5 rfl, trivial⟩ ?_; refine L.step (Ev.load rfl rfl rfl (Src.o 5 rfl) rfl) rfl ?_
       refine L.nil (QE.m (by kernel_rfl) ?_)
       refine LM.f 7 rfl (by kernel_rfl) ⟨Has.o 1 rfl, Has.o 5 rfl, trivial⟩ ?_; refine L.call (js := []) (js' := [0, 1, 2, 3, 4, 5]) (index_c LA (labs (wordsR b)) lc (insAt (wordsR b) i).n (by omega)) rfl rfl rfl (by decide) ⟨(Has.o 2 rfl), trivial⟩ rfl ?_
       rintro _ _ _ ⟨rfl, rfl, rfl⟩
       rw [idxI_sorted (labs_sorted _) (labs_mem (by omega) hlk)]
       refine L.norm (H' := [_, _, _, _, _, _]) [0, 1, 2, 3, 4, 5] ⟨rfl, rfl, rfl, rfl, rfl, rfl, trivial⟩ (by decide) ?_
       refine L.nil (QE.m (by kernel_rfl) ?_)
       refine LM.cut [] (by kernel_rfl) ⟨Has.o 1 rfl, Has.o 5 rfl, trivial⟩ ?_; refine LM.f 8 rfl (by kernel_rfl) trivial ?_; refine L.call (js := []) (js' := [0, 1, 2, 3, 4, 5]) (numbered_c ((wordsR b).getD i 0) (insAt (wordsR b) i).op.toNat (idxL (labs (wordsR b)) (insAt (wordsR b) i).n) (hw i) (by have := idxL_le (labs (wordsR b)) (insAt (wordsR b) i).n; omega)) rfl rfl rfl (by decide) trivial rfl ?_
       rintro _ _ _ ⟨rfl, rfl, rfl⟩
       rw [show numW ((wordsR b).getD i 0) (((insAt (wordsR b) i).op.toNat : Nat) : Int) (idxL (labs (wordsR b)) (insAt (wordsR b) i).n) = (liftW (wordsR b) i) by rw [Int.toNat_of_nonneg (by omega)]; unfold liftW; rw [if_pos hlk]]
       refine L.norm (H' := [_, _, _, _, _, _]) [0, 1, 2, 3, 4, 5] ⟨rfl, rfl, rfl, rfl, rfl, rfl, trivial⟩ (by decide) ?_
       refine L.nil (QE.m (by kernel_rfl) ?_)
       refine LM.f 9 rfl (by kernel_rfl) trivial ?_; refine Lpu rfl rfl ?_
       refine L.nil (QE.m (by kernel_rfl) ?_)
       refine LM.nil (by kernel_rfl) trivial ?_
       refine QE.join (()) (by exact trivial) (by exact Le.mk' (rs := [0, 1]) (hs := [0, 1, 2, 3, 4]) ⟨rfl, rfl, rfl, rfl, rfl, rfl, (congrArg (fun z => some (Value.bool z)) (hc67.trans hlk.symm)), trivial⟩ ⟨rfl, rfl, trivial⟩ ⟨rfl, rfl, rfl, rfl, rfl, trivial⟩ (by decide))
      ·
       have hlk : lnk (wordsR b) i = false := by unfold lnk; rw [← hc67]; congr 1; omega
       refine C.skip ?_
       refine QE.join (()) (by exact trivial) (by exact Le.mk' (rs := [0, 1]) (hs := [0, 1, 2, 3, 4]) ⟨rfl, rfl, rfl, rfl, rfl, (by rw [show (liftW (wordsR b) i) = ((wordsR b).getD i 0) by unfold liftW; rw [if_neg (by rw [hlk]; decide)]]; rfl), (congrArg (fun z => some (Value.bool z)) (hc67.trans hlk.symm)), trivial⟩ ⟨rfl, rfl, trivial⟩ ⟨rfl, rfl, rfl, rfl, rfl, trivial⟩ (by decide))
     ·
      intro _ _
      refine C.seq (C.region ?_); refine L.step (Ev.fieldAddr rfl rfl rfl rfl rfl rfl (Src.o 1 rfl) (Nat.zero_lt_succ _) rfl) rfl ?_; refine L.step (Ev.load rfl rfl rfl (Src.o 1 rfl) rfl) rfl ?_; refine Lpu rfl rfl ?_
      refine L.lit rfl rfl rfl rfl rfl (by rfl) (by rfl) (by rfl) rfl rfl (fun A80 => ?_)
      refine L.append (j := 3) rfl rfl rfl rfl (by decide) rfl rfl rfl rfl (Src.o 5 rfl) rfl (N32_one [(liftW (wordsR b) i)]) (by omega) (by show _ * 4 ≤ _; omega) rfl (fun A81 cc81 => ?_)
      refine L.step (Ev.fieldAddr rfl rfl rfl rfl rfl rfl (Src.o 1 rfl) (Nat.zero_lt_succ _) rfl) rfl ?_
      first | refine L.store (j := 0) rfl rfl rfl rfl rfl rfl rfl rfl ?_ | refine L.store (j := 1) rfl rfl rfl rfl rfl rfl rfl rfl ?_ | refine L.store (j := 2) rfl rfl rfl rfl rfl rfl rfl rfl ?_ | refine L.store (j := 3) rfl rfl rfl rfl rfl rfl rfl rfl ?_ | refine L.store (j := 4) rfl rfl rfl rfl rfl rfl rfl rfl ?_ | refine L.store (j := 5) rfl rfl rfl rfl rfl rfl rfl rfl ?_
      refine L.nil (QE.seq (C.region ?_)); refine L.step (Ev.fieldAddr rfl rfl rfl rfl rfl rfl (Src.o 1 rfl) (Nat.zero_lt_succ _) rfl) rfl ?_; refine L.step (Ev.load rfl rfl rfl (Src.o 1 rfl) rfl) rfl ?_; refine Lpu rfl rfl ?_
      refine L.lit rfl rfl rfl rfl rfl (by rfl) (by rfl) (by rfl) rfl rfl (fun A86 => ?_)
      refine L.append (j := 4) rfl rfl rfl rfl (by decide) rfl rfl rfl rfl (Src.o 6 rfl) rfl (Bs_one [lnk (wordsR b) i]) (by omega) (by show _ * 1 ≤ _; omega) rfl (fun A87 cc87 => ?_)
      refine L.step (Ev.fieldAddr rfl rfl rfl rfl rfl rfl (Src.o 1 rfl) (Nat.zero_lt_succ _) rfl) rfl ?_
      first | refine L.store (j := 0) rfl rfl rfl rfl rfl rfl rfl rfl ?_ | refine L.store (j := 1) rfl rfl rfl rfl rfl rfl rfl rfl ?_ | refine L.store (j := 2) rfl rfl rfl rfl rfl rfl rfl rfl ?_ | refine L.store (j := 3) rfl rfl rfl rfl rfl rfl rfl rfl ?_ | refine L.store (j := 4) rfl rfl rfl rfl rfl rfl rfl rfl ?_ | refine L.store (j := 5) rfl rfl rfl rfl rfl rfl rfl rfl ?_
      refine L.nil ?_; refine QE.blkN ?_; refine QE.seq (C.region ?_); refine Lpu rfl rfl ?_; refine L.step (Ev.add rfl rfl (by omega) (by omega)) rfl ?_; refine Lpu rfl rfl ?_; refine L.nil ?_
      have he := liftT_succ (wordsR b) i
      have hel : (liftT (wordsR b) (i + 1)).length = (liftT (wordsR b) i).length + 1 := by rw [he, List.length_append]; rfl
      have hm := markT_succ (wordsR b) i
      have hmm : (markT (wordsR b) (i + 1)).length = (markT (wordsR b) i).length + 1 := by rw [hm, List.length_append]; rfl
      refine QE.round (i := (i, (WA2, wc2), MA2, mc2)) ((i + 1, (A81, cc81), A87, cc87)) (by dsimp only; omega) (by dsimp only; omega) (by exact Le.mk' (rs := [0, 1]) (hs := [0, 1, 2, 3, 4]) ⟨rfl, rfl, rfl, rfl, rfl, trivial⟩ ⟨rfl, rfl, trivial⟩ ⟨rfl, (congrArg some (own_eq2 rfl (by dsimp only; rw [hel, hmm]; rfl))), rfl, (congrArg some (own_eq2 hel.symm (by dsimp only; rw [he]; simp only [← N32_app]; rfl))), (congrArg some (own_eq2 hmm.symm (by dsimp only; rw [hm]; simp only [← Bs_app2]; rfl))), trivial⟩ (by decide))
   ·
    replace hc49 := of_decide_eq_false hc49
    refine C.exit ?_; refine QE.tX ?_; refine QE.tX ?_; refine QE.blk ?_; refine QE.seq (C.seq (C.region ?_)); refine L.step (Ev.loadA rfl rfl rfl (Src.o 1 rfl) rfl rfl (by decide)) rfl ?_; refine L.storeA (j := 0) rfl rfl rfl rfl rfl (Nat.zero_lt_succ _) rfl rfl ?_; refine Lpu rfl rfl ?_; refine L.nil (QE.seq (C.ret ?_)); refine QE.ret (js := []) (hs := [3, 4, 2]) (vs := [_, _]) rfl ⟨⟨_, _, 0, _, rfl, rfl, Src.o 0 rfl, .inl ⟨rfl, by decide, _, rfl, rfl, rfl⟩⟩, rfl, trivial⟩ (by decide) ?_
    obtain rfl : i = (wordsR b).length := by omega
    have e1 : liftR b = liftF (wordsR b) := by unfold liftR; rw [if_pos hco]; unfold wordsR; rw [if_pos hco.1]
    have e2 : liftE b = 0 := by unfold liftE; rw [if_pos hco]
    rw [e1, e2]
    exact ⟨WA2, MA2, LA, wc2, mc2, lc, rfl, rfl, rfl⟩

end Go.Proofs.YtbkmahjhhncfcaaGreat
