/-
  The contract of the program's Moved.
-/
import Derived.Test.YtbkmahjhhncfcaaGreatQLah
section
namespace Go.Proofs.YtbkmahjhhncfcaaGreat
open Go.Sl

set_option maxHeartbeats 2000000 in
theorem moved_c (B : Option Addr) (b : List UInt8) (bc : Nat) (hb : b.length ≤ bc) (hl : b.length ≤ 1000000) (p q : Int) :
   Ctr X 26 [.slice B b.length bc, .int .i64 p, .int .i64 q] [Rd B (U8 b)] [] (fun v R' H' => ∃ (A : Option Addr) (c : Nat), v = .tuple #[.slice A (movB b p q).length c, .int .i64 (movC b p q)] ∧ R' = [] ∧ H' = [Own 5 1 A (movB b p q).length c (U8 (movB b p q))]) := by
 refine Ctr.of (X := X) (fn := Tryz.f26) Tryz.func26 rfl (by kernel_rfl) rfl ?_
 intro β
 have hx3 := liftR_lens b
 have hxm := liftR_marks b
 have hx32 := liftR_w32 b
 refine C.seq (C.region ?_); refine Lpu rfl rfl ?_; refine Lpu rfl rfl ?_; refine L.nil (QE.seq (C.seq (C.region ?_))); refine Lpu rfl rfl ?_; refine L.call (js := []) (js' := []) (lift_c B b bc hb hl) rfl rfl rfl (by decide) (Hq [0] rfl) rfl ?_
 rintro _ _ _ ⟨WA, MA, LA, lc, rfl, rfl, rfl⟩
 refine L.norm (H' := [_, _, _]) [0, 1, 2] ⟨rfl, rfl, rfl, trivial⟩ (by decide) ?_; refine Lpu rfl rfl ?_; refine Lpu rfl rfl ?_; refine Lpu rfl rfl ?_
 refine L.alloc rfl rfl rfl (fun A8 => ?_)
 refine L.storeA (j := 3) rfl rfl rfl rfl rfl (Nat.zero_lt_succ _) rfl rfl ?_; refine Lpu rfl rfl ?_; refine L.nil (QE.seq (C.seq (C.seq (C.region ?_)))); refine Lpu rfl rfl ?_; refine Lpu rfl rfl ?_; refine Lpu rfl rfl ?_
 refine L.bool 19 rfl (fun hg19 => ?_) (fun hg19 => ?_)
 ·
  replace hg19 := b_ne hg19
  have hno : ¬ movOk b p q := fun h => hg19 (by unfold liftE; rw [if_pos h.1])
  refine L.no rfl rfl rfl ?_; refine L.no rfl rfl rfl ?_; refine Lpu rfl rfl ?_; refine Lpu rfl rfl ?_; refine L.no rfl rfl rfl ?_; refine L.no rfl rfl rfl ?_; refine L.no rfl rfl rfl ?_; refine L.no rfl rfl rfl ?_; refine L.no rfl rfl rfl ?_; refine Lpu rfl rfl ?_; refine Lpu rfl rfl ?_; refine L.no rfl rfl rfl ?_; refine L.no rfl rfl rfl ?_; refine Lpu rfl rfl ?_; refine Lpu rfl rfl ?_; refine L.no rfl rfl rfl ?_; refine L.no rfl rfl rfl ?_; refine L.no rfl rfl rfl ?_; refine L.no rfl rfl rfl ?_; refine L.no rfl rfl rfl ?_; refine L.no rfl rfl rfl ?_; refine Lpu rfl rfl ?_; refine L.nil (QE.seq ?_)
  refine C.cond rfl (fun _ => ?_) (fun h => by cases h)
  refine C.seq (C.region ?_); refine Lpu rfl rfl ?_; refine Lpu rfl rfl ?_; refine L.nil (QE.seq (C.ret (QE.tR ?_))); refine QE.nil_own 5 1 ?_; refine QE.ret (js := []) (hs := [4]) (vs := [_, _]) rfl ⟨rfl, rfl, trivial⟩ (by decide) ?_
  have e1 : movB b p q = [] := by unfold movB; rw [if_neg hno]
  have e2 : movC b p q = 30 := by unfold movC; rw [if_neg hno]
  rw [e1, e2]
  exact ⟨none, 0, rfl, rfl, rfl⟩
 ·
  replace hg19 := b_eq hg19
  refine L.yes rfl ?_; refine Lpu rfl rfl ?_; refine L.yes rfl ?_; refine Lpu rfl rfl ?_; refine Lpu rfl rfl ?_; refine Lpu rfl rfl ?_
  refine L.bool 23 rfl (fun hg23 => ?_) (fun hg23 => ?_)
  ·
   replace hg23 := of_decide_eq_true hg23
   have hno : ¬ movOk b p q := fun h => by have := h.2.1; omega
   refine L.no rfl rfl rfl ?_; refine L.no rfl rfl rfl ?_; refine L.no rfl rfl rfl ?_; refine L.no rfl rfl rfl ?_; refine L.no rfl rfl rfl ?_; refine Lpu rfl rfl ?_; refine Lpu rfl rfl ?_; refine L.no rfl rfl rfl ?_; refine L.no rfl rfl rfl ?_; refine Lpu rfl rfl ?_; refine Lpu rfl rfl ?_; refine L.no rfl rfl rfl ?_; refine L.no rfl rfl rfl ?_; refine L.no rfl rfl rfl ?_; refine L.no rfl rfl rfl ?_; refine L.no rfl rfl rfl ?_; refine L.no rfl rfl rfl ?_; refine Lpu rfl rfl ?_; refine L.nil (QE.seq ?_)
   refine C.cond rfl (fun _ => ?_) (fun h => by cases h)
   refine C.seq (C.region ?_); refine Lpu rfl rfl ?_; refine Lpu rfl rfl ?_; refine L.nil (QE.seq (C.ret (QE.tR ?_))); refine QE.nil_own 5 1 ?_; refine QE.ret (js := []) (hs := [4]) (vs := [_, _]) rfl ⟨rfl, rfl, trivial⟩ (by decide) ?_
   have e1 : movB b p q = [] := by unfold movB; rw [if_neg hno]
   have e2 : movC b p q = 30 := by unfold movC; rw [if_neg hno]
   rw [e1, e2]
   exact ⟨none, 0, rfl, rfl, rfl⟩
  ·
   replace hg23 := of_decide_eq_false hg23
   refine L.yes rfl ?_; refine Lpu rfl rfl ?_; refine L.yes rfl ?_; refine L.step (Ev.fieldAddr rfl rfl rfl rfl rfl rfl (Src.o 3 rfl) (Nat.zero_lt_succ _) rfl) rfl ?_; refine L.yes rfl ?_; refine L.step (Ev.load rfl rfl rfl (Src.o 3 rfl) rfl) rfl ?_; refine L.yes rfl ?_; refine Lpu rfl rfl ?_; refine L.yes rfl ?_; refine Lpu rfl rfl ?_; refine Lpu rfl rfl ?_; refine Lpu rfl rfl ?_
   refine L.bool 30 rfl (fun hg30 => ?_) (fun hg30 => ?_)
   ·
    replace hg30 := of_decide_eq_true hg30
    have hno : ¬ movOk b p q := fun h => by have := h.2.2.1; omega
    refine L.no rfl rfl rfl ?_; refine L.no rfl rfl rfl ?_; refine Lpu rfl rfl ?_; refine Lpu rfl rfl ?_; refine L.no rfl rfl rfl ?_; refine L.no rfl rfl rfl ?_; refine L.no rfl rfl rfl ?_; refine L.no rfl rfl rfl ?_; refine L.no rfl rfl rfl ?_; refine L.no rfl rfl rfl ?_; refine Lpu rfl rfl ?_; refine L.nil (QE.seq ?_)
    refine C.cond rfl (fun _ => ?_) (fun h => by cases h)
    refine C.seq (C.region ?_); refine Lpu rfl rfl ?_; refine Lpu rfl rfl ?_; refine L.nil (QE.seq (C.ret (QE.tR ?_))); refine QE.nil_own 5 1 ?_; refine QE.ret (js := []) (hs := [4]) (vs := [_, _]) rfl ⟨rfl, rfl, trivial⟩ (by decide) ?_
    have e1 : movB b p q = [] := by unfold movB; rw [if_neg hno]
    have e2 : movC b p q = 30 := by unfold movC; rw [if_neg hno]
    rw [e1, e2]
    exact ⟨none, 0, rfl, rfl, rfl⟩
   ·
    replace hg30 := of_decide_eq_false hg30
    refine L.yes rfl ?_; refine Lpu rfl rfl ?_; refine L.yes rfl ?_; refine Lpu rfl rfl ?_; refine Lpu rfl rfl ?_; refine Lpu rfl rfl ?_
    refine L.bool 34 rfl (fun hg34 => ?_) (fun hg34 => ?_)
    ·
     replace hg34 := of_decide_eq_true hg34
     have hno : ¬ movOk b p q := fun h => by have := h.2.2.2.1; omega
     refine L.no rfl rfl rfl ?_; refine L.no rfl rfl rfl ?_; refine L.no rfl rfl rfl ?_; refine L.no rfl rfl rfl ?_; refine L.no rfl rfl rfl ?_; refine L.no rfl rfl rfl ?_; refine Lpu rfl rfl ?_; refine L.nil (QE.seq ?_)
     refine C.cond rfl (fun _ => ?_) (fun h => by cases h)
     refine C.seq (C.region ?_); refine Lpu rfl rfl ?_; refine Lpu rfl rfl ?_; refine L.nil (QE.seq (C.ret (QE.tR ?_))); refine QE.nil_own 5 1 ?_; refine QE.ret (js := []) (hs := [4]) (vs := [_, _]) rfl ⟨rfl, rfl, trivial⟩ (by decide) ?_
     have e1 : movB b p q = [] := by unfold movB; rw [if_neg hno]
     have e2 : movC b p q = 30 := by unfold movC; rw [if_neg hno]
     rw [e1, e2]
     exact ⟨none, 0, rfl, rfl, rfl⟩
    ·
     replace hg34 := of_decide_eq_false hg34
     refine L.yes rfl ?_; refine Lpu rfl rfl ?_; refine L.yes rfl ?_; refine L.step (Ev.fieldAddr rfl rfl rfl rfl rfl rfl (Src.o 3 rfl) (Nat.zero_lt_succ _) rfl) rfl ?_; refine L.yes rfl ?_; refine L.step (Ev.load rfl rfl rfl (Src.o 3 rfl) rfl) rfl ?_; refine L.yes rfl ?_; refine Lpu rfl rfl ?_; refine L.yes rfl ?_; refine L.step (Ev.sub rfl rfl (by omega) (by omega)) rfl ?_; refine L.yes rfl ?_; refine Lpu rfl rfl ?_; refine Lpu rfl rfl ?_; refine L.nil (QE.seq ?_)
     refine C.condB 41 rfl (fun hc41 => ?_) (fun hc41 => ?_)
     ·
      replace hc41 := of_decide_eq_true hc41
      have hno : ¬ movOk b p q := fun h => by have := h.2.2.2.2; omega
      refine C.seq (C.region ?_); refine Lpu rfl rfl ?_; refine Lpu rfl rfl ?_; refine L.nil (QE.seq (C.ret (QE.tR ?_))); refine QE.nil_own 5 1 ?_; refine QE.ret (js := []) (hs := [4]) (vs := [_, _]) rfl ⟨rfl, rfl, trivial⟩ (by decide) ?_
      have e1 : movB b p q = [] := by unfold movB; rw [if_neg hno]
      have e2 : movC b p q = 30 := by unfold movC; rw [if_neg hno]
      rw [e1, e2]
      exact ⟨none, 0, rfl, rfl, rfl⟩
     ·
      replace hc41 := of_decide_eq_false hc41
      have hco : codeB b := by
        unfold liftE at hg19
        split at hg19
        · assumption
        · cases hg19
      have hok : movOk b p q := ⟨hco, by omega, by omega, by omega, by omega⟩
      have hmv := moveF_lens (liftR b) (at_ := p.toNat) (by_ := q.toNat) (by omega) hxm
      refine C.skip (QE.seq (C.seq ?_)); refine C.regionM [Rd A8 [.slice WA (liftR b).ws.length (liftR b).ws.length, .slice MA (liftR b).ms.length (liftR b).ms.length, .slice LA (liftR b).ls.length lc]] ⟨Has.o 3 rfl, trivial⟩ ?_; refine LM.q 0 rfl (by kernel_rfl) (Ev.fieldAddr rfl rfl rfl rfl rfl rfl (Src.r 0 rfl) (Nat.zero_lt_succ _) rfl) rfl ⟨Has.o 3 rfl, trivial⟩ ?_; refine LM.q 1 rfl (by kernel_rfl) (Ev.load rfl rfl rfl (Src.r 0 rfl) rfl) rfl ⟨Has.o 3 rfl, trivial⟩ ?_; refine LM.q 2 rfl (by kernel_rfl) (Ev.cast (u := .int .i64 ((p.toNat : Nat) : Int)) (Ev.pure rfl) (congrArg (Value.int .i64) (by omega))) rfl ⟨Has.o 3 rfl, trivial⟩ ?_; refine LM.f 3 rfl (by kernel_rfl) ⟨Has.o 3 rfl, trivial⟩ ?_; refine Lpu rfl rfl ?_
      refine L.nil (QE.m (by kernel_rfl) ?_)
      refine LM.f 4 rfl (by kernel_rfl) ⟨Has.o 3 rfl, trivial⟩ ?_
      refine L.make (m := q.toNat) rfl rfl rfl rfl rfl rfl rfl rfl (by omega) (by show 4 * _ ≤ _; omega) (by omega) rfl (fun A46 => ?_)
      refine L.nil (QE.m (by kernel_rfl) ?_)
      refine LM.cut [] (by kernel_rfl) ⟨Has.o 3 rfl, trivial⟩ ?_; refine LM.f 5 rfl (by kernel_rfl) trivial ?_; refine L.call (js := [0, 4]) (js' := [1, 2, 3]) (insertW_c WA A46 (liftR b).ws.length q.toNat p.toNat (N32 (liftR b).ws) (List.replicate q.toNat (.int .u32 0)) (N32_one _) (fun v hv => by rw [(List.mem_replicate.1 hv).2]; rfl) (N32_len _) (by simp) (by omega) (by omega)) rfl rfl rfl (by decide) trivial rfl ?_
      rintro _ _ _ ⟨WA2, w2, rfl, rfl, rfl⟩
      refine L.norm (H' := [_, _, _, _]) [0, 1, 2, 3] ⟨rfl, rfl, rfl, rfl, trivial⟩ (by decide) ?_
      refine L.nil (QE.m (by kernel_rfl) ?_)
      refine LM.f 6 rfl (by kernel_rfl) trivial ?_; refine L.step (Ev.fieldAddr rfl rfl rfl rfl rfl rfl (Src.o 3 rfl) (Nat.zero_lt_succ _) rfl) rfl ?_
      refine L.nil (QE.m (by kernel_rfl) ?_)
      refine LM.f 7 rfl (by kernel_rfl) trivial ?_
      first | refine L.store (j := 0) rfl rfl rfl rfl rfl rfl rfl rfl ?_ | refine L.store (j := 1) rfl rfl rfl rfl rfl rfl rfl rfl ?_ | refine L.store (j := 2) rfl rfl rfl rfl rfl rfl rfl rfl ?_ | refine L.store (j := 3) rfl rfl rfl rfl rfl rfl rfl rfl ?_ | refine L.store (j := 4) rfl rfl rfl rfl rfl rfl rfl rfl ?_ | refine L.store (j := 5) rfl rfl rfl rfl rfl rfl rfl rfl ?_
      refine L.nil (QE.m (by kernel_rfl) ?_)
      refine LM.nil (by kernel_rfl) trivial ?_; refine QE.seq (C.seq ?_); refine C.regionM [Rd A8 [.slice WA2 ((liftR b).ws.length + q.toNat) w2, .slice MA (liftR b).ms.length (liftR b).ms.length, .slice LA (liftR b).ls.length lc]] ⟨Has.o 3 rfl, trivial⟩ ?_; refine LM.q 0 rfl (by kernel_rfl) (Ev.fieldAddr rfl rfl rfl rfl rfl rfl (Src.r 0 rfl) (Nat.zero_lt_succ _) rfl) rfl ⟨Has.o 3 rfl, trivial⟩ ?_; refine LM.q 1 rfl (by kernel_rfl) (Ev.load rfl rfl rfl (Src.r 0 rfl) rfl) rfl ⟨Has.o 3 rfl, trivial⟩ ?_; refine LM.q 2 rfl (by kernel_rfl) (Ev.cast (u := .int .i64 ((p.toNat : Nat) : Int)) (Ev.pure rfl) (congrArg (Value.int .i64) (by omega))) rfl ⟨Has.o 3 rfl, trivial⟩ ?_; refine LM.f 3 rfl (by kernel_rfl) ⟨Has.o 3 rfl, trivial⟩ ?_; refine Lpu rfl rfl ?_
      refine L.nil (QE.m (by kernel_rfl) ?_)
      refine LM.f 4 rfl (by kernel_rfl) ⟨Has.o 3 rfl, trivial⟩ ?_
      refine L.make (m := q.toNat) rfl rfl rfl rfl rfl rfl rfl rfl (by omega) (by show 1 * _ ≤ _; omega) (by omega) rfl (fun A53 => ?_)
      refine L.nil (QE.m (by kernel_rfl) ?_)
      refine LM.cut [] (by kernel_rfl) ⟨Has.o 3 rfl, trivial⟩ ?_; refine LM.f 5 rfl (by kernel_rfl) trivial ?_; refine L.call (js := [1, 4]) (js' := [0, 2, 3]) (insertB_c MA A53 (liftR b).ms.length q.toNat p.toNat (Bs (liftR b).ms) (List.replicate q.toNat (.bool false)) (Bs_one _) (fun v hv => by rw [(List.mem_replicate.1 hv).2]; rfl) (Bs_len _) (by simp) (by omega) (by omega)) rfl rfl rfl (by decide) trivial rfl ?_
      rintro _ _ _ ⟨MA2, m2, rfl, rfl, rfl⟩
      refine L.norm (H' := [_, _, _, _]) [0, 1, 2, 3] ⟨rfl, rfl, rfl, rfl, trivial⟩ (by decide) ?_
      refine L.nil (QE.m (by kernel_rfl) ?_)
      refine LM.f 6 rfl (by kernel_rfl) trivial ?_; refine L.step (Ev.fieldAddr rfl rfl rfl rfl rfl rfl (Src.o 3 rfl) (Nat.zero_lt_succ _) rfl) rfl ?_
      refine L.nil (QE.m (by kernel_rfl) ?_)
      refine LM.f 7 rfl (by kernel_rfl) trivial ?_
      first | refine L.store (j := 0) rfl rfl rfl rfl rfl rfl rfl rfl ?_ | refine L.store (j := 1) rfl rfl rfl rfl rfl rfl rfl rfl ?_ | refine L.store (j := 2) rfl rfl rfl rfl rfl rfl rfl rfl ?_ | refine L.store (j := 3) rfl rfl rfl rfl rfl rfl rfl rfl ?_ | refine L.store (j := 4) rfl rfl rfl rfl rfl rfl rfl rfl ?_ | refine L.store (j := 5) rfl rfl rfl rfl rfl rfl rfl rfl ?_
      refine L.nil (QE.m (by kernel_rfl) ?_)
      refine LM.nil (by kernel_rfl) trivial ?_; refine QE.seq (C.seq (C.seq ?_)); refine C.le (Γ' := [(1, .int .i64 p), (2, .int .i64 q), (8, ptrOf A8 0)]) (R' := [Rd B (U8 b)]) (H' := [Own 57 3 A8 1 1 [.slice WA2 ((liftR b).ws.length + q.toNat) w2, .slice MA2 ((liftR b).ms.length + q.toNat) m2, .slice LA (liftR b).ls.length lc], Own 73 1 WA2 ((liftR b).ws.length + q.toNat) w2 (N32 (moveF (liftR b) p.toNat q.toNat).ws), Own 4 1 MA2 ((liftR b).ms.length + q.toNat) m2 (Bs (moveF (liftR b) p.toNat q.toNat).ms), Own 3 1 LA (liftR b).ls.length lc (I64 (mvL (liftR b).ls p.toNat q.toNat 0))]) (by exact Le.mk' (rs := [0]) (hs := [3, 1, 0, 2]) ⟨rfl, rfl, rfl, trivial⟩ ⟨rfl, trivial⟩ ⟨rfl, (congrArg some (own_eq2 rfl (by unfold moveF; rw [← N32_app, ← N32_app, N32_rep, ← N32_take, ← N32_drop]))), (congrArg some (own_eq2 rfl (by unfold moveF; simp only [← Bs_app2, Bs_rep2]; simp [Bs, List.map_take, List.map_drop]))), (congrArg some (own_eq2 rfl (by rw [mvL_zero]))), trivial⟩ (by decide)) ?_; refine C.region ?_; refine L.step (Ev.fieldAddr rfl rfl rfl rfl rfl rfl (Src.o 0 rfl) (Nat.zero_lt_succ _) rfl) rfl ?_; refine L.step (Ev.load rfl rfl rfl (Src.o 0 rfl) rfl) rfl ?_; refine Lpu rfl rfl ?_; refine Lpu rfl rfl ?_; refine L.nil (QE.seq (C.block ?_)); refine C.loop (fun i : Nat => [(1, .int .i64 p), (2, .int .i64 q), (8, ptrOf A8 0), (57, .slice LA (liftR b).ls.length lc), (58, .int .i64 ((liftR b).ls.length : Int)), (59, .int .i64 (i : Int))]) (fun i : Nat => [Rd B (U8 b)]) (fun i : Nat => [Own 57 3 A8 1 1 [.slice WA2 ((liftR b).ws.length + q.toNat) w2, .slice MA2 ((liftR b).ms.length + q.toNat) m2, .slice LA (liftR b).ls.length lc], Own 73 1 WA2 ((liftR b).ws.length + q.toNat) w2 (N32 (moveF (liftR b) p.toNat q.toNat).ws), Own 4 1 MA2 ((liftR b).ms.length + q.toNat) m2 (Bs (moveF (liftR b) p.toNat q.toNat).ms), Own 3 1 LA (liftR b).ls.length lc (I64 (mvL (liftR b).ls p.toNat q.toNat i))]) (fun i : Nat => i ≤ (liftR b).ls.length) (fun i : Nat => (liftR b).ls.length - i) 0 (Nat.zero_le _) (by exact Le.mk' (rs := [0]) (hs := [0, 1, 2, 3]) ⟨rfl, rfl, rfl, rfl, rfl, rfl, trivial⟩ ⟨rfl, trivial⟩ ⟨rfl, rfl, rfl, rfl, trivial⟩ (by decide)) ?_
      intro i hi
      refine C.seq (C.region ?_); refine Lpu rfl rfl ?_; refine L.nil (QE.seq (C.seq ?_))
      refine C.condB 60 rfl (fun hc60 => ?_) (fun hc60 => ?_)
      ·
       replace hc60 := of_decide_eq_true hc60
       have hlb := liftR_label (b := b) (k := i) (by omega)
       have hml := mvL_len (liftR b).ls p.toNat q.toNat (k := i) (by omega)
       refine C.skip (QE.seq (C.seq (C.block (C.seq (C.region ?_))))); refine Lpu rfl rfl ?_; refine L.step (Ev.idx1 (k := i) rfl rfl rfl rfl rfl rfl rfl (by omega) (Src.o 3 rfl) (by rw [I64_len]; omega)) rfl ?_; refine L.step (Ev.load rfl rfl rfl (Src.o 3 rfl) ((I64_get (by omega)).trans (by rw [mvL_at _ _ _ (by omega)]))) rfl ?_; refine Lpu rfl rfl ?_; refine Lpu rfl rfl ?_; refine L.nil (QE.seq (C.seq (C.region ?_))); refine Lpu rfl rfl ?_; refine Lpu rfl rfl ?_; refine L.step (Ev.mul rfl rfl (by omega) (by omega)) rfl ?_; refine Lpu rfl rfl ?_; refine L.nil (QE.seq ?_)
       refine C.condB 67 rfl (fun hc67 => ?_) (fun hc67 => ?_)
       ·
        replace hc67 := of_decide_eq_true hc67
        refine C.region ?_; refine L.step (Ev.fieldAddr rfl rfl rfl rfl rfl rfl (Src.o 0 rfl) (Nat.zero_lt_succ _) rfl) rfl ?_; refine L.step (Ev.load rfl rfl rfl (Src.o 0 rfl) rfl) rfl ?_; refine Lpu rfl rfl ?_; refine L.step (Ev.idx1 (k := i) rfl rfl rfl rfl rfl rfl rfl (by omega) (Src.o 3 rfl) (by rw [I64_len]; omega)) rfl ?_; refine L.step (Ev.load rfl rfl rfl (Src.o 3 rfl) ((I64_get (by omega)).trans (by rw [mvL_at _ _ _ (by omega)]))) rfl ?_; refine Lpu rfl rfl ?_; refine L.step (Ev.mul rfl rfl (by omega) (by omega)) rfl ?_; refine L.step (Ev.add rfl rfl (by omega) (by omega)) rfl ?_; refine L.step (Ev.idx1 (k := i) rfl rfl rfl rfl rfl rfl rfl (by omega) (Src.o 3 rfl) (by rw [I64_len]; omega)) rfl ?_; refine L.store (j := 3) rfl rfl rfl rfl rfl rfl rfl (I64_get (by omega)) ?_; refine L.nil ?_; refine QE.blkN ?_; refine QE.seq (C.region ?_); refine L.step (Ev.add rfl rfl (by omega) (by omega)) rfl ?_; refine Lpu rfl rfl ?_; refine L.nil ?_
        refine QE.round (i + 1) (by omega) (by omega) (by exact Le.mk' (rs := [0]) (hs := [0, 1, 2, 3]) ⟨rfl, rfl, rfl, rfl, rfl, rfl, trivial⟩ ⟨rfl, trivial⟩ ⟨rfl, rfl, rfl, (congrArg some (own_eq2 rfl ((I64_set _ i _).trans (congrArg I64 ((congrArg ((mvL (liftR b).ls p.toNat q.toNat i).set i) (by unfold mvN; rw [if_pos (by omega)]; omega)).trans (mvL_set (liftR b).ls p.toNat q.toNat (k := i) (by omega))))))), trivial⟩ (by decide))
       ·
        replace hc67 := of_decide_eq_false hc67
        refine C.skip ?_; refine QE.blkN ?_; refine QE.seq (C.region ?_); refine L.step (Ev.add rfl rfl (by omega) (by omega)) rfl ?_; refine Lpu rfl rfl ?_; refine L.nil ?_
        refine QE.round (i + 1) (by omega) (by omega) (by exact Le.mk' (rs := [0]) (hs := [0, 1, 2, 3]) ⟨rfl, rfl, rfl, rfl, rfl, rfl, trivial⟩ ⟨rfl, trivial⟩ ⟨rfl, rfl, rfl, (congrArg some (own_eq2 rfl (by rw [mvL_skip (liftR b).ls p.toNat q.toNat (k := i) (by omega) (by unfold mvN; rw [if_neg (by omega)])]))), trivial⟩ (by decide))
      ·
       replace hc60 := of_decide_eq_false hc60
       refine C.exit ?_; refine QE.tX ?_; refine QE.tX ?_; refine QE.blk ?_; refine QE.seq (C.seq ?_)
       obtain rfl : i = (liftR b).ls.length := by omega
       refine C.le (Γ' := [(8, ptrOf A8 0)]) (R' := [Rd B (U8 b)]) (H' := [Own 57 3 A8 1 1 [.slice WA2 (moveF (liftR b) p.toNat q.toNat).ws.length w2, .slice MA2 (moveF (liftR b) p.toNat q.toNat).ms.length m2, .slice LA (moveF (liftR b) p.toNat q.toNat).ls.length lc], Own 73 1 WA2 (moveF (liftR b) p.toNat q.toNat).ws.length w2 (N32 (moveF (liftR b) p.toNat q.toNat).ws), Own 4 1 MA2 (moveF (liftR b) p.toNat q.toNat).ms.length m2 (Bs (moveF (liftR b) p.toNat q.toNat).ms), Own 3 1 LA (moveF (liftR b) p.toNat q.toNat).ls.length lc (I64 (moveF (liftR b) p.toNat q.toNat).ls)]) (by exact Le.mk' (rs := [0]) (hs := [0, 1, 2, 3]) ⟨rfl, trivial⟩ ⟨rfl, trivial⟩ ⟨(congrArg some (own_eq2 rfl (by rw [hmv.1, hmv.2.1, hmv.2.2]))), (congrArg some (own_eq2 hmv.1.symm rfl)), (congrArg some (own_eq2 hmv.2.1.symm rfl)), (congrArg some (own_eq2 hmv.2.2.symm (by rw [mvL_all]; rfl))), trivial⟩ (by decide)) ?_; refine C.region ?_; refine L.step (Ev.loadA (vs := [.slice WA2 (moveF (liftR b) p.toNat q.toNat).ws.length w2, .slice MA2 (moveF (liftR b) p.toNat q.toNat).ms.length m2, .slice LA (moveF (liftR b) p.toNat q.toNat).ls.length lc]) rfl rfl rfl (Src.o 0 rfl) rfl rfl (by decide)) rfl ?_; refine L.call (js := []) (js' := [0, 1, 2, 3]) (lower_c WA2 MA2 LA w2 m2 lc (moveF (liftR b) p.toNat q.toNat) (by omega) (by omega) (by omega) (moveF_w32 hx32 _ _)) rfl rfl rfl (by decide) ⟨(Has.o 1 rfl), (Has.o 2 rfl), (Has.o 3 rfl), trivial⟩ rfl ?_
       rintro _ _ _ ⟨YA, yc, rfl, rfl, rfl⟩
       refine L.norm (H' := [_, _, _, _, _]) [0, 1, 2, 3, 4] ⟨rfl, rfl, rfl, rfl, rfl, trivial⟩ (by decide) ?_; refine Lpu rfl rfl ?_; refine Lpu rfl rfl ?_; refine Lpu rfl rfl ?_; refine Lpu rfl rfl ?_; refine L.nil (QE.seq (C.ret ?_)); refine QE.ret (js := []) (hs := [0]) (vs := [_, _]) rfl ⟨rfl, rfl, trivial⟩ (by decide) ?_
       have e1 : movB b p q = lowB (moveF (liftR b) p.toNat q.toNat) := by unfold movB; rw [if_pos hok]
       have e2 : movC b p q = lowC (moveF (liftR b) p.toNat q.toNat) := by unfold movC; rw [if_pos hok]
       rw [e1, e2]
       exact ⟨YA, yc, rfl, rfl, rfl⟩

end Go.Proofs.YtbkmahjhhncfcaaGreat
end
/-
  How the reference guesses the word of an instruction that has a target, as plain arithmetic; a word that is made of four bytes.
-/
section
namespace Go.Sl

def guD (n t : Int) : Int := (IntKind.i64.wrap (n - t)).tdiv 4
def guL (n t : Int) (k : Nat) : Nat := (guD n t % (k : Int)).toNat
theorem guL_lt (n t : Int) {k : Nat} (h : 0 < k) : guL n t k < k := by
 unfold guL
 have h1 := Int.emod_nonneg (guD n t) (show (k : Int) ≠ 0 by omega)
 have h2 := Int.emod_lt_of_pos (guD n t) (show (0 : Int) < (k : Int) by omega)
 omega
theorem guL_eq (n t : Int) {k : Nat} (h : 0 < k) : guD n t % (k : Int) = (guL n t k : Int) := by
 unfold guL
 exact (Int.toNat_of_nonneg (Int.emod_nonneg _ (by omega))).symm
/-- What is put behind the kind. -/
def guV (o a : Nat) (n t : Int) : Nat := if o < 7 then guL n t 16777216 else a * 65536 + guL n t 65536
def guR (o a : Nat) (n t : Int) : Nat := o * 16777216 + guV o a n t
theorem guV_lt {o a : Nat} (ha : a < 256) (n t : Int) : guV o a n t < 16777216 := by
 have h1 := guL_lt n t (k := 16777216) (by decide)
 have h2 := guL_lt n t (k := 65536) (by decide)
 unfold guV
 generalize guL n t 16777216 = p at h1 ⊢
 generalize guL n t 65536 = q at h2 ⊢
 split <;> omega
theorem quarterT (a : Int) : (4 * a).tdiv 4 = a := by rw [Int.mul_comm]; exact Int.mul_tdiv_cancel a (by decide)
theorem guD_four {n t s : Int} (h : n - t = 4 * s) (h1 : -8388608 ≤ s) (h2 : s ≤ 16777216) : guD n t = s := by
 unfold guD
 rw [h, wrap_small (by omega), quarterT]
theorem guR_right {o a v : Nat} {n t : Int} (h5 : 5 ≤ o) (h8 : o ≤ 8) (h : decF v t = insT o a n) : guR o a n t = v := by
 obtain ⟨e0, e⟩ := dec_target h5 h8 h
 unfold guR guV
 rcases e with ⟨e1, _, e2⟩ | ⟨e1, _, e3, e2⟩ | ⟨e1, _, e3, e2⟩
 · have hs := sgn_le (m := v % 16777216) (h := 8388608) (by omega) (by decide)
   have hg : guL n t 16777216 = v % 16777216 := by
     unfold guL
     rw [guD_four (s := sgn (v % 16777216) 8388608) (by omega) hs.1 hs.2]
     exact sgn_mod (h := 8388608) (by omega)
   rw [if_pos e1, hg]
   omega
 · have hs := sgn_le (m := v % 65536) (h := 32768) (by omega) (by decide)
   have hg : guL n t 65536 = v % 65536 := by
     unfold guL
     rw [guD_four (s := sgn (v % 65536) 32768) (by omega) hs.1 hs.2]
     exact sgn_mod (h := 32768) (by omega)
   rw [if_neg (by omega), hg]
   omega
 · have hg : guL n t 65536 = v % 65536 := by
     unfold guL
     rw [guD_four (s := ((v % 65536 : Nat) : Int)) (by omega) (by omega) (by omega)]
     omega
   rw [if_neg (by omega), hg]
   omega
theorem wrap_range (a : Int) : -9223372036854775808 ≤ IntKind.i64.wrap a ∧ IntKind.i64.wrap a ≤ 9223372036854775807 := by
 rw [IntKind.wrap_i64]
 omega
/-! ### A word that is made of four bytes -/
def mdO (r : List UInt8) : Nat := (r.getD 0 0).toNat % 10
def mdA (r : List UInt8) : Nat := if (r.getD 0 0).toNat < 200 then (r.getD 1 0).toNat % 16 else (r.getD 1 0).toNat
def md3 (o : Nat) : Prop := o = 1 ∨ o = 3 ∨ o = 4
instance (o : Nat) : Decidable (md3 o) := by unfold md3; infer_instance
def mdLB (r : List UInt8) : Nat := if md3 (mdO r) then (r.getD 2 0).toNat % 17 else (r.getD 2 0).toNat
def mdLC (r : List UInt8) : Nat := if md3 (mdO r) then (r.getD 3 0).toNat % 17 else (r.getD 3 0).toNat
def madeW (r : List UInt8) : Nat := mdO r * 16777216 + mdA r * 65536 + mdLB r * 256 + mdLC r
theorem md_lt (r : List UInt8) : mdO r < 10 ∧ mdA r < 256 ∧ mdLB r < 256 ∧ mdLC r < 256 := by
 have h1 := UInt8.toNat_lt (r.getD 1 0)
 have h2 := UInt8.toNat_lt (r.getD 2 0)
 have h3 := UInt8.toNat_lt (r.getD 3 0)
 refine ⟨Nat.mod_lt _ (by decide), ?_, ?_, ?_⟩
 · unfold mdA; split <;> omega
 · unfold mdLB; split <;> omega
 · unfold mdLC; split <;> omega
theorem madeW_lt (r : List UInt8) : madeW r < 4294967296 := by
 have := md_lt r
 unfold madeW
 omega
/-! ### Labels, one after the other -/
end Go.Sl
end
