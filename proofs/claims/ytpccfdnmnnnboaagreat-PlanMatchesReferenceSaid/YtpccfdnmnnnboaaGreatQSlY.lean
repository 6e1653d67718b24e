/-
  An empty slice of structs.
-/
import Derived.Test.YtpccfdnmnnnboaaGreatQOj
import Derived.Test.YtpccfdnmnnnboaaGreatQWOrT
section
namespace Go.Sl

section
variable {X : Cx} {β : Base} {n : Nat} {ds : List Deferred} {ops : Array Oper} {Q : Exit → Act → World → Prop} {rest : List Oper} {Γ : Env} {R H : List Pr}
theorem L.lit0S {d t e ty : Nat} {pos : String} {af : Array Edge} {i ei : Ti} (ht : tlook t X.tab = some i) (hdesc : i.desc = .slice e) (he : tlook e X.tab = some ei) (hd : Nat.blt d n = true)
   (k : ∀ A, L X β n ds ops Q rest ((d, .slice A 0 0) :: Γ) R (H ++ [Own e ei.size A 0 0 []])) : L X β n ds ops Q (⟨some d, .buildSlice t 0 #[], ty, pos, af, none⟩ :: rest) Γ R H := by
 refine L.mk hd e ei.size 0 [] (by unfold maxLen; omega) (by simp) (fun A => .slice A 0 0) ?_ k
 intro ρ w hρ hs o ho
 obtain ⟨e1, _⟩ := X.ok _ _ ht
 rw [hdesc] at e1
 have hS := run_sizeOf' (P := X.P) w (X.ok _ _ he)
 simp only [execOp, ho, Instr.buildSlice, Sem.run_bind, run_underlying e1, Result.andThen_ok, hS]
 simp [Instr.fill, newRow, Array.range_zero']
end
end Go.Sl
end
/-
  The references of symbols and readings.
-/
section
namespace Go.Proofs.YtpccfdnmnnnboaaGreat
open Go.Sl

theorem right_kind {x : Po} {size : Int} (hr : rightB x size = true) (h1 : 1 ≤ x.ln) (hs : size ≤ 65536) : (x.k = 1 ∨ x.k = 3) ∧ 0 ≤ x.fr ∧ x.fr + x.ln ≤ 65536 + x.ln := by
 unfold rightB insB at hr
 by_cases k1 : x.k = 1
 · rw [if_pos k1] at hr
   simp at hr
   omega
 · rw [if_neg k1] at hr
   by_cases k2 : x.k = 2
   · rw [if_pos k2] at hr
     simp at hr
     omega
   · rw [if_neg k2] at hr
     by_cases k3 : x.k = 3
     · rw [if_pos k3] at hr
       simp at hr
       omega
     · rw [if_neg k3] at hr
       by_cases k4 : x.k = 4
       · rw [if_pos k4] at hr
         simp at hr
         omega
       · rw [if_neg k4] at hr
         cases hr
set_option maxHeartbeats 1000000 in
theorem symbols06_c (lf : Bool) (inn out : Int) (ops : List Po) (OA : Option Addr) (oc : Nat) (hops : ops.length ≤ 9223372036854775807) :
   Ctr X 57 [.agg (List.toArray [.bool lf, .int .i64 inn, .int .i64 out, .slice OA ops.length oc])] [Rd OA (opsV ops)] [] (fun v R' H' => ∃ (A : Option Addr) (c : Nat), v = .tuple #[.slice A (syS inn out ops).length c, .int .i64 (chkE inn out ops)] ∧ R' = [] ∧ H' = [Own 146 3 A (syS inn out ops).length c (symsV (syS inn out ops))]) := by
 refine Ctr.of (X := X) (fn := Tryz.f57) Tryz.func57 rfl (by kernel_rfl) rfl ?_
 intro β
 refine C.seq (C.region ?_)
 refine L.boxA rfl rfl (fun A1 => ?_)
 refine Lpu rfl rfl ?_; refine Lpu rfl rfl ?_; refine L.nil (QE.seq (C.seq (C.seq ?_))); refine C.freeze 0 rfl [] (by decide) (by decide) ?_; refine C.region ?_; refine L.step (Ev.loadA rfl rfl rfl (Src.r 0 rfl) rfl rfl (by decide)) rfl ?_; refine L.call (js := []) (js' := []) (right06_c lf inn out ops OA oc hops) rfl rfl rfl (by decide) ⟨(Has.r 1 rfl), trivial⟩ rfl ?_
 rintro _ _ _ ⟨rfl, rfl, rfl⟩
 refine Lpu rfl rfl ?_; refine L.nil (QE.seq ?_)
 refine C.condB 9 rfl (fun hc9 => ?_) (fun hc9 => ?_)
 · skip
   have hE : chkE inn out ops ≠ 0 := by simpa using hc9
   refine C.seq (C.region ?_); refine Lpu rfl rfl ?_; refine Lpu rfl rfl ?_; refine L.nil (QE.seq (C.ret (QE.tR ?_))); refine QE.nil_own 146 3 ?_; refine QE.ret (js := []) (hs := [0]) (vs := [_, _]) rfl ⟨rfl, rfl, trivial⟩ (by decide) ?_
   have hs : syS inn out ops = [] := by unfold syS; rw [if_neg hE]
   have h60 : chkE inn out ops = 60 := by
     unfold chkE at hE ⊢
     split
     · rfl
     · rename_i h1
       rw [if_neg h1] at hE
       split
       · rename_i h2
         rw [if_pos h2] at hE
         exact absurd rfl hE
       · rfl
   rw [hs, h60]
   exact ⟨none, 0, rfl, rfl, rfl⟩
 · skip
   have hE : chkE inn out ops = 0 := by simpa using hc9
   obtain ⟨k1, k2, k3, k4, k5, k6⟩ := chkE_ok hE
   refine C.skip (QE.seq (C.seq (C.region ?_)))
   refine L.lit0S rfl rfl rfl rfl (fun A10 => ?_)
   refine Lpu rfl rfl ?_; refine L.nil (QE.seq (C.seq (C.seq (C.region ?_)))); refine Lpu rfl rfl ?_; refine L.nil (QE.seq (C.block ?_)); refine C.loop (fun q : Nat × Option Addr × Nat => [(1, ptrOf A1 0), (4, .slice q.2.1 (symL (ops.take q.1)).length q.2.2), (5, .int .i64 (q.1 : Int))]) (fun q : Nat × Option Addr × Nat => [Rd A1 [.bool lf, .int .i64 inn, .int .i64 out, .slice OA ops.length oc], Rd OA (opsV ops)]) (fun q : Nat × Option Addr × Nat => [Own 146 3 q.2.1 (symL (ops.take q.1)).length q.2.2 (symsV (symL (ops.take q.1)))]) (fun q : Nat × Option Addr × Nat => q.1 ≤ ops.length) (fun q : Nat × Option Addr × Nat => ops.length - q.1) (0, A10, 0) (Nat.zero_le _) (by exact Le.mk' (rs := [0, 1]) (hs := [0]) ⟨rfl, rfl, rfl, trivial⟩ ⟨rfl, rfl, trivial⟩ ⟨rfl, trivial⟩ (by decide)) ?_
   rintro ⟨i, A, c⟩ hi
   dsimp only at hi ⊢
   refine C.seq (C.seq (C.region ?_)); refine Lpu rfl rfl ?_; refine L.step (Ev.fieldAddr rfl rfl rfl rfl rfl rfl (Src.r 0 rfl) (Nat.zero_lt_succ _) rfl) rfl ?_; refine L.step (Ev.load rfl rfl rfl (Src.r 0 rfl) rfl) rfl ?_; refine Lpu rfl rfl ?_; refine Lpu rfl rfl ?_; refine L.nil (QE.seq ?_)
   refine C.condB 15 rfl (fun hc15 => ?_) (fun hc15 => ?_)
   · skip
     replace hc15 := of_decide_eq_true hc15
     have hop := chkG_get ops out k6 i (by omega)
     obtain ⟨hkk, hfr, hfl⟩ := right_kind hop.2.2 hop.1 (by omega)
     refine C.skip (QE.seq (C.seq (C.block (C.seq (C.region ?_))))); refine Lpu rfl rfl ?_; refine L.nil (QE.seq (C.block ?_))
     obtain ⟨A0, hA0⟩ : ∃ x, x = A := ⟨_, rfl⟩
     obtain ⟨c0, hc0⟩ : ∃ x, x = c := ⟨_, rfl⟩
     refine C.loop (fun q : Nat × Option Addr × Nat => [(1, ptrOf A1 0), (5, .int .i64 (i : Int)), (4, .slice q.2.1 (symL (ops.take i) ++ symX (ops.getD i Po.zero) q.1).length q.2.2), (6, .int .i64 (q.1 : Int))]) (fun q : Nat × Option Addr × Nat => [Rd A1 [.bool lf, .int .i64 inn, .int .i64 out, .slice OA ops.length oc], Rd OA (opsV ops)]) (fun q : Nat × Option Addr × Nat => [Own 146 3 q.2.1 (symL (ops.take i) ++ symX (ops.getD i Po.zero) q.1).length q.2.2 (symsV (symL (ops.take i) ++ symX (ops.getD i Po.zero) q.1))]) (fun q : Nat × Option Addr × Nat => (q.1 : Int) ≤ (ops.getD i Po.zero).ln) (fun q : Nat × Option Addr × Nat => (ops.getD i Po.zero).ln.toNat - q.1) (0, A, c) (by dsimp only; omega) (by exact Le.mk' (rs := [0, 1]) (hs := [0]) ⟨rfl, rfl, (by dsimp only; rw [show symX _ 0 = [] from rfl, List.append_nil]; rfl), rfl, trivial⟩ ⟨rfl, rfl, trivial⟩ ⟨(congrArg some (by dsimp only; rw [show symX _ 0 = [] from rfl, List.append_nil])), trivial⟩ (by decide)) ?_
     rintro ⟨j, A, c⟩ hj
     dsimp only at hj ⊢
     refine C.seq (C.seq (C.region ?_)); refine Lpu rfl rfl ?_; refine L.step (Ev.fieldAddr rfl rfl rfl rfl rfl rfl (Src.r 0 rfl) (Nat.zero_lt_succ _) rfl) rfl ?_; refine L.step (Ev.load rfl rfl rfl (Src.r 0 rfl) rfl) rfl ?_; refine Lpu rfl rfl ?_; refine L.step (Ev.idx (k := i) (m := i * 5) rfl rfl rfl rfl rfl rfl (by omega) (Src.r 1 rfl) (ops_pos (k := i) (by omega)) rfl) rfl ?_; refine L.step (Ev.fieldAddr rfl rfl rfl rfl rfl rfl (Src.r 1 rfl) (ops_pos (k := i) (by omega)) rfl) rfl ?_; refine L.step (Ev.load rfl rfl rfl (Src.r 1 rfl) ((opsV_get (i := i) (j := 2) (by omega) (by decide)).trans rfl)) rfl ?_; refine Lpu rfl rfl ?_; refine L.nil (QE.seq ?_)
     refine C.condB 25 rfl (fun hc25 => ?_) (fun hc25 => ?_)
     · skip
       replace hc25 := of_decide_eq_true hc25
       refine C.skip (QE.seq (C.seq (C.block ?_)))
       have hpre := symL_pre ops i j (by omega) (by omega)
       have htot := chkG_len ops out k3 k6
       have e1 : (symL (ops.take i) ++ symX (ops.getD i Po.zero) (j + 1)) = (symL (ops.take i) ++ symX (ops.getD i Po.zero) j) ++ [symO (ops.getD i Po.zero) j] := by rw [symX_succ, List.append_assoc]
       refine C.region ?_; refine Lpu rfl rfl ?_; refine L.step (Ev.fieldAddr rfl rfl rfl rfl rfl rfl (Src.r 0 rfl) (Nat.zero_lt_succ _) rfl) rfl ?_; refine L.step (Ev.load rfl rfl rfl (Src.r 0 rfl) rfl) rfl ?_; refine Lpu rfl rfl ?_; refine L.step (Ev.idx (k := i) (m := i * 5) rfl rfl rfl rfl rfl rfl (by omega) (Src.r 1 rfl) (ops_pos (k := i) (by omega)) rfl) rfl ?_; refine L.step (Ev.loadA (vs := Po.cells (ops.getD i Po.zero)) rfl rfl rfl (Src.r 1 rfl) (opsV_at ops i (by omega)) rfl (by decide)) rfl ?_; refine Lpu rfl rfl ?_; refine L.call (js := []) (js' := [0]) (symbol06_c (ops.getD i Po.zero) j (by omega) (by omega) hkk) rfl rfl rfl (by decide) trivial rfl ?_
       rintro _ _ _ ⟨rfl, rfl, rfl⟩
       refine L.lit1S (cs := Sy.cells (symO (ops.getD i Po.zero) j)) rfl rfl rfl rfl (Nat.zero_lt_succ _) rfl rfl rfl (fun A36 => ?_)
       refine L.append (j := 0) rfl rfl rfl rfl (by decide) rfl rfl rfl rfl (Src.o 1 rfl) rfl (symO_one _ _) (by omega) (by show _ * 24 ≤ _; omega) rfl (fun A37 cc37 => ?_)
       refine Lpu rfl rfl ?_; refine L.nil ?_; refine QE.blkN ?_; refine QE.seq (C.region ?_); refine Lpu rfl rfl ?_; refine L.step (Ev.add rfl rfl (by omega) (by omega)) rfl ?_; refine Lpu rfl rfl ?_; refine L.nil ?_
       refine QE.round (i := (j, A, c)) ((j + 1, A37, cc37)) (by dsimp only; omega) (by dsimp only; omega) (by exact Le.mk' (rs := [0, 1]) (hs := [0]) ⟨rfl, rfl, (by dsimp only; rw [e1]; simp only [List.length_append]; rfl), rfl, trivial⟩ ⟨rfl, rfl, trivial⟩ ⟨(congrArg some (own_eq (by dsimp only; rw [e1]; simp only [List.length_append]; rfl) (by dsimp only; rw [e1]; simp only [symsV_app]; rfl))), trivial⟩ (by decide))
     · skip
       replace hc25 := of_decide_eq_false hc25
       refine C.exit ?_; refine QE.tX ?_; refine QE.tX ?_; refine QE.blk ?_; refine QE.blkN ?_; refine QE.seq (C.region ?_); refine Lpu rfl rfl ?_; refine L.step (Ev.add rfl rfl (by omega) (by omega)) rfl ?_; refine Lpu rfl rfl ?_; refine L.nil ?_
       obtain rfl : j = (ops.getD i Po.zero).ln.toNat := by omega
       have he := symL_snoc ops i (by omega)
       refine QE.round (i := (i, A0, c0)) ((i + 1, A, c)) (by dsimp only; omega) (by dsimp only; omega) (by exact Le.mk' (rs := [0, 1]) (hs := [0]) ⟨rfl, (by dsimp only; rw [he]; rfl), rfl, trivial⟩ ⟨rfl, rfl, trivial⟩ ⟨(congrArg some (by dsimp only; rw [he])), trivial⟩ (by decide))
   · skip
     replace hc15 := of_decide_eq_false hc15
     refine C.exit ?_; refine QE.tX ?_; refine QE.tX ?_; refine QE.blk ?_; refine QE.seq (C.seq (C.region ?_)); refine Lpu rfl rfl ?_; refine Lpu rfl rfl ?_; refine Lpu rfl rfl ?_; refine L.nil (QE.seq (C.ret ?_)); refine QE.ret (js := []) (hs := [0]) (vs := [_, _]) rfl ⟨rfl, rfl, trivial⟩ (by decide) ?_
     obtain rfl : i = ops.length := by omega
     have hs : syS inn out ops = symL ops := by unfold syS; rw [if_pos hE]
     rw [hs, hE]
     rw [List.take_length]
     exact ⟨A, c, rfl, rfl, rfl⟩

set_option maxHeartbeats 1000000 in
theorem changes18_c (SA : Option Addr) (l : List Sy) (sc : Nat) (inn : Int) (S : Nat) (hS : 1 ≤ S) (t : Nat) (hb : (t + 1) * S ≤ 1000000) (hl : l.length ≤ 1000000) (ht : t ≤ 1000000) :
   Ctr X 58 [.agg (List.toArray [.slice SA l.length sc, .int .i64 inn, .int .i64 (S : Int)]), .int .i64 (t : Int)] [Rd SA (symsV l)] [] (fun v R' H' => v = .bool (chgB l inn S t) ∧ R' = [] ∧ H' = []) := by
 refine Ctr.of (X := X) (fn := Tryz.f58) Tryz.func58 rfl (by kernel_rfl) rfl ?_
 intro β
 have hb2 : (t + 1) * S = t * S + S := Nat.succ_mul t S
 have m1 : (t : Int) * (S : Int) = ((t * S : Nat) : Int) := (Int.natCast_mul t S).symm
 have m2 : ((t + 1 : Nat) : Int) * (S : Int) = (((t + 1) * S : Nat) : Int) := (Int.natCast_mul (t + 1) S).symm
 refine C.seq (C.region ?_)
 refine L.boxA rfl rfl (fun A2 => ?_)
 refine Lpu rfl rfl ?_; refine L.nil (QE.seq (C.seq (C.seq ?_))); refine C.freeze 0 rfl [] (by decide) (by decide) ?_; refine C.region ?_; refine Lpu rfl rfl ?_; refine L.step (Ev.fieldAddr rfl rfl rfl rfl rfl rfl (Src.r 0 rfl) (Nat.zero_lt_succ _) rfl) rfl ?_; refine L.step (Ev.load rfl rfl rfl (Src.r 0 rfl) rfl) rfl ?_; refine L.step (Ev.cast (u := .int .i64 (((t * S : Nat)) : Int)) (Ev.mul rfl rfl (by rw [m1]; omega) (by rw [m1]; omega)) (congrArg (Value.int .i64) m1)) rfl ?_; refine Lpu rfl rfl ?_; refine L.nil (QE.seq (C.block ?_)); refine C.loop (fun j : Nat => [(1, .int .i64 (t : Int)), (2, ptrOf A2 0), (5, .int .i64 (((t * S + j) : Nat) : Int))]) (fun j : Nat => [Rd A2 [.slice SA l.length sc, .int .i64 inn, .int .i64 (S : Int)], Rd SA (symsV l)]) (fun j : Nat => []) (fun j : Nat => j ≤ S ∧ ∀ a, a < j → chY l inn (t * S + a) = false) (fun j : Nat => S - j) 0 ⟨Nat.zero_le _, all_zero⟩ (by exact Le.mk' (rs := [0, 1]) (hs := []) ⟨rfl, rfl, rfl, trivial⟩ ⟨rfl, rfl, trivial⟩ trivial (by decide)) ?_
 rintro j ⟨hj, hno⟩
 refine C.seq (C.seq (C.region ?_)); refine Lpu rfl rfl ?_; refine Lpu rfl rfl ?_; refine L.step (Ev.cast (u := .int .i64 (((t + 1) : Nat) : Int)) (Ev.add rfl rfl (by omega) (by omega)) (congrArg (Value.int .i64) (by omega))) rfl ?_; refine L.step (Ev.fieldAddr rfl rfl rfl rfl rfl rfl (Src.r 0 rfl) (Nat.zero_lt_succ _) rfl) rfl ?_; refine L.step (Ev.load rfl rfl rfl (Src.r 0 rfl) rfl) rfl ?_; refine L.step (Ev.cast (u := .int .i64 ((((t + 1) * S : Nat)) : Int)) (Ev.mul rfl rfl (by rw [m2]; omega) (by rw [m2]; omega)) (congrArg (Value.int .i64) m2)) rfl ?_; refine Lpu rfl rfl ?_; refine L.nil (QE.seq ?_)
 refine C.condB 16 rfl (fun hc16 => ?_) (fun hc16 => ?_)
 · skip
   replace hc16 := of_decide_eq_true hc16
   refine C.skip (QE.seq (C.seq (C.block (C.seq (C.region ?_))))); refine Lpu rfl rfl ?_; refine L.step (Ev.fieldAddr rfl rfl rfl rfl rfl rfl (Src.r 0 rfl) (Nat.zero_lt_succ _) rfl) rfl ?_; refine L.step (Ev.load rfl rfl rfl (Src.r 0 rfl) rfl) rfl ?_; refine Lpu rfl rfl ?_; refine Lpu rfl rfl ?_; refine Lpu rfl rfl ?_
   refine L.bool 24 rfl (fun hg24 => ?_) (fun hg24 => ?_)
   · skip
     replace hg24 := of_decide_eq_true hg24
     refine L.yes rfl ?_; refine L.step (Ev.fieldAddr rfl rfl rfl rfl rfl rfl (Src.r 0 rfl) (Nat.zero_lt_succ _) rfl) rfl ?_; refine L.yes rfl ?_; refine L.step (Ev.load rfl rfl rfl (Src.r 0 rfl) rfl) rfl ?_; refine L.yes rfl ?_; refine Lpu rfl rfl ?_; refine L.yes rfl ?_; refine L.step (Ev.idx (k := (t * S + j)) (m := (t * S + j) * 3) rfl rfl rfl rfl rfl rfl (by omega) (Src.r 1 rfl) (syms_pos (k := (t * S + j)) (by omega)) rfl) rfl ?_; refine L.yes rfl ?_; refine L.step (Ev.loadA (vs := Sy.cells (l.getD (t * S + j) Sy.zero)) rfl rfl rfl (Src.r 1 rfl) (symsV_at l (t * S + j) (by omega)) rfl (by decide)) rfl ?_; refine L.yes rfl ?_; refine Lpu rfl rfl ?_; refine L.yes rfl ?_; refine L.step (Ev.build rfl rfl rfl rfl rfl rfl rfl) rfl ?_; refine L.yes rfl ?_; refine L.step (Ev.neSym (a := (l.getD (t * S + j) Sy.zero)) (b := ⟨true, (((t * S + j) : Nat) : Int), 0⟩) rfl rfl) rfl ?_; refine Lpu rfl rfl ?_; refine Lpu rfl rfl ?_
     refine L.bool 34 rfl (fun hg34 => ?_) (fun hg34 => ?_)
     · skip
       have hx : chY l inn (t * S + j) = true := by unfold chY; rw [if_pos (by omega)]; exact hg34
       refine L.no rfl rfl rfl ?_; refine L.no rfl rfl rfl ?_; refine L.no rfl rfl rfl ?_; refine L.no rfl rfl rfl ?_; refine L.no rfl rfl rfl ?_; refine L.no rfl rfl rfl ?_; refine L.no rfl rfl rfl ?_; refine L.no rfl rfl rfl ?_; refine L.no rfl rfl rfl ?_; refine L.no rfl rfl rfl ?_; refine L.no rfl rfl rfl ?_; refine Lpu rfl rfl ?_; refine L.nil (QE.seq ?_)
       refine C.cond rfl (fun _ => ?_) (fun h => by cases h)
       refine C.seq (C.region ?_); refine Lpu rfl rfl ?_; refine L.nil (QE.seq (C.ret (QE.bR (QE.tR (QE.tR (QE.bR (QE.tR ?_))))))); refine QE.ret (js := []) (hs := []) (vs := [_]) rfl ⟨rfl, trivial⟩ (by decide) ?_
       exact ⟨congrArg Value.bool ((any_yes (p := fun a => chY l inn (t * S + a)) (k := j) (by omega) hx).symm), rfl, rfl⟩
     · skip
       have hx : chY l inn (t * S + j) = false := by unfold chY; rw [if_pos (by omega)]; exact hg34
       refine L.yes rfl ?_; refine Lpu rfl rfl ?_; refine L.yes rfl ?_; refine L.step (Ev.fieldAddr rfl rfl rfl rfl rfl rfl (Src.r 0 rfl) (Nat.zero_lt_succ _) rfl) rfl ?_; refine L.yes rfl ?_; refine L.step (Ev.load rfl rfl rfl (Src.r 0 rfl) rfl) rfl ?_; refine L.yes rfl ?_; refine Lpu rfl rfl ?_; refine L.yes rfl ?_; refine Lpu rfl rfl ?_; refine L.yes rfl ?_; refine Lpu rfl rfl ?_
       refine L.bool 40 rfl (fun hg40 => ?_) (fun hg40 => ?_)
       · skip
         replace hg40 := of_decide_eq_true hg40
         refine L.yes rfl ?_; refine Lpu rfl rfl ?_; refine L.yes rfl ?_; refine L.step (Ev.fieldAddr rfl rfl rfl rfl rfl rfl (Src.r 0 rfl) (Nat.zero_lt_succ _) rfl) rfl ?_; refine L.yes rfl ?_; refine L.step (Ev.load rfl rfl rfl (Src.r 0 rfl) rfl) rfl ?_; refine L.yes rfl ?_; refine Lpu rfl rfl ?_; refine L.yes rfl ?_; refine Lpu rfl rfl ?_; refine Lpu rfl rfl ?_; refine L.nil (QE.seq ?_)
         refine C.condB 46 rfl (fun hc46 => ?_) (fun hc46 => ?_)
         · skip
           replace hc46 := of_decide_eq_true hc46
           have hx : chY l inn (t * S + j) = true := by unfold chY; rw [if_neg (by omega)]; exact decide_eq_true (by omega)
           refine C.seq (C.region ?_); refine Lpu rfl rfl ?_; refine L.nil (QE.seq (C.ret (QE.bR (QE.tR (QE.tR (QE.bR (QE.tR ?_))))))); refine QE.ret (js := []) (hs := []) (vs := [_]) rfl ⟨rfl, trivial⟩ (by decide) ?_
           exact ⟨congrArg Value.bool ((any_yes (p := fun a => chY l inn (t * S + a)) (k := j) (by omega) hx).symm), rfl, rfl⟩
         · skip
           replace hc46 := of_decide_eq_false hc46
           have hx : chY l inn (t * S + j) = false := by unfold chY; rw [if_neg (by omega)]; exact decide_eq_false (by omega)
           refine C.skip ?_; refine QE.blkN ?_; refine QE.seq (C.region ?_); refine Lpu rfl rfl ?_; refine L.step (Ev.add rfl rfl (by omega) (by omega)) rfl ?_; refine Lpu rfl rfl ?_; refine L.nil ?_
           refine QE.round (j + 1) (by exact ⟨by omega, all_step hno hx⟩) (by omega) (by exact Le.mk' (rs := [0, 1]) (hs := []) ⟨rfl, rfl, rfl, trivial⟩ ⟨rfl, rfl, trivial⟩ trivial (by decide))
       · skip
         replace hg40 := of_decide_eq_false hg40
         have hx : chY l inn (t * S + j) = false := by
           first
             | exact hx
             | omega
         refine L.no rfl rfl rfl ?_; refine L.no rfl rfl rfl ?_; refine L.no rfl rfl rfl ?_; refine L.no rfl rfl rfl ?_; refine L.yes rfl ?_; refine Lpu rfl rfl ?_; refine Lpu rfl rfl ?_; refine L.nil (QE.seq ?_)
         refine C.cond rfl (fun h => by cases h) (fun _ => ?_)
         refine C.skip ?_; refine QE.blkN ?_; refine QE.seq (C.region ?_); refine Lpu rfl rfl ?_; refine L.step (Ev.add rfl rfl (by omega) (by omega)) rfl ?_; refine Lpu rfl rfl ?_; refine L.nil ?_
         refine QE.round (j + 1) (by exact ⟨by omega, all_step hno hx⟩) (by omega) (by exact Le.mk' (rs := [0, 1]) (hs := []) ⟨rfl, rfl, rfl, trivial⟩ ⟨rfl, rfl, trivial⟩ trivial (by decide))
   · skip
     replace hg24 := of_decide_eq_false hg24
     refine L.no rfl rfl rfl ?_; refine L.no rfl rfl rfl ?_; refine L.no rfl rfl rfl ?_; refine L.no rfl rfl rfl ?_; refine L.no rfl rfl rfl ?_; refine L.no rfl rfl rfl ?_; refine L.no rfl rfl rfl ?_; refine L.no rfl rfl rfl ?_; refine Lpu rfl rfl ?_; refine Lpu rfl rfl ?_; refine L.yes rfl ?_; refine Lpu rfl rfl ?_; refine L.yes rfl ?_; refine L.step (Ev.fieldAddr rfl rfl rfl rfl rfl rfl (Src.r 0 rfl) (Nat.zero_lt_succ _) rfl) rfl ?_; refine L.yes rfl ?_; refine L.step (Ev.load rfl rfl rfl (Src.r 0 rfl) rfl) rfl ?_; refine L.yes rfl ?_; refine Lpu rfl rfl ?_; refine L.yes rfl ?_; refine Lpu rfl rfl ?_; refine L.yes rfl ?_; refine Lpu rfl rfl ?_
     refine L.bool 40 rfl (fun hg40 => ?_) (fun hg40 => ?_)
     · skip
       replace hg40 := of_decide_eq_true hg40
       refine L.yes rfl ?_; refine Lpu rfl rfl ?_; refine L.yes rfl ?_; refine L.step (Ev.fieldAddr rfl rfl rfl rfl rfl rfl (Src.r 0 rfl) (Nat.zero_lt_succ _) rfl) rfl ?_; refine L.yes rfl ?_; refine L.step (Ev.load rfl rfl rfl (Src.r 0 rfl) rfl) rfl ?_; refine L.yes rfl ?_; refine Lpu rfl rfl ?_; refine L.yes rfl ?_; refine Lpu rfl rfl ?_; refine Lpu rfl rfl ?_; refine L.nil (QE.seq ?_)
       refine C.condB 46 rfl (fun hc46 => ?_) (fun hc46 => ?_)
       · skip
         replace hc46 := of_decide_eq_true hc46
         have hx : chY l inn (t * S + j) = true := by unfold chY; rw [if_neg (by omega)]; exact decide_eq_true (by omega)
         refine C.seq (C.region ?_); refine Lpu rfl rfl ?_; refine L.nil (QE.seq (C.ret (QE.bR (QE.tR (QE.tR (QE.bR (QE.tR ?_))))))); refine QE.ret (js := []) (hs := []) (vs := [_]) rfl ⟨rfl, trivial⟩ (by decide) ?_
         exact ⟨congrArg Value.bool ((any_yes (p := fun a => chY l inn (t * S + a)) (k := j) (by omega) hx).symm), rfl, rfl⟩
       · skip
         replace hc46 := of_decide_eq_false hc46
         have hx : chY l inn (t * S + j) = false := by unfold chY; rw [if_neg (by omega)]; exact decide_eq_false (by omega)
         refine C.skip ?_; refine QE.blkN ?_; refine QE.seq (C.region ?_); refine Lpu rfl rfl ?_; refine L.step (Ev.add rfl rfl (by omega) (by omega)) rfl ?_; refine Lpu rfl rfl ?_; refine L.nil ?_
         refine QE.round (j + 1) (by exact ⟨by omega, all_step hno hx⟩) (by omega) (by exact Le.mk' (rs := [0, 1]) (hs := []) ⟨rfl, rfl, rfl, trivial⟩ ⟨rfl, rfl, trivial⟩ trivial (by decide))
     · skip
       replace hg40 := of_decide_eq_false hg40
       have hx : chY l inn (t * S + j) = false := by
         first
           | exact hx
           | omega
       refine L.no rfl rfl rfl ?_; refine L.no rfl rfl rfl ?_; refine L.no rfl rfl rfl ?_; refine L.no rfl rfl rfl ?_; refine L.yes rfl ?_; refine Lpu rfl rfl ?_; refine Lpu rfl rfl ?_; refine L.nil (QE.seq ?_)
       refine C.cond rfl (fun h => by cases h) (fun _ => ?_)
       refine C.skip ?_; refine QE.blkN ?_; refine QE.seq (C.region ?_); refine Lpu rfl rfl ?_; refine L.step (Ev.add rfl rfl (by omega) (by omega)) rfl ?_; refine Lpu rfl rfl ?_; refine L.nil ?_
       refine QE.round (j + 1) (by exact ⟨by omega, all_step hno hx⟩) (by omega) (by exact Le.mk' (rs := [0, 1]) (hs := []) ⟨rfl, rfl, rfl, trivial⟩ ⟨rfl, rfl, trivial⟩ trivial (by decide))
 · skip
   replace hc16 := of_decide_eq_false hc16
   refine C.exit ?_; refine QE.tX ?_; refine QE.tX ?_; refine QE.blk ?_; refine QE.seq (C.seq (C.region ?_)); refine Lpu rfl rfl ?_; refine L.nil (QE.seq (C.ret ?_)); refine QE.ret (js := []) (hs := []) (vs := [_]) rfl ⟨rfl, trivial⟩ (by decide) ?_
   exact ⟨congrArg Value.bool ((any_no (p := fun a => chY l inn (t * S + a)) (fun a ha => hno a (by omega))).symm), rfl, rfl⟩

end Go.Proofs.YtpccfdnmnnnboaaGreat
end
