/-
  Methods behind operations; Check and Symbols of the program.
-/
import Derived.Test.YtpccfdnmnnnboaaGreatQWOrF
namespace Go.Proofs.YtpccfdnmnnnboaaGreat
open Go.Sl

theorem right_i (x : Po) (size : Int) (hs1 : -100000 ≤ size - x.ln) (hs2 : size - x.ln ≤ 100000) : ∃ f, (∀ w, (method (X.P.types.size + Made.depth) (kindT x 194 195 196 197 199) (kindP x) "inlay/patch.right").run X.P w = .ok (f, kindP x) w) ∧ Ctr X f [kindP x, .int .i64 size] [] [] (fun v R' H' => v = .bool (rightB x size) ∧ R' = [] ∧ H' = []) := by
 by_cases h1 : x.k = 1
 · have e1 : kindT x 194 195 196 197 199 = 194 := by unfold kindT; rw [if_pos h1]
   have e2 : kindP x = .agg (List.toArray x.cells) := by unfold kindP; rw [if_pos (by omega)]
   rw [e1, e2]
   refine ⟨195, fun w => by kernel_rfl, (right1_c x size hs1 hs2).mono ?_⟩
   rintro v R' H' ⟨rfl, h⟩
   exact ⟨congrArg Value.bool (by unfold rightB; rw [if_pos h1]), h⟩
 by_cases h2 : x.k = 2
 · have e1 : kindT x 194 195 196 197 199 = 195 := by unfold kindT; rw [if_neg h1, if_pos h2]
   have e2 : kindP x = .agg (List.toArray x.cells) := by unfold kindP; rw [if_pos (by omega)]
   rw [e1, e2]
   refine ⟨199, fun w => by kernel_rfl, (right2_c x size hs1 hs2).mono ?_⟩
   rintro v R' H' ⟨rfl, h⟩
   exact ⟨congrArg Value.bool (by unfold rightB; rw [if_neg h1, if_pos h2]), h⟩
 by_cases h3 : x.k = 3
 · have e1 : kindT x 194 195 196 197 199 = 196 := by unfold kindT; rw [if_neg h1, if_neg h2, if_pos h3]
   have e2 : kindP x = .agg (List.toArray x.cells) := by unfold kindP; rw [if_pos (by omega)]
   rw [e1, e2]
   refine ⟨202, fun w => by kernel_rfl, (right3_c x size hs1 hs2).mono ?_⟩
   rintro v R' H' ⟨rfl, h⟩
   exact ⟨congrArg Value.bool (by unfold rightB; rw [if_neg h1, if_neg h2, if_pos h3]), h⟩
 by_cases h4 : x.k = 4
 · have e1 : kindT x 194 195 196 197 199 = 197 := by unfold kindT; rw [if_neg h1, if_neg h2, if_neg h3, if_pos h4]
   have e2 : kindP x = .agg (List.toArray x.cells) := by unfold kindP; rw [if_pos (by omega)]
   rw [e1, e2]
   refine ⟨205, fun w => by kernel_rfl, (right4_c x size hs1 hs2).mono ?_⟩
   rintro v R' H' ⟨rfl, h⟩
   exact ⟨congrArg Value.bool (by unfold rightB; rw [if_neg h1, if_neg h2, if_neg h3, if_pos h4]), h⟩
 have e1 : kindT x 194 195 196 197 199 = 199 := by unfold kindT; rw [if_neg h1, if_neg h2, if_neg h3, if_neg h4]
 have e2 : kindP x = .agg (List.toArray []) := by unfold kindP; rw [if_neg (by omega)]
 rw [e1, e2]
 refine ⟨208, fun w => by kernel_rfl, (right0_c size).mono ?_⟩
 rintro v R' H' ⟨rfl, h⟩
 exact ⟨congrArg Value.bool (by unfold rightB; rw [if_neg h1, if_neg h2, if_neg h3, if_neg h4]), h⟩

theorem sym_i (x : Po) (size : Int) (i : Nat) (hr : rightB x size = true) (hl : (i : Int) < x.ln) (hs : size ≤ 65536) (hi : (i : Int) ≤ 65536) : ∃ f, (∀ w, (method (X.P.types.size + Made.depth) (kindT x 194 195 196 197 199) (kindP x) "inlay/patch.symbol").run X.P w = .ok (f, kindP x) w) ∧ Ctr X f [kindP x, .int .i64 (i : Int)] [] [] (fun v R' H' => v = .agg (List.toArray (symO x i).cells) ∧ R' = [] ∧ H' = []) := by
 have hk : (x.k = 1 ∧ 0 ≤ x.fr ∧ x.fr ≤ size - x.ln) ∨ (x.k = 3 ∧ x.fr = 0) := by
   unfold rightB insB at hr
   by_cases h1 : x.k = 1
   · rw [if_pos h1] at hr
     simp at hr
     exact .inl ⟨h1, hr.1.1, hr.1.2⟩
   · rw [if_neg h1] at hr
     by_cases h2 : x.k = 2
     · rw [if_pos h2] at hr
       simp at hr
       omega
     · rw [if_neg h2] at hr
       by_cases h3 : x.k = 3
       · rw [if_pos h3] at hr
         simp at hr
         exact .inr ⟨h3, hr⟩
       · rw [if_neg h3] at hr
         by_cases h4 : x.k = 4
         · rw [if_pos h4] at hr
           simp at hr
           omega
         · rw [if_neg h4] at hr
           cases hr
 have e2 : kindP x = .agg (List.toArray x.cells) := by unfold kindP; rw [if_pos (by omega)]
 rcases hk with ⟨h1, h2, h3⟩ | ⟨h1, h2⟩
 · have e1 : kindT x 194 195 196 197 199 = 194 := by unfold kindT; rw [if_pos h1]
   rw [e1, e2]
   refine ⟨196, fun w => by kernel_rfl, (sym1_c x i (by omega) (by omega) h2).mono ?_⟩
   rintro v R' H' ⟨rfl, h⟩
   exact ⟨by unfold symO; rw [if_pos h1], h⟩
 · have e1 : kindT x 194 195 196 197 199 = 196 := by unfold kindT; rw [if_neg (by omega), if_neg (by omega), if_pos h1]
   rw [e1, e2]
   refine ⟨203, fun w => by kernel_rfl, (sym3_c x i (by omega) (by omega) (by omega)).mono ?_⟩
   rintro v R' H' ⟨rfl, h⟩
   exact ⟨by unfold symO; rw [if_neg (by omega)], h⟩

set_option maxHeartbeats 1000000 in
theorem check6_c (lf : Bool) (inn out : Int) (ops : List Po) (OA : Option Addr) (oc : Nat) (hops : ops.length ≤ 9223372036854775807) :
   Ctr X 42 [.agg (List.toArray [.bool lf, .int .i64 inn, .int .i64 out, .slice OA ops.length oc])] [Rd OA (opsV ops)] [] (fun v R' H' => ∃ q : Int, v = .tuple #[.int .i64 q, .int .i64 (chkE inn out ops)] ∧ R' = [] ∧ H' = []) := by
 refine Ctr.of (X := X) (fn := Tryz.f42) Tryz.func42 rfl (by kernel_rfl) rfl ?_
 intro β
 refine C.seq (C.region ?_)
 refine L.boxA rfl rfl (fun A1 => ?_)
 refine Lpu rfl rfl ?_; refine Lpu rfl rfl ?_; refine L.nil (QE.seq (C.seq (C.seq ?_))); refine C.freeze 0 rfl [] (by decide) (by decide) ?_; refine C.region ?_; refine L.step (Ev.fieldAddr rfl rfl rfl rfl rfl rfl (Src.r 0 rfl) (Nat.zero_lt_succ _) rfl) rfl ?_; refine L.step (Ev.load rfl rfl rfl (Src.r 0 rfl) rfl) rfl ?_; refine L.step (Ev.fieldAddr rfl rfl rfl rfl rfl rfl (Src.r 0 rfl) (Nat.zero_lt_succ _) rfl) rfl ?_; refine L.step (Ev.load rfl rfl rfl (Src.r 0 rfl) rfl) rfl ?_; refine L.step (Ev.cast (u := .int .i64 (min inn out)) (Ev.pure rfl) (congrArg (Value.int .i64) (by simp only [Bool.false_eq_true, if_false]; split <;> omega))) rfl ?_; refine Lpu rfl rfl ?_; refine Lpu rfl rfl ?_
 refine L.bool 13 rfl (fun hg13 => ?_) (fun hg13 => ?_)
 ·
  replace hg13 := of_decide_eq_true hg13
  refine L.no rfl rfl rfl ?_; refine L.no rfl rfl rfl ?_; refine L.no rfl rfl rfl ?_; refine L.no rfl rfl rfl ?_; refine L.no rfl rfl rfl ?_; refine L.no rfl rfl rfl ?_; refine Lpu rfl rfl ?_; refine Lpu rfl rfl ?_; refine L.no rfl rfl rfl ?_; refine L.no rfl rfl rfl ?_; refine L.no rfl rfl rfl ?_; refine L.no rfl rfl rfl ?_; refine Lpu rfl rfl ?_; refine L.nil (QE.seq ?_)
  refine C.cond rfl (fun _ => ?_) (fun h => by cases h)
  refine C.seq (C.region ?_); refine Lpu rfl rfl ?_; refine Lpu rfl rfl ?_; refine L.nil (QE.seq (C.ret (QE.tR ?_))); refine QE.ret (js := []) (hs := []) (vs := [_, _]) rfl ⟨rfl, rfl, trivial⟩ (by decide) ?_
  have hE : chkE inn out ops = 60 := by unfold chkE; rw [if_pos (by omega)]
  exact ⟨_, by rw [hE]; rfl, rfl, rfl⟩
 ·
  replace hg13 := of_decide_eq_false hg13
  refine L.yes rfl ?_; refine L.step (Ev.fieldAddr rfl rfl rfl rfl rfl rfl (Src.r 0 rfl) (Nat.zero_lt_succ _) rfl) rfl ?_; refine L.yes rfl ?_; refine L.step (Ev.load rfl rfl rfl (Src.r 0 rfl) rfl) rfl ?_; refine L.yes rfl ?_; refine L.step (Ev.fieldAddr rfl rfl rfl rfl rfl rfl (Src.r 0 rfl) (Nat.zero_lt_succ _) rfl) rfl ?_; refine L.yes rfl ?_; refine L.step (Ev.load rfl rfl rfl (Src.r 0 rfl) rfl) rfl ?_; refine L.yes rfl ?_; refine L.step (Ev.cast (u := .int .i64 (max inn out)) (Ev.pure rfl) (congrArg (Value.int .i64) (by simp only [if_true]; split <;> omega))) rfl ?_; refine L.yes rfl ?_; refine Lpu rfl rfl ?_; refine Lpu rfl rfl ?_; refine Lpu rfl rfl ?_
  refine L.bool 21 rfl (fun hg21 => ?_) (fun hg21 => ?_)
  ·
   replace hg21 := of_decide_eq_true hg21
   refine L.no rfl rfl rfl ?_; refine L.no rfl rfl rfl ?_; refine L.no rfl rfl rfl ?_; refine L.no rfl rfl rfl ?_; refine Lpu rfl rfl ?_; refine L.nil (QE.seq ?_)
   refine C.cond rfl (fun _ => ?_) (fun h => by cases h)
   refine C.seq (C.region ?_); refine Lpu rfl rfl ?_; refine Lpu rfl rfl ?_; refine L.nil (QE.seq (C.ret (QE.tR ?_))); refine QE.ret (js := []) (hs := []) (vs := [_, _]) rfl ⟨rfl, rfl, trivial⟩ (by decide) ?_
   have hE : chkE inn out ops = 60 := by unfold chkE; rw [if_pos (by omega)]
   exact ⟨_, by rw [hE]; rfl, rfl, rfl⟩
  ·
   replace hg21 := of_decide_eq_false hg21
   refine L.yes rfl ?_; refine L.step (Ev.fieldAddr rfl rfl rfl rfl rfl rfl (Src.r 0 rfl) (Nat.zero_lt_succ _) rfl) rfl ?_; refine L.yes rfl ?_; refine L.step (Ev.load rfl rfl rfl (Src.r 0 rfl) rfl) rfl ?_; refine L.yes rfl ?_; refine Lpu rfl rfl ?_; refine L.yes rfl ?_; refine Lpu rfl rfl ?_; refine Lpu rfl rfl ?_; refine L.nil (QE.seq ?_)
   refine C.condB 26 rfl (fun hc26 => ?_) (fun hc26 => ?_)
   ·
    replace hc26 := of_decide_eq_true hc26
    refine C.seq (C.region ?_); refine Lpu rfl rfl ?_; refine Lpu rfl rfl ?_; refine L.nil (QE.seq (C.ret (QE.tR ?_))); refine QE.ret (js := []) (hs := []) (vs := [_, _]) rfl ⟨rfl, rfl, trivial⟩ (by decide) ?_
    have hE : chkE inn out ops = 60 := by unfold chkE; rw [if_pos (by omega)]
    exact ⟨_, by rw [hE]; rfl, rfl, rfl⟩
   ·
    replace hc26 := of_decide_eq_false hc26
    refine C.skip (QE.seq (C.seq (C.region ?_))); refine L.step (Ev.fieldAddr rfl rfl rfl rfl rfl rfl (Src.r 0 rfl) (Nat.zero_lt_succ _) rfl) rfl ?_; refine L.step (Ev.load rfl rfl rfl (Src.r 0 rfl) rfl) rfl ?_; refine Lpu rfl rfl ?_; refine L.nil (QE.seq (C.seq (C.seq (C.region ?_)))); refine L.step (Ev.fieldAddr rfl rfl rfl rfl rfl rfl (Src.r 0 rfl) (Nat.zero_lt_succ _) rfl) rfl ?_; refine L.step (Ev.load rfl rfl rfl (Src.r 0 rfl) rfl) rfl ?_; refine Lpu rfl rfl ?_; refine Lpu rfl rfl ?_; refine L.nil (QE.seq (C.block ?_)); refine C.loop (fun q : Nat × Int => [(1, ptrOf A1 0), (4, .int .i64 q.2), (30, .slice OA ops.length oc), (31, .int .i64 (ops.length : Int)), (32, .int .i64 (q.1 : Int))]) (fun q : Nat × Int => [Rd A1 [.bool lf, .int .i64 inn, .int .i64 out, .slice OA ops.length oc], Rd OA (opsV ops)]) (fun q : Nat × Int => []) (fun q : Nat × Int => q.1 ≤ ops.length ∧ 0 ≤ q.2 ∧ q.2 ≤ 65536 ∧ chkG inn out ops = chkG inn q.2 (ops.drop q.1)) (fun q : Nat × Int => ops.length - q.1) (0, out) ⟨Nat.zero_le _, by dsimp only; omega, by dsimp only; omega, rfl⟩ (by exact Le.mk' (rs := [0, 1]) (hs := []) ⟨rfl, rfl, rfl, rfl, rfl, trivial⟩ ⟨rfl, rfl, trivial⟩ trivial (by decide)) ?_
    rintro ⟨i, left⟩ ⟨hi, hl0, hl1, hinv⟩
    dsimp only at hi hl0 hl1 hinv ⊢
    refine C.seq (C.region ?_); refine Lpu rfl rfl ?_; refine L.nil (QE.seq (C.seq ?_))
    refine C.condB 33 rfl (fun hc33 => ?_) (fun hc33 => ?_)
    ·
     replace hc33 := of_decide_eq_true hc33
     refine C.skip (QE.seq (C.seq (C.block (C.seq (C.region ?_))))); refine Lpu rfl rfl ?_; refine L.step (Ev.idx (k := i) (m := i * 5) rfl rfl rfl rfl rfl rfl (by omega) (Src.r 1 rfl) (ops_pos (k := i) (by omega)) rfl) rfl ?_; refine L.step (Ev.loadA (vs := Po.cells (ops.getD i Po.zero)) rfl rfl rfl (Src.r 1 rfl) (opsV_at ops i (by omega)) rfl (by decide)) rfl ?_
     refine L.alloc rfl rfl rfl (fun A6 => ?_)
     refine Lpu rfl rfl ?_; refine L.storeA (j := 0) rfl rfl rfl rfl rfl (Nat.zero_lt_succ _) rfl rfl ?_; refine L.nil (QE.seq (C.seq (C.seq ?_))); refine C.regionM [Rd A1 [.bool lf, .int .i64 inn, .int .i64 out, .slice OA ops.length oc], Rd OA (opsV ops), Rd A6 (Po.cells (ops.getD i Po.zero))] ⟨Has.r 0 rfl, Has.r 1 rfl, Has.o 0 rfl, trivial⟩ ?_; refine LM.q 0 rfl (by kernel_rfl) (Ev.fieldAddr rfl rfl rfl rfl rfl rfl (Src.r 2 rfl) (Nat.zero_lt_succ _) rfl) rfl ⟨Has.r 0 rfl, Has.r 1 rfl, Has.o 0 rfl, trivial⟩ ?_; refine LM.q 1 rfl (by kernel_rfl) (Ev.load rfl rfl rfl (Src.r 2 rfl) rfl) rfl ⟨Has.r 0 rfl, Has.r 1 rfl, Has.o 0 rfl, trivial⟩ ?_; refine LM.q 2 rfl (by kernel_rfl) (Ev.pure rfl) rfl ⟨Has.r 0 rfl, Has.r 1 rfl, Has.o 0 rfl, trivial⟩ ?_; refine LM.q 3 rfl (by kernel_rfl) (Ev.pure rfl) rfl ⟨Has.r 0 rfl, Has.r 1 rfl, Has.o 0 rfl, trivial⟩ ?_
     refine LM.bool 40 rfl (fun hg40 => ?_) (fun hg40 => ?_)
     ·
      replace hg40 := of_decide_eq_true hg40
      have hno : chkG inn left (ops.drop i) = false := chkG_no (by omega) (.inl (by omega))
      refine LM.no 4 rfl (by kernel_rfl) rfl rfl rfl ⟨Has.r 0 rfl, Has.r 1 rfl, Has.o 0 rfl, trivial⟩ ?_; refine LM.no 5 rfl (by kernel_rfl) rfl rfl rfl ⟨Has.r 0 rfl, Has.r 1 rfl, Has.o 0 rfl, trivial⟩ ?_; refine LM.no 6 rfl (by kernel_rfl) rfl rfl rfl ⟨Has.r 0 rfl, Has.r 1 rfl, Has.o 0 rfl, trivial⟩ ?_; refine LM.no 7 rfl (by kernel_rfl) rfl rfl rfl ⟨Has.r 0 rfl, Has.r 1 rfl, Has.o 0 rfl, trivial⟩ ?_; refine LM.q 8 rfl (by kernel_rfl) (Ev.pure rfl) rfl ⟨Has.r 0 rfl, Has.r 1 rfl, Has.o 0 rfl, trivial⟩ ?_; refine LM.q 9 rfl (by kernel_rfl) (Ev.pure rfl) rfl ⟨Has.r 0 rfl, Has.r 1 rfl, Has.o 0 rfl, trivial⟩ ?_; refine LM.no 10 rfl (by kernel_rfl) rfl rfl rfl ⟨Has.r 0 rfl, Has.r 1 rfl, Has.o 0 rfl, trivial⟩ ?_; refine LM.no 11 rfl (by kernel_rfl) rfl rfl rfl ⟨Has.r 0 rfl, Has.r 1 rfl, Has.o 0 rfl, trivial⟩ ?_; refine LM.f 12 rfl (by kernel_rfl) ⟨Has.r 0 rfl, Has.r 1 rfl, Has.o 0 rfl, trivial⟩ ?_; refine L.no rfl rfl rfl ?_
      refine L.nil (QE.m (by kernel_rfl) ?_)
      refine LM.f 13 rfl (by kernel_rfl) ⟨Has.r 0 rfl, Has.r 1 rfl, Has.o 0 rfl, trivial⟩ ?_; refine L.no rfl rfl rfl ?_
      refine L.nil (QE.m (by kernel_rfl) ?_)
      refine LM.cut [] (by kernel_rfl) ⟨Has.r 0 rfl, Has.r 1 rfl, Has.o 0 rfl, trivial⟩ ?_; refine LM.f 14 rfl (by kernel_rfl) trivial ?_; refine L.no rfl rfl rfl ?_
      refine L.nil (QE.m (by kernel_rfl) ?_)
      refine LM.f 15 rfl (by kernel_rfl) trivial ?_; refine L.no rfl rfl rfl ?_
      refine L.nil (QE.m (by kernel_rfl) ?_)
      refine LM.f 16 rfl (by kernel_rfl) trivial ?_; refine Lpu rfl rfl ?_
      refine L.nil (QE.m (by kernel_rfl) ?_)
      refine LM.nil (by kernel_rfl) trivial ?_; refine QE.seq ?_
      refine C.cond rfl (fun _ => ?_) (fun h => by cases h)
      refine C.seq (C.region ?_); refine Lpu rfl rfl ?_; refine Lpu rfl rfl ?_; refine Lpu rfl rfl ?_; refine L.nil (QE.seq (C.ret (QE.tR (QE.bR (QE.tR (QE.tR (QE.bR (QE.tR ?_)))))))); refine QE.ret (js := []) (hs := []) (vs := [_, _]) rfl ⟨rfl, rfl, trivial⟩ (by decide) ?_
      have hE : chkE inn out ops = 60 := by unfold chkE; rw [if_neg (by omega), hinv, hno]; rfl
      exact ⟨_, by rw [hE]; rfl, rfl, rfl⟩
     ·
      replace hg40 := of_decide_eq_false hg40
      refine LM.qy 4 rfl (by kernel_rfl) rfl (Ev.fieldAddr rfl rfl rfl rfl rfl rfl (Src.r 2 rfl) (Nat.zero_lt_succ _) rfl) rfl ⟨Has.r 0 rfl, Has.r 1 rfl, Has.o 0 rfl, trivial⟩ ?_; refine LM.qy 5 rfl (by kernel_rfl) rfl (Ev.load rfl rfl rfl (Src.r 2 rfl) rfl) rfl ⟨Has.r 0 rfl, Has.r 1 rfl, Has.o 0 rfl, trivial⟩ ?_; refine LM.qy 6 rfl (by kernel_rfl) rfl (Ev.pure rfl) rfl ⟨Has.r 0 rfl, Has.r 1 rfl, Has.o 0 rfl, trivial⟩ ?_; refine LM.qy 7 rfl (by kernel_rfl) rfl (Ev.pure rfl) rfl ⟨Has.r 0 rfl, Has.r 1 rfl, Has.o 0 rfl, trivial⟩ ?_; refine LM.q 8 rfl (by kernel_rfl) (Ev.pure rfl) rfl ⟨Has.r 0 rfl, Has.r 1 rfl, Has.o 0 rfl, trivial⟩ ?_; refine LM.q 9 rfl (by kernel_rfl) (Ev.pure rfl) rfl ⟨Has.r 0 rfl, Has.r 1 rfl, Has.o 0 rfl, trivial⟩ ?_
      refine LM.bool 46 rfl (fun hg46 => ?_) (fun hg46 => ?_)
      ·
       replace hg46 := of_decide_eq_true hg46
       have hno : chkG inn left (ops.drop i) = false := chkG_no (by omega) (.inr (.inl (by omega)))
       refine LM.no 10 rfl (by kernel_rfl) rfl rfl rfl ⟨Has.r 0 rfl, Has.r 1 rfl, Has.o 0 rfl, trivial⟩ ?_; refine LM.no 11 rfl (by kernel_rfl) rfl rfl rfl ⟨Has.r 0 rfl, Has.r 1 rfl, Has.o 0 rfl, trivial⟩ ?_; refine LM.f 12 rfl (by kernel_rfl) ⟨Has.r 0 rfl, Has.r 1 rfl, Has.o 0 rfl, trivial⟩ ?_; refine L.no rfl rfl rfl ?_
       refine L.nil (QE.m (by kernel_rfl) ?_)
       refine LM.f 13 rfl (by kernel_rfl) ⟨Has.r 0 rfl, Has.r 1 rfl, Has.o 0 rfl, trivial⟩ ?_; refine L.no rfl rfl rfl ?_
       refine L.nil (QE.m (by kernel_rfl) ?_)
       refine LM.cut [] (by kernel_rfl) ⟨Has.r 0 rfl, Has.r 1 rfl, Has.o 0 rfl, trivial⟩ ?_; refine LM.f 14 rfl (by kernel_rfl) trivial ?_; refine L.no rfl rfl rfl ?_
       refine L.nil (QE.m (by kernel_rfl) ?_)
       refine LM.f 15 rfl (by kernel_rfl) trivial ?_; refine L.no rfl rfl rfl ?_
       refine L.nil (QE.m (by kernel_rfl) ?_)
       refine LM.f 16 rfl (by kernel_rfl) trivial ?_; refine Lpu rfl rfl ?_
       refine L.nil (QE.m (by kernel_rfl) ?_)
       refine LM.nil (by kernel_rfl) trivial ?_; refine QE.seq ?_
       refine C.cond rfl (fun _ => ?_) (fun h => by cases h)
       refine C.seq (C.region ?_); refine Lpu rfl rfl ?_; refine Lpu rfl rfl ?_; refine Lpu rfl rfl ?_; refine L.nil (QE.seq (C.ret (QE.tR (QE.bR (QE.tR (QE.tR (QE.bR (QE.tR ?_)))))))); refine QE.ret (js := []) (hs := []) (vs := [_, _]) rfl ⟨rfl, rfl, trivial⟩ (by decide) ?_
       have hE : chkE inn out ops = 60 := by unfold chkE; rw [if_neg (by omega), hinv, hno]; rfl
       exact ⟨_, by rw [hE]; rfl, rfl, rfl⟩
      ·
       replace hg46 := of_decide_eq_false hg46
       refine LM.qy 10 rfl (by kernel_rfl) rfl (Ev.loadA rfl rfl rfl (Src.r 2 rfl) rfl rfl (by decide)) rfl ⟨Has.r 0 rfl, Has.r 1 rfl, Has.o 0 rfl, trivial⟩ ?_; refine LM.qy 12 rfl (by kernel_rfl) rfl (Ev.fieldAddr rfl rfl rfl rfl rfl rfl (Src.r 0 rfl) (Nat.zero_lt_succ _) rfl) rfl ⟨Has.r 0 rfl, Has.r 1 rfl, Has.o 0 rfl, trivial⟩ ?_; refine LM.qy 13 rfl (by kernel_rfl) rfl (Ev.load rfl rfl rfl (Src.r 0 rfl) rfl) rfl ⟨Has.r 0 rfl, Has.r 1 rfl, Has.o 0 rfl, trivial⟩ ?_; refine LM.f 11 rfl (by kernel_rfl) ⟨Has.r 0 rfl, Has.r 1 rfl, Has.o 0 rfl, trivial⟩ ?_; refine L.yes rfl ?_; refine L.call (js := []) (js' := [0]) (of_c (ops.getD i Po.zero)) rfl rfl rfl (by decide) trivial rfl ?_
       rintro _ _ _ ⟨rfl, rfl, rfl⟩
       refine L.nil (QE.m (by kernel_rfl) ?_)
       refine LM.cut [] (by kernel_rfl) ⟨Has.r 0 rfl, Has.r 1 rfl, Has.o 0 rfl, trivial⟩ ?_; refine LM.f 14 rfl (by kernel_rfl) trivial ?_; refine L.yes rfl ?_; refine L.callM (js := []) (js' := [0]) (right_i (ops.getD i Po.zero) inn (by omega) (by omega)) rfl rfl rfl rfl (by decide) trivial rfl ?_
       rintro _ _ _ ⟨rfl, rfl, rfl⟩
       refine L.nil (QE.m (by kernel_rfl) ?_)
       refine LM.f 15 rfl (by kernel_rfl) trivial ?_; refine L.yes rfl ?_; refine Lpu rfl rfl ?_
       refine L.nil (QE.m (by kernel_rfl) ?_)
       refine LM.f 16 rfl (by kernel_rfl) trivial ?_; refine Lpu rfl rfl ?_
       refine L.nil (QE.m (by kernel_rfl) ?_)
       refine LM.nil (by kernel_rfl) trivial ?_; refine QE.seq ?_
       refine C.condB 53 rfl (fun hc53 => ?_) (fun hc53 => ?_)
       ·
        have hno : chkG inn left (ops.drop i) = false := chkG_no (by omega) (.inr (.inr (by simpa using hc53)))
        refine C.seq (C.region ?_); refine Lpu rfl rfl ?_; refine Lpu rfl rfl ?_; refine Lpu rfl rfl ?_; refine L.nil (QE.seq (C.ret (QE.tR (QE.bR (QE.tR (QE.tR (QE.bR (QE.tR ?_)))))))); refine QE.ret (js := []) (hs := []) (vs := [_, _]) rfl ⟨rfl, rfl, trivial⟩ (by decide) ?_
        have hE : chkE inn out ops = 60 := by unfold chkE; rw [if_neg (by omega), hinv, hno]; rfl
        exact ⟨_, by rw [hE]; rfl, rfl, rfl⟩
       ·
        have hright : rightB (ops.getD i Po.zero) inn = true := by simpa using hc53
        refine C.skip (QE.seq (C.region ?_)); refine Lpu rfl rfl ?_; refine L.step (Ev.fieldAddr rfl rfl rfl rfl rfl rfl (Src.o 0 rfl) (Nat.zero_lt_succ _) rfl) rfl ?_; refine L.step (Ev.load rfl rfl rfl (Src.o 0 rfl) rfl) rfl ?_; refine L.step (Ev.sub rfl rfl (by omega) (by omega)) rfl ?_; refine Lpu rfl rfl ?_; refine L.nil ?_; refine QE.blkN ?_; refine QE.seq (C.region ?_); refine L.step (Ev.add rfl rfl (by omega) (by omega)) rfl ?_; refine Lpu rfl rfl ?_; refine L.nil ?_
        refine QE.round (i := (i, left)) ((i + 1, left - (ops.getD i Po.zero).ln)) (by exact ⟨by dsimp only; omega, by dsimp only; omega, by dsimp only; omega, by dsimp only; rw [hinv, chkG_step (by omega) (by omega) (by omega) hright]⟩) (by dsimp only; omega) (by exact Le.mk' (rs := [0, 1]) (hs := []) ⟨rfl, rfl, rfl, rfl, rfl, trivial⟩ ⟨rfl, rfl, trivial⟩ trivial (by decide))
    ·
     replace hc33 := of_decide_eq_false hc33
     refine C.exit ?_; refine QE.tX ?_; refine QE.tX ?_; refine QE.blk ?_; refine QE.seq (C.seq (C.seq (C.region ?_))); refine Lpu rfl rfl ?_; refine Lpu rfl rfl ?_; refine L.nil (QE.seq ?_)
     refine C.condB 61 rfl (fun hc61 => ?_) (fun hc61 => ?_)
     ·
      replace hc61 := of_decide_eq_true hc61
      have hno : chkG inn left (ops.drop i) = false := by rw [chkG_end (by omega)]; exact decide_eq_false (by omega)
      refine C.seq (C.region ?_); refine L.step (Ev.fieldAddr rfl rfl rfl rfl rfl rfl (Src.r 0 rfl) (Nat.zero_lt_succ _) rfl) rfl ?_; refine L.step (Ev.load rfl rfl rfl (Src.r 0 rfl) rfl) rfl ?_; refine Lpu rfl rfl ?_; refine Lpu rfl rfl ?_; refine Lpu rfl rfl ?_; refine L.nil (QE.seq (C.ret (QE.tR ?_))); refine QE.ret (js := []) (hs := []) (vs := [_, _]) rfl ⟨rfl, rfl, trivial⟩ (by decide) ?_
      have hE : chkE inn out ops = 60 := by unfold chkE; rw [if_neg (by omega), hinv, hno]; rfl
      exact ⟨_, by rw [hE]; rfl, rfl, rfl⟩
     ·
      replace hc61 := of_decide_eq_false hc61
      refine C.skip (QE.seq (C.seq (C.region ?_))); refine L.step (Ev.fieldAddr rfl rfl rfl rfl rfl rfl (Src.r 0 rfl) (Nat.zero_lt_succ _) rfl) rfl ?_; refine L.step (Ev.load rfl rfl rfl (Src.r 0 rfl) rfl) rfl ?_; refine Lpu rfl rfl ?_; refine Lpu rfl rfl ?_; refine Lpu rfl rfl ?_; refine L.nil (QE.seq (C.ret ?_)); refine QE.ret (js := []) (hs := []) (vs := [_, _]) rfl ⟨rfl, rfl, trivial⟩ (by decide) ?_
      have hE : chkE inn out ops = 0 := by
        unfold chkE
        rw [if_neg (by omega), hinv, chkG_end (by omega), decide_eq_true (by omega)]
        rfl
      exact ⟨_, by rw [hE]; rfl, rfl, rfl⟩

set_option maxHeartbeats 1000000 in
theorem symbols_c (lf : Bool) (inn out : Int) (ops : List Po) (OA : Option Addr) (oc : Nat) (hops : ops.length ≤ 9223372036854775807) :
   Ctr X 66 [.agg (List.toArray [.bool lf, .int .i64 inn, .int .i64 out, .slice OA ops.length oc])] [Rd OA (opsV ops)] [] (fun v R' H' => ∃ (A : Option Addr) (c : Nat), v = .tuple #[.slice A (syS inn out ops).length c, .int .i64 (chkE inn out ops)] ∧ R' = [] ∧ H' = [Own 146 3 A (syS inn out ops).length c (symsV (syS inn out ops))]) := by
 refine Ctr.of (X := X) (fn := Tryz.f66) Tryz.func66 rfl (by kernel_rfl) rfl ?_
 intro β
 refine C.seq (C.region ?_)
 refine L.boxA rfl rfl (fun A1 => ?_)
 refine Lpu rfl rfl ?_; refine Lpu rfl rfl ?_; refine L.nil (QE.seq (C.seq (C.seq ?_))); refine C.freeze 0 rfl [] (by decide) (by decide) ?_; refine C.region ?_; refine L.step (Ev.loadA rfl rfl rfl (Src.r 0 rfl) rfl rfl (by decide)) rfl ?_; refine L.call (js := []) (js' := []) (check6_c lf inn out ops OA oc hops) rfl rfl rfl (by decide) (Hq [1] rfl) rfl ?_
 rintro _ _ _ ⟨q, rfl, rfl, rfl⟩
 refine Lpu rfl rfl ?_; refine Lpu rfl rfl ?_; refine Lpu rfl rfl ?_; refine Lpu rfl rfl ?_; refine Lpu rfl rfl ?_; refine L.nil (QE.seq (C.seq (C.region ?_))); refine Lpu rfl rfl ?_; refine Lpu rfl rfl ?_; refine L.nil (QE.seq ?_)
 refine C.condB 17 rfl (fun hc17 => ?_) (fun hc17 => ?_)
 ·
  replace hc17 := b_ne hc17
  refine C.seq (C.region ?_); refine Lpu rfl rfl ?_; refine Lpu rfl rfl ?_; refine Lpu rfl rfl ?_; refine L.nil (QE.seq (C.ret (QE.tR ?_))); refine QE.nil_own 146 3 ?_; refine QE.ret (js := []) (hs := [0]) (vs := [_, _]) rfl ⟨rfl, rfl, trivial⟩ (by decide) ?_
  have hs : syS inn out ops = [] := by unfold syS; rw [if_neg hc17]
  rw [hs]
  exact ⟨none, 0, rfl, rfl, rfl⟩
 ·
  replace hc17 := b_eq hc17
  obtain ⟨k1, k2, k3, k4, k5, k6⟩ := chkE_ok hc17
  refine C.skip (QE.seq (C.seq (C.region ?_))); refine L.step (Ev.fieldAddr rfl rfl rfl rfl rfl rfl (Src.r 0 rfl) (Nat.zero_lt_succ _) rfl) rfl ?_; refine L.step (Ev.cast (u := .int .i64 ((out.toNat : Nat) : Int)) (Ev.load rfl rfl rfl (Src.r 0 rfl) rfl) (congrArg (Value.int .i64) (by omega))) rfl ?_
  refine L.make0 (m := out.toNat) rfl rfl rfl rfl rfl (by show 24 * _ ≤ _; omega) (by omega) rfl (fun A21 => ?_)
  refine Lpu rfl rfl ?_; refine L.nil (QE.seq (C.seq (C.seq (C.region ?_)))); refine L.step (Ev.fieldAddr rfl rfl rfl rfl rfl rfl (Src.r 0 rfl) (Nat.zero_lt_succ _) rfl) rfl ?_; refine L.step (Ev.load rfl rfl rfl (Src.r 0 rfl) rfl) rfl ?_; refine Lpu rfl rfl ?_; refine Lpu rfl rfl ?_; refine L.nil (QE.seq (C.block ?_)); refine C.loop (fun q : Nat × Option Addr × Nat => [(1, ptrOf A1 0), (23, .slice OA ops.length oc), (24, .int .i64 (ops.length : Int)), (6, .slice q.2.1 (symL (ops.take q.1)).length q.2.2), (25, .int .i64 (q.1 : Int))]) (fun q : Nat × Option Addr × Nat => [Rd A1 [.bool lf, .int .i64 inn, .int .i64 out, .slice OA ops.length oc], Rd OA (opsV ops)]) (fun q : Nat × Option Addr × Nat => [Own 146 3 q.2.1 (symL (ops.take q.1)).length q.2.2 (symsV (symL (ops.take q.1)))]) (fun q : Nat × Option Addr × Nat => q.1 ≤ ops.length) (fun q : Nat × Option Addr × Nat => ops.length - q.1) (0, A21, out.toNat) (Nat.zero_le _) (by exact Le.mk' (rs := [0, 1]) (hs := [0]) ⟨rfl, rfl, rfl, rfl, rfl, trivial⟩ ⟨rfl, rfl, trivial⟩ ⟨rfl, trivial⟩ (by decide)) ?_
  rintro ⟨i, A, c⟩ hi
  dsimp only at hi ⊢
  refine C.seq (C.region ?_); refine Lpu rfl rfl ?_; refine L.nil (QE.seq (C.seq ?_))
  refine C.condB 26 rfl (fun hc26 => ?_) (fun hc26 => ?_)
  ·
   replace hc26 := of_decide_eq_true hc26
   have hop := chkG_get ops out k6 i (by omega)
   refine C.skip (QE.seq (C.seq (C.block (C.seq (C.region ?_))))); refine L.step (Ev.idx (k := i) (m := i * 5) rfl rfl rfl rfl rfl rfl (by omega) (Src.r 1 rfl) (ops_pos (k := i) (by omega)) rfl) rfl ?_; refine L.step (Ev.loadA (vs := Po.cells (ops.getD i Po.zero)) rfl rfl rfl (Src.r 1 rfl) (opsV_at ops i (by omega)) rfl (by decide)) rfl ?_
   refine L.alloc rfl rfl rfl (fun A8 => ?_)
   refine L.storeA (j := 1) rfl rfl rfl rfl rfl (Nat.zero_lt_succ _) rfl rfl ?_; refine L.nil (QE.seq (C.seq (C.region ?_))); refine L.step (Ev.loadA rfl rfl rfl (Src.o 1 rfl) rfl rfl (by decide)) rfl ?_; refine L.call (js := []) (js' := [0, 1]) (of_c (ops.getD i Po.zero)) rfl rfl rfl (by decide) trivial rfl ?_
   rintro _ _ _ ⟨rfl, rfl, rfl⟩
   refine Lpu rfl rfl ?_; refine L.nil (QE.seq (C.seq (C.region ?_))); refine L.step (Ev.fieldAddr rfl rfl rfl rfl rfl rfl (Src.o 1 rfl) (Nat.zero_lt_succ _) rfl) rfl ?_; refine L.step (Ev.load rfl rfl rfl (Src.o 1 rfl) rfl) rfl ?_; refine Lpu rfl rfl ?_; refine L.nil (QE.seq (C.block ?_))
   obtain ⟨A0, hA0⟩ : ∃ x, x = A := ⟨_, rfl⟩
   obtain ⟨c0, hc0⟩ : ∃ x, x = c := ⟨_, rfl⟩
   refine C.loop (fun q : Nat × Option Addr × Nat => [(1, ptrOf A1 0), (23, .slice OA ops.length oc), (24, .int .i64 (ops.length : Int)), (25, .int .i64 (i : Int)), (6, .slice q.2.1 (symL (ops.take i) ++ symX (ops.getD i Po.zero) q.1).length q.2.2), (9, .iface (kindT (ops.getD i Po.zero) 194 195 196 197 199) (kindP (ops.getD i Po.zero))), (32, .int .i64 (ops.getD i Po.zero).ln), (33, .int .i64 (q.1 : Int))]) (fun q : Nat × Option Addr × Nat => [Rd A1 [.bool lf, .int .i64 inn, .int .i64 out, .slice OA ops.length oc], Rd OA (opsV ops)]) (fun q : Nat × Option Addr × Nat => [Own 146 3 q.2.1 (symL (ops.take i) ++ symX (ops.getD i Po.zero) q.1).length q.2.2 (symsV (symL (ops.take i) ++ symX (ops.getD i Po.zero) q.1))]) (fun q : Nat × Option Addr × Nat => (q.1 : Int) ≤ (ops.getD i Po.zero).ln) (fun q : Nat × Option Addr × Nat => (ops.getD i Po.zero).ln.toNat - q.1) (0, A, c) (by dsimp only; omega) (by exact Le.mk' (rs := [0, 1]) (hs := [0]) ⟨rfl, rfl, rfl, rfl, (by dsimp only; rw [show symX _ 0 = [] from rfl, List.append_nil]; rfl), rfl, rfl, rfl, trivial⟩ ⟨rfl, rfl, trivial⟩ ⟨(congrArg some (by dsimp only; rw [show symX _ 0 = [] from rfl, List.append_nil])), trivial⟩ (by decide)) ?_
   rintro ⟨j, A, c⟩ hj
   dsimp only at hj ⊢
   refine C.seq (C.region ?_); refine Lpu rfl rfl ?_; refine L.nil (QE.seq (C.seq ?_))
   refine C.condB 34 rfl (fun hc34 => ?_) (fun hc34 => ?_)
   ·
    replace hc34 := of_decide_eq_true hc34
    refine C.skip (QE.seq (C.seq (C.block (C.seq (C.region ?_))))); refine Lpu rfl rfl ?_; refine Lpu rfl rfl ?_; refine L.nil (QE.seq ?_)
    have hpre := symL_pre ops i j (by omega) (by omega)
    have htot := chkG_len ops out k3 k6
    have e1 : (symL (ops.take i) ++ symX (ops.getD i Po.zero) (j + 1)) = (symL (ops.take i) ++ symX (ops.getD i Po.zero) j) ++ [symO (ops.getD i Po.zero) j] := by rw [symX_succ, List.append_assoc]
    refine C.region ?_; refine Lpu rfl rfl ?_; refine Lpu rfl rfl ?_; refine Lpu rfl rfl ?_; refine L.callM (js := []) (js' := [0]) (sym_i (ops.getD i Po.zero) inn j hop.2.2 (by omega) (by omega) (by omega)) rfl rfl rfl rfl (by decide) trivial rfl ?_
    rintro _ _ _ ⟨rfl, rfl, rfl⟩
    refine L.lit1S (cs := Sy.cells (symO (ops.getD i Po.zero) j)) rfl rfl rfl rfl (Nat.zero_lt_succ _) rfl rfl rfl (fun A40 => ?_)
    refine L.append (j := 0) rfl rfl rfl rfl (by decide) rfl rfl rfl rfl (Src.o 1 rfl) rfl (symO_one _ _) (by omega) (by show _ * 24 ≤ _; omega) rfl (fun A41 cc41 => ?_)
    refine Lpu rfl rfl ?_; refine L.nil ?_; refine QE.blkN ?_; refine QE.seq (C.region ?_); refine L.step (Ev.add rfl rfl (by omega) (by omega)) rfl ?_; refine Lpu rfl rfl ?_; refine L.nil ?_
    refine QE.round (i := (j, A, c)) ((j + 1, A41, cc41)) (by dsimp only; omega) (by dsimp only; omega) (by exact Le.mk' (rs := [0, 1]) (hs := [0]) ⟨rfl, rfl, rfl, rfl, (by dsimp only; rw [e1]; simp only [List.length_append]; rfl), rfl, rfl, rfl, trivial⟩ ⟨rfl, rfl, trivial⟩ ⟨(congrArg some (own_eq (by dsimp only; rw [e1]; simp only [List.length_append]; rfl) (by dsimp only; rw [e1]; simp only [symsV_app]; rfl))), trivial⟩ (by decide))
   ·
    replace hc34 := of_decide_eq_false hc34
    refine C.exit ?_; refine QE.tX ?_; refine QE.tX ?_; refine QE.blk ?_; refine QE.blkN ?_; refine QE.seq (C.region ?_); refine L.step (Ev.add rfl rfl (by omega) (by omega)) rfl ?_; refine Lpu rfl rfl ?_; refine L.nil ?_
    obtain rfl : j = (ops.getD i Po.zero).ln.toNat := by omega
    have he := symL_snoc ops i (by omega)
    refine QE.round (i := (i, A0, c0)) ((i + 1, A, c)) (by dsimp only; omega) (by dsimp only; omega) (by exact Le.mk' (rs := [0, 1]) (hs := [0]) ⟨rfl, rfl, rfl, (by dsimp only; rw [he]; rfl), rfl, trivial⟩ ⟨rfl, rfl, trivial⟩ ⟨(congrArg some (by dsimp only; rw [he])), trivial⟩ (by decide))
  ·
   replace hc26 := of_decide_eq_false hc26
   refine C.exit ?_; refine QE.tX ?_; refine QE.tX ?_; refine QE.blk ?_; refine QE.seq (C.seq (C.region ?_)); refine Lpu rfl rfl ?_; refine Lpu rfl rfl ?_; refine Lpu rfl rfl ?_; refine L.nil (QE.seq (C.ret ?_)); refine QE.ret (js := []) (hs := [0]) (vs := [_, _]) rfl ⟨rfl, rfl, trivial⟩ (by decide) ?_
   obtain rfl : i = ops.length := by omega
   have hs : syS inn out ops = symL ops := by unfold syS; rw [if_pos hc17]
   rw [hs, hc17]
   rw [List.take_length]
   exact ⟨A, c, rfl, rfl, rfl⟩

end Go.Proofs.YtpccfdnmnnnboaaGreat
