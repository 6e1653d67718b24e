/-
  Check, Symbols, Run, Apply of the program.
-/
import Derived.Test.YtbkmahjhhncfcaaGreatQWMtF
namespace Go.Proofs.YtbkmahjhhncfcaaGreat
open Go.Sl

theorem rightQ_i (x : Pq) (size : Int) (hs1 : -100000 ≤ size - x.ln) (hs2 : size - x.ln ≤ 100000) : ∃ f, (∀ w, (method (X.P.types.size + Made.depth) (kitQ x 171 172 173 174 176) (kinQ x) "inlay/patch.right").run X.P w = .ok (f, kinQ x) w) ∧ Ctr X f [kinQ x, .int .i64 size] [] [] (fun v R' H' => v = .bool (rigQ x size) ∧ R' = [] ∧ H' = []) := by
 by_cases h1 : x.k = 1
 · have e1 : kitQ x 171 172 173 174 176 = 171 := by unfold kitQ; rw [if_pos h1]
   have e2 : kinQ x = .agg (List.toArray x.cells) := by unfold kinQ; rw [if_pos (by omega)]
   rw [e1, e2]
   refine ⟨153, fun w => by kernel_rfl, (right1Q_c x size hs1 hs2).mono ?_⟩
   rintro v R' H' ⟨rfl, h⟩
   exact ⟨congrArg Value.bool (by unfold rigQ; rw [if_pos h1]), h⟩
 by_cases h2 : x.k = 2
 · have e1 : kitQ x 171 172 173 174 176 = 172 := by unfold kitQ; rw [if_neg h1, if_pos h2]
   have e2 : kinQ x = .agg (List.toArray x.cells) := by unfold kinQ; rw [if_pos (by omega)]
   rw [e1, e2]
   refine ⟨157, fun w => by kernel_rfl, (right2Q_c x size hs1 hs2).mono ?_⟩
   rintro v R' H' ⟨rfl, h⟩
   exact ⟨congrArg Value.bool (by unfold rigQ; rw [if_neg h1, if_pos h2]), h⟩
 by_cases h3 : x.k = 3
 · have e1 : kitQ x 171 172 173 174 176 = 173 := by unfold kitQ; rw [if_neg h1, if_neg h2, if_pos h3]
   have e2 : kinQ x = .agg (List.toArray x.cells) := by unfold kinQ; rw [if_pos (by omega)]
   rw [e1, e2]
   refine ⟨160, fun w => by kernel_rfl, (right3Q_c x size hs1 hs2).mono ?_⟩
   rintro v R' H' ⟨rfl, h⟩
   exact ⟨congrArg Value.bool (by unfold rigQ; rw [if_neg h1, if_neg h2, if_pos h3]), h⟩
 by_cases h4 : x.k = 4
 · have e1 : kitQ x 171 172 173 174 176 = 174 := by unfold kitQ; rw [if_neg h1, if_neg h2, if_neg h3, if_pos h4]
   have e2 : kinQ x = .agg (List.toArray x.cells) := by unfold kinQ; rw [if_pos (by omega)]
   rw [e1, e2]
   refine ⟨163, fun w => by kernel_rfl, (right4Q_c x size hs1 hs2).mono ?_⟩
   rintro v R' H' ⟨rfl, h⟩
   exact ⟨congrArg Value.bool (by unfold rigQ; rw [if_neg h1, if_neg h2, if_neg h3, if_pos h4]), h⟩
 have e1 : kitQ x 171 172 173 174 176 = 176 := by unfold kitQ; rw [if_neg h1, if_neg h2, if_neg h3, if_neg h4]
 have e2 : kinQ x = .agg (List.toArray []) := by unfold kinQ; rw [if_neg (by omega)]
 rw [e1, e2]
 refine ⟨166, fun w => by kernel_rfl, (right0Q_c size).mono ?_⟩
 rintro v R' H' ⟨rfl, h⟩
 exact ⟨congrArg Value.bool (by unfold rigQ; rw [if_neg h1, if_neg h2, if_neg h3, if_neg h4]), h⟩

theorem symQ_i (x : Pq) (size : Int) (i : Nat) (hr : rigQ x size = true) (hl : (i : Int) < x.ln) (hs : size ≤ 65536) (hi : (i : Int) ≤ 65536) : ∃ f, (∀ w, (method (X.P.types.size + Made.depth) (kitQ x 171 172 173 174 176) (kinQ x) "inlay/patch.symbol").run X.P w = .ok (f, kinQ x) w) ∧ Ctr X f [kinQ x, .int .i64 (i : Int)] [Rd x.A (U8 x.d)] [] (fun v R' H' => v = .agg (List.toArray (symQ x i).cells) ∧ R' = [] ∧ H' = []) := by
 have hk := rigQ_kind hr
 have e2 : kinQ x = .agg (List.toArray x.cells) := by unfold kinQ; rw [if_pos hk]
 rcases hk with h1 | h1 | h1 | h1
 · have e1 : kitQ x 171 172 173 174 176 = 171 := by unfold kitQ; rw [if_pos h1]
   rw [e1, e2]
   exact ⟨154, fun w => by kernel_rfl, sym1Q_c x i size hr h1 hl hs hi⟩
 · have e1 : kitQ x 171 172 173 174 176 = 172 := by unfold kitQ; rw [if_neg (by omega), if_pos h1]
   rw [e1, e2]
   exact ⟨158, fun w => by kernel_rfl, sym2Q_c x i size hr h1 hl hs hi⟩
 · have e1 : kitQ x 171 172 173 174 176 = 173 := by unfold kitQ; rw [if_neg (by omega), if_neg (by omega), if_pos h1]
   rw [e1, e2]
   exact ⟨161, fun w => by kernel_rfl, sym3Q_c x i size hr h1 hl hs hi⟩
 · have e1 : kitQ x 171 172 173 174 176 = 174 := by unfold kitQ; rw [if_neg (by omega), if_neg (by omega), if_neg (by omega), if_pos h1]
   rw [e1, e2]
   exact ⟨164, fun w => by kernel_rfl, sym4Q_c x i size hr h1 hl hs hi⟩

theorem Ev.add8 {X : Cx} {β : Base} {Γ : Env} {R H : List Pr} {t ty : Nat} {x y : Operand} {a b : UInt8} (hx : ev Γ x = some (.int .u8 (a.toNat : Int))) (hy : ev Γ y = some (.int .u8 (b.toNat : Int))) : Ev X β Γ R H (.binOp .add t x y ty) (.int .u8 ((a + b).toNat : Int)) :=
 (Ev.pure (v := .int .u8 (IntKind.u8.wrap ((a.toNat : Int) + (b.toNat : Int)))) (by simp [pev, hx, hy, pint, IntKind.wrap])).cast (by rw [show IntKind.u8.wrap ((a.toNat : Int) + (b.toNat : Int)) = ((a.toNat : Int) + (b.toNat : Int)) % 256 by simp [IntKind.wrap, IntKind.bits, IntKind.signed], UInt8.toNat_add]; rfl)
set_option maxHeartbeats 1000000 in
theorem check6Q_c (lf : Bool) (inn out : Int) (ops : List Pq) (OA : Option Addr) (oc : Nat) (hops : ops.length ≤ 9223372036854775807) :
   Ctr X 106 [.agg (List.toArray [.bool lf, .int .i64 inn, .int .i64 out, .slice OA ops.length oc])] [Rd OA (pqV ops)] [] (fun v R' H' => ∃ q : Int, v = .tuple #[.int .i64 q, .int .i64 (chkP inn out ops)] ∧ R' = [] ∧ H' = []) := by
 refine Ctr.of (X := X) (fn := Tryz.f106) Tryz.func106 rfl (by kernel_rfl) rfl ?_
 intro β
 refine C.seq (C.region ?_)
 refine L.boxA rfl rfl (fun A1 => ?_)
 refine Lpu rfl rfl ?_; refine Lpu rfl rfl ?_; refine L.nil (QE.seq (C.seq (C.seq ?_))); refine C.freeze 0 rfl [] (by decide) (by decide) ?_; refine C.region ?_; refine L.step (Ev.fieldAddr rfl rfl rfl rfl rfl rfl (Src.r 0 rfl) (Nat.zero_lt_succ _) rfl) rfl ?_; refine L.step (Ev.load rfl rfl rfl (Src.r 0 rfl) rfl) rfl ?_; refine L.step (Ev.fieldAddr rfl rfl rfl rfl rfl rfl (Src.r 0 rfl) (Nat.zero_lt_succ _) rfl) rfl ?_; refine L.step (Ev.load rfl rfl rfl (Src.r 0 rfl) rfl) rfl ?_; refine L.step (Ev.cast (u := .int .i64 (min inn out)) (Ev.pure rfl) (congrArg (Value.int .i64) (by simp only [Bool.false_eq_true, if_false]; split <;> omega))) rfl ?_; refine Lpu rfl rfl ?_; refine Lpu rfl rfl ?_
 refine L.bool 13 rfl (fun hg13 => ?_) (fun hg13 => ?_)
 ·
  replace hg13 := of_decide_eq_true hg13
  refine L.no rfl rfl rfl ?_; refine L.no rfl rfl rfl ?_; refine L.no rfl rfl rfl ?_; refine L.no rfl rfl rfl ?_; refine L.no rfl rfl rfl ?_; refine L.no rfl rfl rfl ?_; refine Lpu rfl rfl ?_; refine Lpu rfl rfl ?_; refine L.no rfl rfl rfl ?_; refine L.no rfl rfl rfl ?_; refine L.no rfl rfl rfl ?_; refine L.no rfl rfl rfl ?_; refine Lpu rfl rfl ?_; refine L.nil (QE.seq ?_)
  refine C.cond rfl (fun _ => ?_) (fun h => by cases h)
  refine C.seq (C.region ?_); refine Lpu rfl rfl ?_; refine Lpu rfl rfl ?_; refine L.nil (QE.seq (C.ret (QE.tR ?_))); refine QE.ret (js := []) (hs := []) (vs := [_, _]) rfl ⟨rfl, rfl, trivial⟩ (by decide) ?_
  have hE : chkP inn out ops = 60 := by unfold chkP; rw [if_pos (by omega)]
  exact ⟨_, by rw [hE]; rfl, rfl, rfl⟩
 ·
  replace hg13 := of_decide_eq_false hg13
  refine L.yes rfl ?_; refine L.step (Ev.fieldAddr rfl rfl rfl rfl rfl rfl (Src.r 0 rfl) (Nat.zero_lt_succ _) rfl) rfl ?_; refine L.yes rfl ?_; refine L.step (Ev.load rfl rfl rfl (Src.r 0 rfl) rfl) rfl ?_; refine L.yes rfl ?_; refine L.step (Ev.fieldAddr rfl rfl rfl rfl rfl rfl (Src.r 0 rfl) (Nat.zero_lt_succ _) rfl) rfl ?_; refine L.yes rfl ?_; refine L.step (Ev.load rfl rfl rfl (Src.r 0 rfl) rfl) rfl ?_; refine L.yes rfl ?_; refine L.step (Ev.cast (u := .int .i64 (max inn out)) (Ev.pure rfl) (congrArg (Value.int .i64) (by simp only [if_true]; split <;> omega))) rfl ?_; refine L.yes rfl ?_; refine Lpu rfl rfl ?_; refine Lpu rfl rfl ?_; refine Lpu rfl rfl ?_
  refine L.bool 21 rfl (fun hg21 => ?_) (fun hg21 => ?_)
  ·
   replace hg21 := of_decide_eq_true hg21
   refine L.no rfl rfl rfl ?_; refine L.no rfl rfl rfl ?_; refine L.no rfl rfl rfl ?_; refine L.no rfl rfl rfl ?_; refine Lpu rfl rfl ?_; refine L.nil (QE.seq ?_)
   refine C.cond rfl (fun _ => ?_) (fun h => by cases h)
   refine C.seq (C.region ?_); refine Lpu rfl rfl ?_; refine Lpu rfl rfl ?_; refine L.nil (QE.seq (C.ret (QE.tR ?_))); refine QE.ret (js := []) (hs := []) (vs := [_, _]) rfl ⟨rfl, rfl, trivial⟩ (by decide) ?_
   have hE : chkP inn out ops = 60 := by unfold chkP; rw [if_pos (by omega)]
   exact ⟨_, by rw [hE]; rfl, rfl, rfl⟩
  ·
   replace hg21 := of_decide_eq_false hg21
   refine L.yes rfl ?_; refine L.step (Ev.fieldAddr rfl rfl rfl rfl rfl rfl (Src.r 0 rfl) (Nat.zero_lt_succ _) rfl) rfl ?_; refine L.yes rfl ?_; refine L.step (Ev.load rfl rfl rfl (Src.r 0 rfl) rfl) rfl ?_; refine L.yes rfl ?_; refine Lpu rfl rfl ?_; refine L.yes rfl ?_; refine Lpu rfl rfl ?_; refine Lpu rfl rfl ?_; refine L.nil (QE.seq ?_)
   refine C.condB 26 rfl (fun hc26 => ?_) (fun hc26 => ?_)
   ·
    replace hc26 := of_decide_eq_true hc26
    refine C.seq (C.region ?_); refine Lpu rfl rfl ?_; refine Lpu rfl rfl ?_; refine L.nil (QE.seq (C.ret (QE.tR ?_))); refine QE.ret (js := []) (hs := []) (vs := [_, _]) rfl ⟨rfl, rfl, trivial⟩ (by decide) ?_
    have hE : chkP inn out ops = 60 := by unfold chkP; rw [if_pos (by omega)]
    exact ⟨_, by rw [hE]; rfl, rfl, rfl⟩
   ·
    replace hc26 := of_decide_eq_false hc26
    refine C.skip (QE.seq (C.seq (C.region ?_))); refine L.step (Ev.fieldAddr rfl rfl rfl rfl rfl rfl (Src.r 0 rfl) (Nat.zero_lt_succ _) rfl) rfl ?_; refine L.step (Ev.load rfl rfl rfl (Src.r 0 rfl) rfl) rfl ?_; refine Lpu rfl rfl ?_; refine L.nil (QE.seq (C.seq (C.seq (C.region ?_)))); refine L.step (Ev.fieldAddr rfl rfl rfl rfl rfl rfl (Src.r 0 rfl) (Nat.zero_lt_succ _) rfl) rfl ?_; refine L.step (Ev.load rfl rfl rfl (Src.r 0 rfl) rfl) rfl ?_; refine Lpu rfl rfl ?_; refine Lpu rfl rfl ?_; refine L.nil (QE.seq (C.block ?_)); refine C.loop (fun q : Nat × Int => [(1, ptrOf A1 0), (4, .int .i64 q.2), (30, .slice OA ops.length oc), (31, .int .i64 (ops.length : Int)), (32, .int .i64 (q.1 : Int))]) (fun q : Nat × Int => [Rd A1 [.bool lf, .int .i64 inn, .int .i64 out, .slice OA ops.length oc], Rd OA (pqV ops)]) (fun q : Nat × Int => []) (fun q : Nat × Int => q.1 ≤ ops.length ∧ 0 ≤ q.2 ∧ q.2 ≤ 65536 ∧ chkL inn out ops = chkL inn q.2 (ops.drop q.1)) (fun q : Nat × Int => ops.length - q.1) (0, out) ⟨Nat.zero_le _, by dsimp only; omega, by dsimp only; omega, rfl⟩ (by exact Le.mk' (rs := [0, 1]) (hs := []) ⟨rfl, rfl, rfl, rfl, rfl, trivial⟩ ⟨rfl, rfl, trivial⟩ trivial (by decide)) ?_
    rintro ⟨i, left⟩ ⟨hi, hl0, hl1, hinv⟩
    dsimp only at hi hl0 hl1 hinv ⊢
    refine C.seq (C.region ?_); refine Lpu rfl rfl ?_; refine L.nil (QE.seq (C.seq ?_))
    refine C.condB 33 rfl (fun hc33 => ?_) (fun hc33 => ?_)
    ·
     replace hc33 := of_decide_eq_true hc33
     refine C.skip (QE.seq (C.seq (C.block (C.seq (C.region ?_))))); refine Lpu rfl rfl ?_; refine L.step (Ev.idx (k := i) (m := i * 5) rfl rfl rfl rfl rfl rfl (by omega) (Src.r 1 rfl) (pqV_pos (k := i) (by omega)) rfl) rfl ?_; refine L.step (Ev.loadA (vs := Pq.cells (ops.getD i Pq.zero)) rfl rfl rfl (Src.r 1 rfl) (pqV_at ops i (by omega)) rfl (by decide)) rfl ?_
     refine L.alloc rfl rfl rfl (fun A6 => ?_)
     refine Lpu rfl rfl ?_; refine L.storeA (j := 0) rfl rfl rfl rfl rfl (Nat.zero_lt_succ _) rfl rfl ?_; refine L.nil (QE.seq (C.seq (C.seq ?_))); refine C.regionM [Rd A1 [.bool lf, .int .i64 inn, .int .i64 out, .slice OA ops.length oc], Rd OA (pqV ops), Rd A6 (Pq.cells (ops.getD i Pq.zero))] ⟨Has.r 0 rfl, Has.r 1 rfl, Has.o 0 rfl, trivial⟩ ?_; refine LM.q 0 rfl (by kernel_rfl) (Ev.fieldAddr rfl rfl rfl rfl rfl rfl (Src.r 2 rfl) (Nat.zero_lt_succ _) rfl) rfl ⟨Has.r 0 rfl, Has.r 1 rfl, Has.o 0 rfl, trivial⟩ ?_; refine LM.q 1 rfl (by kernel_rfl) (Ev.load rfl rfl rfl (Src.r 2 rfl) rfl) rfl ⟨Has.r 0 rfl, Has.r 1 rfl, Has.o 0 rfl, trivial⟩ ?_; refine LM.q 2 rfl (by kernel_rfl) (Ev.pure rfl) rfl ⟨Has.r 0 rfl, Has.r 1 rfl, Has.o 0 rfl, trivial⟩ ?_; refine LM.q 3 rfl (by kernel_rfl) (Ev.pure rfl) rfl ⟨Has.r 0 rfl, Has.r 1 rfl, Has.o 0 rfl, trivial⟩ ?_
     refine LM.bool 40 rfl (fun hg40 => ?_) (fun hg40 => ?_)
     ·
      replace hg40 := of_decide_eq_true hg40
      have hno : chkL inn left (ops.drop i) = false := chkL_no (by omega) (.inl (by omega))
      refine LM.no 4 rfl (by kernel_rfl) rfl rfl rfl ⟨Has.r 0 rfl, Has.r 1 rfl, Has.o 0 rfl, trivial⟩ ?_; refine LM.no 5 rfl (by kernel_rfl) rfl rfl rfl ⟨Has.r 0 rfl, Has.r 1 rfl, Has.o 0 rfl, trivial⟩ ?_; refine LM.no 6 rfl (by kernel_rfl) rfl rfl rfl ⟨Has.r 0 rfl, Has.r 1 rfl, Has.o 0 rfl, trivial⟩ ?_; refine LM.no 7 rfl (by kernel_rfl) rfl rfl rfl ⟨Has.r 0 rfl, Has.r 1 rfl, Has.o 0 rfl, trivial⟩ ?_; refine LM.q 8 rfl (by kernel_rfl) (Ev.pure rfl) rfl ⟨Has.r 0 rfl, Has.r 1 rfl, Has.o 0 rfl, trivial⟩ ?_; refine LM.q 9 rfl (by kernel_rfl) (Ev.pure rfl) rfl ⟨Has.r 0 rfl, Has.r 1 rfl, Has.o 0 rfl, trivial⟩ ?_; refine LM.no 10 rfl (by kernel_rfl) rfl rfl rfl ⟨Has.r 0 rfl, Has.r 1 rfl, Has.o 0 rfl, trivial⟩ ?_; refine LM.no 11 rfl (by kernel_rfl) rfl rfl rfl ⟨Has.r 0 rfl, Has.r 1 rfl, Has.o 0 rfl, trivial⟩ ?_; refine LM.f 12 rfl (by kernel_rfl) ⟨Has.r 0 rfl, Has.r 1 rfl, Has.o 0 rfl, trivial⟩ ?_; refine L.no rfl rfl rfl ?_
      refine L.nil (QE.m (by kernel_rfl) ?_)
      refine LM.f 13 rfl (by kernel_rfl) ⟨Has.r 0 rfl, Has.r 1 rfl, Has.o 0 rfl, trivial⟩ ?_; refine L.no rfl rfl rfl ?_
      refine L.nil (QE.m (by kernel_rfl) ?_)
      refine LM.cut [] (by kernel_rfl) ⟨Has.r 0 rfl, Has.r 1 rfl, Has.o 0 rfl, trivial⟩ ?_; refine LM.f 14 rfl (by kernel_rfl) trivial ?_; refine L.no rfl rfl rfl ?_
      refine L.nil (QE.m (by kernel_rfl) ?_)
      refine LM.f 15 rfl (by kernel_rfl) trivial ?_; refine L.no rfl rfl rfl ?_
      refine L.nil (QE.m (by kernel_rfl) ?_)
      refine LM.f 16 rfl (by kernel_rfl) trivial ?_; refine Lpu rfl rfl ?_
      refine L.nil (QE.m (by kernel_rfl) ?_)
      refine LM.nil (by kernel_rfl) trivial ?_; refine QE.seq ?_
      refine C.cond rfl (fun _ => ?_) (fun h => by cases h)
      refine C.seq (C.region ?_); refine Lpu rfl rfl ?_; refine Lpu rfl rfl ?_; refine Lpu rfl rfl ?_; refine L.nil (QE.seq (C.ret (QE.tR (QE.bR (QE.tR (QE.tR (QE.bR (QE.tR ?_)))))))); refine QE.ret (js := []) (hs := []) (vs := [_, _]) rfl ⟨rfl, rfl, trivial⟩ (by decide) ?_
      have hE : chkP inn out ops = 60 := by unfold chkP; rw [if_neg (by omega), hinv, hno]; rfl
      exact ⟨_, by rw [hE]; rfl, rfl, rfl⟩
     ·
      replace hg40 := of_decide_eq_false hg40
      refine LM.qy 4 rfl (by kernel_rfl) rfl (Ev.fieldAddr rfl rfl rfl rfl rfl rfl (Src.r 2 rfl) (Nat.zero_lt_succ _) rfl) rfl ⟨Has.r 0 rfl, Has.r 1 rfl, Has.o 0 rfl, trivial⟩ ?_; refine LM.qy 5 rfl (by kernel_rfl) rfl (Ev.load rfl rfl rfl (Src.r 2 rfl) rfl) rfl ⟨Has.r 0 rfl, Has.r 1 rfl, Has.o 0 rfl, trivial⟩ ?_; refine LM.qy 6 rfl (by kernel_rfl) rfl (Ev.pure rfl) rfl ⟨Has.r 0 rfl, Has.r 1 rfl, Has.o 0 rfl, trivial⟩ ?_; refine LM.qy 7 rfl (by kernel_rfl) rfl (Ev.pure rfl) rfl ⟨Has.r 0 rfl, Has.r 1 rfl, Has.o 0 rfl, trivial⟩ ?_; refine LM.q 8 rfl (by kernel_rfl) (Ev.pure rfl) rfl ⟨Has.r 0 rfl, Has.r 1 rfl, Has.o 0 rfl, trivial⟩ ?_; refine LM.q 9 rfl (by kernel_rfl) (Ev.pure rfl) rfl ⟨Has.r 0 rfl, Has.r 1 rfl, Has.o 0 rfl, trivial⟩ ?_
      refine LM.bool 46 rfl (fun hg46 => ?_) (fun hg46 => ?_)
      ·
       replace hg46 := of_decide_eq_true hg46
       have hno : chkL inn left (ops.drop i) = false := chkL_no (by omega) (.inr (.inl (by omega)))
       refine LM.no 10 rfl (by kernel_rfl) rfl rfl rfl ⟨Has.r 0 rfl, Has.r 1 rfl, Has.o 0 rfl, trivial⟩ ?_; refine LM.no 11 rfl (by kernel_rfl) rfl rfl rfl ⟨Has.r 0 rfl, Has.r 1 rfl, Has.o 0 rfl, trivial⟩ ?_; refine LM.f 12 rfl (by kernel_rfl) ⟨Has.r 0 rfl, Has.r 1 rfl, Has.o 0 rfl, trivial⟩ ?_; refine L.no rfl rfl rfl ?_
       refine L.nil (QE.m (by kernel_rfl) ?_)
       refine LM.f 13 rfl (by kernel_rfl) ⟨Has.r 0 rfl, Has.r 1 rfl, Has.o 0 rfl, trivial⟩ ?_; refine L.no rfl rfl rfl ?_
       refine L.nil (QE.m (by kernel_rfl) ?_)
       refine LM.cut [] (by kernel_rfl) ⟨Has.r 0 rfl, Has.r 1 rfl, Has.o 0 rfl, trivial⟩ ?_; refine LM.f 14 rfl (by kernel_rfl) trivial ?_; refine L.no rfl rfl rfl ?_
       refine L.nil (QE.m (by kernel_rfl) ?_)
       refine LM.f 15 rfl (by kernel_rfl) trivial ?_; refine L.no rfl rfl rfl ?_
       refine L.nil (QE.m (by kernel_rfl) ?_)
       refine LM.f 16 rfl (by kernel_rfl) trivial ?_; refine Lpu rfl rfl ?_
       refine L.nil (QE.m (by kernel_rfl) ?_)
       refine LM.nil (by kernel_rfl) trivial ?_; refine QE.seq ?_
       refine C.cond rfl (fun _ => ?_) (fun h => by cases h)
       refine C.seq (C.region ?_); refine Lpu rfl rfl ?_; refine Lpu rfl rfl ?_; refine Lpu rfl rfl ?_; refine L.nil (QE.seq (C.ret (QE.tR (QE.bR (QE.tR (QE.tR (QE.bR (QE.tR ?_)))))))); refine QE.ret (js := []) (hs := []) (vs := [_, _]) rfl ⟨rfl, rfl, trivial⟩ (by decide) ?_
       have hE : chkP inn out ops = 60 := by unfold chkP; rw [if_neg (by omega), hinv, hno]; rfl
       exact ⟨_, by rw [hE]; rfl, rfl, rfl⟩
      ·
       replace hg46 := of_decide_eq_false hg46
       refine LM.qy 10 rfl (by kernel_rfl) rfl (Ev.loadA rfl rfl rfl (Src.r 2 rfl) rfl rfl (by decide)) rfl ⟨Has.r 0 rfl, Has.r 1 rfl, Has.o 0 rfl, trivial⟩ ?_; refine LM.qy 12 rfl (by kernel_rfl) rfl (Ev.fieldAddr rfl rfl rfl rfl rfl rfl (Src.r 0 rfl) (Nat.zero_lt_succ _) rfl) rfl ⟨Has.r 0 rfl, Has.r 1 rfl, Has.o 0 rfl, trivial⟩ ?_; refine LM.qy 13 rfl (by kernel_rfl) rfl (Ev.load rfl rfl rfl (Src.r 0 rfl) rfl) rfl ⟨Has.r 0 rfl, Has.r 1 rfl, Has.o 0 rfl, trivial⟩ ?_; refine LM.f 11 rfl (by kernel_rfl) ⟨Has.r 0 rfl, Has.r 1 rfl, Has.o 0 rfl, trivial⟩ ?_; refine L.yes rfl ?_; refine L.call (js := []) (js' := [0]) (ofQ_c (ops.getD i Pq.zero)) rfl rfl rfl (by decide) trivial rfl ?_
       rintro _ _ _ ⟨rfl, rfl, rfl⟩
       refine L.nil (QE.m (by kernel_rfl) ?_)
       refine LM.cut [] (by kernel_rfl) ⟨Has.r 0 rfl, Has.r 1 rfl, Has.o 0 rfl, trivial⟩ ?_; refine LM.f 14 rfl (by kernel_rfl) trivial ?_; refine L.yes rfl ?_; refine L.callM (js := []) (js' := [0]) (rightQ_i (ops.getD i Pq.zero) inn (by omega) (by omega)) rfl rfl rfl rfl (by decide) trivial rfl ?_
       rintro _ _ _ ⟨rfl, rfl, rfl⟩
       refine L.nil (QE.m (by kernel_rfl) ?_)
       refine LM.f 15 rfl (by kernel_rfl) trivial ?_; refine L.yes rfl ?_; refine Lpu rfl rfl ?_
       refine L.nil (QE.m (by kernel_rfl) ?_)
       refine LM.f 16 rfl (by kernel_rfl) trivial ?_; refine Lpu rfl rfl ?_
       refine L.nil (QE.m (by kernel_rfl) ?_)
       refine LM.nil (by kernel_rfl) trivial ?_; refine QE.seq ?_
       refine C.condB 53 rfl (fun hc53 => ?_) (fun hc53 => ?_)
       ·
        have hno : chkL inn left (ops.drop i) = false := chkL_no (by omega) (.inr (.inr (by simpa using hc53)))
        refine C.seq (C.region ?_); refine Lpu rfl rfl ?_; refine Lpu rfl rfl ?_; refine Lpu rfl rfl ?_; refine L.nil (QE.seq (C.ret (QE.tR (QE.bR (QE.tR (QE.tR (QE.bR (QE.tR ?_)))))))); refine QE.ret (js := []) (hs := []) (vs := [_, _]) rfl ⟨rfl, rfl, trivial⟩ (by decide) ?_
        have hE : chkP inn out ops = 60 := by unfold chkP; rw [if_neg (by omega), hinv, hno]; rfl
        exact ⟨_, by rw [hE]; rfl, rfl, rfl⟩
       ·
        have hright : rigQ (ops.getD i Pq.zero) inn = true := by simpa using hc53
        refine C.skip (QE.seq (C.region ?_)); refine Lpu rfl rfl ?_; refine L.step (Ev.fieldAddr rfl rfl rfl rfl rfl rfl (Src.o 0 rfl) (Nat.zero_lt_succ _) rfl) rfl ?_; refine L.step (Ev.load rfl rfl rfl (Src.o 0 rfl) rfl) rfl ?_; refine L.step (Ev.sub rfl rfl (by omega) (by omega)) rfl ?_; refine Lpu rfl rfl ?_; refine L.nil ?_; refine QE.blkN ?_; refine QE.seq (C.region ?_); refine L.step (Ev.add rfl rfl (by omega) (by omega)) rfl ?_; refine Lpu rfl rfl ?_; refine L.nil ?_
        refine QE.round (i := (i, left)) ((i + 1, left - (ops.getD i Pq.zero).ln)) (by exact ⟨by dsimp only; omega, by dsimp only; omega, by dsimp only; omega, by dsimp only; rw [hinv, chkL_step (by omega) (by omega) (by omega) hright]⟩) (by dsimp only; omega) (by exact Le.mk' (rs := [0, 1]) (hs := []) ⟨rfl, rfl, rfl, rfl, rfl, trivial⟩ ⟨rfl, rfl, trivial⟩ trivial (by decide))
    ·
     replace hc33 := of_decide_eq_false hc33
     refine C.exit ?_; refine QE.tX ?_; refine QE.tX ?_; refine QE.blk ?_; refine QE.seq (C.seq (C.seq (C.region ?_))); refine Lpu rfl rfl ?_; refine Lpu rfl rfl ?_; refine L.nil (QE.seq ?_)
     refine C.condB 61 rfl (fun hc61 => ?_) (fun hc61 => ?_)
     ·
      replace hc61 := of_decide_eq_true hc61
      have hno : chkL inn left (ops.drop i) = false := by rw [chkL_end (by omega)]; exact decide_eq_false (by omega)
      refine C.seq (C.region ?_); refine L.step (Ev.fieldAddr rfl rfl rfl rfl rfl rfl (Src.r 0 rfl) (Nat.zero_lt_succ _) rfl) rfl ?_; refine L.step (Ev.load rfl rfl rfl (Src.r 0 rfl) rfl) rfl ?_; refine Lpu rfl rfl ?_; refine Lpu rfl rfl ?_; refine Lpu rfl rfl ?_; refine L.nil (QE.seq (C.ret (QE.tR ?_))); refine QE.ret (js := []) (hs := []) (vs := [_, _]) rfl ⟨rfl, rfl, trivial⟩ (by decide) ?_
      have hE : chkP inn out ops = 60 := by unfold chkP; rw [if_neg (by omega), hinv, hno]; rfl
      exact ⟨_, by rw [hE]; rfl, rfl, rfl⟩
     ·
      replace hc61 := of_decide_eq_false hc61
      refine C.skip (QE.seq (C.seq (C.region ?_))); refine L.step (Ev.fieldAddr rfl rfl rfl rfl rfl rfl (Src.r 0 rfl) (Nat.zero_lt_succ _) rfl) rfl ?_; refine L.step (Ev.load rfl rfl rfl (Src.r 0 rfl) rfl) rfl ?_; refine Lpu rfl rfl ?_; refine Lpu rfl rfl ?_; refine Lpu rfl rfl ?_; refine L.nil (QE.seq (C.ret ?_)); refine QE.ret (js := []) (hs := []) (vs := [_, _]) rfl ⟨rfl, rfl, trivial⟩ (by decide) ?_
      have hE : chkP inn out ops = 0 := by
        unfold chkP
        rw [if_neg (by omega), hinv, chkL_end (by omega), decide_eq_true (by omega)]
        rfl
      exact ⟨_, by rw [hE]; rfl, rfl, rfl⟩

set_option maxHeartbeats 1000000 in
theorem symbolsQ_c (lf : Bool) (inn out : Int) (ops : List Pq) (OA : Option Addr) (oc : Nat) (hops : ops.length ≤ 9223372036854775807) :
   Ctr X 80 [.agg (List.toArray [.bool lf, .int .i64 inn, .int .i64 out, .slice OA ops.length oc])] [Rd OA (pqV ops), KidsR (pqH ops) (B8 (pqD ops))] [] (fun v R' H' => ∃ (A : Option Addr) (c : Nat), v = .tuple #[.slice A (sysQ inn out ops).length c, .int .i64 (chkP inn out ops)] ∧ R' = [] ∧ H' = [Own 130 3 A (sysQ inn out ops).length c (symsV (sysQ inn out ops))]) := by
 refine Ctr.of (X := X) (fn := Tryz.f80) Tryz.func80 rfl (by kernel_rfl) rfl ?_
 intro β
 refine C.seq (C.region ?_)
 refine L.boxA rfl rfl (fun A1 => ?_)
 refine Lpu rfl rfl ?_; refine Lpu rfl rfl ?_; refine L.nil (QE.seq (C.seq (C.seq ?_))); refine C.freeze 0 rfl [] (by decide) (by decide) ?_; refine C.region ?_; refine L.step (Ev.loadA rfl rfl rfl (Src.r 0 rfl) rfl rfl (by decide)) rfl ?_; refine L.call (js := []) (js' := []) (check6Q_c lf inn out ops OA oc hops) rfl rfl rfl (by decide) (Hq [1] rfl) rfl ?_
 rintro _ _ _ ⟨q, rfl, rfl, rfl⟩
 refine Lpu rfl rfl ?_; refine Lpu rfl rfl ?_; refine Lpu rfl rfl ?_; refine Lpu rfl rfl ?_; refine Lpu rfl rfl ?_; refine L.nil (QE.seq (C.seq (C.region ?_))); refine Lpu rfl rfl ?_; refine Lpu rfl rfl ?_; refine L.nil (QE.seq ?_)
 refine C.condB 17 rfl (fun hc17 => ?_) (fun hc17 => ?_)
 ·
  replace hc17 := b_ne hc17
  refine C.seq (C.region ?_); refine Lpu rfl rfl ?_; refine Lpu rfl rfl ?_; refine Lpu rfl rfl ?_; refine L.nil (QE.seq (C.ret (QE.tR ?_))); refine QE.nil_own 130 3 ?_; refine QE.ret (js := []) (hs := [0]) (vs := [_, _]) rfl ⟨rfl, rfl, trivial⟩ (by decide) ?_
  have hs : sysQ inn out ops = [] := by unfold sysQ; rw [if_neg hc17]
  rw [hs]
  exact ⟨none, 0, rfl, rfl, rfl⟩
 ·
  replace hc17 := b_eq hc17
  obtain ⟨k1, k2, k3, k4, k5, k6⟩ := chkP_ok hc17
  refine C.skip (QE.seq (C.seq (C.region ?_))); refine L.step (Ev.fieldAddr rfl rfl rfl rfl rfl rfl (Src.r 0 rfl) (Nat.zero_lt_succ _) rfl) rfl ?_; refine L.step (Ev.cast (u := .int .i64 ((out.toNat : Nat) : Int)) (Ev.load rfl rfl rfl (Src.r 0 rfl) rfl) (congrArg (Value.int .i64) (by omega))) rfl ?_
  refine L.make0 (m := out.toNat) rfl rfl rfl rfl rfl (by show 24 * _ ≤ _; omega) (by omega) rfl (fun A21 => ?_)
  refine Lpu rfl rfl ?_; refine L.nil (QE.seq (C.seq (C.seq (C.region ?_)))); refine L.step (Ev.fieldAddr rfl rfl rfl rfl rfl rfl (Src.r 0 rfl) (Nat.zero_lt_succ _) rfl) rfl ?_; refine L.step (Ev.load rfl rfl rfl (Src.r 0 rfl) rfl) rfl ?_; refine Lpu rfl rfl ?_; refine Lpu rfl rfl ?_; refine L.nil (QE.seq (C.block ?_)); refine C.loop (fun q : Nat × Option Addr × Nat => [(1, ptrOf A1 0), (23, .slice OA ops.length oc), (24, .int .i64 (ops.length : Int)), (6, .slice q.2.1 (sylQ (ops.take q.1)).length q.2.2), (25, .int .i64 (q.1 : Int))]) (fun q : Nat × Option Addr × Nat => [Rd A1 [.bool lf, .int .i64 inn, .int .i64 out, .slice OA ops.length oc], Rd OA (pqV ops), KidsR (pqH ops) (B8 (pqD ops))]) (fun q : Nat × Option Addr × Nat => [Own 130 3 q.2.1 (sylQ (ops.take q.1)).length q.2.2 (symsV (sylQ (ops.take q.1)))]) (fun q : Nat × Option Addr × Nat => q.1 ≤ ops.length) (fun q : Nat × Option Addr × Nat => ops.length - q.1) (0, A21, out.toNat) (Nat.zero_le _) (by exact Le.mk' (rs := [0, 1, 2]) (hs := [0]) ⟨rfl, rfl, rfl, rfl, rfl, trivial⟩ ⟨rfl, rfl, rfl, trivial⟩ ⟨rfl, trivial⟩ (by decide)) ?_
  rintro ⟨i, A, c⟩ hi
  dsimp only at hi ⊢
  refine C.seq (C.region ?_); refine Lpu rfl rfl ?_; refine L.nil (QE.seq (C.seq ?_))
  refine C.condB 26 rfl (fun hc26 => ?_) (fun hc26 => ?_)
  ·
   replace hc26 := of_decide_eq_true hc26
   have hop := chkL_get ops out k6 i (by omega)
   refine C.skip (QE.seq (C.seq (C.block (C.seq (C.region ?_))))); refine L.step (Ev.idx (k := i) (m := i * 5) rfl rfl rfl rfl rfl rfl (by omega) (Src.r 1 rfl) (pqV_pos (k := i) (by omega)) rfl) rfl ?_; refine L.step (Ev.loadA (vs := Pq.cells (ops.getD i Pq.zero)) rfl rfl rfl (Src.r 1 rfl) (pqV_at ops i (by omega)) rfl (by decide)) rfl ?_
   refine L.alloc rfl rfl rfl (fun A8 => ?_)
   refine L.storeA (j := 1) rfl rfl rfl rfl rfl (Nat.zero_lt_succ _) rfl rfl ?_; refine L.nil (QE.seq (C.seq ?_)); refine C.more (r := Rd (ops.getD i Pq.zero).A (U8 (ops.getD i Pq.zero).d)) (Has.kidQ 2 rfl i (by omega)) ?_; refine C.region ?_; refine L.step (Ev.loadA rfl rfl rfl (Src.o 1 rfl) rfl rfl (by decide)) rfl ?_; refine L.call (js := []) (js' := [0, 1]) (ofQ_c (ops.getD i Pq.zero)) rfl rfl rfl (by decide) trivial rfl ?_
   rintro _ _ _ ⟨rfl, rfl, rfl⟩
   refine Lpu rfl rfl ?_; refine L.nil (QE.seq (C.seq (C.region ?_))); refine L.step (Ev.fieldAddr rfl rfl rfl rfl rfl rfl (Src.o 1 rfl) (Nat.zero_lt_succ _) rfl) rfl ?_; refine L.step (Ev.load rfl rfl rfl (Src.o 1 rfl) rfl) rfl ?_; refine Lpu rfl rfl ?_; refine L.nil (QE.seq (C.block ?_))
   obtain ⟨A0, hA0⟩ : ∃ x, x = A := ⟨_, rfl⟩
   obtain ⟨c0, hc0⟩ : ∃ x, x = c := ⟨_, rfl⟩
   refine C.loop (fun q : Nat × Option Addr × Nat => [(1, ptrOf A1 0), (23, .slice OA ops.length oc), (24, .int .i64 (ops.length : Int)), (25, .int .i64 (i : Int)), (6, .slice q.2.1 (sylQ (ops.take i) ++ syxQ (ops.getD i Pq.zero) q.1).length q.2.2), (9, .iface (kitQ (ops.getD i Pq.zero) 171 172 173 174 176) (kinQ (ops.getD i Pq.zero))), (32, .int .i64 (ops.getD i Pq.zero).ln), (33, .int .i64 (q.1 : Int))]) (fun q : Nat × Option Addr × Nat => [Rd (ops.getD i Pq.zero).A (U8 (ops.getD i Pq.zero).d), Rd A1 [.bool lf, .int .i64 inn, .int .i64 out, .slice OA ops.length oc], Rd OA (pqV ops), KidsR (pqH ops) (B8 (pqD ops))]) (fun q : Nat × Option Addr × Nat => [Own 130 3 q.2.1 (sylQ (ops.take i) ++ syxQ (ops.getD i Pq.zero) q.1).length q.2.2 (symsV (sylQ (ops.take i) ++ syxQ (ops.getD i Pq.zero) q.1))]) (fun q : Nat × Option Addr × Nat => (q.1 : Int) ≤ (ops.getD i Pq.zero).ln) (fun q : Nat × Option Addr × Nat => (ops.getD i Pq.zero).ln.toNat - q.1) (0, A, c) (by dsimp only; omega) (by exact Le.mk' (rs := [0, 1, 2, 3]) (hs := [0]) ⟨rfl, rfl, rfl, rfl, (by dsimp only; rw [show syxQ _ 0 = [] from rfl, List.append_nil]; rfl), rfl, rfl, rfl, trivial⟩ ⟨rfl, rfl, rfl, rfl, trivial⟩ ⟨(congrArg some (by dsimp only; rw [show syxQ _ 0 = [] from rfl, List.append_nil])), trivial⟩ (by decide)) ?_
   rintro ⟨j, A, c⟩ hj
   dsimp only at hj ⊢
   refine C.seq (C.region ?_); refine Lpu rfl rfl ?_; refine L.nil (QE.seq (C.seq ?_))
   refine C.condB 34 rfl (fun hc34 => ?_) (fun hc34 => ?_)
   ·
    replace hc34 := of_decide_eq_true hc34
    refine C.skip (QE.seq (C.seq (C.block (C.seq (C.region ?_))))); refine Lpu rfl rfl ?_; refine Lpu rfl rfl ?_; refine L.nil (QE.seq ?_)
    have hpre := sylQ_pre ops i j (by omega) (by omega)
    have htot := chkL_len ops out k3 k6
    have e1 : (sylQ (ops.take i) ++ syxQ (ops.getD i Pq.zero) (j + 1)) = (sylQ (ops.take i) ++ syxQ (ops.getD i Pq.zero) j) ++ [symQ (ops.getD i Pq.zero) j] := by rw [syxQ_succ, List.append_assoc]
    refine C.region ?_; refine Lpu rfl rfl ?_; refine Lpu rfl rfl ?_; refine Lpu rfl rfl ?_; refine L.callM (js := []) (js' := [0]) (symQ_i (ops.getD i Pq.zero) inn j hop.2.2 (by omega) (by omega) (by omega)) rfl rfl rfl rfl (by decide) (Hq [0] rfl) rfl ?_
    rintro _ _ _ ⟨rfl, rfl, rfl⟩
    refine L.lit1S (cs := Sy.cells (symQ (ops.getD i Pq.zero) j)) rfl rfl rfl rfl (Nat.zero_lt_succ _) rfl rfl rfl (fun A40 => ?_)
    refine L.append (j := 0) rfl rfl rfl rfl (by decide) rfl rfl rfl rfl (Src.o 1 rfl) rfl (symQ_one _ _) (by omega) (by show _ * 24 ≤ _; omega) rfl (fun A41 cc41 => ?_)
    refine Lpu rfl rfl ?_; refine L.nil ?_; refine QE.blkN ?_; refine QE.seq (C.region ?_); refine L.step (Ev.add rfl rfl (by omega) (by omega)) rfl ?_; refine Lpu rfl rfl ?_; refine L.nil ?_
    refine QE.round (i := (j, A, c)) ((j + 1, A41, cc41)) (by dsimp only; omega) (by dsimp only; omega) (by exact Le.mk' (rs := [0, 1, 2, 3]) (hs := [0]) ⟨rfl, rfl, rfl, rfl, (by dsimp only; rw [e1]; simp only [List.length_append]; rfl), rfl, rfl, rfl, trivial⟩ ⟨rfl, rfl, rfl, rfl, trivial⟩ ⟨(congrArg some (own_eq (by dsimp only; rw [e1]; simp only [List.length_append]; rfl) (by dsimp only; rw [e1]; simp only [symsV_app]; rfl))), trivial⟩ (by decide))
   ·
    replace hc34 := of_decide_eq_false hc34
    refine C.exit ?_; refine QE.tX ?_; refine QE.tX ?_; refine QE.blk ?_; refine QE.blkN ?_; refine QE.seq (C.region ?_); refine L.step (Ev.add rfl rfl (by omega) (by omega)) rfl ?_; refine Lpu rfl rfl ?_; refine L.nil ?_
    obtain rfl : j = (ops.getD i Pq.zero).ln.toNat := by omega
    have he := sylQ_snoc ops i (by omega)
    refine QE.round (i := (i, A0, c0)) ((i + 1, A, c)) (by dsimp only; omega) (by dsimp only; omega) (by exact Le.mk' (rs := [1, 2, 3]) (hs := [0]) ⟨rfl, rfl, rfl, (by dsimp only; rw [he]; rfl), rfl, trivial⟩ ⟨rfl, rfl, rfl, trivial⟩ ⟨(congrArg some (by dsimp only; rw [he])), trivial⟩ (by decide))
  ·
   replace hc26 := of_decide_eq_false hc26
   refine C.exit ?_; refine QE.tX ?_; refine QE.tX ?_; refine QE.blk ?_; refine QE.seq (C.seq (C.region ?_)); refine Lpu rfl rfl ?_; refine Lpu rfl rfl ?_; refine Lpu rfl rfl ?_; refine L.nil (QE.seq (C.ret ?_)); refine QE.ret (js := []) (hs := [0]) (vs := [_, _]) rfl ⟨rfl, rfl, trivial⟩ (by decide) ?_
   obtain rfl : i = ops.length := by omega
   have hs : sysQ inn out ops = sylQ ops := by unfold sysQ; rw [if_pos hc17]
   rw [hs, hc17]
   rw [List.take_length]
   exact ⟨A, c, rfl, rfl, rfl⟩

set_option maxHeartbeats 1000000 in
theorem runQ_c (B SA : Option Addr) (old : List UInt8) (l : List Sy) (bc sc : Nat) (hl : l.length ≤ 1000000) (hok : runOk old l) :
   Ctr X 81 [.slice B old.length bc, .slice SA l.length sc] [Rd B (U8 old), Rd SA (symsV l)] [] (fun v R' H' => ∃ (A : Option Addr) (c : Nat), v = .tuple #[.slice A (runB old l).length c, .int .i64 0] ∧ R' = [] ∧ H' = [Own 5 1 A (runB old l).length c (U8 (runB old l))]) := by
 refine Ctr.of (X := X) (fn := Tryz.f81) Tryz.func81 rfl (by kernel_rfl) rfl ?_
 intro β
 refine C.seq (C.region ?_); refine Lpu rfl rfl ?_; refine Lpu rfl rfl ?_; refine L.nil (QE.seq (C.seq (C.region ?_))); refine Lpu rfl rfl ?_; refine Lpu rfl rfl ?_
 refine L.make0 (m := l.length) rfl rfl rfl rfl rfl (by show 1 * _ ≤ _; omega) (by omega) rfl (fun A11 => ?_)
 refine Lpu rfl rfl ?_; refine L.nil (QE.seq (C.seq (C.seq (C.region ?_)))); refine Lpu rfl rfl ?_; refine Lpu rfl rfl ?_; refine Lpu rfl rfl ?_; refine L.nil (QE.seq (C.block ?_)); refine C.loop (fun q : Nat × Option Addr × Nat => [(0, .slice B old.length bc), (12, .slice SA l.length sc), (13, .int .i64 (l.length : Int)), (14, .int .i64 (q.1 : Int)), (6, .slice q.2.1 (runB old (l.take q.1)).length q.2.2)]) (fun q : Nat × Option Addr × Nat => [Rd B (U8 old), Rd SA (symsV l)]) (fun q : Nat × Option Addr × Nat => [Own 5 1 q.2.1 (runB old (l.take q.1)).length q.2.2 (U8 (runB old (l.take q.1)))]) (fun q : Nat × Option Addr × Nat => q.1 ≤ l.length) (fun q : Nat × Option Addr × Nat => l.length - q.1) (0, A11, l.length) (Nat.zero_le _) (by exact Le.mk' (rs := [0, 1]) (hs := [0]) ⟨rfl, rfl, rfl, rfl, rfl, trivial⟩ ⟨rfl, rfl, trivial⟩ ⟨rfl, trivial⟩ (by decide)) ?_
 rintro ⟨i, A, c⟩ hi
 dsimp only at hi ⊢
 have hrl : (runB old (l.take i)).length = i := by rw [runB_len, List.length_take]; omega
 refine C.seq (C.region ?_); refine Lpu rfl rfl ?_; refine L.nil (QE.seq (C.seq ?_))
 refine C.condB 15 rfl (fun hc15 => ?_) (fun hc15 => ?_)
 ·
  replace hc15 := of_decide_eq_true hc15
  refine C.skip (QE.seq (C.seq (C.block (C.seq (C.region ?_))))); refine L.step (Ev.idx (k := i) (m := i * 3) rfl rfl rfl rfl rfl rfl (by omega) (Src.r 1 rfl) (syms_pos (k := i) (by omega)) rfl) rfl ?_; refine L.step (Ev.loadA (vs := Sy.cells (l.getD i Sy.zero)) rfl rfl rfl (Src.r 1 rfl) (symsV_at l i (by omega)) rfl (by decide)) rfl ?_
  refine L.alloc rfl rfl rfl (fun A8 => ?_)
  refine L.storeA (j := 1) rfl rfl rfl rfl rfl (Nat.zero_lt_succ _) rfl rfl ?_; refine L.nil (QE.seq ?_); refine C.seqJ (fun z : UInt8 => [(0, .slice B old.length bc), (12, .slice SA l.length sc), (13, .int .i64 (l.length : Int)), (14, .int .i64 (i : Int)), (6, .slice A (runB old (l.take i)).length c), (8, ptrOf A8 0)]) (fun z : UInt8 => [Rd B (U8 old), Rd SA (symsV l)]) (fun z : UInt8 => [Own 5 1 A (runB old (l.take i)).length c (U8 (runB old (l.take i))), Own 130 3 A8 1 1 [.bool (l.getD i Sy.zero).old, .int .i64 (l.getD i Sy.zero).at_, .int .u8 (z.toNat : Int)]]) (fun z : UInt8 => z = symB old (l.getD i Sy.zero)) ?_ ?_
  ·
   refine C.seq (C.region ?_); refine L.step (Ev.fieldAddr rfl rfl rfl rfl rfl rfl (Src.o 1 rfl) (Nat.zero_lt_succ _) rfl) rfl ?_; refine L.step (Ev.load rfl rfl rfl (Src.o 1 rfl) rfl) rfl ?_; refine L.nil (QE.seq ?_)
   refine C.condB 19 rfl (fun hc19 => ?_) (fun hc19 => ?_)
   ·
    have hat := hok i (by omega) hc19
    refine C.seq (C.seq (C.region ?_)); refine L.step (Ev.fieldAddr rfl rfl rfl rfl rfl rfl (Src.o 1 rfl) (Nat.zero_lt_succ _) rfl) rfl ?_; refine L.step (Ev.load rfl rfl rfl (Src.o 1 rfl) rfl) rfl ?_; refine Lpu rfl rfl ?_; refine Lpu rfl rfl ?_
    refine L.bool 23 rfl (fun hg23 => ?_) (fun hg23 => ?_)
    ·
     replace hg23 := of_decide_eq_true hg23
     omega
    ·
     replace hg23 := of_decide_eq_false hg23
     refine L.yes rfl ?_; refine L.step (Ev.fieldAddr rfl rfl rfl rfl rfl rfl (Src.o 1 rfl) (Nat.zero_lt_succ _) rfl) rfl ?_; refine L.yes rfl ?_; refine L.step (Ev.load rfl rfl rfl (Src.o 1 rfl) rfl) rfl ?_; refine L.yes rfl ?_; refine Lpu rfl rfl ?_; refine L.yes rfl ?_; refine Lpu rfl rfl ?_; refine L.yes rfl ?_; refine Lpu rfl rfl ?_; refine Lpu rfl rfl ?_; refine L.nil (QE.seq ?_)
     refine C.condB 29 rfl (fun hc29 => ?_) (fun hc29 => ?_)
     ·
      replace hc29 := of_decide_eq_true hc29
      omega
     ·
      replace hc29 := of_decide_eq_false hc29
      refine C.skip (QE.seq ?_); refine C.regionM [Rd A8 [.bool (l.getD i Sy.zero).old, .int .i64 (l.getD i Sy.zero).at_, .int .u8 ((l.getD i Sy.zero).b.toNat : Int)], Rd B (U8 old)] ⟨Has.o 1 rfl, Has.r 0 rfl, trivial⟩ ?_; refine LM.q 0 rfl (by kernel_rfl) (Ev.fieldAddr rfl rfl rfl rfl rfl rfl (Src.r 0 rfl) (Nat.zero_lt_succ _) rfl) rfl ⟨Has.o 1 rfl, Has.r 0 rfl, trivial⟩ ?_; refine LM.q 1 rfl (by kernel_rfl) (Ev.load rfl rfl rfl (Src.r 0 rfl) rfl) rfl ⟨Has.o 1 rfl, Has.r 0 rfl, trivial⟩ ?_; refine LM.q 2 rfl (by kernel_rfl) (Ev.pure rfl) rfl ⟨Has.o 1 rfl, Has.r 0 rfl, trivial⟩ ?_; refine LM.f 3 rfl (by kernel_rfl) ⟨Has.o 1 rfl, Has.r 0 rfl, trivial⟩ ?_; refine L.step (Ev.fieldAddr rfl rfl rfl rfl rfl rfl (Src.o 1 rfl) (Nat.zero_lt_succ _) rfl) rfl ?_
      refine L.nil (QE.m (by kernel_rfl) ?_)
      refine LM.f 4 rfl (by kernel_rfl) ⟨Has.o 1 rfl, Has.r 0 rfl, trivial⟩ ?_; refine L.step (Ev.load rfl rfl rfl (Src.o 1 rfl) rfl) rfl ?_
      refine L.nil (QE.m (by kernel_rfl) ?_)
      refine LM.f 5 rfl (by kernel_rfl) ⟨Has.o 1 rfl, Has.r 0 rfl, trivial⟩ ?_; refine L.step (Ev.idx1 (k := (l.getD i Sy.zero).at_.toNat) rfl rfl rfl rfl rfl rfl (by omega) (by omega) (Src.r 0 rfl) (by rw [U8_len]; omega)) rfl ?_
      refine L.nil (QE.m (by kernel_rfl) ?_)
      refine LM.f 6 rfl (by kernel_rfl) ⟨Has.o 1 rfl, Has.r 0 rfl, trivial⟩ ?_; refine L.step (Ev.load rfl rfl rfl (Src.r 0 rfl) (U8_get (by omega))) rfl ?_
      refine L.nil (QE.m (by kernel_rfl) ?_)
      refine LM.cut [] (by kernel_rfl) ⟨Has.o 1 rfl, Has.r 0 rfl, trivial⟩ ?_; refine LM.f 7 rfl (by kernel_rfl) trivial ?_; refine L.step (Ev.add8 rfl rfl) rfl ?_
      refine L.nil (QE.m (by kernel_rfl) ?_)
      refine LM.f 8 rfl (by kernel_rfl) trivial ?_; refine L.step (Ev.fieldAddr rfl rfl rfl rfl rfl rfl (Src.o 1 rfl) (Nat.zero_lt_succ _) rfl) rfl ?_
      refine L.nil (QE.m (by kernel_rfl) ?_)
      refine LM.f 9 rfl (by kernel_rfl) trivial ?_
      first | refine L.store (j := 0) rfl rfl rfl rfl rfl rfl rfl rfl ?_ | refine L.store (j := 1) rfl rfl rfl rfl rfl rfl rfl rfl ?_ | refine L.store (j := 2) rfl rfl rfl rfl rfl rfl rfl rfl ?_ | refine L.store (j := 3) rfl rfl rfl rfl rfl rfl rfl rfl ?_
      refine L.nil (QE.m (by kernel_rfl) ?_)
      refine LM.nil (by kernel_rfl) trivial ?_
      refine QE.join (((l.getD i Sy.zero).b + old.getD (l.getD i Sy.zero).at_.toNat 0)) (by unfold symB; rw [if_pos hc19]) (by exact Le.mk' (rs := [0, 1]) (hs := [0, 1]) ⟨rfl, rfl, rfl, rfl, rfl, rfl, trivial⟩ ⟨rfl, rfl, trivial⟩ ⟨rfl, rfl, trivial⟩ (by decide))
   ·
    refine C.skip ?_
    refine QE.join ((l.getD i Sy.zero).b) (by unfold symB; rw [if_neg (by rw [hc19]; decide)]) (by exact Le.mk' (rs := [0, 1]) (hs := [0, 1]) ⟨rfl, rfl, rfl, rfl, rfl, rfl, trivial⟩ ⟨rfl, rfl, trivial⟩ ⟨rfl, rfl, trivial⟩ (by decide))
  ·
   intro z hz
   refine C.region ?_; refine Lpu rfl rfl ?_; refine L.step (Ev.fieldAddr rfl rfl rfl rfl rfl rfl (Src.o 1 rfl) (Nat.zero_lt_succ _) rfl) rfl ?_; refine L.step (Ev.load rfl rfl rfl (Src.o 1 rfl) rfl) rfl ?_
   refine L.lit rfl rfl rfl rfl rfl (by rfl) (by rfl) (by rfl) rfl rfl (fun A42 => ?_)
   refine L.append (j := 0) rfl rfl rfl rfl (by decide) rfl rfl rfl rfl (Src.o 2 rfl) rfl (allOne rfl) (by omega) (by show _ * 1 ≤ _; omega) rfl (fun A43 cc43 => ?_)
   refine Lpu rfl rfl ?_; refine L.nil ?_; refine QE.blkN ?_; refine QE.seq (C.region ?_); refine L.step (Ev.add rfl rfl (by omega) (by omega)) rfl ?_; refine Lpu rfl rfl ?_; refine L.nil ?_
   have he := runB_succ old l (i := i) (by omega)
   rw [← hz] at he
   have hel : (runB old (l.take (i + 1))).length = (runB old (l.take i)).length + 1 := by rw [he, List.length_append]; rfl
   refine QE.round (i := (i, A, c)) ((i + 1, A43, cc43)) (by dsimp only; omega) (by dsimp only; omega) (by exact Le.mk' (rs := [0, 1]) (hs := [0]) ⟨rfl, rfl, rfl, rfl, (by dsimp only; rw [hel]; rfl), trivial⟩ ⟨rfl, rfl, trivial⟩ ⟨(congrArg some (own_eq hel.symm (by dsimp only; rw [he, ← U8_app]; rfl))), trivial⟩ (by decide))
 ·
  replace hc15 := of_decide_eq_false hc15
  refine C.exit ?_; refine QE.tX ?_; refine QE.tX ?_; refine QE.blk ?_; refine QE.seq (C.seq (C.region ?_)); refine Lpu rfl rfl ?_; refine Lpu rfl rfl ?_; refine Lpu rfl rfl ?_; refine L.nil (QE.seq (C.ret ?_)); refine QE.ret (js := []) (hs := [0]) (vs := [_, _]) rfl ⟨rfl, rfl, trivial⟩ (by decide) ?_
  obtain rfl : i = l.length := by omega
  rw [List.take_length]
  exact ⟨A, c, rfl, rfl, rfl⟩

end Go.Proofs.YtbkmahjhhncfcaaGreat
