/-
  Flashes and layouts for plans, as plain data; what is lacking.
-/
import Derived.Test.YtpccfdnmnnnboaaGreatQTf
import Derived.Test.YtpccfdnmnnnboaaGreatQWPlI
section
namespace Go.Sl

def flC (b : List UInt8) (S n t : Nat) : List UInt8 := if t < n then ctF b t S else ctF [] t S
def flD (b : List UInt8) (S n k : Nat) : List (List UInt8) := (List.range k).map (flC b S n)
theorem flC_len (b : List UInt8) (S n t : Nat) : (flC b S n t).length = S := by unfold flC; split <;> exact ctF_len _ _ _
theorem flD_len (b : List UInt8) (S n k : Nat) : (flD b S n k).length = k := by simp [flD]
theorem flD_succ (b : List UInt8) (S n k : Nat) : flD b S n (k + 1) = flD b S n k ++ [flC b S n k] := by simp [flD, List.range_succ]
theorem flD_get {b : List UInt8} {S n k t : Nat} (h : t < k) : (flD b S n k).getD t [] = flC b S n t := map_range_getD h _
def upI (a c : Nat) : List Int := (List.range c).map fun (i : Nat) => ((a + i : Nat) : Int)
theorem upI_len (a c : Nat) : (upI a c).length = c := by simp [upI]
theorem upI_succ (a c : Nat) : upI a (c + 1) = upI a c ++ [((a + c : Nat) : Int)] := by simp [upI, List.range_succ]
section
variable {X : Cx} {β : Base} {Γ : Env} {R H : List Pr}
theorem Ev.quo8 {t ty : Nat} {x y : Operand} {a b : Nat} (hx : ev Γ x = some (.int .u8 (a : Int))) (hy : ev Γ y = some (.int .u8 (b : Int))) (h0 : a < 256) (h1 : 0 < b) : Ev X β Γ R H (.binOp .quo t x y ty) (.int .u8 ((a / b : Nat) : Int)) := by
 intro ρ w hρ hs o ho
 have hb : ¬ (b : Int) = 0 := by omega
 obtain ⟨q, hq⟩ : ∃ q, q = a / b := ⟨_, rfl⟩
 have h4 : q ≤ a := by rw [hq]; exact Nat.div_le_self _ _
 have h5 : IntKind.u8.wrap (q : Int) = (q : Int) := by rw [wrap_u8]; omega
 have h6 : (a : Int).tdiv (b : Int) = (q : Int) := by rw [hq]; rfl
 rw [← hq]
 simp only [execOp, ho, hρ _ _ hx, hρ _ _ hy, Sem.run_bind, run_guard, Result.andThen_ok, binOp, Op.intDiv, if_neg hb, h6, h5, Sem.run_pure, ne_eq, not_true_eq_false, if_false]
end
end Go.Sl
end
/-
  Flashes and layouts for plans.
-/
section
namespace Go.Proofs.YtpccfdnmnnnboaaGreat
open Go.Sl

set_option maxHeartbeats 2000000 in
theorem flash19_c (BA : Option Addr) (b : List UInt8) (bc S n k : Nat) (hbl : b.length ≤ 1000000) (hS1 : 1 ≤ S) (hS2 : S ≤ 4096) (hn2 : n ≤ 64) (hk2 : k ≤ 100) :
   Ctr X 33 [.slice BA b.length bc, .int .i64 (S : Int), .int .i64 (n : Int), .int .i64 (k : Int)] [Rd BA (U8 b)] [] (fun v R' H' => ∃ f : Fa, v = .agg (List.toArray [.int .i64 (S : Int), .slice f.D (n + k) f.cD, .slice f.W (n + k) f.cW, .int .i64 1000, .slice f.E (n + k) f.cE]) ∧ R' = [] ∧ H' = [Own 23 1 f.D (n + k) f.cD (rowsV f.hs (B8 (flD b S n (n + k)))), OwnKids 5 f.hs (B8 (flD b S n (n + k))), Own 3 1 f.W (n + k) f.cW (I64 (List.replicate (n + k) 0)), Own 4 1 f.E (n + k) f.cE (Bs (List.replicate (n + k) false))] ∧ f.hs.length = n + k) := by
 refine Ctr.of (X := X) (fn := Tryz.f33) Tryz.func33 rfl (by kernel_rfl) rfl ?_
 intro β
 refine C.seq (C.region ?_)
 refine L.alloc rfl rfl rfl (fun A8 => ?_)
 refine L.nil (QE.seq (C.seq (C.region ?_))); refine Lpu rfl rfl ?_; refine L.step (Ev.build rfl rfl rfl rfl rfl rfl rfl) rfl ?_
 refine L.alloc rfl rfl rfl (fun A9 => ?_)
 refine L.storeA (j := 1) rfl rfl rfl rfl rfl (Nat.zero_lt_succ _) rfl rfl ?_; refine L.nil (QE.seq (C.seq (C.seq ?_))); refine C.own0 23 1 ?_; refine C.own0 3 1 ?_; refine C.own0 4 1 ?_; refine C.region ?_; refine Lpu rfl rfl ?_; refine L.nil (QE.seq (C.block ?_)); refine C.kids0 5 ?_; refine C.loop (fun q : Nat × Fa => [(0, .slice BA b.length bc), (1, .int .i64 (S : Int)), (2, .int .i64 (n : Int)), (3, .int .i64 (k : Int)), (8, ptrOf A8 0), (9, ptrOf A9 0), (10, .int .i64 (q.1 : Int))]) (fun q : Nat × Fa => [Rd BA (U8 b)]) (fun q : Nat × Fa => [Own 49 5 A8 1 1 [.int .i64 0, .slice none 0 0, .slice none 0 0, .int .i64 0, .slice none 0 0], Own 49 5 A9 1 1 [.int .i64 (S : Int), .slice q.2.D q.1 q.2.cD, .slice q.2.W q.1 q.2.cW, .int .i64 1000, .slice q.2.E q.1 q.2.cE], Own 23 1 q.2.D q.1 q.2.cD (rowsV q.2.hs (B8 (flD b S n q.1))), OwnKids 5 q.2.hs (B8 (flD b S n q.1)), Own 3 1 q.2.W q.1 q.2.cW (I64 (List.replicate q.1 0)), Own 4 1 q.2.E q.1 q.2.cE (Bs (List.replicate q.1 false))]) (fun q : Nat × Fa => q.1 ≤ n + k ∧ q.2.hs.length = q.1) (fun q : Nat × Fa => n + k - q.1) (0, ⟨none, 0, [], none, 0, none, 0⟩) ⟨Nat.zero_le _, rfl⟩ (by exact Le.mk' (rs := [0]) (hs := [0, 1, 2, 5, 3, 4]) ⟨rfl, rfl, rfl, rfl, rfl, rfl, rfl, trivial⟩ ⟨rfl, trivial⟩ ⟨rfl, rfl, rfl, rfl, rfl, rfl, trivial⟩ (by decide)) ?_
 rintro ⟨t, f⟩ ⟨ht, hh⟩
 dsimp only at ht hh ⊢
 refine C.seq (C.seq (C.region ?_)); refine Lpu rfl rfl ?_; refine Lpu rfl rfl ?_; refine Lpu rfl rfl ?_; refine L.step (Ev.add rfl rfl (by omega) (by omega)) rfl ?_; refine Lpu rfl rfl ?_; refine L.nil (QE.seq ?_)
 refine C.condB 18 rfl (fun hc18 => ?_) (fun hc18 => ?_)
 ·
  replace hc18 := of_decide_eq_true hc18
  refine C.skip (QE.seq (C.seq (C.block (C.seq ?_))))
  have htS : t * S ≤ 200 * 4096 := Nat.mul_le_mul (by omega) hS2
  refine C.region ?_; refine Lpu rfl rfl ?_; refine Lpu rfl rfl ?_
  refine L.call (js := []) (js' := [0, 1, 2, 3, 4, 5]) (contentsR_c none [] 0 t S (by first | omega | exact Nat.zero_le _) (by omega) (by omega) hS1 hS2) rfl rfl rfl (by decide) ⟨Has.nil, trivial⟩ rfl ?_
  rintro _ _ _ ⟨A23, c23, rfl, rfl, rfl⟩
  refine L.norm (H' := [_, _, _, _, _, _, _]) [0, 1, 2, 3, 4, 5, 6] ⟨rfl, rfl, rfl, rfl, rfl, rfl, rfl, trivial⟩ (by decide) ?_; refine Lpu rfl rfl ?_; refine L.nil (QE.seq ?_); refine C.seqJ (fun z : Option Addr × Nat => [(0, .slice BA b.length bc), (1, .int .i64 (S : Int)), (2, .int .i64 (n : Int)), (3, .int .i64 (k : Int)), (8, ptrOf A8 0), (9, ptrOf A9 0), (10, .int .i64 (t : Int)), (11, .slice z.1 S z.2)]) (fun z : Option Addr × Nat => [Rd BA (U8 b)]) (fun z : Option Addr × Nat => [Own 49 5 A8 1 1 [.int .i64 0, .slice none 0 0, .slice none 0 0, .int .i64 0, .slice none 0 0], Own 49 5 A9 1 1 [.int .i64 (S : Int), .slice f.D t f.cD, .slice f.W t f.cW, .int .i64 1000, .slice f.E t f.cE], Own 23 1 f.D t f.cD (rowsV f.hs (B8 (flD b S n t))), OwnKids 5 f.hs (B8 (flD b S n t)), Own 3 1 f.W t f.cW (I64 (List.replicate t 0)), Own 4 1 f.E t f.cE (Bs (List.replicate t false)), Own 5 1 z.1 S z.2 (U8 (flC b S n t))]) (fun z : Option Addr × Nat => True) ?_ ?_
  ·
   refine C.seq (C.region ?_); refine Lpu rfl rfl ?_; refine Lpu rfl rfl ?_; refine Lpu rfl rfl ?_; refine L.nil (QE.seq ?_)
   refine C.condB 26 rfl (fun hc26 => ?_) (fun hc26 => ?_)
   ·
    replace hc26 := of_decide_eq_true hc26
    refine C.region ?_; refine Lpu rfl rfl ?_; refine Lpu rfl rfl ?_; refine Lpu rfl rfl ?_
    refine L.call (js := []) (js' := [0, 1, 2, 3, 4, 5, 6]) (contentsR_c BA b bc t S (by first | omega | exact Nat.zero_le _) (by omega) (by omega) hS1 hS2) rfl rfl rfl (by decide) (Hq [0] rfl) rfl ?_
    rintro _ _ _ ⟨A30, c30, rfl, rfl, rfl⟩
    refine L.norm (H' := [_, _, _, _, _, _, _, _]) [0, 1, 2, 3, 4, 5, 6, 7] ⟨rfl, rfl, rfl, rfl, rfl, rfl, rfl, rfl, trivial⟩ (by decide) ?_; refine Lpu rfl rfl ?_; refine L.nil ?_
    refine QE.join ((A30, c30)) (by exact trivial) (by exact Le.mk' (rs := [0]) (hs := [2, 3, 4, 5, 6, 7, 0]) ⟨rfl, rfl, rfl, rfl, rfl, rfl, rfl, rfl, trivial⟩ ⟨rfl, trivial⟩ ⟨rfl, rfl, rfl, rfl, rfl, rfl, (congrArg some (own_eq rfl (by unfold flC; rw [if_pos (by omega)]))), trivial⟩ (by decide))
   ·
    replace hc26 := of_decide_eq_false hc26
    refine C.skip ?_
    refine QE.join ((A23, c23)) (by exact trivial) (by exact Le.mk' (rs := [0]) (hs := [1, 2, 3, 4, 5, 6, 0]) ⟨rfl, rfl, rfl, rfl, rfl, rfl, rfl, rfl, trivial⟩ ⟨rfl, trivial⟩ ⟨rfl, rfl, rfl, rfl, rfl, rfl, (congrArg some (own_eq rfl (by unfold flC; rw [if_neg (by omega)]))), trivial⟩ (by decide))
  ·
   rintro ⟨YA, yc⟩ _
   dsimp only
   refine C.seq (C.region ?_); refine L.step (Ev.fieldAddr rfl rfl rfl rfl rfl rfl (Src.o 1 rfl) (Nat.zero_lt_succ _) rfl) rfl ?_; refine L.step (Ev.load rfl rfl rfl (Src.o 1 rfl) rfl) rfl ?_; refine Lpu rfl rfl ?_
   refine L.lit rfl rfl rfl rfl rfl (by rfl) (by rfl) (by rfl) rfl rfl (fun A34 => ?_)
   refine L.append (j := 2) rfl rfl rfl rfl (by decide) rfl rfl rfl rfl (Src.o 7 rfl) rfl (by intro v hv; simp at hv; subst hv; rfl) (by omega) (by show _ * 24 ≤ _; omega) rfl (fun A35 cc35 => ?_)
   refine L.step (Ev.fieldAddr rfl rfl rfl rfl rfl rfl (Src.o 1 rfl) (Nat.zero_lt_succ _) rfl) rfl ?_; refine L.store (j := 1) rfl rfl rfl rfl rfl rfl rfl rfl ?_; refine L.nil (QE.seq (C.seq (C.region ?_))); refine L.step (Ev.fieldAddr rfl rfl rfl rfl rfl rfl (Src.o 1 rfl) (Nat.zero_lt_succ _) rfl) rfl ?_; refine L.step (Ev.load rfl rfl rfl (Src.o 1 rfl) rfl) rfl ?_
   refine L.lit rfl rfl rfl rfl rfl (by rfl) (by rfl) (by rfl) rfl rfl (fun A39 => ?_)
   refine L.append (j := 4) rfl rfl rfl rfl (by decide) rfl rfl rfl rfl (Src.o 8 rfl) rfl (by intro v hv; simp at hv; subst hv; rfl) (by omega) (by show _ * 8 ≤ _; omega) rfl (fun A40 cc40 => ?_)
   refine L.step (Ev.fieldAddr rfl rfl rfl rfl rfl rfl (Src.o 1 rfl) (Nat.zero_lt_succ _) rfl) rfl ?_; refine L.store (j := 1) rfl rfl rfl rfl rfl rfl rfl rfl ?_; refine L.nil (QE.seq (C.region ?_)); refine L.step (Ev.fieldAddr rfl rfl rfl rfl rfl rfl (Src.o 1 rfl) (Nat.zero_lt_succ _) rfl) rfl ?_; refine L.step (Ev.load rfl rfl rfl (Src.o 1 rfl) rfl) rfl ?_
   refine L.lit rfl rfl rfl rfl rfl (by rfl) (by rfl) (by rfl) rfl rfl (fun A44 => ?_)
   refine L.append (j := 5) rfl rfl rfl rfl (by decide) rfl rfl rfl rfl (Src.o 9 rfl) rfl (by intro v hv; simp at hv; subst hv; rfl) (by omega) (by show _ * 1 ≤ _; omega) rfl (fun A45 cc45 => ?_)
   refine L.step (Ev.fieldAddr rfl rfl rfl rfl rfl rfl (Src.o 1 rfl) (Nat.zero_lt_succ _) rfl) rfl ?_; refine L.store (j := 1) rfl rfl rfl rfl rfl rfl rfl rfl ?_; refine L.nil ?_; refine QE.blkN ?_; refine QE.seq (C.region ?_); refine Lpu rfl rfl ?_; refine L.step (Ev.add rfl rfl (by omega) (by omega)) rfl ?_; refine Lpu rfl rfl ?_; refine L.nil ?_; refine QE.absorb 3 6 rfl rfl [0, 1, 2, 4, 5, 7, 8, 9] (by decide) ?_
   have hD := flD_succ b S n t
   have hcl := flC_len b S n t
   refine QE.round (i := (t, f)) ((t + 1, ⟨A35, cc35, f.hs ++ [(YA, yc)], A40, cc40, A45, cc45⟩)) (by exact ⟨by dsimp only; omega, by dsimp only; rw [List.length_append, hh]; rfl⟩) (by dsimp only; omega) (by exact Le.mk' (rs := [0]) (hs := [1, 2, 3, 0, 4, 5]) ⟨rfl, rfl, rfl, rfl, rfl, rfl, rfl, trivial⟩ ⟨rfl, trivial⟩ ⟨rfl, rfl, (congrArg some (own_eq rfl (by dsimp only; rw [hD, ← rows8_app (by rw [flD_len]; exact hh), hcl]))), (congrArg some (by dsimp only; rw [hD, ← B8_snoc])), (congrArg some (own_eq rfl (by dsimp only; rw [List.replicate_succ', ← I64_app]; rfl))), (congrArg some (own_eq rfl (by dsimp only; rw [List.replicate_succ', ← Bs_app]; rfl))), trivial⟩ (by decide))
 ·
  replace hc18 := of_decide_eq_false hc18
  refine C.exit ?_; refine QE.tX ?_; refine QE.tX ?_; refine QE.blk ?_; refine QE.seq (C.seq (C.region ?_)); refine L.step (Ev.loadA rfl rfl rfl (Src.o 1 rfl) rfl rfl (by decide)) rfl ?_; refine L.storeA (j := 0) rfl rfl rfl rfl rfl (Nat.zero_lt_succ _) rfl rfl ?_; refine L.nil (QE.seq (C.ret ?_)); refine QE.ret (js := []) (hs := [2, 3, 4, 5]) (vs := [_]) rfl ⟨⟨_, _, 0, _, rfl, rfl, Src.o 0 rfl, .inl ⟨rfl, by decide, _, rfl, rfl, rfl⟩⟩, trivial⟩ (by decide) ?_
  obtain rfl : t = n + k := by omega
  exact ⟨f, rfl, rfl, rfl, hh⟩

set_option maxHeartbeats 2000000 in
theorem layout19_c (n w0 w1 : Nat) (w2 : Int) (hn : n ≤ 1000) (hw0 : w0 ≤ 1000) (hw1 : w1 ≤ 1000) (hw2 : w2 ≤ 1000) :
   Ctr X 32 [.int .i64 (n : Int), .agg (List.toArray [.int .i64 (w0 : Int), .int .i64 (w1 : Int), .int .i64 w2])] [] [] (fun v R' H' => ∃ (G U L : Option Addr) (gc uc lc : Nat), v = .agg (List.toArray [.int .i64 (n : Int), .int .i64 (n : Int), .int .i64 ((n : Int) + 1), .int .i64 ((n : Int) + 2), .int .i64 ((n : Int) + 3), .slice G w0 gc, .slice U w1 uc, .slice L w2.toNat lc]) ∧ R' = [] ∧ H' = [Own 3 1 G w0 gc (I64 (upI (n + 4) w0)), Own 3 1 U w1 uc (I64 (upI (n + 4 + w0) w1)), Own 3 1 L w2.toNat lc (I64 (upI (n + 4 + w0 + w1) w2.toNat))]) := by
 refine Ctr.of (X := X) (fn := Tryz.f32) Tryz.func32 rfl (by kernel_rfl) rfl ?_
 intro β
 refine C.seq (C.region ?_)
 refine L.boxA rfl rfl (fun A3 => ?_)
 refine L.alloc rfl rfl rfl (fun A4 => ?_)
 refine L.nil (QE.seq (C.seq ?_)); refine C.freeze 0 rfl [1] (by decide) (by decide) ?_; refine C.norm (H' := [_]) [0] ⟨rfl, trivial⟩ (by decide) ?_; refine C.region ?_; refine Lpu rfl rfl ?_; refine L.step (Ev.cast (u := .int .i64 (((n + 4) : Nat) : Int)) (Ev.add rfl rfl (by omega) (by omega)) (congrArg (Value.int .i64) (by omega))) rfl ?_; refine Lpu rfl rfl ?_; refine L.nil (QE.seq (C.seq (C.region ?_))); refine Lpu rfl rfl ?_; refine Lpu rfl rfl ?_; refine Lpu rfl rfl ?_; refine L.step (Ev.add rfl rfl (by omega) (by omega)) rfl ?_; refine L.step (Ev.buildArr rfl rfl rfl rfl rfl rfl rfl) rfl ?_; refine Lpu rfl rfl ?_; refine L.step (Ev.add rfl rfl (by omega) (by omega)) rfl ?_; refine Lpu rfl rfl ?_; refine L.step (Ev.add rfl rfl (by omega) (by omega)) rfl ?_; refine L.step (Ev.buildArr rfl rfl rfl rfl rfl rfl rfl) rfl ?_; refine L.step (Ev.build rfl rfl rfl rfl rfl rfl rfl) rfl ?_
 refine L.alloc rfl rfl rfl (fun A6 => ?_)
 refine L.storeA (j := 1) rfl rfl rfl rfl rfl (Nat.zero_lt_succ _) rfl rfl ?_; refine L.nil (QE.seq (C.seq (C.seq ?_))); refine C.own0 3 1 ?_; refine C.own0 3 1 ?_; refine C.own0 3 1 ?_; refine C.region ?_; refine Lpu rfl rfl ?_; refine L.nil (QE.seq (C.block ?_)); refine C.loop (fun q : Nat × Option Addr × Nat => [(0, .int .i64 (n : Int)), (3, ptrOf A3 0), (4, ptrOf A4 0), (6, ptrOf A6 0), (7, .int .i64 (q.1 : Int)), (5, .int .i64 (((n + 4) + q.1 : Nat) : Int))]) (fun q : Nat × Option Addr × Nat => [Rd A3 [.int .i64 (w0 : Int), .int .i64 (w1 : Int), .int .i64 w2]]) (fun q : Nat × Option Addr × Nat => [Own 52 8 A4 1 1 [.int .i64 0, .int .i64 0, .int .i64 0, .int .i64 0, .int .i64 0, .slice none 0 0, .slice none 0 0, .slice none 0 0], Own 52 8 A6 1 1 [.int .i64 (n : Int), .int .i64 (n : Int), .int .i64 ((n : Int) + 1), .int .i64 ((n : Int) + 2), .int .i64 ((n : Int) + 3), .slice q.2.1 q.1 q.2.2, .slice none 0 0, .slice none 0 0], Own 3 1 q.2.1 q.1 q.2.2 (I64 (upI (n + 4) q.1)), Own 3 1 none 0 0 [], Own 3 1 none 0 0 []]) (fun q : Nat × Option Addr × Nat => q.1 ≤ w0) (fun q : Nat × Option Addr × Nat => w0 - q.1) (0, none, 0) (Nat.zero_le _) (by exact Le.mk' (rs := [0]) (hs := [0, 1, 2, 3, 4]) ⟨rfl, rfl, rfl, rfl, rfl, rfl, trivial⟩ ⟨rfl, trivial⟩ ⟨rfl, rfl, rfl, rfl, rfl, trivial⟩ (by decide)) ?_
 rintro ⟨i, GA, gc⟩ hi
 dsimp only at hi ⊢
 refine C.seq (C.seq (C.region ?_)); refine Lpu rfl rfl ?_; refine L.step (Ev.idxArr (k := 0) (m := 0) rfl rfl rfl rfl rfl rfl (by decide) (Src.r 0 rfl) (Nat.zero_lt_succ _) rfl) rfl ?_
 first | refine L.step (Ev.load rfl rfl rfl (Src.o 0 rfl) rfl) rfl ?_ | refine L.step (Ev.load rfl rfl rfl (Src.o 1 rfl) rfl) rfl ?_ | refine L.step (Ev.load rfl rfl rfl (Src.o 2 rfl) rfl) rfl ?_ | refine L.step (Ev.load rfl rfl rfl (Src.o 3 rfl) rfl) rfl ?_ | refine L.step (Ev.load rfl rfl rfl (Src.o 4 rfl) rfl) rfl ?_ | refine L.step (Ev.load rfl rfl rfl (Src.o 5 rfl) rfl) rfl ?_ | refine L.step (Ev.load rfl rfl rfl (Src.o 6 rfl) rfl) rfl ?_ | refine L.step (Ev.load rfl rfl rfl (Src.o 7 rfl) rfl) rfl ?_ | refine L.step (Ev.load rfl rfl rfl (Src.r 0 rfl) rfl) rfl ?_ | refine L.step (Ev.load rfl rfl rfl (Src.r 1 rfl) rfl) rfl ?_ | refine L.step (Ev.load rfl rfl rfl (Src.r 2 rfl) rfl) rfl ?_ | refine L.step (Ev.load rfl rfl rfl (Src.r 3 rfl) rfl) rfl ?_ | refine L.step (Ev.load rfl rfl rfl (Src.r 4 rfl) rfl) rfl ?_ | refine L.step (Ev.load rfl rfl rfl (Src.r 5 rfl) rfl) rfl ?_
 refine Lpu rfl rfl ?_; refine L.nil (QE.seq ?_)
 refine C.condB 26 rfl (fun hc26 => ?_) (fun hc26 => ?_)
 ·
  replace hc26 := of_decide_eq_true hc26
  refine C.skip (QE.seq (C.seq (C.block (C.seq (C.region ?_))))); refine L.step (Ev.fieldAddr rfl rfl rfl rfl rfl rfl (Src.o 1 rfl) (Nat.zero_lt_succ _) rfl) rfl ?_; refine L.step (Ev.load rfl rfl rfl (Src.o 1 rfl) rfl) rfl ?_; refine Lpu rfl rfl ?_
  refine L.lit rfl rfl rfl rfl rfl (by rfl) (by rfl) (by rfl) rfl rfl (fun A32 => ?_)
  refine L.append (j := 2) rfl rfl rfl rfl (by decide) rfl rfl rfl rfl (Src.o 5 rfl) rfl (by intro v hv; simp at hv; subst hv; rfl) (by omega) (by show _ * 8 ≤ _; omega) rfl (fun A33 cc33 => ?_)
  refine L.step (Ev.fieldAddr rfl rfl rfl rfl rfl rfl (Src.o 1 rfl) (Nat.zero_lt_succ _) rfl) rfl ?_; refine L.store (j := 1) rfl rfl rfl rfl rfl rfl rfl rfl ?_; refine L.nil (QE.seq (C.region ?_)); refine Lpu rfl rfl ?_; refine L.step (Ev.cast (u := .int .i64 (((n + 4 + (i + 1)) : Nat) : Int)) (Ev.add rfl rfl (by omega) (by omega)) (congrArg (Value.int .i64) (by omega))) rfl ?_; refine Lpu rfl rfl ?_; refine L.nil ?_; refine QE.blkN ?_; refine QE.seq (C.region ?_); refine Lpu rfl rfl ?_; refine L.step (Ev.add rfl rfl (by omega) (by omega)) rfl ?_; refine Lpu rfl rfl ?_; refine L.nil ?_
  have he := upI_succ (n + 4) i
  refine QE.round (i := (i, GA, gc)) ((i + 1, A33, cc33)) (by dsimp only; omega) (by dsimp only; omega) (by exact Le.mk' (rs := [0]) (hs := [0, 1, 2, 3, 4]) ⟨rfl, rfl, rfl, rfl, rfl, rfl, trivial⟩ ⟨rfl, trivial⟩ ⟨rfl, rfl, (congrArg some (own_eq rfl (by dsimp only; rw [he, ← I64_app]; rfl))), rfl, rfl, trivial⟩ (by decide))
 ·
  replace hc26 := of_decide_eq_false hc26
  refine C.exit ?_; refine QE.tX ?_; refine QE.tX ?_; refine QE.blk ?_; refine QE.seq (C.seq (C.seq (C.region ?_))); refine Lpu rfl rfl ?_; refine L.nil (QE.seq (C.block ?_))
  obtain rfl : w0 = i := by omega
  refine C.loop (fun q : Nat × Option Addr × Nat => [(0, .int .i64 (n : Int)), (3, ptrOf A3 0), (4, ptrOf A4 0), (6, ptrOf A6 0), (8, .int .i64 (q.1 : Int)), (5, .int .i64 (((n + 4 + w0) + q.1 : Nat) : Int))]) (fun q : Nat × Option Addr × Nat => [Rd A3 [.int .i64 (w0 : Int), .int .i64 (w1 : Int), .int .i64 w2]]) (fun q : Nat × Option Addr × Nat => [Own 52 8 A4 1 1 [.int .i64 0, .int .i64 0, .int .i64 0, .int .i64 0, .int .i64 0, .slice none 0 0, .slice none 0 0, .slice none 0 0], Own 52 8 A6 1 1 [.int .i64 (n : Int), .int .i64 (n : Int), .int .i64 ((n : Int) + 1), .int .i64 ((n : Int) + 2), .int .i64 ((n : Int) + 3), .slice GA w0 gc, .slice q.2.1 q.1 q.2.2, .slice none 0 0], Own 3 1 GA w0 gc (I64 (upI (n + 4) w0)), Own 3 1 q.2.1 q.1 q.2.2 (I64 (upI (n + 4 + w0) q.1)), Own 3 1 none 0 0 []]) (fun q : Nat × Option Addr × Nat => q.1 ≤ w1) (fun q : Nat × Option Addr × Nat => w1 - q.1) (0, none, 0) (Nat.zero_le _) (by exact Le.mk' (rs := [0]) (hs := [0, 1, 2, 3, 4]) ⟨rfl, rfl, rfl, rfl, rfl, rfl, trivial⟩ ⟨rfl, trivial⟩ ⟨rfl, rfl, rfl, rfl, rfl, trivial⟩ (by decide)) ?_
  rintro ⟨i, UA, uc⟩ hi
  dsimp only at hi ⊢
  refine C.seq (C.seq (C.region ?_)); refine Lpu rfl rfl ?_; refine L.step (Ev.idxArr (k := 1) (m := 1) rfl rfl rfl rfl rfl rfl (by decide) (Src.r 0 rfl) (Nat.zero_lt_succ _) rfl) rfl ?_
  first | refine L.step (Ev.load rfl rfl rfl (Src.o 0 rfl) rfl) rfl ?_ | refine L.step (Ev.load rfl rfl rfl (Src.o 1 rfl) rfl) rfl ?_ | refine L.step (Ev.load rfl rfl rfl (Src.o 2 rfl) rfl) rfl ?_ | refine L.step (Ev.load rfl rfl rfl (Src.o 3 rfl) rfl) rfl ?_ | refine L.step (Ev.load rfl rfl rfl (Src.o 4 rfl) rfl) rfl ?_ | refine L.step (Ev.load rfl rfl rfl (Src.o 5 rfl) rfl) rfl ?_ | refine L.step (Ev.load rfl rfl rfl (Src.o 6 rfl) rfl) rfl ?_ | refine L.step (Ev.load rfl rfl rfl (Src.o 7 rfl) rfl) rfl ?_ | refine L.step (Ev.load rfl rfl rfl (Src.r 0 rfl) rfl) rfl ?_ | refine L.step (Ev.load rfl rfl rfl (Src.r 1 rfl) rfl) rfl ?_ | refine L.step (Ev.load rfl rfl rfl (Src.r 2 rfl) rfl) rfl ?_ | refine L.step (Ev.load rfl rfl rfl (Src.r 3 rfl) rfl) rfl ?_ | refine L.step (Ev.load rfl rfl rfl (Src.r 4 rfl) rfl) rfl ?_ | refine L.step (Ev.load rfl rfl rfl (Src.r 5 rfl) rfl) rfl ?_
  refine Lpu rfl rfl ?_; refine L.nil (QE.seq ?_)
  refine C.condB 40 rfl (fun hc40 => ?_) (fun hc40 => ?_)
  ·
   replace hc40 := of_decide_eq_true hc40
   refine C.skip (QE.seq (C.seq (C.block (C.seq (C.region ?_))))); refine L.step (Ev.fieldAddr rfl rfl rfl rfl rfl rfl (Src.o 1 rfl) (Nat.zero_lt_succ _) rfl) rfl ?_; refine L.step (Ev.load rfl rfl rfl (Src.o 1 rfl) rfl) rfl ?_; refine Lpu rfl rfl ?_
   refine L.lit rfl rfl rfl rfl rfl (by rfl) (by rfl) (by rfl) rfl rfl (fun A46 => ?_)
   refine L.append (j := 3) rfl rfl rfl rfl (by decide) rfl rfl rfl rfl (Src.o 5 rfl) rfl (by intro v hv; simp at hv; subst hv; rfl) (by omega) (by show _ * 8 ≤ _; omega) rfl (fun A47 cc47 => ?_)
   refine L.step (Ev.fieldAddr rfl rfl rfl rfl rfl rfl (Src.o 1 rfl) (Nat.zero_lt_succ _) rfl) rfl ?_; refine L.store (j := 1) rfl rfl rfl rfl rfl rfl rfl rfl ?_; refine L.nil (QE.seq (C.region ?_)); refine Lpu rfl rfl ?_; refine L.step (Ev.cast (u := .int .i64 (((n + 4 + w0 + (i + 1)) : Nat) : Int)) (Ev.add rfl rfl (by omega) (by omega)) (congrArg (Value.int .i64) (by omega))) rfl ?_; refine Lpu rfl rfl ?_; refine L.nil ?_; refine QE.blkN ?_; refine QE.seq (C.region ?_); refine Lpu rfl rfl ?_; refine L.step (Ev.add rfl rfl (by omega) (by omega)) rfl ?_; refine Lpu rfl rfl ?_; refine L.nil ?_
   have he := upI_succ (n + 4 + w0) i
   refine QE.round (i := (i, UA, uc)) ((i + 1, A47, cc47)) (by dsimp only; omega) (by dsimp only; omega) (by exact Le.mk' (rs := [0]) (hs := [0, 1, 2, 3, 4]) ⟨rfl, rfl, rfl, rfl, rfl, rfl, trivial⟩ ⟨rfl, trivial⟩ ⟨rfl, rfl, rfl, (congrArg some (own_eq rfl (by dsimp only; rw [he, ← I64_app]; rfl))), rfl, trivial⟩ (by decide))
  ·
   replace hc40 := of_decide_eq_false hc40
   refine C.exit ?_; refine QE.tX ?_; refine QE.tX ?_; refine QE.blk ?_; refine QE.seq (C.seq (C.seq (C.region ?_))); refine Lpu rfl rfl ?_; refine L.nil (QE.seq (C.block ?_))
   obtain rfl : w1 = i := by omega
   refine C.loop (fun q : Nat × Option Addr × Nat => [(0, .int .i64 (n : Int)), (3, ptrOf A3 0), (4, ptrOf A4 0), (6, ptrOf A6 0), (9, .int .i64 (q.1 : Int)), (5, .int .i64 (((n + 4 + w0 + w1) + q.1 : Nat) : Int))]) (fun q : Nat × Option Addr × Nat => [Rd A3 [.int .i64 (w0 : Int), .int .i64 (w1 : Int), .int .i64 w2]]) (fun q : Nat × Option Addr × Nat => [Own 52 8 A4 1 1 [.int .i64 0, .int .i64 0, .int .i64 0, .int .i64 0, .int .i64 0, .slice none 0 0, .slice none 0 0, .slice none 0 0], Own 52 8 A6 1 1 [.int .i64 (n : Int), .int .i64 (n : Int), .int .i64 ((n : Int) + 1), .int .i64 ((n : Int) + 2), .int .i64 ((n : Int) + 3), .slice GA w0 gc, .slice UA w1 uc, .slice q.2.1 q.1 q.2.2], Own 3 1 GA w0 gc (I64 (upI (n + 4) w0)), Own 3 1 UA w1 uc (I64 (upI (n + 4 + w0) w1)), Own 3 1 q.2.1 q.1 q.2.2 (I64 (upI (n + 4 + w0 + w1) q.1))]) (fun q : Nat × Option Addr × Nat => q.1 ≤ w2.toNat) (fun q : Nat × Option Addr × Nat => w2.toNat - q.1) (0, none, 0) (Nat.zero_le _) (by exact Le.mk' (rs := [0]) (hs := [0, 1, 2, 3, 4]) ⟨rfl, rfl, rfl, rfl, rfl, rfl, trivial⟩ ⟨rfl, trivial⟩ ⟨rfl, rfl, rfl, rfl, rfl, trivial⟩ (by decide)) ?_
   rintro ⟨i, LA, lc⟩ hi
   dsimp only at hi ⊢
   refine C.seq (C.seq (C.region ?_)); refine Lpu rfl rfl ?_; refine L.step (Ev.idxArr (k := 2) (m := 2) rfl rfl rfl rfl rfl rfl (by decide) (Src.r 0 rfl) (Nat.zero_lt_succ _) rfl) rfl ?_
   first | refine L.step (Ev.load rfl rfl rfl (Src.o 0 rfl) rfl) rfl ?_ | refine L.step (Ev.load rfl rfl rfl (Src.o 1 rfl) rfl) rfl ?_ | refine L.step (Ev.load rfl rfl rfl (Src.o 2 rfl) rfl) rfl ?_ | refine L.step (Ev.load rfl rfl rfl (Src.o 3 rfl) rfl) rfl ?_ | refine L.step (Ev.load rfl rfl rfl (Src.o 4 rfl) rfl) rfl ?_ | refine L.step (Ev.load rfl rfl rfl (Src.o 5 rfl) rfl) rfl ?_ | refine L.step (Ev.load rfl rfl rfl (Src.o 6 rfl) rfl) rfl ?_ | refine L.step (Ev.load rfl rfl rfl (Src.o 7 rfl) rfl) rfl ?_ | refine L.step (Ev.load rfl rfl rfl (Src.r 0 rfl) rfl) rfl ?_ | refine L.step (Ev.load rfl rfl rfl (Src.r 1 rfl) rfl) rfl ?_ | refine L.step (Ev.load rfl rfl rfl (Src.r 2 rfl) rfl) rfl ?_ | refine L.step (Ev.load rfl rfl rfl (Src.r 3 rfl) rfl) rfl ?_ | refine L.step (Ev.load rfl rfl rfl (Src.r 4 rfl) rfl) rfl ?_ | refine L.step (Ev.load rfl rfl rfl (Src.r 5 rfl) rfl) rfl ?_
   refine Lpu rfl rfl ?_; refine L.nil (QE.seq ?_)
   refine C.condB 54 rfl (fun hc54 => ?_) (fun hc54 => ?_)
   ·
    replace hc54 := of_decide_eq_true hc54
    refine C.skip (QE.seq (C.seq (C.block (C.seq (C.region ?_))))); refine L.step (Ev.fieldAddr rfl rfl rfl rfl rfl rfl (Src.o 1 rfl) (Nat.zero_lt_succ _) rfl) rfl ?_; refine L.step (Ev.load rfl rfl rfl (Src.o 1 rfl) rfl) rfl ?_; refine Lpu rfl rfl ?_
    refine L.lit rfl rfl rfl rfl rfl (by rfl) (by rfl) (by rfl) rfl rfl (fun A60 => ?_)
    refine L.append (j := 4) rfl rfl rfl rfl (by decide) rfl rfl rfl rfl (Src.o 5 rfl) rfl (by intro v hv; simp at hv; subst hv; rfl) (by omega) (by show _ * 8 ≤ _; omega) rfl (fun A61 cc61 => ?_)
    refine L.step (Ev.fieldAddr rfl rfl rfl rfl rfl rfl (Src.o 1 rfl) (Nat.zero_lt_succ _) rfl) rfl ?_; refine L.store (j := 1) rfl rfl rfl rfl rfl rfl rfl rfl ?_; refine L.nil (QE.seq (C.region ?_)); refine Lpu rfl rfl ?_; refine L.step (Ev.cast (u := .int .i64 (((n + 4 + w0 + w1 + (i + 1)) : Nat) : Int)) (Ev.add rfl rfl (by omega) (by omega)) (congrArg (Value.int .i64) (by omega))) rfl ?_; refine Lpu rfl rfl ?_; refine L.nil ?_; refine QE.blkN ?_; refine QE.seq (C.region ?_); refine Lpu rfl rfl ?_; refine L.step (Ev.add rfl rfl (by omega) (by omega)) rfl ?_; refine Lpu rfl rfl ?_; refine L.nil ?_
    have he := upI_succ (n + 4 + w0 + w1) i
    refine QE.round (i := (i, LA, lc)) ((i + 1, A61, cc61)) (by dsimp only; omega) (by dsimp only; omega) (by exact Le.mk' (rs := [0]) (hs := [0, 1, 2, 3, 4]) ⟨rfl, rfl, rfl, rfl, rfl, rfl, trivial⟩ ⟨rfl, trivial⟩ ⟨rfl, rfl, rfl, rfl, (congrArg some (own_eq rfl (by dsimp only; rw [he, ← I64_app]; rfl))), trivial⟩ (by decide))
   ·
    replace hc54 := of_decide_eq_false hc54
    refine C.exit ?_; refine QE.tX ?_; refine QE.tX ?_; refine QE.blk ?_; refine QE.seq (C.seq (C.region ?_)); refine L.step (Ev.loadA rfl rfl rfl (Src.o 1 rfl) rfl rfl (by decide)) rfl ?_; refine L.storeA (j := 0) rfl rfl rfl rfl rfl (Nat.zero_lt_succ _) rfl rfl ?_; refine L.nil (QE.seq (C.ret ?_)); refine QE.ret (js := []) (hs := [2, 3, 4]) (vs := [_]) rfl ⟨⟨_, _, 0, _, rfl, rfl, Src.o 0 rfl, .inl ⟨rfl, by decide, _, rfl, rfl, rfl⟩⟩, trivial⟩ (by decide) ?_
    obtain rfl : i = w2.toNat := by omega
    exact ⟨GA, UA, LA, gc, uc, lc, rfl, rfl, rfl⟩

end Go.Proofs.YtpccfdnmnnnboaaGreat
end
