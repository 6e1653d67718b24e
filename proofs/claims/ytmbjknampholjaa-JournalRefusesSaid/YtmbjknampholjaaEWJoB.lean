/-
  The contracts of the decoder: take, decode, generation, state, blank.
-/
import Derived.Test.YtmbjknampholjaaEWJoA
import Derived.Test.YtmbjknampholjaaEPs
namespace Go.Proofs.Ytmbjknampholjaa
open Go.Sl

def pwJ : Value := .iface 147 (.agg #[])

theorem takeJ_c (D A : Option Addr) (l : List UInt8) (c w : Nat) (hc : l.length ≤ c) (hl : 2 * w ≤ l.length) (hw : w ≤ 4) :
   CtrE X 85 [ptrOf D 0, .int .i64 (w : Int)] [Rd A (U8 l)] [Own 149 1 D 1 1 [.slice A l.length c]] (EndsBy [{ v := pwJ, recovered := false }] (fun v R' H' => codeTo l w = true ∧ ∃ (A' : Option Addr) (c' : Nat), (l.drop (2 * (w))).length ≤ c' ∧ v = .int .i64 (valB (evenB l w) : Int) ∧ R' = [Rd A' (U8 (l.drop (2 * (w))))] ∧ H' = [Own 149 1 D 1 1 [.slice A' (l.drop (2 * (w))).length c']]) (fun R' H' => codeTo l w = false ∧ ∃ u : Value, R' = [] ∧ H' = [Own 149 1 D 1 1 [u]])) := by
 refine CtrE.of (X := X) (fn := Try.f85) Try.func85 rfl (by kernel_rfl) rfl ?_
 intro β
 refine C.seq (C.region ?_); refine Lpu rfl rfl ?_; refine L.nil (QE.seq (C.seq (C.region ?_))); refine Lpu rfl rfl ?_; refine L.nil (QE.seq (C.seq (C.seq (C.region ?_)))); refine Lpu rfl rfl ?_; refine Lpu rfl rfl ?_; refine L.nil (QE.seq (C.block ?_)); refine C.loop (fun q : Nat × Option Addr × Nat => [(0, ptrOf D 0), (5, .int .i64 (valB (evenB l q.1) : Int)), (6, .int .i64 (w : Int)), (7, .int .i64 (q.1 : Int))]) (fun q : Nat × Option Addr × Nat => [Rd q.2.1 (U8 (l.drop (2 * (q.1))))]) (fun q : Nat × Option Addr × Nat => [Own 149 1 D 1 1 [.slice q.2.1 (l.drop (2 * (q.1))).length q.2.2]]) (fun q : Nat × Option Addr × Nat => q.1 ≤ w ∧ codeTo l q.1 = true ∧ (l.drop (2 * (q.1))).length ≤ q.2.2) (fun q : Nat × Option Addr × Nat => w - q.1) (0, A, c) ⟨Nat.zero_le _, rfl, hc⟩ (by exact Le.mk' (rs := [0]) (hs := [0]) ⟨rfl, rfl, rfl, rfl, trivial⟩ ⟨rfl, trivial⟩ ⟨rfl, trivial⟩ (by decide)) ?_
 rintro ⟨k, A, c⟩ ⟨hkw, hk, hcc⟩
 dsimp only at hkw hk hcc ⊢
 refine C.seq (C.region ?_); refine Lpu rfl rfl ?_; refine L.nil (QE.seq (C.seq ?_))
 refine C.condB 8 rfl (fun hc8 => ?_) (fun hc8 => ?_)
 ·
  replace hc8 := of_decide_eq_true hc8
  have hv := valB_lt (evenB l k)
  rw [evenB_len] at hv
  have hp : (256 ^ k : Nat) ≤ 16777216 := Nat.le_trans (Nat.pow_le_pow_right (by decide) (show k ≤ 3 by omega)) (by decide)
  refine C.skip (QE.seq (C.seq (C.block (C.seq (C.seq ?_))))); refine C.regionQ (by kernel_rfl) ?_; refine LQ.step (Ev.pure rfl) rfl ?_; refine LQ.step (Ev.nilCheck rfl (Src.o 0 rfl) (Nat.zero_lt_succ _)) rfl ?_; refine LQ.step (Ev.fieldAddr rfl rfl rfl rfl rfl rfl (Src.o 0 rfl) (Nat.zero_lt_succ _) rfl) rfl ?_; refine LQ.step (Ev.load rfl rfl rfl (Src.o 0 rfl) rfl) rfl ?_; refine LQ.step (Ev.idx1 (k := 0) rfl rfl rfl rfl rfl rfl rfl (by rw [List.length_drop]; omega) (Src.r 0 rfl) (by rw [U8_len, List.length_drop]; omega)) rfl ?_; refine LQ.step (Ev.load rfl rfl rfl (Src.r 0 rfl) (U8_get (by rw [List.length_drop]; omega))) rfl ?_; refine LQ.step (Ev.pure rfl) rfl ?_; refine LQ.step (Ev.nilCheck rfl (Src.o 0 rfl) (Nat.zero_lt_succ _)) rfl ?_; refine LQ.step (Ev.fieldAddr rfl rfl rfl rfl rfl rfl (Src.o 0 rfl) (Nat.zero_lt_succ _) rfl) rfl ?_; refine LQ.step (Ev.load rfl rfl rfl (Src.o 0 rfl) rfl) rfl ?_; refine LQ.step (Ev.idx1 (k := 1) rfl rfl rfl rfl rfl rfl rfl (by rw [List.length_drop]; omega) (Src.r 0 rfl) (by rw [U8_len, List.length_drop]; omega)) rfl ?_; refine LQ.step (Ev.load rfl rfl rfl (Src.r 0 rfl) (U8_get (by rw [List.length_drop]; omega))) rfl ?_; refine LQ.step (Ev.com8 rfl) rfl ?_; refine LQ.step (Ev.pure rfl) rfl ?_; refine LQ.nil ?_; refine QE.seq ?_
  refine C.condB 22 rfl (fun hc22 => ?_) (fun hc22 => ?_)
  ·
   replace hc22 := b_ne hc22
   have hno : codeTo l w = false := codeTo_no (k := k) (by omega) (by
     unfold pairOk
     rw [beq_eq_false_iff_ne]
     intro h
     refine hc22 (u8_eq.2 ?_)
     rw [getD_drop, getD_drop]
     exact h)
   refine C.region ?_; refine L.step (Ev.build rfl rfl rfl rfl rfl rfl rfl) rfl ?_; refine Lpu rfl rfl ?_; refine L.panic rfl ?_; refine QE.tP (QE.bP (QE.tP (QE.tP (QE.bP (QE.tP ?_)))))
   refine QE.panE (js := []) (hs := [0]) (by decide) ⟨rfl, ?_⟩
   exact ⟨hno, _, rfl, rfl⟩
  ·
   replace hc22 := b_eq hc22
   have hk1 : codeTo l (k + 1) = true := by
     rw [codeTo_succ, hk, Bool.true_and]
     unfold pairOk
     have h := u8_eq.1 hc22
     rw [getD_drop, getD_drop] at h
     rw [beq_iff_eq]
     exact h
   have hv1 : valB (evenB l (k + 1)) = valB (evenB l k) * 256 + (l.getD (2 * k) 0).toNat := by rw [evenB_succ, valB_snoc, Nat.mul_comm]
   refine C.skip (QE.seq (C.seq (C.region ?_))); refine Lpu rfl rfl ?_; refine L.step (Ev.shlI (k := 8) rfl (by rfl) (by decide) (by omega)) rfl ?_; refine Lpu rfl rfl ?_; refine L.step (Ev.nilCheck rfl (Src.o 0 rfl) (Nat.zero_lt_succ _)) rfl ?_; refine L.step (Ev.fieldAddr rfl rfl rfl rfl rfl rfl (Src.o 0 rfl) (Nat.zero_lt_succ _) rfl) rfl ?_; refine L.step (Ev.load rfl rfl rfl (Src.o 0 rfl) rfl) rfl ?_; refine L.step (Ev.idx1 (k := 0) rfl rfl rfl rfl rfl rfl rfl (by rw [List.length_drop]; omega) (Src.r 0 rfl) (by rw [U8_len, List.length_drop]; omega)) rfl ?_; refine L.step (Ev.load rfl rfl rfl (Src.r 0 rfl) (U8_get (by rw [List.length_drop]; omega))) rfl ?_
   first | refine L.step (Ev.byteInt rfl rfl rfl rfl) rfl ?_ | refine L.step (Ev.toInt rfl rfl rfl rfl (by omega) (by omega)) rfl ?_
   refine L.step (Ev.shrOr rfl rfl (by omega) (UInt8.toNat_lt _)) rfl ?_; refine Lpu rfl rfl ?_; refine L.nil (QE.seq (C.region ?_)); refine Lpu rfl rfl ?_; refine Lpu rfl rfl ?_; refine L.step (Ev.nilCheck rfl (Src.o 0 rfl) (Nat.zero_lt_succ _)) rfl ?_; refine L.step (Ev.fieldAddr rfl rfl rfl rfl rfl rfl (Src.o 0 rfl) (Nat.zero_lt_succ _) rfl) rfl ?_; refine L.step (Ev.load rfl rfl rfl (Src.o 0 rfl) rfl) rfl ?_; refine L.step (Ev.sliceL (l := 2) rfl rfl rfl rfl rfl rfl (by rw [List.length_drop]; omega)) rfl ?_; refine L.step (Ev.nilCheck rfl (Src.o 0 rfl) (Nat.zero_lt_succ _)) rfl ?_; refine L.step (Ev.fieldAddr rfl rfl rfl rfl rfl rfl (Src.o 0 rfl) (Nat.zero_lt_succ _) rfl) rfl ?_; refine L.store (j := 0) rfl rfl rfl rfl rfl rfl rfl rfl ?_; refine L.nil ?_; refine QE.blkN ?_; refine QE.seq (C.region ?_); refine L.step (Ev.add rfl rfl (by omega) (by omega)) rfl ?_; refine Lpu rfl rfl ?_; refine L.nil ?_; refine QE.more (r := Rd (subA A c 2 1) (U8 (l.drop (2 * (k + 1))))) (((Has.dropU (Has.r 0 rfl) c 2 hcc).cast (by rw [List.drop_drop, Nat.mul_add]))) ?_
   refine QE.round (i := (k, A, c)) ((k + 1, subA A c 2 1, c - 2)) (by exact ⟨by dsimp only; omega, hk1, by dsimp only; rw [List.length_drop] at hcc ⊢; omega⟩) (by dsimp only; omega) (by exact Le.mk' (rs := [0]) (hs := [0]) ⟨rfl, (by exact congrArg some (congrArg (Value.int .i64) (by dsimp only; rw [hv1, getD_drop]; rfl))), rfl, rfl, trivial⟩ ⟨rfl, trivial⟩ ⟨(by exact congrArg some (own_eq rfl (by dsimp only; rw [show (l.drop (2 * (k + 1))).length = (l.drop (2 * k)).length - 2 from by rw [List.length_drop, List.length_drop]; omega]; rfl))), trivial⟩ (by decide))
 ·
  replace hc8 := of_decide_eq_false hc8
  refine C.exit ?_; refine QE.tX ?_; refine QE.tX ?_; refine QE.blk ?_; refine QE.seq (C.seq (C.region ?_)); refine Lpu rfl rfl ?_; refine Lpu rfl rfl ?_; refine L.nil (QE.seq (C.ret ?_))
  obtain rfl : k = w := by omega
  refine QE.retE (js := [0]) (hs := [0]) (vs := [_]) rfl ⟨rfl, trivial⟩ (by decide) ?_
  exact ⟨hk, A, c, hcc, rfl, rfl, rfl⟩

theorem gen1_c (D N A : Option Addr) (l : List UInt8) (c : Nat) (n0 : Int) (hc : l.length ≤ c) (hl : 8 ≤ l.length) :
   CtrE X 84 [ptrOf D 0, ptrOf N 0] [Rd A (U8 l)] [Own 149 1 D 1 1 [.slice A l.length c], Own 3 1 N 1 1 [.int .i64 n0]] (EndsBy [{ v := pwJ, recovered := false }] (fun v R' H' => ∃ (u : Value) (p : Pr), (codeTo l 4 = true ∧ p = Own 3 1 N 1 1 [.int .i64 (valB (evenB l 4) : Int)]) ∧ v = .tuple #[] ∧ R' = [] ∧ H' = [Own 149 1 D 1 1 [u], p]) (fun R' H' => ∃ (u : Value) (p : Pr), (codeTo l 4 = false ∧ p = Own 3 1 N 1 1 [.int .i64 n0]) ∧ R' = [] ∧ H' = [Own 149 1 D 1 1 [u], p])) := by
 refine CtrE.of (X := X) (fn := Try.f84) Try.func84 rfl (by kernel_rfl) rfl ?_
 intro β
 refine C.region ?_; refine Lpu rfl rfl ?_; refine L.callE (js := [0]) (js' := [1]) (takeJ_c D A l c 4 hc (by omega) (by decide)) rfl rfl rfl (by decide) (Hq [0] rfl) rfl ?_ ?_
 rotate_left
 ·
  rintro _ _ ⟨hk, u, rfl, rfl⟩
  refine QE.panE (js := []) (hs := [0, 1]) (by decide) ⟨rfl, ?_⟩
  exact ⟨u, _, ⟨hk, rfl⟩, rfl, rfl⟩
 rintro _ _ _ ⟨hk, A', c', hcc, rfl, rfl, rfl⟩
 refine L.store (j := 1) rfl rfl rfl rfl rfl rfl rfl rfl ?_; refine L.nil ?_; refine QE.retNE ?_; refine QE.retE (js := []) (hs := [0, 1]) (vs := []) rfl trivial (by decide) ?_
 exact ⟨_, _, ⟨hk, rfl⟩, rfl, rfl, rfl⟩

theorem decode_rest (β : Base) (D : Option Addr) (Q : Exit → Act → World → Prop) (h : QE β 15 [] Q .normal [] [] [Own 4 1 D 1 1 [.bool false]]) :
   C X β 15 [] Q (match Try.f90.body with | some (.seq _ b) => b | _ => .skip) [(1, pwJ), (4, pwJ), (0, ptrOf D 0)] [] [Own 4 1 D 1 1 [.bool false]] := by
 refine C.seq (C.region ?_); refine Lpu rfl rfl ?_; refine L.step (Ev.neNil rfl rfl rfl) rfl ?_; refine L.nil (QE.seq ?_)
 refine C.cond rfl (fun _ => ?_) (fun h => by cases h)
 refine C.seq (C.seq (C.region ?_)); refine Lpu rfl rfl ?_; refine L.step (Ev.isT rfl rfl rfl) rfl ?_; refine Lpu rfl rfl ?_; refine Lpu rfl rfl ?_; refine Lpu rfl rfl ?_
 refine L.alloc (cs := []) rfl rfl rfl (fun A2 => ?_)
 refine L.store0 (j := 1) (m := 0) rfl rfl rfl rfl rfl ?_; refine Lpu rfl rfl ?_; refine L.nil (QE.seq (C.seq (C.region ?_))); refine Lpu rfl rfl ?_; refine Lpu rfl rfl ?_; refine L.nil (QE.seq ?_)
 refine C.cond rfl (fun h => by cases h) (fun _ => ?_)
 refine C.skip (QE.seq (C.region ?_)); refine L.store (j := 0) rfl rfl rfl rfl rfl rfl rfl rfl ?_; refine L.nil ?_
 exact QE.le (Γ' := []) (R' := []) (H' := [Own 4 1 D 1 1 [.bool false]]) (Le.mk' (rs := []) (hs := [0]) trivial trivial ⟨rfl, trivial⟩ (by decide)) h
theorem frJ (v p : Value) : Fr 15 [] { tmps := #[p] ++ ((Array.replicate 14 undef).setIfInBounds 3 v).setIfInBounds 0 v, defers := [] } [(1, v), (4, v), (0, p)] :=
 Fr.of3 (by kernel_rfl) (by kernel_rfl) (by kernel_rfl) (by kernel_rfl)
theorem satJ0 (w : World) : Sat ⟨w, fun _ => False, fun _ => False⟩ w [] [] := ⟨⟨rfl, rfl, rfl, Nat.le_refl _, fun _ _ _ => rfl⟩, by simp, by simp, by simp, by simp, by simp, by simp⟩
theorem idle_rest (β : Base) (p : Value) (Q : Exit → Act → World → Prop) (h : ∀ Γ, QE β 15 [] Q .normal Γ [] []) :
   C X β 15 [] Q (match Try.f90.body with | some (.seq _ b) => b | _ => .skip) [(1, .nilIface), (4, .nilIface), (0, p)] [] [] := by
 refine C.seq (C.region ?_); refine Lpu rfl rfl ?_; refine L.step (Ev.neNil0 rfl rfl rfl) rfl ?_; refine L.nil (QE.seq ?_)
 refine C.cond rfl (fun h => by cases h) (fun _ => ?_)
 refine C.skip ?_
 exact h _
theorem own_same {D : Option Addr} {w w' : World} (h : (Own 4 1 D 1 1 [.bool false]).p w) (h' : (Own 4 1 D 1 1 [.bool false]).p w') (k : Nat) (hk : (Own 4 1 D 1 1 [.bool false]).fp k) : w'.heap[k]? = w.heap[k]? := by
 obtain ⟨g, cur, hA, hg, _, _, hs, ht⟩ := Own.form h (by decide)
 obtain ⟨g', cur', hA', hg', _, _, hs', ht'⟩ := Own.form h' (by decide)
 obtain ⟨a, ha, hak⟩ := hk
 rw [hA] at hA' ha
 injection hA' with hA'
 injection hA' with hA'
 injection ha with ha
 subst ha hA'
 have e : ∀ c : Array Value, c.size = 1 * 1 → c.toList.take (1 * 1) = [.bool false] → c = #[.bool false] := by
   intro c h1 h2
   rw [List.take_of_length_le (by simpa using Nat.le_of_eq h1)] at h2
   apply Array.ext'
   exact h2
 rw [← hak]
 show w'.heap[g]? = w.heap[g]?
 rw [hg, hg', e cur hs ht, e cur' hs' ht']
theorem satJ (w : World) (D : Option Addr) (h : (Own 4 1 D 1 1 [.bool false]).p w) : Sat ⟨w, fun k => (Own 4 1 D 1 1 [.bool false]).fp k, fun _ => False⟩ w [] [Own 4 1 D 1 1 [.bool false]] := by
 have hlt : ∀ k, (Own 4 1 D 1 1 [.bool false]).fp k → k < w.heap.size := by
   rintro k ⟨a, ha, hk⟩
   obtain ⟨g, cur, hA, hg, _⟩ := Own.form h (by decide)
   rw [hA] at ha
   injection ha with ha
   subst ha
   have := (Array.getElem?_eq_some_iff.1 hg).1
   exact hk ▸ this
 refine ⟨⟨rfl, rfl, rfl, Nat.le_refl _, fun _ _ _ => rfl⟩, by simp, by simp, fun i c hc => ?_, fun i c hc k hk => ?_, fun i j c d hc hd hne k _ _ => ?_, by simp⟩
 · match i, hc with
   | 0, hc => injection hc with hc; subst hc; exact h
   | i + 1, hc => cases hc
 · match i, hc with
   | 0, hc => injection hc with hc; subst hc; exact ⟨hlt k hk, .inr hk⟩
   | i + 1, hc => cases hc
 · match i, j, hc, hd with
   | 0, 0, _, _ => exact hne rfl
   | 0, j + 1, _, hd => cases hd
   | i + 1, _, hc, _ => cases hc
theorem recJ_ok : RecC X.P 90 4 pwJ := by
 refine ⟨fun p w => ?_, fun p w => ?_, fun D w hD => ?_⟩
 · have hf : X.P.funcs[90]? = some Try.f90 := Try.func90
   have hb : Try.f90.body.isNone = false := rfl
   have hname : (Try.f90.name == "runtime.NumGoroutine") = false := rfl
   simp only [beq_eq_false_iff_ne] at hname
   simp [invoke, callFunc, run_program, hf, hname]
   intro h
   rw [h] at hb
   cases hb
 · refine callsD_of_wpS (P := X.P) Try.func90 rfl fun c₀ cs hu => ?_
   apply wpS_seq
   apply wpS_region
   simp [wpOpsS, go_sem, recoverD, hu, Exit.thenS]
   refine wpS_of_wp (idle_rest _ p _ (fun Γ a' w' hf' hs' => ?_) _ w (frJ .nilIface p) (satJ0 w))
   have hst : Stp w w' (fun _ => False) := ⟨hs'.ext.os, hs'.ext.tape, hs'.ext.output, hs'.ext.size, fun k hk hn => hs'.ext.block k hk hn⟩
   have hd := hf'.dfs
   cases c₀
   simp only at hu
   subst hu
   simp [bodyPostS, results, hd, hst]
 · refine callsD_of_wpS (P := X.P) Try.func90 rfl fun c₀ cs hu => ?_
   apply wpS_seq
   apply wpS_region
   simp [wpOpsS, go_sem, recoverD, hu, Exit.thenS]
   refine wpS_of_wp (decode_rest _ D _ (fun a' w' hf' hs' => ?_) _ w (frJ pwJ (ptrOf D 0)) (satJ w D hD))
   have hown := hs'.own 0 _ rfl
   have hst : Stp w w' (fun _ => False) := by
     refine ⟨hs'.ext.os, hs'.ext.tape, hs'.ext.output, hs'.ext.size, fun k hk _ => ?_⟩
     by_cases h : (Own 4 1 D 1 1 [.bool false]).fp k
     · exact own_same hD hown k h
     · exact hs'.ext.block k hk h
   have hd := hf'.dfs
   cases c₀
   simp only at hu
   subst hu
   simp [bodyPostS, results, hd, hst]
theorem decode_c (fid : Nat) (cap : Array Value) (A : Option Addr) (l : List UInt8) (c : Nat) (pc : Pr) (Φ Ψ : Pr → Prop) (hw : ∀ D, CtrE X fid ([ptrOf D 0] ++ cap.toList) [Rd A (U8 l)] [Own 149 1 D 1 1 [.slice A l.length c], pc] (EndsBy [{ v := pwJ, recovered := false }] (fun v R' H' => ∃ (u : Value) (p : Pr), Φ p ∧ v = .tuple #[] ∧ R' = [] ∧ H' = [Own 149 1 D 1 1 [u], p]) (fun R' H' => ∃ (u : Value) (p : Pr), Ψ p ∧ R' = [] ∧ H' = [Own 149 1 D 1 1 [u], p]))) :
   Ctr X 83 [.slice A l.length c, .func (.func fid) #[] cap] [Rd A (U8 l)] [pc] (fun v R' H' => ∃ p, R' = [] ∧ H' = [p] ∧ ((Φ p ∧ v = .bool true) ∨ (Ψ p ∧ v = .bool false))) := by
 refine Ctr.ofD (X := X) (fn := Try.f83) Try.func83 rfl (by kernel_rfl) rfl ?_
 intro β
 refine C.seq (C.region ?_)
 refine L.alloc rfl rfl rfl (fun A4 => ?_)
 refine L.nil (QE.seq (C.seq (C.region ?_))); refine Lpu rfl rfl ?_; refine L.deferC rfl ?_; refine L.nil (QE.seq (C.seq (C.region ?_))); refine Lpu rfl rfl ?_; refine Lpu rfl rfl ?_; refine L.step (Ev.build rfl rfl rfl rfl rfl rfl rfl) rfl ?_
 refine L.boxA rfl rfl (fun A9 => ?_)
 refine L.callvE (js := [2, 0]) (js' := [1]) (hw A9) rfl rfl rfl rfl rfl (by decide) (Hq [0] rfl) rfl ?_ ?_
 · rintro _ _ _ ⟨u, p, hp, rfl, rfl, rfl⟩
   refine L.nil (QE.seq (C.seq (C.region ?_))); refine L.store (j := 2) rfl rfl rfl rfl rfl rfl rfl rfl ?_; refine L.nil (QE.seq (C.ret ?_)); refine QE.retC (js := []) (hs := [1]) (vs := [_]) recJ_ok rfl ⟨⟨_, _, 0, _, rfl, rfl, Src.o 2 rfl, .inr ⟨rfl, rfl⟩⟩, trivial⟩ (by decide) ?_
   exact ⟨p, rfl, rfl, .inl ⟨hp, rfl⟩⟩
 · rintro _ _ ⟨u, p, hp, rfl, rfl⟩
   refine QE.tP ?_; refine QE.panC (js := []) (hs := [1]) (vs := [_]) 2 rfl recJ_ok rfl ⟨⟨_, _, 0, _, rfl, rfl, Src.o 2 rfl, .inr ⟨rfl, rfl⟩⟩, trivial⟩ (by decide) ?_
   exact ⟨p, rfl, rfl, .inr ⟨hp, rfl⟩⟩

set_option maxHeartbeats 1000000 in
theorem st1_c (D S A : Option Addr) (l : List UInt8) (c : Nat) (hc : l.length ≤ c) (hl : 30 ≤ l.length) :
   CtrE X 87 [ptrOf D 0, ptrOf S 0] [Rd A (U8 l)] [Own 149 1 D 1 1 [.slice A l.length c], Own 29 9 S 1 1 (I64 (List.replicate 9 0))] (EndsBy [{ v := pwJ, recovered := false }] (fun v R' H' => ∃ (u : Value) (p : Pr), (codeTo l 15 = true ∧ p = Own 29 9 S 1 1 (I64 (decS (evenB l 15)))) ∧ v = .tuple #[] ∧ R' = [] ∧ H' = [Own 149 1 D 1 1 [u], p]) (fun R' H' => ∃ (u : Value) (p : Pr), (codeTo l 15 = false ∧ ∃ xs : List Int, xs.length = 9 ∧ p = Own 29 9 S 1 1 (I64 xs)) ∧ R' = [] ∧ H' = [Own 149 1 D 1 1 [u], p])) := by
 refine CtrE.of (X := X) (fn := Try.f87) Try.func87 rfl (by kernel_rfl) rfl ?_
 intro β
 refine C.seq (C.region ?_); refine L.call (js := []) (js' := [0, 1]) (fields_c S (List.replicate 9 0) rfl) rfl rfl rfl (by decide) ⟨(Has.o 1 rfl), trivial⟩ rfl ?_
 rintro _ _ _ ⟨A5, rfl, rfl, rfl⟩
 refine Lpu rfl rfl ?_; refine Lpu rfl rfl ?_; refine L.nil (QE.seq (C.block ?_)); refine C.loop (fun q : Nat × Option Addr × Nat => [(0, ptrOf D 0), (1, ptrOf S 0), (5, .slice A5 9 9), (6, .int .i64 9), (7, .int .i64 (q.1 : Int))]) (fun q : Nat × Option Addr × Nat => [Rd q.2.1 (U8 (l.drop (2 * offK (q.1))))]) (fun q : Nat × Option Addr × Nat => [Own 149 1 D 1 1 [.slice q.2.1 (l.drop (2 * offK (q.1))).length q.2.2], Own 29 9 S 1 1 (I64 (decTo l (q.1))), Own 92 2 A5 9 9 (fieldsV S)]) (fun q : Nat × Option Addr × Nat => q.1 ≤ 9 ∧ codeTo l (offK q.1) = true ∧ (l.drop (2 * offK (q.1))).length ≤ q.2.2) (fun q : Nat × Option Addr × Nat => 9 - q.1) (0, A, c) ⟨Nat.zero_le _, rfl, hc⟩ (by exact Le.mk' (rs := [0]) (hs := [1, 2, 0]) ⟨rfl, rfl, rfl, rfl, rfl, trivial⟩ ⟨rfl, trivial⟩ ⟨rfl, rfl, rfl, trivial⟩ (by decide)) ?_
 rintro ⟨k, A, c⟩ ⟨hkw, hk, hcc⟩
 dsimp only at hkw hk hcc ⊢
 refine C.seq (C.region ?_); refine Lpu rfl rfl ?_; refine L.nil (QE.seq (C.seq ?_))
 refine C.condB 8 rfl (fun hc8 => ?_) (fun hc8 => ?_)
 ·
  replace hc8 := of_decide_eq_true hc8
  have hw := wds_le (k := k) (by omega)
  have ho := offK_le (k := k) (by omega)
  refine C.skip (QE.seq (C.seq (C.block (C.seq (C.region ?_))))); refine L.step (Ev.idx (k := k) (m := k * 2) rfl rfl rfl rfl rfl rfl (by omega) (Src.o 2 rfl) (by exact Nat.zero_lt_succ _) rfl) rfl ?_; refine L.step (Ev.loadA (k := k * 2) rfl rfl rfl (Src.o 2 rfl) (fieldsV_at S (by omega)) rfl (by decide)) rfl ?_
  refine L.alloc rfl rfl rfl (fun A4 => ?_)
  refine L.storeA (j := 3) rfl rfl rfl rfl rfl (Nat.zero_lt_succ _) rfl rfl ?_; refine L.nil (QE.seq ?_); refine C.join (fun q : Option Addr × Nat => [(0, ptrOf D 0), (1, ptrOf S 0), (5, .slice A5 9 9), (6, .int .i64 9), (7, .int .i64 (k : Int))]) (fun q : Option Addr × Nat => [Rd q.1 (U8 ((l.drop (2 * offK (k))).drop (2 * (wds.getD k 0))))]) (fun q : Option Addr × Nat => [Own 149 1 D 1 1 [.slice q.1 ((l.drop (2 * offK (k))).drop (2 * (wds.getD k 0))).length q.2], Own 29 9 S 1 1 (I64 (decTo l (k + 1))), Own 92 2 A5 9 9 (fieldsV S)]) (fun q : Option Addr × Nat => codeTo (l.drop (2 * offK (k))) (wds.getD k 0) = true ∧ ((l.drop (2 * offK (k))).drop (2 * (wds.getD k 0))).length ≤ q.2) ?_ ?_
  ·
   refine C.regionA ?_
   refine LA.alt [0, 2, 3] (by kernel_rfl) (by decide) ⟨⟨_, rfl, ?_⟩, ⟨_, rfl, ?_⟩, ⟨_, rfl, ?_⟩, trivial⟩
   ·
    refine L.step (Ev.fieldAddr rfl rfl rfl rfl rfl rfl (Src.o 3 rfl) (Nat.zero_lt_succ _) rfl) rfl ?_
    refine L.nil (QE.a (by kernel_rfl) ?_)
    refine LA.alt [1, 2, 3] (by kernel_rfl) (by decide) ⟨⟨_, rfl, ?_⟩, ⟨_, rfl, ?_⟩, ⟨_, rfl, ?_⟩, trivial⟩
    ·
     refine L.step (Ev.load rfl rfl rfl (Src.o 3 rfl) rfl) rfl ?_
     refine L.nil (QE.a (by kernel_rfl) ?_)
     refine LA.alt [2, 3] (by kernel_rfl) (by decide) ⟨⟨_, rfl, ?_⟩, ⟨_, rfl, ?_⟩, trivial⟩
     ·
      refine Lpu rfl rfl ?_
      refine L.nil (QE.a (by kernel_rfl) ?_)
      refine LA.alt [3] (by kernel_rfl) (by decide) ⟨⟨_, rfl, ?_⟩, trivial⟩
      refine L.step (Ev.fieldAddr rfl rfl rfl rfl rfl rfl (Src.o 3 rfl) (Nat.zero_lt_succ _) rfl) rfl ?_
      refine L.nil (QE.a (by kernel_rfl) ?_)
      refine LA.alt [4] (by kernel_rfl) (by decide) ⟨⟨_, rfl, ?_⟩, trivial⟩
      refine L.step (Ev.load rfl rfl rfl (Src.o 3 rfl) rfl) rfl ?_
      refine L.nil (QE.a (by kernel_rfl) ?_)
      refine LA.alt [5] (by kernel_rfl) (by decide) ⟨⟨_, rfl, ?_⟩, trivial⟩
      refine L.callER (js := [0]) (js' := [1, 2, 3]) (takeJ_c D A (l.drop (2 * offK (k))) c (wds.getD k 0) hcc (by rw [List.length_drop]; omega) hw.2) rfl rfl rfl (by decide) (Hq [0] rfl) rfl ?_ ?_
      rotate_left
      ·
       rintro _ _ ⟨hk1, u, rfl, rfl⟩
       refine QE.aP ?_; refine QE.jP ?_; refine QE.bP (QE.tP (QE.tP (QE.bP ?_)))
       refine QE.panE (js := []) (hs := [0, 1]) (by decide) ⟨rfl, ?_⟩
       exact ⟨u, _, ⟨codeTo_bad (k := offK k + wds.getD k 0) ho (by rw [← codeTo_drop hk]; exact hk1), _, decTo_len l k, rfl⟩, rfl, rfl⟩
      rintro _ _ _ ⟨hk1, A', c', hcc', rfl, rfl, rfl⟩
      refine L.nil (QE.a (by kernel_rfl) ?_)
      refine LA.alt [6] (by kernel_rfl) (by decide) ⟨⟨_, rfl, ?_⟩, trivial⟩
      refine L.step (Ev.nilCheck rfl (Src.o 1 rfl) (by rw [I64_len, decTo_len]; decide)) rfl ?_
      refine L.nil (QE.a (by kernel_rfl) ?_)
      refine LA.alt [7] (by kernel_rfl) (by decide) ⟨⟨_, rfl, ?_⟩, trivial⟩
      refine L.store (j := 1) rfl rfl rfl rfl rfl rfl rfl (by exact I64_get (by rw [decTo_len]; omega)) ?_
      refine L.nil (QE.a (by kernel_rfl) ?_)
      refine LA.nil (by kernel_rfl) ?_
      refine QE.joined ((A', c')) (by exact ⟨hk1, hcc'⟩) (by exact Le.mk' (rs := [0]) (hs := [0, 1, 2]) ⟨rfl, rfl, rfl, rfl, rfl, trivial⟩ ⟨rfl, trivial⟩ ⟨rfl, (by rw [← decTo_set (l := l) (k := k) (by omega), ← I64_set]; rfl), rfl, trivial⟩ (by decide))
     ·
      refine L.step (Ev.fieldAddr rfl rfl rfl rfl rfl rfl (Src.o 3 rfl) (Nat.zero_lt_succ _) rfl) rfl ?_
      refine L.nil (QE.a (by kernel_rfl) ?_)
      refine LA.alt [2, 4] (by kernel_rfl) (by decide) ⟨⟨_, rfl, ?_⟩, ⟨_, rfl, ?_⟩, trivial⟩
      ·
       refine Lpu rfl rfl ?_
       refine L.nil (QE.a (by kernel_rfl) ?_)
       refine LA.alt [4] (by kernel_rfl) (by decide) ⟨⟨_, rfl, ?_⟩, trivial⟩
       refine L.step (Ev.load rfl rfl rfl (Src.o 3 rfl) rfl) rfl ?_
       refine L.nil (QE.a (by kernel_rfl) ?_)
       refine LA.alt [5] (by kernel_rfl) (by decide) ⟨⟨_, rfl, ?_⟩, trivial⟩
       refine L.callER (js := [0]) (js' := [1, 2, 3]) (takeJ_c D A (l.drop (2 * offK (k))) c (wds.getD k 0) hcc (by rw [List.length_drop]; omega) hw.2) rfl rfl rfl (by decide) (Hq [0] rfl) rfl ?_ ?_
       rotate_left
       ·
        rintro _ _ ⟨hk1, u, rfl, rfl⟩
        refine QE.aP ?_; refine QE.jP ?_; refine QE.bP (QE.tP (QE.tP (QE.bP ?_)))
        refine QE.panE (js := []) (hs := [0, 1]) (by decide) ⟨rfl, ?_⟩
        exact ⟨u, _, ⟨codeTo_bad (k := offK k + wds.getD k 0) ho (by rw [← codeTo_drop hk]; exact hk1), _, decTo_len l k, rfl⟩, rfl, rfl⟩
       rintro _ _ _ ⟨hk1, A', c', hcc', rfl, rfl, rfl⟩
       refine L.nil (QE.a (by kernel_rfl) ?_)
       refine LA.alt [6] (by kernel_rfl) (by decide) ⟨⟨_, rfl, ?_⟩, trivial⟩
       refine L.step (Ev.nilCheck rfl (Src.o 1 rfl) (by rw [I64_len, decTo_len]; decide)) rfl ?_
       refine L.nil (QE.a (by kernel_rfl) ?_)
       refine LA.alt [7] (by kernel_rfl) (by decide) ⟨⟨_, rfl, ?_⟩, trivial⟩
       refine L.store (j := 1) rfl rfl rfl rfl rfl rfl rfl (by exact I64_get (by rw [decTo_len]; omega)) ?_
       refine L.nil (QE.a (by kernel_rfl) ?_)
       refine LA.nil (by kernel_rfl) ?_
       refine QE.joined ((A', c')) (by exact ⟨hk1, hcc'⟩) (by exact Le.mk' (rs := [0]) (hs := [0, 1, 2]) ⟨rfl, rfl, rfl, rfl, rfl, trivial⟩ ⟨rfl, trivial⟩ ⟨rfl, (by rw [← decTo_set (l := l) (k := k) (by omega), ← I64_set]; rfl), rfl, trivial⟩ (by decide))
      ·
       refine L.step (Ev.load rfl rfl rfl (Src.o 3 rfl) rfl) rfl ?_
       refine L.nil (QE.a (by kernel_rfl) ?_)
       refine LA.alt [2] (by kernel_rfl) (by decide) ⟨⟨_, rfl, ?_⟩, trivial⟩
       refine Lpu rfl rfl ?_
       refine L.nil (QE.a (by kernel_rfl) ?_)
       refine LA.alt [5] (by kernel_rfl) (by decide) ⟨⟨_, rfl, ?_⟩, trivial⟩
       refine L.callER (js := [0]) (js' := [1, 2, 3]) (takeJ_c D A (l.drop (2 * offK (k))) c (wds.getD k 0) hcc (by rw [List.length_drop]; omega) hw.2) rfl rfl rfl (by decide) (Hq [0] rfl) rfl ?_ ?_
       rotate_left
       ·
        rintro _ _ ⟨hk1, u, rfl, rfl⟩
        refine QE.aP ?_; refine QE.jP ?_; refine QE.bP (QE.tP (QE.tP (QE.bP ?_)))
        refine QE.panE (js := []) (hs := [0, 1]) (by decide) ⟨rfl, ?_⟩
        exact ⟨u, _, ⟨codeTo_bad (k := offK k + wds.getD k 0) ho (by rw [← codeTo_drop hk]; exact hk1), _, decTo_len l k, rfl⟩, rfl, rfl⟩
       rintro _ _ _ ⟨hk1, A', c', hcc', rfl, rfl, rfl⟩
       refine L.nil (QE.a (by kernel_rfl) ?_)
       refine LA.alt [6] (by kernel_rfl) (by decide) ⟨⟨_, rfl, ?_⟩, trivial⟩
       refine L.step (Ev.nilCheck rfl (Src.o 1 rfl) (by rw [I64_len, decTo_len]; decide)) rfl ?_
       refine L.nil (QE.a (by kernel_rfl) ?_)
       refine LA.alt [7] (by kernel_rfl) (by decide) ⟨⟨_, rfl, ?_⟩, trivial⟩
       refine L.store (j := 1) rfl rfl rfl rfl rfl rfl rfl (by exact I64_get (by rw [decTo_len]; omega)) ?_
       refine L.nil (QE.a (by kernel_rfl) ?_)
       refine LA.nil (by kernel_rfl) ?_
       refine QE.joined ((A', c')) (by exact ⟨hk1, hcc'⟩) (by exact Le.mk' (rs := [0]) (hs := [0, 1, 2]) ⟨rfl, rfl, rfl, rfl, rfl, trivial⟩ ⟨rfl, trivial⟩ ⟨rfl, (by rw [← decTo_set (l := l) (k := k) (by omega), ← I64_set]; rfl), rfl, trivial⟩ (by decide))
    ·
     refine Lpu rfl rfl ?_
     refine L.nil (QE.a (by kernel_rfl) ?_)
     refine LA.alt [1, 3] (by kernel_rfl) (by decide) ⟨⟨_, rfl, ?_⟩, ⟨_, rfl, ?_⟩, trivial⟩
     ·
      refine L.step (Ev.load rfl rfl rfl (Src.o 3 rfl) rfl) rfl ?_
      refine L.nil (QE.a (by kernel_rfl) ?_)
      refine LA.alt [3] (by kernel_rfl) (by decide) ⟨⟨_, rfl, ?_⟩, trivial⟩
      refine L.step (Ev.fieldAddr rfl rfl rfl rfl rfl rfl (Src.o 3 rfl) (Nat.zero_lt_succ _) rfl) rfl ?_
      refine L.nil (QE.a (by kernel_rfl) ?_)
      refine LA.alt [4] (by kernel_rfl) (by decide) ⟨⟨_, rfl, ?_⟩, trivial⟩
      refine L.step (Ev.load rfl rfl rfl (Src.o 3 rfl) rfl) rfl ?_
      refine L.nil (QE.a (by kernel_rfl) ?_)
      refine LA.alt [5] (by kernel_rfl) (by decide) ⟨⟨_, rfl, ?_⟩, trivial⟩
      refine L.callER (js := [0]) (js' := [1, 2, 3]) (takeJ_c D A (l.drop (2 * offK (k))) c (wds.getD k 0) hcc (by rw [List.length_drop]; omega) hw.2) rfl rfl rfl (by decide) (Hq [0] rfl) rfl ?_ ?_
      rotate_left
      ·
       rintro _ _ ⟨hk1, u, rfl, rfl⟩
       refine QE.aP ?_; refine QE.jP ?_; refine QE.bP (QE.tP (QE.tP (QE.bP ?_)))
       refine QE.panE (js := []) (hs := [0, 1]) (by decide) ⟨rfl, ?_⟩
       exact ⟨u, _, ⟨codeTo_bad (k := offK k + wds.getD k 0) ho (by rw [← codeTo_drop hk]; exact hk1), _, decTo_len l k, rfl⟩, rfl, rfl⟩
      rintro _ _ _ ⟨hk1, A', c', hcc', rfl, rfl, rfl⟩
      refine L.nil (QE.a (by kernel_rfl) ?_)
      refine LA.alt [6] (by kernel_rfl) (by decide) ⟨⟨_, rfl, ?_⟩, trivial⟩
      refine L.step (Ev.nilCheck rfl (Src.o 1 rfl) (by rw [I64_len, decTo_len]; decide)) rfl ?_
      refine L.nil (QE.a (by kernel_rfl) ?_)
      refine LA.alt [7] (by kernel_rfl) (by decide) ⟨⟨_, rfl, ?_⟩, trivial⟩
      refine L.store (j := 1) rfl rfl rfl rfl rfl rfl rfl (by exact I64_get (by rw [decTo_len]; omega)) ?_
      refine L.nil (QE.a (by kernel_rfl) ?_)
      refine LA.nil (by kernel_rfl) ?_
      refine QE.joined ((A', c')) (by exact ⟨hk1, hcc'⟩) (by exact Le.mk' (rs := [0]) (hs := [0, 1, 2]) ⟨rfl, rfl, rfl, rfl, rfl, trivial⟩ ⟨rfl, trivial⟩ ⟨rfl, (by rw [← decTo_set (l := l) (k := k) (by omega), ← I64_set]; rfl), rfl, trivial⟩ (by decide))
     ·
      refine L.step (Ev.fieldAddr rfl rfl rfl rfl rfl rfl (Src.o 3 rfl) (Nat.zero_lt_succ _) rfl) rfl ?_
      refine L.nil (QE.a (by kernel_rfl) ?_)
      refine LA.alt [1, 4] (by kernel_rfl) (by decide) ⟨⟨_, rfl, ?_⟩, ⟨_, rfl, ?_⟩, trivial⟩
      ·
       refine L.step (Ev.load rfl rfl rfl (Src.o 3 rfl) rfl) rfl ?_
       refine L.nil (QE.a (by kernel_rfl) ?_)
       refine LA.alt [4] (by kernel_rfl) (by decide) ⟨⟨_, rfl, ?_⟩, trivial⟩
       refine L.step (Ev.load rfl rfl rfl (Src.o 3 rfl) rfl) rfl ?_
       refine L.nil (QE.a (by kernel_rfl) ?_)
       refine LA.alt [5] (by kernel_rfl) (by decide) ⟨⟨_, rfl, ?_⟩, trivial⟩
       refine L.callER (js := [0]) (js' := [1, 2, 3]) (takeJ_c D A (l.drop (2 * offK (k))) c (wds.getD k 0) hcc (by rw [List.length_drop]; omega) hw.2) rfl rfl rfl (by decide) (Hq [0] rfl) rfl ?_ ?_
       rotate_left
       ·
        rintro _ _ ⟨hk1, u, rfl, rfl⟩
        refine QE.aP ?_; refine QE.jP ?_; refine QE.bP (QE.tP (QE.tP (QE.bP ?_)))
        refine QE.panE (js := []) (hs := [0, 1]) (by decide) ⟨rfl, ?_⟩
        exact ⟨u, _, ⟨codeTo_bad (k := offK k + wds.getD k 0) ho (by rw [← codeTo_drop hk]; exact hk1), _, decTo_len l k, rfl⟩, rfl, rfl⟩
       rintro _ _ _ ⟨hk1, A', c', hcc', rfl, rfl, rfl⟩
       refine L.nil (QE.a (by kernel_rfl) ?_)
       refine LA.alt [6] (by kernel_rfl) (by decide) ⟨⟨_, rfl, ?_⟩, trivial⟩
       refine L.step (Ev.nilCheck rfl (Src.o 1 rfl) (by rw [I64_len, decTo_len]; decide)) rfl ?_
       refine L.nil (QE.a (by kernel_rfl) ?_)
       refine LA.alt [7] (by kernel_rfl) (by decide) ⟨⟨_, rfl, ?_⟩, trivial⟩
       refine L.store (j := 1) rfl rfl rfl rfl rfl rfl rfl (by exact I64_get (by rw [decTo_len]; omega)) ?_
       refine L.nil (QE.a (by kernel_rfl) ?_)
       refine LA.nil (by kernel_rfl) ?_
       refine QE.joined ((A', c')) (by exact ⟨hk1, hcc'⟩) (by exact Le.mk' (rs := [0]) (hs := [0, 1, 2]) ⟨rfl, rfl, rfl, rfl, rfl, trivial⟩ ⟨rfl, trivial⟩ ⟨rfl, (by rw [← decTo_set (l := l) (k := k) (by omega), ← I64_set]; rfl), rfl, trivial⟩ (by decide))
      ·
       refine L.step (Ev.load rfl rfl rfl (Src.o 3 rfl) rfl) rfl ?_
       refine L.nil (QE.a (by kernel_rfl) ?_)
       refine LA.alt [1, 5] (by kernel_rfl) (by decide) ⟨⟨_, rfl, ?_⟩, ⟨_, rfl, ?_⟩, trivial⟩
       ·
        refine L.step (Ev.load rfl rfl rfl (Src.o 3 rfl) rfl) rfl ?_
        refine L.nil (QE.a (by kernel_rfl) ?_)
        refine LA.alt [5] (by kernel_rfl) (by decide) ⟨⟨_, rfl, ?_⟩, trivial⟩
        refine L.callER (js := [0]) (js' := [1, 2, 3]) (takeJ_c D A (l.drop (2 * offK (k))) c (wds.getD k 0) hcc (by rw [List.length_drop]; omega) hw.2) rfl rfl rfl (by decide) (Hq [0] rfl) rfl ?_ ?_
        rotate_left
        ·
         rintro _ _ ⟨hk1, u, rfl, rfl⟩
         refine QE.aP ?_; refine QE.jP ?_; refine QE.bP (QE.tP (QE.tP (QE.bP ?_)))
         refine QE.panE (js := []) (hs := [0, 1]) (by decide) ⟨rfl, ?_⟩
         exact ⟨u, _, ⟨codeTo_bad (k := offK k + wds.getD k 0) ho (by rw [← codeTo_drop hk]; exact hk1), _, decTo_len l k, rfl⟩, rfl, rfl⟩
        rintro _ _ _ ⟨hk1, A', c', hcc', rfl, rfl, rfl⟩
        refine L.nil (QE.a (by kernel_rfl) ?_)
        refine LA.alt [6] (by kernel_rfl) (by decide) ⟨⟨_, rfl, ?_⟩, trivial⟩
        refine L.step (Ev.nilCheck rfl (Src.o 1 rfl) (by rw [I64_len, decTo_len]; decide)) rfl ?_
        refine L.nil (QE.a (by kernel_rfl) ?_)
        refine LA.alt [7] (by kernel_rfl) (by decide) ⟨⟨_, rfl, ?_⟩, trivial⟩
        refine L.store (j := 1) rfl rfl rfl rfl rfl rfl rfl (by exact I64_get (by rw [decTo_len]; omega)) ?_
        refine L.nil (QE.a (by kernel_rfl) ?_)
        refine LA.nil (by kernel_rfl) ?_
        refine QE.joined ((A', c')) (by exact ⟨hk1, hcc'⟩) (by exact Le.mk' (rs := [0]) (hs := [0, 1, 2]) ⟨rfl, rfl, rfl, rfl, rfl, trivial⟩ ⟨rfl, trivial⟩ ⟨rfl, (by rw [← decTo_set (l := l) (k := k) (by omega), ← I64_set]; rfl), rfl, trivial⟩ (by decide))
       ·
        refine L.callER (js := [0]) (js' := [1, 2, 3]) (takeJ_c D A (l.drop (2 * offK (k))) c (wds.getD k 0) hcc (by rw [List.length_drop]; omega) hw.2) rfl rfl rfl (by decide) (Hq [0] rfl) rfl ?_ ?_
        rotate_left
        ·
         rintro _ _ ⟨hk1, u, rfl, rfl⟩
         refine QE.aP ?_; refine QE.jP ?_; refine QE.bP (QE.tP (QE.tP (QE.bP ?_)))
         refine QE.panE (js := []) (hs := [0, 1]) (by decide) ⟨rfl, ?_⟩
         exact ⟨u, _, ⟨codeTo_bad (k := offK k + wds.getD k 0) ho (by rw [← codeTo_drop hk]; exact hk1), _, decTo_len l k, rfl⟩, rfl, rfl⟩
        rintro _ _ _ ⟨hk1, A', c', hcc', rfl, rfl, rfl⟩
        refine L.nil (QE.a (by kernel_rfl) ?_)
        refine LA.alt [1] (by kernel_rfl) (by decide) ⟨⟨_, rfl, ?_⟩, trivial⟩
        refine L.step (Ev.load rfl rfl rfl (Src.o 3 rfl) rfl) rfl ?_
        refine L.nil (QE.a (by kernel_rfl) ?_)
        refine LA.alt [6] (by kernel_rfl) (by decide) ⟨⟨_, rfl, ?_⟩, trivial⟩
        refine L.step (Ev.nilCheck rfl (Src.o 1 rfl) (by rw [I64_len, decTo_len]; decide)) rfl ?_
        refine L.nil (QE.a (by kernel_rfl) ?_)
        refine LA.alt [7] (by kernel_rfl) (by decide) ⟨⟨_, rfl, ?_⟩, trivial⟩
        refine L.store (j := 1) rfl rfl rfl rfl rfl rfl rfl (by exact I64_get (by rw [decTo_len]; omega)) ?_
        refine L.nil (QE.a (by kernel_rfl) ?_)
        refine LA.nil (by kernel_rfl) ?_
        refine QE.joined ((A', c')) (by exact ⟨hk1, hcc'⟩) (by exact Le.mk' (rs := [0]) (hs := [0, 1, 2]) ⟨rfl, rfl, rfl, rfl, rfl, trivial⟩ ⟨rfl, trivial⟩ ⟨rfl, (by rw [← decTo_set (l := l) (k := k) (by omega), ← I64_set]; rfl), rfl, trivial⟩ (by decide))
    ·
     refine L.step (Ev.fieldAddr rfl rfl rfl rfl rfl rfl (Src.o 3 rfl) (Nat.zero_lt_succ _) rfl) rfl ?_
     refine L.nil (QE.a (by kernel_rfl) ?_)
     refine LA.alt [1, 2, 4] (by kernel_rfl) (by decide) ⟨⟨_, rfl, ?_⟩, ⟨_, rfl, ?_⟩, ⟨_, rfl, ?_⟩, trivial⟩
     ·
      refine L.step (Ev.load rfl rfl rfl (Src.o 3 rfl) rfl) rfl ?_
      refine L.nil (QE.a (by kernel_rfl) ?_)
      refine LA.alt [2, 4] (by kernel_rfl) (by decide) ⟨⟨_, rfl, ?_⟩, ⟨_, rfl, ?_⟩, trivial⟩
      ·
       refine Lpu rfl rfl ?_
       refine L.nil (QE.a (by kernel_rfl) ?_)
       refine LA.alt [4] (by kernel_rfl) (by decide) ⟨⟨_, rfl, ?_⟩, trivial⟩
       refine L.step (Ev.load rfl rfl rfl (Src.o 3 rfl) rfl) rfl ?_
       refine L.nil (QE.a (by kernel_rfl) ?_)
       refine LA.alt [5] (by kernel_rfl) (by decide) ⟨⟨_, rfl, ?_⟩, trivial⟩
       refine L.callER (js := [0]) (js' := [1, 2, 3]) (takeJ_c D A (l.drop (2 * offK (k))) c (wds.getD k 0) hcc (by rw [List.length_drop]; omega) hw.2) rfl rfl rfl (by decide) (Hq [0] rfl) rfl ?_ ?_
       rotate_left
       ·
        rintro _ _ ⟨hk1, u, rfl, rfl⟩
        refine QE.aP ?_; refine QE.jP ?_; refine QE.bP (QE.tP (QE.tP (QE.bP ?_)))
        refine QE.panE (js := []) (hs := [0, 1]) (by decide) ⟨rfl, ?_⟩
        exact ⟨u, _, ⟨codeTo_bad (k := offK k + wds.getD k 0) ho (by rw [← codeTo_drop hk]; exact hk1), _, decTo_len l k, rfl⟩, rfl, rfl⟩
       rintro _ _ _ ⟨hk1, A', c', hcc', rfl, rfl, rfl⟩
       refine L.nil (QE.a (by kernel_rfl) ?_)
       refine LA.alt [6] (by kernel_rfl) (by decide) ⟨⟨_, rfl, ?_⟩, trivial⟩
       refine L.step (Ev.nilCheck rfl (Src.o 1 rfl) (by rw [I64_len, decTo_len]; decide)) rfl ?_
       refine L.nil (QE.a (by kernel_rfl) ?_)
       refine LA.alt [7] (by kernel_rfl) (by decide) ⟨⟨_, rfl, ?_⟩, trivial⟩
       refine L.store (j := 1) rfl rfl rfl rfl rfl rfl rfl (by exact I64_get (by rw [decTo_len]; omega)) ?_
       refine L.nil (QE.a (by kernel_rfl) ?_)
       refine LA.nil (by kernel_rfl) ?_
       refine QE.joined ((A', c')) (by exact ⟨hk1, hcc'⟩) (by exact Le.mk' (rs := [0]) (hs := [0, 1, 2]) ⟨rfl, rfl, rfl, rfl, rfl, trivial⟩ ⟨rfl, trivial⟩ ⟨rfl, (by rw [← decTo_set (l := l) (k := k) (by omega), ← I64_set]; rfl), rfl, trivial⟩ (by decide))
      ·
       refine L.step (Ev.load rfl rfl rfl (Src.o 3 rfl) rfl) rfl ?_
       refine L.nil (QE.a (by kernel_rfl) ?_)
       refine LA.alt [2] (by kernel_rfl) (by decide) ⟨⟨_, rfl, ?_⟩, trivial⟩
       refine Lpu rfl rfl ?_
       refine L.nil (QE.a (by kernel_rfl) ?_)
       refine LA.alt [5] (by kernel_rfl) (by decide) ⟨⟨_, rfl, ?_⟩, trivial⟩
       refine L.callER (js := [0]) (js' := [1, 2, 3]) (takeJ_c D A (l.drop (2 * offK (k))) c (wds.getD k 0) hcc (by rw [List.length_drop]; omega) hw.2) rfl rfl rfl (by decide) (Hq [0] rfl) rfl ?_ ?_
       rotate_left
       ·
        rintro _ _ ⟨hk1, u, rfl, rfl⟩
        refine QE.aP ?_; refine QE.jP ?_; refine QE.bP (QE.tP (QE.tP (QE.bP ?_)))
        refine QE.panE (js := []) (hs := [0, 1]) (by decide) ⟨rfl, ?_⟩
        exact ⟨u, _, ⟨codeTo_bad (k := offK k + wds.getD k 0) ho (by rw [← codeTo_drop hk]; exact hk1), _, decTo_len l k, rfl⟩, rfl, rfl⟩
       rintro _ _ _ ⟨hk1, A', c', hcc', rfl, rfl, rfl⟩
       refine L.nil (QE.a (by kernel_rfl) ?_)
       refine LA.alt [6] (by kernel_rfl) (by decide) ⟨⟨_, rfl, ?_⟩, trivial⟩
       refine L.step (Ev.nilCheck rfl (Src.o 1 rfl) (by rw [I64_len, decTo_len]; decide)) rfl ?_
       refine L.nil (QE.a (by kernel_rfl) ?_)
       refine LA.alt [7] (by kernel_rfl) (by decide) ⟨⟨_, rfl, ?_⟩, trivial⟩
       refine L.store (j := 1) rfl rfl rfl rfl rfl rfl rfl (by exact I64_get (by rw [decTo_len]; omega)) ?_
       refine L.nil (QE.a (by kernel_rfl) ?_)
       refine LA.nil (by kernel_rfl) ?_
       refine QE.joined ((A', c')) (by exact ⟨hk1, hcc'⟩) (by exact Le.mk' (rs := [0]) (hs := [0, 1, 2]) ⟨rfl, rfl, rfl, rfl, rfl, trivial⟩ ⟨rfl, trivial⟩ ⟨rfl, (by rw [← decTo_set (l := l) (k := k) (by omega), ← I64_set]; rfl), rfl, trivial⟩ (by decide))
     ·
      refine Lpu rfl rfl ?_
      refine L.nil (QE.a (by kernel_rfl) ?_)
      refine LA.alt [1, 4] (by kernel_rfl) (by decide) ⟨⟨_, rfl, ?_⟩, ⟨_, rfl, ?_⟩, trivial⟩
      ·
       refine L.step (Ev.load rfl rfl rfl (Src.o 3 rfl) rfl) rfl ?_
       refine L.nil (QE.a (by kernel_rfl) ?_)
       refine LA.alt [4] (by kernel_rfl) (by decide) ⟨⟨_, rfl, ?_⟩, trivial⟩
       refine L.step (Ev.load rfl rfl rfl (Src.o 3 rfl) rfl) rfl ?_
       refine L.nil (QE.a (by kernel_rfl) ?_)
       refine LA.alt [5] (by kernel_rfl) (by decide) ⟨⟨_, rfl, ?_⟩, trivial⟩
       refine L.callER (js := [0]) (js' := [1, 2, 3]) (takeJ_c D A (l.drop (2 * offK (k))) c (wds.getD k 0) hcc (by rw [List.length_drop]; omega) hw.2) rfl rfl rfl (by decide) (Hq [0] rfl) rfl ?_ ?_
       rotate_left
       ·
        rintro _ _ ⟨hk1, u, rfl, rfl⟩
        refine QE.aP ?_; refine QE.jP ?_; refine QE.bP (QE.tP (QE.tP (QE.bP ?_)))
        refine QE.panE (js := []) (hs := [0, 1]) (by decide) ⟨rfl, ?_⟩
        exact ⟨u, _, ⟨codeTo_bad (k := offK k + wds.getD k 0) ho (by rw [← codeTo_drop hk]; exact hk1), _, decTo_len l k, rfl⟩, rfl, rfl⟩
       rintro _ _ _ ⟨hk1, A', c', hcc', rfl, rfl, rfl⟩
       refine L.nil (QE.a (by kernel_rfl) ?_)
       refine LA.alt [6] (by kernel_rfl) (by decide) ⟨⟨_, rfl, ?_⟩, trivial⟩
       refine L.step (Ev.nilCheck rfl (Src.o 1 rfl) (by rw [I64_len, decTo_len]; decide)) rfl ?_
       refine L.nil (QE.a (by kernel_rfl) ?_)
       refine LA.alt [7] (by kernel_rfl) (by decide) ⟨⟨_, rfl, ?_⟩, trivial⟩
       refine L.store (j := 1) rfl rfl rfl rfl rfl rfl rfl (by exact I64_get (by rw [decTo_len]; omega)) ?_
       refine L.nil (QE.a (by kernel_rfl) ?_)
       refine LA.nil (by kernel_rfl) ?_
       refine QE.joined ((A', c')) (by exact ⟨hk1, hcc'⟩) (by exact Le.mk' (rs := [0]) (hs := [0, 1, 2]) ⟨rfl, rfl, rfl, rfl, rfl, trivial⟩ ⟨rfl, trivial⟩ ⟨rfl, (by rw [← decTo_set (l := l) (k := k) (by omega), ← I64_set]; rfl), rfl, trivial⟩ (by decide))
      ·
       refine L.step (Ev.load rfl rfl rfl (Src.o 3 rfl) rfl) rfl ?_
       refine L.nil (QE.a (by kernel_rfl) ?_)
       refine LA.alt [1, 5] (by kernel_rfl) (by decide) ⟨⟨_, rfl, ?_⟩, ⟨_, rfl, ?_⟩, trivial⟩
       ·
        refine L.step (Ev.load rfl rfl rfl (Src.o 3 rfl) rfl) rfl ?_
        refine L.nil (QE.a (by kernel_rfl) ?_)
        refine LA.alt [5] (by kernel_rfl) (by decide) ⟨⟨_, rfl, ?_⟩, trivial⟩
        refine L.callER (js := [0]) (js' := [1, 2, 3]) (takeJ_c D A (l.drop (2 * offK (k))) c (wds.getD k 0) hcc (by rw [List.length_drop]; omega) hw.2) rfl rfl rfl (by decide) (Hq [0] rfl) rfl ?_ ?_
        rotate_left
        ·
         rintro _ _ ⟨hk1, u, rfl, rfl⟩
         refine QE.aP ?_; refine QE.jP ?_; refine QE.bP (QE.tP (QE.tP (QE.bP ?_)))
         refine QE.panE (js := []) (hs := [0, 1]) (by decide) ⟨rfl, ?_⟩
         exact ⟨u, _, ⟨codeTo_bad (k := offK k + wds.getD k 0) ho (by rw [← codeTo_drop hk]; exact hk1), _, decTo_len l k, rfl⟩, rfl, rfl⟩
        rintro _ _ _ ⟨hk1, A', c', hcc', rfl, rfl, rfl⟩
        refine L.nil (QE.a (by kernel_rfl) ?_)
        refine LA.alt [6] (by kernel_rfl) (by decide) ⟨⟨_, rfl, ?_⟩, trivial⟩
        refine L.step (Ev.nilCheck rfl (Src.o 1 rfl) (by rw [I64_len, decTo_len]; decide)) rfl ?_
        refine L.nil (QE.a (by kernel_rfl) ?_)
        refine LA.alt [7] (by kernel_rfl) (by decide) ⟨⟨_, rfl, ?_⟩, trivial⟩
        refine L.store (j := 1) rfl rfl rfl rfl rfl rfl rfl (by exact I64_get (by rw [decTo_len]; omega)) ?_
        refine L.nil (QE.a (by kernel_rfl) ?_)
        refine LA.nil (by kernel_rfl) ?_
        refine QE.joined ((A', c')) (by exact ⟨hk1, hcc'⟩) (by exact Le.mk' (rs := [0]) (hs := [0, 1, 2]) ⟨rfl, rfl, rfl, rfl, rfl, trivial⟩ ⟨rfl, trivial⟩ ⟨rfl, (by rw [← decTo_set (l := l) (k := k) (by omega), ← I64_set]; rfl), rfl, trivial⟩ (by decide))
       ·
        refine L.callER (js := [0]) (js' := [1, 2, 3]) (takeJ_c D A (l.drop (2 * offK (k))) c (wds.getD k 0) hcc (by rw [List.length_drop]; omega) hw.2) rfl rfl rfl (by decide) (Hq [0] rfl) rfl ?_ ?_
        rotate_left
        ·
         rintro _ _ ⟨hk1, u, rfl, rfl⟩
         refine QE.aP ?_; refine QE.jP ?_; refine QE.bP (QE.tP (QE.tP (QE.bP ?_)))
         refine QE.panE (js := []) (hs := [0, 1]) (by decide) ⟨rfl, ?_⟩
         exact ⟨u, _, ⟨codeTo_bad (k := offK k + wds.getD k 0) ho (by rw [← codeTo_drop hk]; exact hk1), _, decTo_len l k, rfl⟩, rfl, rfl⟩
        rintro _ _ _ ⟨hk1, A', c', hcc', rfl, rfl, rfl⟩
        refine L.nil (QE.a (by kernel_rfl) ?_)
        refine LA.alt [1] (by kernel_rfl) (by decide) ⟨⟨_, rfl, ?_⟩, trivial⟩
        refine L.step (Ev.load rfl rfl rfl (Src.o 3 rfl) rfl) rfl ?_
        refine L.nil (QE.a (by kernel_rfl) ?_)
        refine LA.alt [6] (by kernel_rfl) (by decide) ⟨⟨_, rfl, ?_⟩, trivial⟩
        refine L.step (Ev.nilCheck rfl (Src.o 1 rfl) (by rw [I64_len, decTo_len]; decide)) rfl ?_
        refine L.nil (QE.a (by kernel_rfl) ?_)
        refine LA.alt [7] (by kernel_rfl) (by decide) ⟨⟨_, rfl, ?_⟩, trivial⟩
        refine L.store (j := 1) rfl rfl rfl rfl rfl rfl rfl (by exact I64_get (by rw [decTo_len]; omega)) ?_
        refine L.nil (QE.a (by kernel_rfl) ?_)
        refine LA.nil (by kernel_rfl) ?_
        refine QE.joined ((A', c')) (by exact ⟨hk1, hcc'⟩) (by exact Le.mk' (rs := [0]) (hs := [0, 1, 2]) ⟨rfl, rfl, rfl, rfl, rfl, trivial⟩ ⟨rfl, trivial⟩ ⟨rfl, (by rw [← decTo_set (l := l) (k := k) (by omega), ← I64_set]; rfl), rfl, trivial⟩ (by decide))
     ·
      refine L.step (Ev.load rfl rfl rfl (Src.o 3 rfl) rfl) rfl ?_
      refine L.nil (QE.a (by kernel_rfl) ?_)
      refine LA.alt [1, 2] (by kernel_rfl) (by decide) ⟨⟨_, rfl, ?_⟩, ⟨_, rfl, ?_⟩, trivial⟩
      ·
       refine L.step (Ev.load rfl rfl rfl (Src.o 3 rfl) rfl) rfl ?_
       refine L.nil (QE.a (by kernel_rfl) ?_)
       refine LA.alt [2] (by kernel_rfl) (by decide) ⟨⟨_, rfl, ?_⟩, trivial⟩
       refine Lpu rfl rfl ?_
       refine L.nil (QE.a (by kernel_rfl) ?_)
       refine LA.alt [5] (by kernel_rfl) (by decide) ⟨⟨_, rfl, ?_⟩, trivial⟩
       refine L.callER (js := [0]) (js' := [1, 2, 3]) (takeJ_c D A (l.drop (2 * offK (k))) c (wds.getD k 0) hcc (by rw [List.length_drop]; omega) hw.2) rfl rfl rfl (by decide) (Hq [0] rfl) rfl ?_ ?_
       rotate_left
       ·
        rintro _ _ ⟨hk1, u, rfl, rfl⟩
        refine QE.aP ?_; refine QE.jP ?_; refine QE.bP (QE.tP (QE.tP (QE.bP ?_)))
        refine QE.panE (js := []) (hs := [0, 1]) (by decide) ⟨rfl, ?_⟩
        exact ⟨u, _, ⟨codeTo_bad (k := offK k + wds.getD k 0) ho (by rw [← codeTo_drop hk]; exact hk1), _, decTo_len l k, rfl⟩, rfl, rfl⟩
       rintro _ _ _ ⟨hk1, A', c', hcc', rfl, rfl, rfl⟩
       refine L.nil (QE.a (by kernel_rfl) ?_)
       refine LA.alt [6] (by kernel_rfl) (by decide) ⟨⟨_, rfl, ?_⟩, trivial⟩
       refine L.step (Ev.nilCheck rfl (Src.o 1 rfl) (by rw [I64_len, decTo_len]; decide)) rfl ?_
       refine L.nil (QE.a (by kernel_rfl) ?_)
       refine LA.alt [7] (by kernel_rfl) (by decide) ⟨⟨_, rfl, ?_⟩, trivial⟩
       refine L.store (j := 1) rfl rfl rfl rfl rfl rfl rfl (by exact I64_get (by rw [decTo_len]; omega)) ?_
       refine L.nil (QE.a (by kernel_rfl) ?_)
       refine LA.nil (by kernel_rfl) ?_
       refine QE.joined ((A', c')) (by exact ⟨hk1, hcc'⟩) (by exact Le.mk' (rs := [0]) (hs := [0, 1, 2]) ⟨rfl, rfl, rfl, rfl, rfl, trivial⟩ ⟨rfl, trivial⟩ ⟨rfl, (by rw [← decTo_set (l := l) (k := k) (by omega), ← I64_set]; rfl), rfl, trivial⟩ (by decide))
      ·
       refine Lpu rfl rfl ?_
       refine L.nil (QE.a (by kernel_rfl) ?_)
       refine LA.alt [1, 5] (by kernel_rfl) (by decide) ⟨⟨_, rfl, ?_⟩, ⟨_, rfl, ?_⟩, trivial⟩
       ·
        refine L.step (Ev.load rfl rfl rfl (Src.o 3 rfl) rfl) rfl ?_
        refine L.nil (QE.a (by kernel_rfl) ?_)
        refine LA.alt [5] (by kernel_rfl) (by decide) ⟨⟨_, rfl, ?_⟩, trivial⟩
        refine L.callER (js := [0]) (js' := [1, 2, 3]) (takeJ_c D A (l.drop (2 * offK (k))) c (wds.getD k 0) hcc (by rw [List.length_drop]; omega) hw.2) rfl rfl rfl (by decide) (Hq [0] rfl) rfl ?_ ?_
        rotate_left
        ·
         rintro _ _ ⟨hk1, u, rfl, rfl⟩
         refine QE.aP ?_; refine QE.jP ?_; refine QE.bP (QE.tP (QE.tP (QE.bP ?_)))
         refine QE.panE (js := []) (hs := [0, 1]) (by decide) ⟨rfl, ?_⟩
         exact ⟨u, _, ⟨codeTo_bad (k := offK k + wds.getD k 0) ho (by rw [← codeTo_drop hk]; exact hk1), _, decTo_len l k, rfl⟩, rfl, rfl⟩
        rintro _ _ _ ⟨hk1, A', c', hcc', rfl, rfl, rfl⟩
        refine L.nil (QE.a (by kernel_rfl) ?_)
        refine LA.alt [6] (by kernel_rfl) (by decide) ⟨⟨_, rfl, ?_⟩, trivial⟩
        refine L.step (Ev.nilCheck rfl (Src.o 1 rfl) (by rw [I64_len, decTo_len]; decide)) rfl ?_
        refine L.nil (QE.a (by kernel_rfl) ?_)
        refine LA.alt [7] (by kernel_rfl) (by decide) ⟨⟨_, rfl, ?_⟩, trivial⟩
        refine L.store (j := 1) rfl rfl rfl rfl rfl rfl rfl (by exact I64_get (by rw [decTo_len]; omega)) ?_
        refine L.nil (QE.a (by kernel_rfl) ?_)
        refine LA.nil (by kernel_rfl) ?_
        refine QE.joined ((A', c')) (by exact ⟨hk1, hcc'⟩) (by exact Le.mk' (rs := [0]) (hs := [0, 1, 2]) ⟨rfl, rfl, rfl, rfl, rfl, trivial⟩ ⟨rfl, trivial⟩ ⟨rfl, (by rw [← decTo_set (l := l) (k := k) (by omega), ← I64_set]; rfl), rfl, trivial⟩ (by decide))
       ·
        refine L.callER (js := [0]) (js' := [1, 2, 3]) (takeJ_c D A (l.drop (2 * offK (k))) c (wds.getD k 0) hcc (by rw [List.length_drop]; omega) hw.2) rfl rfl rfl (by decide) (Hq [0] rfl) rfl ?_ ?_
        rotate_left
        ·
         rintro _ _ ⟨hk1, u, rfl, rfl⟩
         refine QE.aP ?_; refine QE.jP ?_; refine QE.bP (QE.tP (QE.tP (QE.bP ?_)))
         refine QE.panE (js := []) (hs := [0, 1]) (by decide) ⟨rfl, ?_⟩
         exact ⟨u, _, ⟨codeTo_bad (k := offK k + wds.getD k 0) ho (by rw [← codeTo_drop hk]; exact hk1), _, decTo_len l k, rfl⟩, rfl, rfl⟩
        rintro _ _ _ ⟨hk1, A', c', hcc', rfl, rfl, rfl⟩
        refine L.nil (QE.a (by kernel_rfl) ?_)
        refine LA.alt [1] (by kernel_rfl) (by decide) ⟨⟨_, rfl, ?_⟩, trivial⟩
        refine L.step (Ev.load rfl rfl rfl (Src.o 3 rfl) rfl) rfl ?_
        refine L.nil (QE.a (by kernel_rfl) ?_)
        refine LA.alt [6] (by kernel_rfl) (by decide) ⟨⟨_, rfl, ?_⟩, trivial⟩
        refine L.step (Ev.nilCheck rfl (Src.o 1 rfl) (by rw [I64_len, decTo_len]; decide)) rfl ?_
        refine L.nil (QE.a (by kernel_rfl) ?_)
        refine LA.alt [7] (by kernel_rfl) (by decide) ⟨⟨_, rfl, ?_⟩, trivial⟩
        refine L.store (j := 1) rfl rfl rfl rfl rfl rfl rfl (by exact I64_get (by rw [decTo_len]; omega)) ?_
        refine L.nil (QE.a (by kernel_rfl) ?_)
        refine LA.nil (by kernel_rfl) ?_
        refine QE.joined ((A', c')) (by exact ⟨hk1, hcc'⟩) (by exact Le.mk' (rs := [0]) (hs := [0, 1, 2]) ⟨rfl, rfl, rfl, rfl, rfl, trivial⟩ ⟨rfl, trivial⟩ ⟨rfl, (by rw [← decTo_set (l := l) (k := k) (by omega), ← I64_set]; rfl), rfl, trivial⟩ (by decide))
   ·
    refine Lpu rfl rfl ?_
    refine L.nil (QE.a (by kernel_rfl) ?_)
    refine LA.alt [0, 3] (by kernel_rfl) (by decide) ⟨⟨_, rfl, ?_⟩, ⟨_, rfl, ?_⟩, trivial⟩
    ·
     refine L.step (Ev.fieldAddr rfl rfl rfl rfl rfl rfl (Src.o 3 rfl) (Nat.zero_lt_succ _) rfl) rfl ?_
     refine L.nil (QE.a (by kernel_rfl) ?_)
     refine LA.alt [1, 3] (by kernel_rfl) (by decide) ⟨⟨_, rfl, ?_⟩, ⟨_, rfl, ?_⟩, trivial⟩
     ·
      refine L.step (Ev.load rfl rfl rfl (Src.o 3 rfl) rfl) rfl ?_
      refine L.nil (QE.a (by kernel_rfl) ?_)
      refine LA.alt [3] (by kernel_rfl) (by decide) ⟨⟨_, rfl, ?_⟩, trivial⟩
      refine L.step (Ev.fieldAddr rfl rfl rfl rfl rfl rfl (Src.o 3 rfl) (Nat.zero_lt_succ _) rfl) rfl ?_
      refine L.nil (QE.a (by kernel_rfl) ?_)
      refine LA.alt [4] (by kernel_rfl) (by decide) ⟨⟨_, rfl, ?_⟩, trivial⟩
      refine L.step (Ev.load rfl rfl rfl (Src.o 3 rfl) rfl) rfl ?_
      refine L.nil (QE.a (by kernel_rfl) ?_)
      refine LA.alt [5] (by kernel_rfl) (by decide) ⟨⟨_, rfl, ?_⟩, trivial⟩
      refine L.callER (js := [0]) (js' := [1, 2, 3]) (takeJ_c D A (l.drop (2 * offK (k))) c (wds.getD k 0) hcc (by rw [List.length_drop]; omega) hw.2) rfl rfl rfl (by decide) (Hq [0] rfl) rfl ?_ ?_
      rotate_left
      ·
       rintro _ _ ⟨hk1, u, rfl, rfl⟩
       refine QE.aP ?_; refine QE.jP ?_; refine QE.bP (QE.tP (QE.tP (QE.bP ?_)))
       refine QE.panE (js := []) (hs := [0, 1]) (by decide) ⟨rfl, ?_⟩
       exact ⟨u, _, ⟨codeTo_bad (k := offK k + wds.getD k 0) ho (by rw [← codeTo_drop hk]; exact hk1), _, decTo_len l k, rfl⟩, rfl, rfl⟩
      rintro _ _ _ ⟨hk1, A', c', hcc', rfl, rfl, rfl⟩
      refine L.nil (QE.a (by kernel_rfl) ?_)
      refine LA.alt [6] (by kernel_rfl) (by decide) ⟨⟨_, rfl, ?_⟩, trivial⟩
      refine L.step (Ev.nilCheck rfl (Src.o 1 rfl) (by rw [I64_len, decTo_len]; decide)) rfl ?_
      refine L.nil (QE.a (by kernel_rfl) ?_)
      refine LA.alt [7] (by kernel_rfl) (by decide) ⟨⟨_, rfl, ?_⟩, trivial⟩
      refine L.store (j := 1) rfl rfl rfl rfl rfl rfl rfl (by exact I64_get (by rw [decTo_len]; omega)) ?_
      refine L.nil (QE.a (by kernel_rfl) ?_)
      refine LA.nil (by kernel_rfl) ?_
      refine QE.joined ((A', c')) (by exact ⟨hk1, hcc'⟩) (by exact Le.mk' (rs := [0]) (hs := [0, 1, 2]) ⟨rfl, rfl, rfl, rfl, rfl, trivial⟩ ⟨rfl, trivial⟩ ⟨rfl, (by rw [← decTo_set (l := l) (k := k) (by omega), ← I64_set]; rfl), rfl, trivial⟩ (by decide))
     ·
      refine L.step (Ev.fieldAddr rfl rfl rfl rfl rfl rfl (Src.o 3 rfl) (Nat.zero_lt_succ _) rfl) rfl ?_
      refine L.nil (QE.a (by kernel_rfl) ?_)
      refine LA.alt [1, 4] (by kernel_rfl) (by decide) ⟨⟨_, rfl, ?_⟩, ⟨_, rfl, ?_⟩, trivial⟩
      ·
       refine L.step (Ev.load rfl rfl rfl (Src.o 3 rfl) rfl) rfl ?_
       refine L.nil (QE.a (by kernel_rfl) ?_)
       refine LA.alt [4] (by kernel_rfl) (by decide) ⟨⟨_, rfl, ?_⟩, trivial⟩
       refine L.step (Ev.load rfl rfl rfl (Src.o 3 rfl) rfl) rfl ?_
       refine L.nil (QE.a (by kernel_rfl) ?_)
       refine LA.alt [5] (by kernel_rfl) (by decide) ⟨⟨_, rfl, ?_⟩, trivial⟩
       refine L.callER (js := [0]) (js' := [1, 2, 3]) (takeJ_c D A (l.drop (2 * offK (k))) c (wds.getD k 0) hcc (by rw [List.length_drop]; omega) hw.2) rfl rfl rfl (by decide) (Hq [0] rfl) rfl ?_ ?_
       rotate_left
       ·
        rintro _ _ ⟨hk1, u, rfl, rfl⟩
        refine QE.aP ?_; refine QE.jP ?_; refine QE.bP (QE.tP (QE.tP (QE.bP ?_)))
        refine QE.panE (js := []) (hs := [0, 1]) (by decide) ⟨rfl, ?_⟩
        exact ⟨u, _, ⟨codeTo_bad (k := offK k + wds.getD k 0) ho (by rw [← codeTo_drop hk]; exact hk1), _, decTo_len l k, rfl⟩, rfl, rfl⟩
       rintro _ _ _ ⟨hk1, A', c', hcc', rfl, rfl, rfl⟩
       refine L.nil (QE.a (by kernel_rfl) ?_)
       refine LA.alt [6] (by kernel_rfl) (by decide) ⟨⟨_, rfl, ?_⟩, trivial⟩
       refine L.step (Ev.nilCheck rfl (Src.o 1 rfl) (by rw [I64_len, decTo_len]; decide)) rfl ?_
       refine L.nil (QE.a (by kernel_rfl) ?_)
       refine LA.alt [7] (by kernel_rfl) (by decide) ⟨⟨_, rfl, ?_⟩, trivial⟩
       refine L.store (j := 1) rfl rfl rfl rfl rfl rfl rfl (by exact I64_get (by rw [decTo_len]; omega)) ?_
       refine L.nil (QE.a (by kernel_rfl) ?_)
       refine LA.nil (by kernel_rfl) ?_
       refine QE.joined ((A', c')) (by exact ⟨hk1, hcc'⟩) (by exact Le.mk' (rs := [0]) (hs := [0, 1, 2]) ⟨rfl, rfl, rfl, rfl, rfl, trivial⟩ ⟨rfl, trivial⟩ ⟨rfl, (by rw [← decTo_set (l := l) (k := k) (by omega), ← I64_set]; rfl), rfl, trivial⟩ (by decide))
      ·
       refine L.step (Ev.load rfl rfl rfl (Src.o 3 rfl) rfl) rfl ?_
       refine L.nil (QE.a (by kernel_rfl) ?_)
       refine LA.alt [1, 5] (by kernel_rfl) (by decide) ⟨⟨_, rfl, ?_⟩, ⟨_, rfl, ?_⟩, trivial⟩
       ·
        refine L.step (Ev.load rfl rfl rfl (Src.o 3 rfl) rfl) rfl ?_
        refine L.nil (QE.a (by kernel_rfl) ?_)
        refine LA.alt [5] (by kernel_rfl) (by decide) ⟨⟨_, rfl, ?_⟩, trivial⟩
        refine L.callER (js := [0]) (js' := [1, 2, 3]) (takeJ_c D A (l.drop (2 * offK (k))) c (wds.getD k 0) hcc (by rw [List.length_drop]; omega) hw.2) rfl rfl rfl (by decide) (Hq [0] rfl) rfl ?_ ?_
        rotate_left
        ·
         rintro _ _ ⟨hk1, u, rfl, rfl⟩
         refine QE.aP ?_; refine QE.jP ?_; refine QE.bP (QE.tP (QE.tP (QE.bP ?_)))
         refine QE.panE (js := []) (hs := [0, 1]) (by decide) ⟨rfl, ?_⟩
         exact ⟨u, _, ⟨codeTo_bad (k := offK k + wds.getD k 0) ho (by rw [← codeTo_drop hk]; exact hk1), _, decTo_len l k, rfl⟩, rfl, rfl⟩
        rintro _ _ _ ⟨hk1, A', c', hcc', rfl, rfl, rfl⟩
        refine L.nil (QE.a (by kernel_rfl) ?_)
        refine LA.alt [6] (by kernel_rfl) (by decide) ⟨⟨_, rfl, ?_⟩, trivial⟩
        refine L.step (Ev.nilCheck rfl (Src.o 1 rfl) (by rw [I64_len, decTo_len]; decide)) rfl ?_
        refine L.nil (QE.a (by kernel_rfl) ?_)
        refine LA.alt [7] (by kernel_rfl) (by decide) ⟨⟨_, rfl, ?_⟩, trivial⟩
        refine L.store (j := 1) rfl rfl rfl rfl rfl rfl rfl (by exact I64_get (by rw [decTo_len]; omega)) ?_
        refine L.nil (QE.a (by kernel_rfl) ?_)
        refine LA.nil (by kernel_rfl) ?_
        refine QE.joined ((A', c')) (by exact ⟨hk1, hcc'⟩) (by exact Le.mk' (rs := [0]) (hs := [0, 1, 2]) ⟨rfl, rfl, rfl, rfl, rfl, trivial⟩ ⟨rfl, trivial⟩ ⟨rfl, (by rw [← decTo_set (l := l) (k := k) (by omega), ← I64_set]; rfl), rfl, trivial⟩ (by decide))
       ·
        refine L.callER (js := [0]) (js' := [1, 2, 3]) (takeJ_c D A (l.drop (2 * offK (k))) c (wds.getD k 0) hcc (by rw [List.length_drop]; omega) hw.2) rfl rfl rfl (by decide) (Hq [0] rfl) rfl ?_ ?_
        rotate_left
        ·
         rintro _ _ ⟨hk1, u, rfl, rfl⟩
         refine QE.aP ?_; refine QE.jP ?_; refine QE.bP (QE.tP (QE.tP (QE.bP ?_)))
         refine QE.panE (js := []) (hs := [0, 1]) (by decide) ⟨rfl, ?_⟩
         exact ⟨u, _, ⟨codeTo_bad (k := offK k + wds.getD k 0) ho (by rw [← codeTo_drop hk]; exact hk1), _, decTo_len l k, rfl⟩, rfl, rfl⟩
        rintro _ _ _ ⟨hk1, A', c', hcc', rfl, rfl, rfl⟩
        refine L.nil (QE.a (by kernel_rfl) ?_)
        refine LA.alt [1] (by kernel_rfl) (by decide) ⟨⟨_, rfl, ?_⟩, trivial⟩
        refine L.step (Ev.load rfl rfl rfl (Src.o 3 rfl) rfl) rfl ?_
        refine L.nil (QE.a (by kernel_rfl) ?_)
        refine LA.alt [6] (by kernel_rfl) (by decide) ⟨⟨_, rfl, ?_⟩, trivial⟩
        refine L.step (Ev.nilCheck rfl (Src.o 1 rfl) (by rw [I64_len, decTo_len]; decide)) rfl ?_
        refine L.nil (QE.a (by kernel_rfl) ?_)
        refine LA.alt [7] (by kernel_rfl) (by decide) ⟨⟨_, rfl, ?_⟩, trivial⟩
        refine L.store (j := 1) rfl rfl rfl rfl rfl rfl rfl (by exact I64_get (by rw [decTo_len]; omega)) ?_
        refine L.nil (QE.a (by kernel_rfl) ?_)
        refine LA.nil (by kernel_rfl) ?_
        refine QE.joined ((A', c')) (by exact ⟨hk1, hcc'⟩) (by exact Le.mk' (rs := [0]) (hs := [0, 1, 2]) ⟨rfl, rfl, rfl, rfl, rfl, trivial⟩ ⟨rfl, trivial⟩ ⟨rfl, (by rw [← decTo_set (l := l) (k := k) (by omega), ← I64_set]; rfl), rfl, trivial⟩ (by decide))
    ·
     refine L.step (Ev.fieldAddr rfl rfl rfl rfl rfl rfl (Src.o 3 rfl) (Nat.zero_lt_succ _) rfl) rfl ?_
     refine L.nil (QE.a (by kernel_rfl) ?_)
     refine LA.alt [0, 4] (by kernel_rfl) (by decide) ⟨⟨_, rfl, ?_⟩, ⟨_, rfl, ?_⟩, trivial⟩
     ·
      refine L.step (Ev.fieldAddr rfl rfl rfl rfl rfl rfl (Src.o 3 rfl) (Nat.zero_lt_succ _) rfl) rfl ?_
      refine L.nil (QE.a (by kernel_rfl) ?_)
      refine LA.alt [1, 4] (by kernel_rfl) (by decide) ⟨⟨_, rfl, ?_⟩, ⟨_, rfl, ?_⟩, trivial⟩
      ·
       refine L.step (Ev.load rfl rfl rfl (Src.o 3 rfl) rfl) rfl ?_
       refine L.nil (QE.a (by kernel_rfl) ?_)
       refine LA.alt [4] (by kernel_rfl) (by decide) ⟨⟨_, rfl, ?_⟩, trivial⟩
       refine L.step (Ev.load rfl rfl rfl (Src.o 3 rfl) rfl) rfl ?_
       refine L.nil (QE.a (by kernel_rfl) ?_)
       refine LA.alt [5] (by kernel_rfl) (by decide) ⟨⟨_, rfl, ?_⟩, trivial⟩
       refine L.callER (js := [0]) (js' := [1, 2, 3]) (takeJ_c D A (l.drop (2 * offK (k))) c (wds.getD k 0) hcc (by rw [List.length_drop]; omega) hw.2) rfl rfl rfl (by decide) (Hq [0] rfl) rfl ?_ ?_
       rotate_left
       ·
        rintro _ _ ⟨hk1, u, rfl, rfl⟩
        refine QE.aP ?_; refine QE.jP ?_; refine QE.bP (QE.tP (QE.tP (QE.bP ?_)))
        refine QE.panE (js := []) (hs := [0, 1]) (by decide) ⟨rfl, ?_⟩
        exact ⟨u, _, ⟨codeTo_bad (k := offK k + wds.getD k 0) ho (by rw [← codeTo_drop hk]; exact hk1), _, decTo_len l k, rfl⟩, rfl, rfl⟩
       rintro _ _ _ ⟨hk1, A', c', hcc', rfl, rfl, rfl⟩
       refine L.nil (QE.a (by kernel_rfl) ?_)
       refine LA.alt [6] (by kernel_rfl) (by decide) ⟨⟨_, rfl, ?_⟩, trivial⟩
       refine L.step (Ev.nilCheck rfl (Src.o 1 rfl) (by rw [I64_len, decTo_len]; decide)) rfl ?_
       refine L.nil (QE.a (by kernel_rfl) ?_)
       refine LA.alt [7] (by kernel_rfl) (by decide) ⟨⟨_, rfl, ?_⟩, trivial⟩
       refine L.store (j := 1) rfl rfl rfl rfl rfl rfl rfl (by exact I64_get (by rw [decTo_len]; omega)) ?_
       refine L.nil (QE.a (by kernel_rfl) ?_)
       refine LA.nil (by kernel_rfl) ?_
       refine QE.joined ((A', c')) (by exact ⟨hk1, hcc'⟩) (by exact Le.mk' (rs := [0]) (hs := [0, 1, 2]) ⟨rfl, rfl, rfl, rfl, rfl, trivial⟩ ⟨rfl, trivial⟩ ⟨rfl, (by rw [← decTo_set (l := l) (k := k) (by omega), ← I64_set]; rfl), rfl, trivial⟩ (by decide))
      ·
       refine L.step (Ev.load rfl rfl rfl (Src.o 3 rfl) rfl) rfl ?_
       refine L.nil (QE.a (by kernel_rfl) ?_)
       refine LA.alt [1, 5] (by kernel_rfl) (by decide) ⟨⟨_, rfl, ?_⟩, ⟨_, rfl, ?_⟩, trivial⟩
       ·
        refine L.step (Ev.load rfl rfl rfl (Src.o 3 rfl) rfl) rfl ?_
        refine L.nil (QE.a (by kernel_rfl) ?_)
        refine LA.alt [5] (by kernel_rfl) (by decide) ⟨⟨_, rfl, ?_⟩, trivial⟩
        refine L.callER (js := [0]) (js' := [1, 2, 3]) (takeJ_c D A (l.drop (2 * offK (k))) c (wds.getD k 0) hcc (by rw [List.length_drop]; omega) hw.2) rfl rfl rfl (by decide) (Hq [0] rfl) rfl ?_ ?_
        rotate_left
        ·
         rintro _ _ ⟨hk1, u, rfl, rfl⟩
         refine QE.aP ?_; refine QE.jP ?_; refine QE.bP (QE.tP (QE.tP (QE.bP ?_)))
         refine QE.panE (js := []) (hs := [0, 1]) (by decide) ⟨rfl, ?_⟩
         exact ⟨u, _, ⟨codeTo_bad (k := offK k + wds.getD k 0) ho (by rw [← codeTo_drop hk]; exact hk1), _, decTo_len l k, rfl⟩, rfl, rfl⟩
        rintro _ _ _ ⟨hk1, A', c', hcc', rfl, rfl, rfl⟩
        refine L.nil (QE.a (by kernel_rfl) ?_)
        refine LA.alt [6] (by kernel_rfl) (by decide) ⟨⟨_, rfl, ?_⟩, trivial⟩
        refine L.step (Ev.nilCheck rfl (Src.o 1 rfl) (by rw [I64_len, decTo_len]; decide)) rfl ?_
        refine L.nil (QE.a (by kernel_rfl) ?_)
        refine LA.alt [7] (by kernel_rfl) (by decide) ⟨⟨_, rfl, ?_⟩, trivial⟩
        refine L.store (j := 1) rfl rfl rfl rfl rfl rfl rfl (by exact I64_get (by rw [decTo_len]; omega)) ?_
        refine L.nil (QE.a (by kernel_rfl) ?_)
        refine LA.nil (by kernel_rfl) ?_
        refine QE.joined ((A', c')) (by exact ⟨hk1, hcc'⟩) (by exact Le.mk' (rs := [0]) (hs := [0, 1, 2]) ⟨rfl, rfl, rfl, rfl, rfl, trivial⟩ ⟨rfl, trivial⟩ ⟨rfl, (by rw [← decTo_set (l := l) (k := k) (by omega), ← I64_set]; rfl), rfl, trivial⟩ (by decide))
       ·
        refine L.callER (js := [0]) (js' := [1, 2, 3]) (takeJ_c D A (l.drop (2 * offK (k))) c (wds.getD k 0) hcc (by rw [List.length_drop]; omega) hw.2) rfl rfl rfl (by decide) (Hq [0] rfl) rfl ?_ ?_
        rotate_left
        ·
         rintro _ _ ⟨hk1, u, rfl, rfl⟩
         refine QE.aP ?_; refine QE.jP ?_; refine QE.bP (QE.tP (QE.tP (QE.bP ?_)))
         refine QE.panE (js := []) (hs := [0, 1]) (by decide) ⟨rfl, ?_⟩
         exact ⟨u, _, ⟨codeTo_bad (k := offK k + wds.getD k 0) ho (by rw [← codeTo_drop hk]; exact hk1), _, decTo_len l k, rfl⟩, rfl, rfl⟩
        rintro _ _ _ ⟨hk1, A', c', hcc', rfl, rfl, rfl⟩
        refine L.nil (QE.a (by kernel_rfl) ?_)
        refine LA.alt [1] (by kernel_rfl) (by decide) ⟨⟨_, rfl, ?_⟩, trivial⟩
        refine L.step (Ev.load rfl rfl rfl (Src.o 3 rfl) rfl) rfl ?_
        refine L.nil (QE.a (by kernel_rfl) ?_)
        refine LA.alt [6] (by kernel_rfl) (by decide) ⟨⟨_, rfl, ?_⟩, trivial⟩
        refine L.step (Ev.nilCheck rfl (Src.o 1 rfl) (by rw [I64_len, decTo_len]; decide)) rfl ?_
        refine L.nil (QE.a (by kernel_rfl) ?_)
        refine LA.alt [7] (by kernel_rfl) (by decide) ⟨⟨_, rfl, ?_⟩, trivial⟩
        refine L.store (j := 1) rfl rfl rfl rfl rfl rfl rfl (by exact I64_get (by rw [decTo_len]; omega)) ?_
        refine L.nil (QE.a (by kernel_rfl) ?_)
        refine LA.nil (by kernel_rfl) ?_
        refine QE.joined ((A', c')) (by exact ⟨hk1, hcc'⟩) (by exact Le.mk' (rs := [0]) (hs := [0, 1, 2]) ⟨rfl, rfl, rfl, rfl, rfl, trivial⟩ ⟨rfl, trivial⟩ ⟨rfl, (by rw [← decTo_set (l := l) (k := k) (by omega), ← I64_set]; rfl), rfl, trivial⟩ (by decide))
     ·
      refine L.step (Ev.load rfl rfl rfl (Src.o 3 rfl) rfl) rfl ?_
      refine L.nil (QE.a (by kernel_rfl) ?_)
      refine LA.alt [0, 5] (by kernel_rfl) (by decide) ⟨⟨_, rfl, ?_⟩, ⟨_, rfl, ?_⟩, trivial⟩
      ·
       refine L.step (Ev.fieldAddr rfl rfl rfl rfl rfl rfl (Src.o 3 rfl) (Nat.zero_lt_succ _) rfl) rfl ?_
       refine L.nil (QE.a (by kernel_rfl) ?_)
       refine LA.alt [1, 5] (by kernel_rfl) (by decide) ⟨⟨_, rfl, ?_⟩, ⟨_, rfl, ?_⟩, trivial⟩
       ·
        refine L.step (Ev.load rfl rfl rfl (Src.o 3 rfl) rfl) rfl ?_
        refine L.nil (QE.a (by kernel_rfl) ?_)
        refine LA.alt [5] (by kernel_rfl) (by decide) ⟨⟨_, rfl, ?_⟩, trivial⟩
        refine L.callER (js := [0]) (js' := [1, 2, 3]) (takeJ_c D A (l.drop (2 * offK (k))) c (wds.getD k 0) hcc (by rw [List.length_drop]; omega) hw.2) rfl rfl rfl (by decide) (Hq [0] rfl) rfl ?_ ?_
        rotate_left
        ·
         rintro _ _ ⟨hk1, u, rfl, rfl⟩
         refine QE.aP ?_; refine QE.jP ?_; refine QE.bP (QE.tP (QE.tP (QE.bP ?_)))
         refine QE.panE (js := []) (hs := [0, 1]) (by decide) ⟨rfl, ?_⟩
         exact ⟨u, _, ⟨codeTo_bad (k := offK k + wds.getD k 0) ho (by rw [← codeTo_drop hk]; exact hk1), _, decTo_len l k, rfl⟩, rfl, rfl⟩
        rintro _ _ _ ⟨hk1, A', c', hcc', rfl, rfl, rfl⟩
        refine L.nil (QE.a (by kernel_rfl) ?_)
        refine LA.alt [6] (by kernel_rfl) (by decide) ⟨⟨_, rfl, ?_⟩, trivial⟩
        refine L.step (Ev.nilCheck rfl (Src.o 1 rfl) (by rw [I64_len, decTo_len]; decide)) rfl ?_
        refine L.nil (QE.a (by kernel_rfl) ?_)
        refine LA.alt [7] (by kernel_rfl) (by decide) ⟨⟨_, rfl, ?_⟩, trivial⟩
        refine L.store (j := 1) rfl rfl rfl rfl rfl rfl rfl (by exact I64_get (by rw [decTo_len]; omega)) ?_
        refine L.nil (QE.a (by kernel_rfl) ?_)
        refine LA.nil (by kernel_rfl) ?_
        refine QE.joined ((A', c')) (by exact ⟨hk1, hcc'⟩) (by exact Le.mk' (rs := [0]) (hs := [0, 1, 2]) ⟨rfl, rfl, rfl, rfl, rfl, trivial⟩ ⟨rfl, trivial⟩ ⟨rfl, (by rw [← decTo_set (l := l) (k := k) (by omega), ← I64_set]; rfl), rfl, trivial⟩ (by decide))
       ·
        refine L.callER (js := [0]) (js' := [1, 2, 3]) (takeJ_c D A (l.drop (2 * offK (k))) c (wds.getD k 0) hcc (by rw [List.length_drop]; omega) hw.2) rfl rfl rfl (by decide) (Hq [0] rfl) rfl ?_ ?_
        rotate_left
        ·
         rintro _ _ ⟨hk1, u, rfl, rfl⟩
         refine QE.aP ?_; refine QE.jP ?_; refine QE.bP (QE.tP (QE.tP (QE.bP ?_)))
         refine QE.panE (js := []) (hs := [0, 1]) (by decide) ⟨rfl, ?_⟩
         exact ⟨u, _, ⟨codeTo_bad (k := offK k + wds.getD k 0) ho (by rw [← codeTo_drop hk]; exact hk1), _, decTo_len l k, rfl⟩, rfl, rfl⟩
        rintro _ _ _ ⟨hk1, A', c', hcc', rfl, rfl, rfl⟩
        refine L.nil (QE.a (by kernel_rfl) ?_)
        refine LA.alt [1] (by kernel_rfl) (by decide) ⟨⟨_, rfl, ?_⟩, trivial⟩
        refine L.step (Ev.load rfl rfl rfl (Src.o 3 rfl) rfl) rfl ?_
        refine L.nil (QE.a (by kernel_rfl) ?_)
        refine LA.alt [6] (by kernel_rfl) (by decide) ⟨⟨_, rfl, ?_⟩, trivial⟩
        refine L.step (Ev.nilCheck rfl (Src.o 1 rfl) (by rw [I64_len, decTo_len]; decide)) rfl ?_
        refine L.nil (QE.a (by kernel_rfl) ?_)
        refine LA.alt [7] (by kernel_rfl) (by decide) ⟨⟨_, rfl, ?_⟩, trivial⟩
        refine L.store (j := 1) rfl rfl rfl rfl rfl rfl rfl (by exact I64_get (by rw [decTo_len]; omega)) ?_
        refine L.nil (QE.a (by kernel_rfl) ?_)
        refine LA.nil (by kernel_rfl) ?_
        refine QE.joined ((A', c')) (by exact ⟨hk1, hcc'⟩) (by exact Le.mk' (rs := [0]) (hs := [0, 1, 2]) ⟨rfl, rfl, rfl, rfl, rfl, trivial⟩ ⟨rfl, trivial⟩ ⟨rfl, (by rw [← decTo_set (l := l) (k := k) (by omega), ← I64_set]; rfl), rfl, trivial⟩ (by decide))
      ·
       refine L.callER (js := [0]) (js' := [1, 2, 3]) (takeJ_c D A (l.drop (2 * offK (k))) c (wds.getD k 0) hcc (by rw [List.length_drop]; omega) hw.2) rfl rfl rfl (by decide) (Hq [0] rfl) rfl ?_ ?_
       rotate_left
       ·
        rintro _ _ ⟨hk1, u, rfl, rfl⟩
        refine QE.aP ?_; refine QE.jP ?_; refine QE.bP (QE.tP (QE.tP (QE.bP ?_)))
        refine QE.panE (js := []) (hs := [0, 1]) (by decide) ⟨rfl, ?_⟩
        exact ⟨u, _, ⟨codeTo_bad (k := offK k + wds.getD k 0) ho (by rw [← codeTo_drop hk]; exact hk1), _, decTo_len l k, rfl⟩, rfl, rfl⟩
       rintro _ _ _ ⟨hk1, A', c', hcc', rfl, rfl, rfl⟩
       refine L.nil (QE.a (by kernel_rfl) ?_)
       refine LA.alt [0] (by kernel_rfl) (by decide) ⟨⟨_, rfl, ?_⟩, trivial⟩
       refine L.step (Ev.fieldAddr rfl rfl rfl rfl rfl rfl (Src.o 3 rfl) (Nat.zero_lt_succ _) rfl) rfl ?_
       refine L.nil (QE.a (by kernel_rfl) ?_)
       refine LA.alt [1] (by kernel_rfl) (by decide) ⟨⟨_, rfl, ?_⟩, trivial⟩
       refine L.step (Ev.load rfl rfl rfl (Src.o 3 rfl) rfl) rfl ?_
       refine L.nil (QE.a (by kernel_rfl) ?_)
       refine LA.alt [6] (by kernel_rfl) (by decide) ⟨⟨_, rfl, ?_⟩, trivial⟩
       refine L.step (Ev.nilCheck rfl (Src.o 1 rfl) (by rw [I64_len, decTo_len]; decide)) rfl ?_
       refine L.nil (QE.a (by kernel_rfl) ?_)
       refine LA.alt [7] (by kernel_rfl) (by decide) ⟨⟨_, rfl, ?_⟩, trivial⟩
       refine L.store (j := 1) rfl rfl rfl rfl rfl rfl rfl (by exact I64_get (by rw [decTo_len]; omega)) ?_
       refine L.nil (QE.a (by kernel_rfl) ?_)
       refine LA.nil (by kernel_rfl) ?_
       refine QE.joined ((A', c')) (by exact ⟨hk1, hcc'⟩) (by exact Le.mk' (rs := [0]) (hs := [0, 1, 2]) ⟨rfl, rfl, rfl, rfl, rfl, trivial⟩ ⟨rfl, trivial⟩ ⟨rfl, (by rw [← decTo_set (l := l) (k := k) (by omega), ← I64_set]; rfl), rfl, trivial⟩ (by decide))
   ·
    refine L.step (Ev.fieldAddr rfl rfl rfl rfl rfl rfl (Src.o 3 rfl) (Nat.zero_lt_succ _) rfl) rfl ?_
    refine L.nil (QE.a (by kernel_rfl) ?_)
    refine LA.alt [0, 2, 4] (by kernel_rfl) (by decide) ⟨⟨_, rfl, ?_⟩, ⟨_, rfl, ?_⟩, ⟨_, rfl, ?_⟩, trivial⟩
    ·
     refine L.step (Ev.fieldAddr rfl rfl rfl rfl rfl rfl (Src.o 3 rfl) (Nat.zero_lt_succ _) rfl) rfl ?_
     refine L.nil (QE.a (by kernel_rfl) ?_)
     refine LA.alt [1, 2, 4] (by kernel_rfl) (by decide) ⟨⟨_, rfl, ?_⟩, ⟨_, rfl, ?_⟩, ⟨_, rfl, ?_⟩, trivial⟩
     ·
      refine L.step (Ev.load rfl rfl rfl (Src.o 3 rfl) rfl) rfl ?_
      refine L.nil (QE.a (by kernel_rfl) ?_)
      refine LA.alt [2, 4] (by kernel_rfl) (by decide) ⟨⟨_, rfl, ?_⟩, ⟨_, rfl, ?_⟩, trivial⟩
      ·
       refine Lpu rfl rfl ?_
       refine L.nil (QE.a (by kernel_rfl) ?_)
       refine LA.alt [4] (by kernel_rfl) (by decide) ⟨⟨_, rfl, ?_⟩, trivial⟩
       refine L.step (Ev.load rfl rfl rfl (Src.o 3 rfl) rfl) rfl ?_
       refine L.nil (QE.a (by kernel_rfl) ?_)
       refine LA.alt [5] (by kernel_rfl) (by decide) ⟨⟨_, rfl, ?_⟩, trivial⟩
       refine L.callER (js := [0]) (js' := [1, 2, 3]) (takeJ_c D A (l.drop (2 * offK (k))) c (wds.getD k 0) hcc (by rw [List.length_drop]; omega) hw.2) rfl rfl rfl (by decide) (Hq [0] rfl) rfl ?_ ?_
       rotate_left
       ·
        rintro _ _ ⟨hk1, u, rfl, rfl⟩
        refine QE.aP ?_; refine QE.jP ?_; refine QE.bP (QE.tP (QE.tP (QE.bP ?_)))
        refine QE.panE (js := []) (hs := [0, 1]) (by decide) ⟨rfl, ?_⟩
        exact ⟨u, _, ⟨codeTo_bad (k := offK k + wds.getD k 0) ho (by rw [← codeTo_drop hk]; exact hk1), _, decTo_len l k, rfl⟩, rfl, rfl⟩
       rintro _ _ _ ⟨hk1, A', c', hcc', rfl, rfl, rfl⟩
       refine L.nil (QE.a (by kernel_rfl) ?_)
       refine LA.alt [6] (by kernel_rfl) (by decide) ⟨⟨_, rfl, ?_⟩, trivial⟩
       refine L.step (Ev.nilCheck rfl (Src.o 1 rfl) (by rw [I64_len, decTo_len]; decide)) rfl ?_
       refine L.nil (QE.a (by kernel_rfl) ?_)
       refine LA.alt [7] (by kernel_rfl) (by decide) ⟨⟨_, rfl, ?_⟩, trivial⟩
       refine L.store (j := 1) rfl rfl rfl rfl rfl rfl rfl (by exact I64_get (by rw [decTo_len]; omega)) ?_
       refine L.nil (QE.a (by kernel_rfl) ?_)
       refine LA.nil (by kernel_rfl) ?_
       refine QE.joined ((A', c')) (by exact ⟨hk1, hcc'⟩) (by exact Le.mk' (rs := [0]) (hs := [0, 1, 2]) ⟨rfl, rfl, rfl, rfl, rfl, trivial⟩ ⟨rfl, trivial⟩ ⟨rfl, (by rw [← decTo_set (l := l) (k := k) (by omega), ← I64_set]; rfl), rfl, trivial⟩ (by decide))
      ·
       refine L.step (Ev.load rfl rfl rfl (Src.o 3 rfl) rfl) rfl ?_
       refine L.nil (QE.a (by kernel_rfl) ?_)
       refine LA.alt [2] (by kernel_rfl) (by decide) ⟨⟨_, rfl, ?_⟩, trivial⟩
       refine Lpu rfl rfl ?_
       refine L.nil (QE.a (by kernel_rfl) ?_)
       refine LA.alt [5] (by kernel_rfl) (by decide) ⟨⟨_, rfl, ?_⟩, trivial⟩
       refine L.callER (js := [0]) (js' := [1, 2, 3]) (takeJ_c D A (l.drop (2 * offK (k))) c (wds.getD k 0) hcc (by rw [List.length_drop]; omega) hw.2) rfl rfl rfl (by decide) (Hq [0] rfl) rfl ?_ ?_
       rotate_left
       ·
        rintro _ _ ⟨hk1, u, rfl, rfl⟩
        refine QE.aP ?_; refine QE.jP ?_; refine QE.bP (QE.tP (QE.tP (QE.bP ?_)))
        refine QE.panE (js := []) (hs := [0, 1]) (by decide) ⟨rfl, ?_⟩
        exact ⟨u, _, ⟨codeTo_bad (k := offK k + wds.getD k 0) ho (by rw [← codeTo_drop hk]; exact hk1), _, decTo_len l k, rfl⟩, rfl, rfl⟩
       rintro _ _ _ ⟨hk1, A', c', hcc', rfl, rfl, rfl⟩
       refine L.nil (QE.a (by kernel_rfl) ?_)
       refine LA.alt [6] (by kernel_rfl) (by decide) ⟨⟨_, rfl, ?_⟩, trivial⟩
       refine L.step (Ev.nilCheck rfl (Src.o 1 rfl) (by rw [I64_len, decTo_len]; decide)) rfl ?_
       refine L.nil (QE.a (by kernel_rfl) ?_)
       refine LA.alt [7] (by kernel_rfl) (by decide) ⟨⟨_, rfl, ?_⟩, trivial⟩
       refine L.store (j := 1) rfl rfl rfl rfl rfl rfl rfl (by exact I64_get (by rw [decTo_len]; omega)) ?_
       refine L.nil (QE.a (by kernel_rfl) ?_)
       refine LA.nil (by kernel_rfl) ?_
       refine QE.joined ((A', c')) (by exact ⟨hk1, hcc'⟩) (by exact Le.mk' (rs := [0]) (hs := [0, 1, 2]) ⟨rfl, rfl, rfl, rfl, rfl, trivial⟩ ⟨rfl, trivial⟩ ⟨rfl, (by rw [← decTo_set (l := l) (k := k) (by omega), ← I64_set]; rfl), rfl, trivial⟩ (by decide))
     ·
      refine Lpu rfl rfl ?_
      refine L.nil (QE.a (by kernel_rfl) ?_)
      refine LA.alt [1, 4] (by kernel_rfl) (by decide) ⟨⟨_, rfl, ?_⟩, ⟨_, rfl, ?_⟩, trivial⟩
      ·
       refine L.step (Ev.load rfl rfl rfl (Src.o 3 rfl) rfl) rfl ?_
       refine L.nil (QE.a (by kernel_rfl) ?_)
       refine LA.alt [4] (by kernel_rfl) (by decide) ⟨⟨_, rfl, ?_⟩, trivial⟩
       refine L.step (Ev.load rfl rfl rfl (Src.o 3 rfl) rfl) rfl ?_
       refine L.nil (QE.a (by kernel_rfl) ?_)
       refine LA.alt [5] (by kernel_rfl) (by decide) ⟨⟨_, rfl, ?_⟩, trivial⟩
       refine L.callER (js := [0]) (js' := [1, 2, 3]) (takeJ_c D A (l.drop (2 * offK (k))) c (wds.getD k 0) hcc (by rw [List.length_drop]; omega) hw.2) rfl rfl rfl (by decide) (Hq [0] rfl) rfl ?_ ?_
       rotate_left
       ·
        rintro _ _ ⟨hk1, u, rfl, rfl⟩
        refine QE.aP ?_; refine QE.jP ?_; refine QE.bP (QE.tP (QE.tP (QE.bP ?_)))
        refine QE.panE (js := []) (hs := [0, 1]) (by decide) ⟨rfl, ?_⟩
        exact ⟨u, _, ⟨codeTo_bad (k := offK k + wds.getD k 0) ho (by rw [← codeTo_drop hk]; exact hk1), _, decTo_len l k, rfl⟩, rfl, rfl⟩
       rintro _ _ _ ⟨hk1, A', c', hcc', rfl, rfl, rfl⟩
       refine L.nil (QE.a (by kernel_rfl) ?_)
       refine LA.alt [6] (by kernel_rfl) (by decide) ⟨⟨_, rfl, ?_⟩, trivial⟩
       refine L.step (Ev.nilCheck rfl (Src.o 1 rfl) (by rw [I64_len, decTo_len]; decide)) rfl ?_
       refine L.nil (QE.a (by kernel_rfl) ?_)
       refine LA.alt [7] (by kernel_rfl) (by decide) ⟨⟨_, rfl, ?_⟩, trivial⟩
       refine L.store (j := 1) rfl rfl rfl rfl rfl rfl rfl (by exact I64_get (by rw [decTo_len]; omega)) ?_
       refine L.nil (QE.a (by kernel_rfl) ?_)
       refine LA.nil (by kernel_rfl) ?_
       refine QE.joined ((A', c')) (by exact ⟨hk1, hcc'⟩) (by exact Le.mk' (rs := [0]) (hs := [0, 1, 2]) ⟨rfl, rfl, rfl, rfl, rfl, trivial⟩ ⟨rfl, trivial⟩ ⟨rfl, (by rw [← decTo_set (l := l) (k := k) (by omega), ← I64_set]; rfl), rfl, trivial⟩ (by decide))
      ·
       refine L.step (Ev.load rfl rfl rfl (Src.o 3 rfl) rfl) rfl ?_
       refine L.nil (QE.a (by kernel_rfl) ?_)
       refine LA.alt [1, 5] (by kernel_rfl) (by decide) ⟨⟨_, rfl, ?_⟩, ⟨_, rfl, ?_⟩, trivial⟩
       ·
        refine L.step (Ev.load rfl rfl rfl (Src.o 3 rfl) rfl) rfl ?_
        refine L.nil (QE.a (by kernel_rfl) ?_)
        refine LA.alt [5] (by kernel_rfl) (by decide) ⟨⟨_, rfl, ?_⟩, trivial⟩
        refine L.callER (js := [0]) (js' := [1, 2, 3]) (takeJ_c D A (l.drop (2 * offK (k))) c (wds.getD k 0) hcc (by rw [List.length_drop]; omega) hw.2) rfl rfl rfl (by decide) (Hq [0] rfl) rfl ?_ ?_
        rotate_left
        ·
         rintro _ _ ⟨hk1, u, rfl, rfl⟩
         refine QE.aP ?_; refine QE.jP ?_; refine QE.bP (QE.tP (QE.tP (QE.bP ?_)))
         refine QE.panE (js := []) (hs := [0, 1]) (by decide) ⟨rfl, ?_⟩
         exact ⟨u, _, ⟨codeTo_bad (k := offK k + wds.getD k 0) ho (by rw [← codeTo_drop hk]; exact hk1), _, decTo_len l k, rfl⟩, rfl, rfl⟩
        rintro _ _ _ ⟨hk1, A', c', hcc', rfl, rfl, rfl⟩
        refine L.nil (QE.a (by kernel_rfl) ?_)
        refine LA.alt [6] (by kernel_rfl) (by decide) ⟨⟨_, rfl, ?_⟩, trivial⟩
        refine L.step (Ev.nilCheck rfl (Src.o 1 rfl) (by rw [I64_len, decTo_len]; decide)) rfl ?_
        refine L.nil (QE.a (by kernel_rfl) ?_)
        refine LA.alt [7] (by kernel_rfl) (by decide) ⟨⟨_, rfl, ?_⟩, trivial⟩
        refine L.store (j := 1) rfl rfl rfl rfl rfl rfl rfl (by exact I64_get (by rw [decTo_len]; omega)) ?_
        refine L.nil (QE.a (by kernel_rfl) ?_)
        refine LA.nil (by kernel_rfl) ?_
        refine QE.joined ((A', c')) (by exact ⟨hk1, hcc'⟩) (by exact Le.mk' (rs := [0]) (hs := [0, 1, 2]) ⟨rfl, rfl, rfl, rfl, rfl, trivial⟩ ⟨rfl, trivial⟩ ⟨rfl, (by rw [← decTo_set (l := l) (k := k) (by omega), ← I64_set]; rfl), rfl, trivial⟩ (by decide))
       ·
        refine L.callER (js := [0]) (js' := [1, 2, 3]) (takeJ_c D A (l.drop (2 * offK (k))) c (wds.getD k 0) hcc (by rw [List.length_drop]; omega) hw.2) rfl rfl rfl (by decide) (Hq [0] rfl) rfl ?_ ?_
        rotate_left
        ·
         rintro _ _ ⟨hk1, u, rfl, rfl⟩
         refine QE.aP ?_; refine QE.jP ?_; refine QE.bP (QE.tP (QE.tP (QE.bP ?_)))
         refine QE.panE (js := []) (hs := [0, 1]) (by decide) ⟨rfl, ?_⟩
         exact ⟨u, _, ⟨codeTo_bad (k := offK k + wds.getD k 0) ho (by rw [← codeTo_drop hk]; exact hk1), _, decTo_len l k, rfl⟩, rfl, rfl⟩
        rintro _ _ _ ⟨hk1, A', c', hcc', rfl, rfl, rfl⟩
        refine L.nil (QE.a (by kernel_rfl) ?_)
        refine LA.alt [1] (by kernel_rfl) (by decide) ⟨⟨_, rfl, ?_⟩, trivial⟩
        refine L.step (Ev.load rfl rfl rfl (Src.o 3 rfl) rfl) rfl ?_
        refine L.nil (QE.a (by kernel_rfl) ?_)
        refine LA.alt [6] (by kernel_rfl) (by decide) ⟨⟨_, rfl, ?_⟩, trivial⟩
        refine L.step (Ev.nilCheck rfl (Src.o 1 rfl) (by rw [I64_len, decTo_len]; decide)) rfl ?_
        refine L.nil (QE.a (by kernel_rfl) ?_)
        refine LA.alt [7] (by kernel_rfl) (by decide) ⟨⟨_, rfl, ?_⟩, trivial⟩
        refine L.store (j := 1) rfl rfl rfl rfl rfl rfl rfl (by exact I64_get (by rw [decTo_len]; omega)) ?_
        refine L.nil (QE.a (by kernel_rfl) ?_)
        refine LA.nil (by kernel_rfl) ?_
        refine QE.joined ((A', c')) (by exact ⟨hk1, hcc'⟩) (by exact Le.mk' (rs := [0]) (hs := [0, 1, 2]) ⟨rfl, rfl, rfl, rfl, rfl, trivial⟩ ⟨rfl, trivial⟩ ⟨rfl, (by rw [← decTo_set (l := l) (k := k) (by omega), ← I64_set]; rfl), rfl, trivial⟩ (by decide))
     ·
      refine L.step (Ev.load rfl rfl rfl (Src.o 3 rfl) rfl) rfl ?_
      refine L.nil (QE.a (by kernel_rfl) ?_)
      refine LA.alt [1, 2] (by kernel_rfl) (by decide) ⟨⟨_, rfl, ?_⟩, ⟨_, rfl, ?_⟩, trivial⟩
      ·
       refine L.step (Ev.load rfl rfl rfl (Src.o 3 rfl) rfl) rfl ?_
       refine L.nil (QE.a (by kernel_rfl) ?_)
       refine LA.alt [2] (by kernel_rfl) (by decide) ⟨⟨_, rfl, ?_⟩, trivial⟩
       refine Lpu rfl rfl ?_
       refine L.nil (QE.a (by kernel_rfl) ?_)
       refine LA.alt [5] (by kernel_rfl) (by decide) ⟨⟨_, rfl, ?_⟩, trivial⟩
       refine L.callER (js := [0]) (js' := [1, 2, 3]) (takeJ_c D A (l.drop (2 * offK (k))) c (wds.getD k 0) hcc (by rw [List.length_drop]; omega) hw.2) rfl rfl rfl (by decide) (Hq [0] rfl) rfl ?_ ?_
       rotate_left
       ·
        rintro _ _ ⟨hk1, u, rfl, rfl⟩
        refine QE.aP ?_; refine QE.jP ?_; refine QE.bP (QE.tP (QE.tP (QE.bP ?_)))
        refine QE.panE (js := []) (hs := [0, 1]) (by decide) ⟨rfl, ?_⟩
        exact ⟨u, _, ⟨codeTo_bad (k := offK k + wds.getD k 0) ho (by rw [← codeTo_drop hk]; exact hk1), _, decTo_len l k, rfl⟩, rfl, rfl⟩
       rintro _ _ _ ⟨hk1, A', c', hcc', rfl, rfl, rfl⟩
       refine L.nil (QE.a (by kernel_rfl) ?_)
       refine LA.alt [6] (by kernel_rfl) (by decide) ⟨⟨_, rfl, ?_⟩, trivial⟩
       refine L.step (Ev.nilCheck rfl (Src.o 1 rfl) (by rw [I64_len, decTo_len]; decide)) rfl ?_
       refine L.nil (QE.a (by kernel_rfl) ?_)
       refine LA.alt [7] (by kernel_rfl) (by decide) ⟨⟨_, rfl, ?_⟩, trivial⟩
       refine L.store (j := 1) rfl rfl rfl rfl rfl rfl rfl (by exact I64_get (by rw [decTo_len]; omega)) ?_
       refine L.nil (QE.a (by kernel_rfl) ?_)
       refine LA.nil (by kernel_rfl) ?_
       refine QE.joined ((A', c')) (by exact ⟨hk1, hcc'⟩) (by exact Le.mk' (rs := [0]) (hs := [0, 1, 2]) ⟨rfl, rfl, rfl, rfl, rfl, trivial⟩ ⟨rfl, trivial⟩ ⟨rfl, (by rw [← decTo_set (l := l) (k := k) (by omega), ← I64_set]; rfl), rfl, trivial⟩ (by decide))
      ·
       refine Lpu rfl rfl ?_
       refine L.nil (QE.a (by kernel_rfl) ?_)
       refine LA.alt [1, 5] (by kernel_rfl) (by decide) ⟨⟨_, rfl, ?_⟩, ⟨_, rfl, ?_⟩, trivial⟩
       ·
        refine L.step (Ev.load rfl rfl rfl (Src.o 3 rfl) rfl) rfl ?_
        refine L.nil (QE.a (by kernel_rfl) ?_)
        refine LA.alt [5] (by kernel_rfl) (by decide) ⟨⟨_, rfl, ?_⟩, trivial⟩
        refine L.callER (js := [0]) (js' := [1, 2, 3]) (takeJ_c D A (l.drop (2 * offK (k))) c (wds.getD k 0) hcc (by rw [List.length_drop]; omega) hw.2) rfl rfl rfl (by decide) (Hq [0] rfl) rfl ?_ ?_
        rotate_left
        ·
         rintro _ _ ⟨hk1, u, rfl, rfl⟩
         refine QE.aP ?_; refine QE.jP ?_; refine QE.bP (QE.tP (QE.tP (QE.bP ?_)))
         refine QE.panE (js := []) (hs := [0, 1]) (by decide) ⟨rfl, ?_⟩
         exact ⟨u, _, ⟨codeTo_bad (k := offK k + wds.getD k 0) ho (by rw [← codeTo_drop hk]; exact hk1), _, decTo_len l k, rfl⟩, rfl, rfl⟩
        rintro _ _ _ ⟨hk1, A', c', hcc', rfl, rfl, rfl⟩
        refine L.nil (QE.a (by kernel_rfl) ?_)
        refine LA.alt [6] (by kernel_rfl) (by decide) ⟨⟨_, rfl, ?_⟩, trivial⟩
        refine L.step (Ev.nilCheck rfl (Src.o 1 rfl) (by rw [I64_len, decTo_len]; decide)) rfl ?_
        refine L.nil (QE.a (by kernel_rfl) ?_)
        refine LA.alt [7] (by kernel_rfl) (by decide) ⟨⟨_, rfl, ?_⟩, trivial⟩
        refine L.store (j := 1) rfl rfl rfl rfl rfl rfl rfl (by exact I64_get (by rw [decTo_len]; omega)) ?_
        refine L.nil (QE.a (by kernel_rfl) ?_)
        refine LA.nil (by kernel_rfl) ?_
        refine QE.joined ((A', c')) (by exact ⟨hk1, hcc'⟩) (by exact Le.mk' (rs := [0]) (hs := [0, 1, 2]) ⟨rfl, rfl, rfl, rfl, rfl, trivial⟩ ⟨rfl, trivial⟩ ⟨rfl, (by rw [← decTo_set (l := l) (k := k) (by omega), ← I64_set]; rfl), rfl, trivial⟩ (by decide))
       ·
        refine L.callER (js := [0]) (js' := [1, 2, 3]) (takeJ_c D A (l.drop (2 * offK (k))) c (wds.getD k 0) hcc (by rw [List.length_drop]; omega) hw.2) rfl rfl rfl (by decide) (Hq [0] rfl) rfl ?_ ?_
        rotate_left
        ·
         rintro _ _ ⟨hk1, u, rfl, rfl⟩
         refine QE.aP ?_; refine QE.jP ?_; refine QE.bP (QE.tP (QE.tP (QE.bP ?_)))
         refine QE.panE (js := []) (hs := [0, 1]) (by decide) ⟨rfl, ?_⟩
         exact ⟨u, _, ⟨codeTo_bad (k := offK k + wds.getD k 0) ho (by rw [← codeTo_drop hk]; exact hk1), _, decTo_len l k, rfl⟩, rfl, rfl⟩
        rintro _ _ _ ⟨hk1, A', c', hcc', rfl, rfl, rfl⟩
        refine L.nil (QE.a (by kernel_rfl) ?_)
        refine LA.alt [1] (by kernel_rfl) (by decide) ⟨⟨_, rfl, ?_⟩, trivial⟩
        refine L.step (Ev.load rfl rfl rfl (Src.o 3 rfl) rfl) rfl ?_
        refine L.nil (QE.a (by kernel_rfl) ?_)
        refine LA.alt [6] (by kernel_rfl) (by decide) ⟨⟨_, rfl, ?_⟩, trivial⟩
        refine L.step (Ev.nilCheck rfl (Src.o 1 rfl) (by rw [I64_len, decTo_len]; decide)) rfl ?_
        refine L.nil (QE.a (by kernel_rfl) ?_)
        refine LA.alt [7] (by kernel_rfl) (by decide) ⟨⟨_, rfl, ?_⟩, trivial⟩
        refine L.store (j := 1) rfl rfl rfl rfl rfl rfl rfl (by exact I64_get (by rw [decTo_len]; omega)) ?_
        refine L.nil (QE.a (by kernel_rfl) ?_)
        refine LA.nil (by kernel_rfl) ?_
        refine QE.joined ((A', c')) (by exact ⟨hk1, hcc'⟩) (by exact Le.mk' (rs := [0]) (hs := [0, 1, 2]) ⟨rfl, rfl, rfl, rfl, rfl, trivial⟩ ⟨rfl, trivial⟩ ⟨rfl, (by rw [← decTo_set (l := l) (k := k) (by omega), ← I64_set]; rfl), rfl, trivial⟩ (by decide))
    ·
     refine Lpu rfl rfl ?_
     refine L.nil (QE.a (by kernel_rfl) ?_)
     refine LA.alt [0, 4] (by kernel_rfl) (by decide) ⟨⟨_, rfl, ?_⟩, ⟨_, rfl, ?_⟩, trivial⟩
     ·
      refine L.step (Ev.fieldAddr rfl rfl rfl rfl rfl rfl (Src.o 3 rfl) (Nat.zero_lt_succ _) rfl) rfl ?_
      refine L.nil (QE.a (by kernel_rfl) ?_)
      refine LA.alt [1, 4] (by kernel_rfl) (by decide) ⟨⟨_, rfl, ?_⟩, ⟨_, rfl, ?_⟩, trivial⟩
      ·
       refine L.step (Ev.load rfl rfl rfl (Src.o 3 rfl) rfl) rfl ?_
       refine L.nil (QE.a (by kernel_rfl) ?_)
       refine LA.alt [4] (by kernel_rfl) (by decide) ⟨⟨_, rfl, ?_⟩, trivial⟩
       refine L.step (Ev.load rfl rfl rfl (Src.o 3 rfl) rfl) rfl ?_
       refine L.nil (QE.a (by kernel_rfl) ?_)
       refine LA.alt [5] (by kernel_rfl) (by decide) ⟨⟨_, rfl, ?_⟩, trivial⟩
       refine L.callER (js := [0]) (js' := [1, 2, 3]) (takeJ_c D A (l.drop (2 * offK (k))) c (wds.getD k 0) hcc (by rw [List.length_drop]; omega) hw.2) rfl rfl rfl (by decide) (Hq [0] rfl) rfl ?_ ?_
       rotate_left
       ·
        rintro _ _ ⟨hk1, u, rfl, rfl⟩
        refine QE.aP ?_; refine QE.jP ?_; refine QE.bP (QE.tP (QE.tP (QE.bP ?_)))
        refine QE.panE (js := []) (hs := [0, 1]) (by decide) ⟨rfl, ?_⟩
        exact ⟨u, _, ⟨codeTo_bad (k := offK k + wds.getD k 0) ho (by rw [← codeTo_drop hk]; exact hk1), _, decTo_len l k, rfl⟩, rfl, rfl⟩
       rintro _ _ _ ⟨hk1, A', c', hcc', rfl, rfl, rfl⟩
       refine L.nil (QE.a (by kernel_rfl) ?_)
       refine LA.alt [6] (by kernel_rfl) (by decide) ⟨⟨_, rfl, ?_⟩, trivial⟩
       refine L.step (Ev.nilCheck rfl (Src.o 1 rfl) (by rw [I64_len, decTo_len]; decide)) rfl ?_
       refine L.nil (QE.a (by kernel_rfl) ?_)
       refine LA.alt [7] (by kernel_rfl) (by decide) ⟨⟨_, rfl, ?_⟩, trivial⟩
       refine L.store (j := 1) rfl rfl rfl rfl rfl rfl rfl (by exact I64_get (by rw [decTo_len]; omega)) ?_
       refine L.nil (QE.a (by kernel_rfl) ?_)
       refine LA.nil (by kernel_rfl) ?_
       refine QE.joined ((A', c')) (by exact ⟨hk1, hcc'⟩) (by exact Le.mk' (rs := [0]) (hs := [0, 1, 2]) ⟨rfl, rfl, rfl, rfl, rfl, trivial⟩ ⟨rfl, trivial⟩ ⟨rfl, (by rw [← decTo_set (l := l) (k := k) (by omega), ← I64_set]; rfl), rfl, trivial⟩ (by decide))
      ·
       refine L.step (Ev.load rfl rfl rfl (Src.o 3 rfl) rfl) rfl ?_
       refine L.nil (QE.a (by kernel_rfl) ?_)
       refine LA.alt [1, 5] (by kernel_rfl) (by decide) ⟨⟨_, rfl, ?_⟩, ⟨_, rfl, ?_⟩, trivial⟩
       ·
        refine L.step (Ev.load rfl rfl rfl (Src.o 3 rfl) rfl) rfl ?_
        refine L.nil (QE.a (by kernel_rfl) ?_)
        refine LA.alt [5] (by kernel_rfl) (by decide) ⟨⟨_, rfl, ?_⟩, trivial⟩
        refine L.callER (js := [0]) (js' := [1, 2, 3]) (takeJ_c D A (l.drop (2 * offK (k))) c (wds.getD k 0) hcc (by rw [List.length_drop]; omega) hw.2) rfl rfl rfl (by decide) (Hq [0] rfl) rfl ?_ ?_
        rotate_left
        ·
         rintro _ _ ⟨hk1, u, rfl, rfl⟩
         refine QE.aP ?_; refine QE.jP ?_; refine QE.bP (QE.tP (QE.tP (QE.bP ?_)))
         refine QE.panE (js := []) (hs := [0, 1]) (by decide) ⟨rfl, ?_⟩
         exact ⟨u, _, ⟨codeTo_bad (k := offK k + wds.getD k 0) ho (by rw [← codeTo_drop hk]; exact hk1), _, decTo_len l k, rfl⟩, rfl, rfl⟩
        rintro _ _ _ ⟨hk1, A', c', hcc', rfl, rfl, rfl⟩
        refine L.nil (QE.a (by kernel_rfl) ?_)
        refine LA.alt [6] (by kernel_rfl) (by decide) ⟨⟨_, rfl, ?_⟩, trivial⟩
        refine L.step (Ev.nilCheck rfl (Src.o 1 rfl) (by rw [I64_len, decTo_len]; decide)) rfl ?_
        refine L.nil (QE.a (by kernel_rfl) ?_)
        refine LA.alt [7] (by kernel_rfl) (by decide) ⟨⟨_, rfl, ?_⟩, trivial⟩
        refine L.store (j := 1) rfl rfl rfl rfl rfl rfl rfl (by exact I64_get (by rw [decTo_len]; omega)) ?_
        refine L.nil (QE.a (by kernel_rfl) ?_)
        refine LA.nil (by kernel_rfl) ?_
        refine QE.joined ((A', c')) (by exact ⟨hk1, hcc'⟩) (by exact Le.mk' (rs := [0]) (hs := [0, 1, 2]) ⟨rfl, rfl, rfl, rfl, rfl, trivial⟩ ⟨rfl, trivial⟩ ⟨rfl, (by rw [← decTo_set (l := l) (k := k) (by omega), ← I64_set]; rfl), rfl, trivial⟩ (by decide))
       ·
        refine L.callER (js := [0]) (js' := [1, 2, 3]) (takeJ_c D A (l.drop (2 * offK (k))) c (wds.getD k 0) hcc (by rw [List.length_drop]; omega) hw.2) rfl rfl rfl (by decide) (Hq [0] rfl) rfl ?_ ?_
        rotate_left
        ·
         rintro _ _ ⟨hk1, u, rfl, rfl⟩
         refine QE.aP ?_; refine QE.jP ?_; refine QE.bP (QE.tP (QE.tP (QE.bP ?_)))
         refine QE.panE (js := []) (hs := [0, 1]) (by decide) ⟨rfl, ?_⟩
         exact ⟨u, _, ⟨codeTo_bad (k := offK k + wds.getD k 0) ho (by rw [← codeTo_drop hk]; exact hk1), _, decTo_len l k, rfl⟩, rfl, rfl⟩
        rintro _ _ _ ⟨hk1, A', c', hcc', rfl, rfl, rfl⟩
        refine L.nil (QE.a (by kernel_rfl) ?_)
        refine LA.alt [1] (by kernel_rfl) (by decide) ⟨⟨_, rfl, ?_⟩, trivial⟩
        refine L.step (Ev.load rfl rfl rfl (Src.o 3 rfl) rfl) rfl ?_
        refine L.nil (QE.a (by kernel_rfl) ?_)
        refine LA.alt [6] (by kernel_rfl) (by decide) ⟨⟨_, rfl, ?_⟩, trivial⟩
        refine L.step (Ev.nilCheck rfl (Src.o 1 rfl) (by rw [I64_len, decTo_len]; decide)) rfl ?_
        refine L.nil (QE.a (by kernel_rfl) ?_)
        refine LA.alt [7] (by kernel_rfl) (by decide) ⟨⟨_, rfl, ?_⟩, trivial⟩
        refine L.store (j := 1) rfl rfl rfl rfl rfl rfl rfl (by exact I64_get (by rw [decTo_len]; omega)) ?_
        refine L.nil (QE.a (by kernel_rfl) ?_)
        refine LA.nil (by kernel_rfl) ?_
        refine QE.joined ((A', c')) (by exact ⟨hk1, hcc'⟩) (by exact Le.mk' (rs := [0]) (hs := [0, 1, 2]) ⟨rfl, rfl, rfl, rfl, rfl, trivial⟩ ⟨rfl, trivial⟩ ⟨rfl, (by rw [← decTo_set (l := l) (k := k) (by omega), ← I64_set]; rfl), rfl, trivial⟩ (by decide))
     ·
      refine L.step (Ev.load rfl rfl rfl (Src.o 3 rfl) rfl) rfl ?_
      refine L.nil (QE.a (by kernel_rfl) ?_)
      refine LA.alt [0, 5] (by kernel_rfl) (by decide) ⟨⟨_, rfl, ?_⟩, ⟨_, rfl, ?_⟩, trivial⟩
      ·
       refine L.step (Ev.fieldAddr rfl rfl rfl rfl rfl rfl (Src.o 3 rfl) (Nat.zero_lt_succ _) rfl) rfl ?_
       refine L.nil (QE.a (by kernel_rfl) ?_)
       refine LA.alt [1, 5] (by kernel_rfl) (by decide) ⟨⟨_, rfl, ?_⟩, ⟨_, rfl, ?_⟩, trivial⟩
       ·
        refine L.step (Ev.load rfl rfl rfl (Src.o 3 rfl) rfl) rfl ?_
        refine L.nil (QE.a (by kernel_rfl) ?_)
        refine LA.alt [5] (by kernel_rfl) (by decide) ⟨⟨_, rfl, ?_⟩, trivial⟩
        refine L.callER (js := [0]) (js' := [1, 2, 3]) (takeJ_c D A (l.drop (2 * offK (k))) c (wds.getD k 0) hcc (by rw [List.length_drop]; omega) hw.2) rfl rfl rfl (by decide) (Hq [0] rfl) rfl ?_ ?_
        rotate_left
        ·
         rintro _ _ ⟨hk1, u, rfl, rfl⟩
         refine QE.aP ?_; refine QE.jP ?_; refine QE.bP (QE.tP (QE.tP (QE.bP ?_)))
         refine QE.panE (js := []) (hs := [0, 1]) (by decide) ⟨rfl, ?_⟩
         exact ⟨u, _, ⟨codeTo_bad (k := offK k + wds.getD k 0) ho (by rw [← codeTo_drop hk]; exact hk1), _, decTo_len l k, rfl⟩, rfl, rfl⟩
        rintro _ _ _ ⟨hk1, A', c', hcc', rfl, rfl, rfl⟩
        refine L.nil (QE.a (by kernel_rfl) ?_)
        refine LA.alt [6] (by kernel_rfl) (by decide) ⟨⟨_, rfl, ?_⟩, trivial⟩
        refine L.step (Ev.nilCheck rfl (Src.o 1 rfl) (by rw [I64_len, decTo_len]; decide)) rfl ?_
        refine L.nil (QE.a (by kernel_rfl) ?_)
        refine LA.alt [7] (by kernel_rfl) (by decide) ⟨⟨_, rfl, ?_⟩, trivial⟩
        refine L.store (j := 1) rfl rfl rfl rfl rfl rfl rfl (by exact I64_get (by rw [decTo_len]; omega)) ?_
        refine L.nil (QE.a (by kernel_rfl) ?_)
        refine LA.nil (by kernel_rfl) ?_
        refine QE.joined ((A', c')) (by exact ⟨hk1, hcc'⟩) (by exact Le.mk' (rs := [0]) (hs := [0, 1, 2]) ⟨rfl, rfl, rfl, rfl, rfl, trivial⟩ ⟨rfl, trivial⟩ ⟨rfl, (by rw [← decTo_set (l := l) (k := k) (by omega), ← I64_set]; rfl), rfl, trivial⟩ (by decide))
       ·
        refine L.callER (js := [0]) (js' := [1, 2, 3]) (takeJ_c D A (l.drop (2 * offK (k))) c (wds.getD k 0) hcc (by rw [List.length_drop]; omega) hw.2) rfl rfl rfl (by decide) (Hq [0] rfl) rfl ?_ ?_
        rotate_left
        ·
         rintro _ _ ⟨hk1, u, rfl, rfl⟩
         refine QE.aP ?_; refine QE.jP ?_; refine QE.bP (QE.tP (QE.tP (QE.bP ?_)))
         refine QE.panE (js := []) (hs := [0, 1]) (by decide) ⟨rfl, ?_⟩
         exact ⟨u, _, ⟨codeTo_bad (k := offK k + wds.getD k 0) ho (by rw [← codeTo_drop hk]; exact hk1), _, decTo_len l k, rfl⟩, rfl, rfl⟩
        rintro _ _ _ ⟨hk1, A', c', hcc', rfl, rfl, rfl⟩
        refine L.nil (QE.a (by kernel_rfl) ?_)
        refine LA.alt [1] (by kernel_rfl) (by decide) ⟨⟨_, rfl, ?_⟩, trivial⟩
        refine L.step (Ev.load rfl rfl rfl (Src.o 3 rfl) rfl) rfl ?_
        refine L.nil (QE.a (by kernel_rfl) ?_)
        refine LA.alt [6] (by kernel_rfl) (by decide) ⟨⟨_, rfl, ?_⟩, trivial⟩
        refine L.step (Ev.nilCheck rfl (Src.o 1 rfl) (by rw [I64_len, decTo_len]; decide)) rfl ?_
        refine L.nil (QE.a (by kernel_rfl) ?_)
        refine LA.alt [7] (by kernel_rfl) (by decide) ⟨⟨_, rfl, ?_⟩, trivial⟩
        refine L.store (j := 1) rfl rfl rfl rfl rfl rfl rfl (by exact I64_get (by rw [decTo_len]; omega)) ?_
        refine L.nil (QE.a (by kernel_rfl) ?_)
        refine LA.nil (by kernel_rfl) ?_
        refine QE.joined ((A', c')) (by exact ⟨hk1, hcc'⟩) (by exact Le.mk' (rs := [0]) (hs := [0, 1, 2]) ⟨rfl, rfl, rfl, rfl, rfl, trivial⟩ ⟨rfl, trivial⟩ ⟨rfl, (by rw [← decTo_set (l := l) (k := k) (by omega), ← I64_set]; rfl), rfl, trivial⟩ (by decide))
      ·
       refine L.callER (js := [0]) (js' := [1, 2, 3]) (takeJ_c D A (l.drop (2 * offK (k))) c (wds.getD k 0) hcc (by rw [List.length_drop]; omega) hw.2) rfl rfl rfl (by decide) (Hq [0] rfl) rfl ?_ ?_
       rotate_left
       ·
        rintro _ _ ⟨hk1, u, rfl, rfl⟩
        refine QE.aP ?_; refine QE.jP ?_; refine QE.bP (QE.tP (QE.tP (QE.bP ?_)))
        refine QE.panE (js := []) (hs := [0, 1]) (by decide) ⟨rfl, ?_⟩
        exact ⟨u, _, ⟨codeTo_bad (k := offK k + wds.getD k 0) ho (by rw [← codeTo_drop hk]; exact hk1), _, decTo_len l k, rfl⟩, rfl, rfl⟩
       rintro _ _ _ ⟨hk1, A', c', hcc', rfl, rfl, rfl⟩
       refine L.nil (QE.a (by kernel_rfl) ?_)
       refine LA.alt [0] (by kernel_rfl) (by decide) ⟨⟨_, rfl, ?_⟩, trivial⟩
       refine L.step (Ev.fieldAddr rfl rfl rfl rfl rfl rfl (Src.o 3 rfl) (Nat.zero_lt_succ _) rfl) rfl ?_
       refine L.nil (QE.a (by kernel_rfl) ?_)
       refine LA.alt [1] (by kernel_rfl) (by decide) ⟨⟨_, rfl, ?_⟩, trivial⟩
       refine L.step (Ev.load rfl rfl rfl (Src.o 3 rfl) rfl) rfl ?_
       refine L.nil (QE.a (by kernel_rfl) ?_)
       refine LA.alt [6] (by kernel_rfl) (by decide) ⟨⟨_, rfl, ?_⟩, trivial⟩
       refine L.step (Ev.nilCheck rfl (Src.o 1 rfl) (by rw [I64_len, decTo_len]; decide)) rfl ?_
       refine L.nil (QE.a (by kernel_rfl) ?_)
       refine LA.alt [7] (by kernel_rfl) (by decide) ⟨⟨_, rfl, ?_⟩, trivial⟩
       refine L.store (j := 1) rfl rfl rfl rfl rfl rfl rfl (by exact I64_get (by rw [decTo_len]; omega)) ?_
       refine L.nil (QE.a (by kernel_rfl) ?_)
       refine LA.nil (by kernel_rfl) ?_
       refine QE.joined ((A', c')) (by exact ⟨hk1, hcc'⟩) (by exact Le.mk' (rs := [0]) (hs := [0, 1, 2]) ⟨rfl, rfl, rfl, rfl, rfl, trivial⟩ ⟨rfl, trivial⟩ ⟨rfl, (by rw [← decTo_set (l := l) (k := k) (by omega), ← I64_set]; rfl), rfl, trivial⟩ (by decide))
    ·
     refine L.step (Ev.load rfl rfl rfl (Src.o 3 rfl) rfl) rfl ?_
     refine L.nil (QE.a (by kernel_rfl) ?_)
     refine LA.alt [0, 2] (by kernel_rfl) (by decide) ⟨⟨_, rfl, ?_⟩, ⟨_, rfl, ?_⟩, trivial⟩
     ·
      refine L.step (Ev.fieldAddr rfl rfl rfl rfl rfl rfl (Src.o 3 rfl) (Nat.zero_lt_succ _) rfl) rfl ?_
      refine L.nil (QE.a (by kernel_rfl) ?_)
      refine LA.alt [1, 2] (by kernel_rfl) (by decide) ⟨⟨_, rfl, ?_⟩, ⟨_, rfl, ?_⟩, trivial⟩
      ·
       refine L.step (Ev.load rfl rfl rfl (Src.o 3 rfl) rfl) rfl ?_
       refine L.nil (QE.a (by kernel_rfl) ?_)
       refine LA.alt [2] (by kernel_rfl) (by decide) ⟨⟨_, rfl, ?_⟩, trivial⟩
       refine Lpu rfl rfl ?_
       refine L.nil (QE.a (by kernel_rfl) ?_)
       refine LA.alt [5] (by kernel_rfl) (by decide) ⟨⟨_, rfl, ?_⟩, trivial⟩
       refine L.callER (js := [0]) (js' := [1, 2, 3]) (takeJ_c D A (l.drop (2 * offK (k))) c (wds.getD k 0) hcc (by rw [List.length_drop]; omega) hw.2) rfl rfl rfl (by decide) (Hq [0] rfl) rfl ?_ ?_
       rotate_left
       ·
        rintro _ _ ⟨hk1, u, rfl, rfl⟩
        refine QE.aP ?_; refine QE.jP ?_; refine QE.bP (QE.tP (QE.tP (QE.bP ?_)))
        refine QE.panE (js := []) (hs := [0, 1]) (by decide) ⟨rfl, ?_⟩
        exact ⟨u, _, ⟨codeTo_bad (k := offK k + wds.getD k 0) ho (by rw [← codeTo_drop hk]; exact hk1), _, decTo_len l k, rfl⟩, rfl, rfl⟩
       rintro _ _ _ ⟨hk1, A', c', hcc', rfl, rfl, rfl⟩
       refine L.nil (QE.a (by kernel_rfl) ?_)
       refine LA.alt [6] (by kernel_rfl) (by decide) ⟨⟨_, rfl, ?_⟩, trivial⟩
       refine L.step (Ev.nilCheck rfl (Src.o 1 rfl) (by rw [I64_len, decTo_len]; decide)) rfl ?_
       refine L.nil (QE.a (by kernel_rfl) ?_)
       refine LA.alt [7] (by kernel_rfl) (by decide) ⟨⟨_, rfl, ?_⟩, trivial⟩
       refine L.store (j := 1) rfl rfl rfl rfl rfl rfl rfl (by exact I64_get (by rw [decTo_len]; omega)) ?_
       refine L.nil (QE.a (by kernel_rfl) ?_)
       refine LA.nil (by kernel_rfl) ?_
       refine QE.joined ((A', c')) (by exact ⟨hk1, hcc'⟩) (by exact Le.mk' (rs := [0]) (hs := [0, 1, 2]) ⟨rfl, rfl, rfl, rfl, rfl, trivial⟩ ⟨rfl, trivial⟩ ⟨rfl, (by rw [← decTo_set (l := l) (k := k) (by omega), ← I64_set]; rfl), rfl, trivial⟩ (by decide))
      ·
       refine Lpu rfl rfl ?_
       refine L.nil (QE.a (by kernel_rfl) ?_)
       refine LA.alt [1, 5] (by kernel_rfl) (by decide) ⟨⟨_, rfl, ?_⟩, ⟨_, rfl, ?_⟩, trivial⟩
       ·
        refine L.step (Ev.load rfl rfl rfl (Src.o 3 rfl) rfl) rfl ?_
        refine L.nil (QE.a (by kernel_rfl) ?_)
        refine LA.alt [5] (by kernel_rfl) (by decide) ⟨⟨_, rfl, ?_⟩, trivial⟩
        refine L.callER (js := [0]) (js' := [1, 2, 3]) (takeJ_c D A (l.drop (2 * offK (k))) c (wds.getD k 0) hcc (by rw [List.length_drop]; omega) hw.2) rfl rfl rfl (by decide) (Hq [0] rfl) rfl ?_ ?_
        rotate_left
        ·
         rintro _ _ ⟨hk1, u, rfl, rfl⟩
         refine QE.aP ?_; refine QE.jP ?_; refine QE.bP (QE.tP (QE.tP (QE.bP ?_)))
         refine QE.panE (js := []) (hs := [0, 1]) (by decide) ⟨rfl, ?_⟩
         exact ⟨u, _, ⟨codeTo_bad (k := offK k + wds.getD k 0) ho (by rw [← codeTo_drop hk]; exact hk1), _, decTo_len l k, rfl⟩, rfl, rfl⟩
        rintro _ _ _ ⟨hk1, A', c', hcc', rfl, rfl, rfl⟩
        refine L.nil (QE.a (by kernel_rfl) ?_)
        refine LA.alt [6] (by kernel_rfl) (by decide) ⟨⟨_, rfl, ?_⟩, trivial⟩
        refine L.step (Ev.nilCheck rfl (Src.o 1 rfl) (by rw [I64_len, decTo_len]; decide)) rfl ?_
        refine L.nil (QE.a (by kernel_rfl) ?_)
        refine LA.alt [7] (by kernel_rfl) (by decide) ⟨⟨_, rfl, ?_⟩, trivial⟩
        refine L.store (j := 1) rfl rfl rfl rfl rfl rfl rfl (by exact I64_get (by rw [decTo_len]; omega)) ?_
        refine L.nil (QE.a (by kernel_rfl) ?_)
        refine LA.nil (by kernel_rfl) ?_
        refine QE.joined ((A', c')) (by exact ⟨hk1, hcc'⟩) (by exact Le.mk' (rs := [0]) (hs := [0, 1, 2]) ⟨rfl, rfl, rfl, rfl, rfl, trivial⟩ ⟨rfl, trivial⟩ ⟨rfl, (by rw [← decTo_set (l := l) (k := k) (by omega), ← I64_set]; rfl), rfl, trivial⟩ (by decide))
       ·
        refine L.callER (js := [0]) (js' := [1, 2, 3]) (takeJ_c D A (l.drop (2 * offK (k))) c (wds.getD k 0) hcc (by rw [List.length_drop]; omega) hw.2) rfl rfl rfl (by decide) (Hq [0] rfl) rfl ?_ ?_
        rotate_left
        ·
         rintro _ _ ⟨hk1, u, rfl, rfl⟩
         refine QE.aP ?_; refine QE.jP ?_; refine QE.bP (QE.tP (QE.tP (QE.bP ?_)))
         refine QE.panE (js := []) (hs := [0, 1]) (by decide) ⟨rfl, ?_⟩
         exact ⟨u, _, ⟨codeTo_bad (k := offK k + wds.getD k 0) ho (by rw [← codeTo_drop hk]; exact hk1), _, decTo_len l k, rfl⟩, rfl, rfl⟩
        rintro _ _ _ ⟨hk1, A', c', hcc', rfl, rfl, rfl⟩
        refine L.nil (QE.a (by kernel_rfl) ?_)
        refine LA.alt [1] (by kernel_rfl) (by decide) ⟨⟨_, rfl, ?_⟩, trivial⟩
        refine L.step (Ev.load rfl rfl rfl (Src.o 3 rfl) rfl) rfl ?_
        refine L.nil (QE.a (by kernel_rfl) ?_)
        refine LA.alt [6] (by kernel_rfl) (by decide) ⟨⟨_, rfl, ?_⟩, trivial⟩
        refine L.step (Ev.nilCheck rfl (Src.o 1 rfl) (by rw [I64_len, decTo_len]; decide)) rfl ?_
        refine L.nil (QE.a (by kernel_rfl) ?_)
        refine LA.alt [7] (by kernel_rfl) (by decide) ⟨⟨_, rfl, ?_⟩, trivial⟩
        refine L.store (j := 1) rfl rfl rfl rfl rfl rfl rfl (by exact I64_get (by rw [decTo_len]; omega)) ?_
        refine L.nil (QE.a (by kernel_rfl) ?_)
        refine LA.nil (by kernel_rfl) ?_
        refine QE.joined ((A', c')) (by exact ⟨hk1, hcc'⟩) (by exact Le.mk' (rs := [0]) (hs := [0, 1, 2]) ⟨rfl, rfl, rfl, rfl, rfl, trivial⟩ ⟨rfl, trivial⟩ ⟨rfl, (by rw [← decTo_set (l := l) (k := k) (by omega), ← I64_set]; rfl), rfl, trivial⟩ (by decide))
     ·
      refine Lpu rfl rfl ?_
      refine L.nil (QE.a (by kernel_rfl) ?_)
      refine LA.alt [0, 5] (by kernel_rfl) (by decide) ⟨⟨_, rfl, ?_⟩, ⟨_, rfl, ?_⟩, trivial⟩
      ·
       refine L.step (Ev.fieldAddr rfl rfl rfl rfl rfl rfl (Src.o 3 rfl) (Nat.zero_lt_succ _) rfl) rfl ?_
       refine L.nil (QE.a (by kernel_rfl) ?_)
       refine LA.alt [1, 5] (by kernel_rfl) (by decide) ⟨⟨_, rfl, ?_⟩, ⟨_, rfl, ?_⟩, trivial⟩
       ·
        refine L.step (Ev.load rfl rfl rfl (Src.o 3 rfl) rfl) rfl ?_
        refine L.nil (QE.a (by kernel_rfl) ?_)
        refine LA.alt [5] (by kernel_rfl) (by decide) ⟨⟨_, rfl, ?_⟩, trivial⟩
        refine L.callER (js := [0]) (js' := [1, 2, 3]) (takeJ_c D A (l.drop (2 * offK (k))) c (wds.getD k 0) hcc (by rw [List.length_drop]; omega) hw.2) rfl rfl rfl (by decide) (Hq [0] rfl) rfl ?_ ?_
        rotate_left
        ·
         rintro _ _ ⟨hk1, u, rfl, rfl⟩
         refine QE.aP ?_; refine QE.jP ?_; refine QE.bP (QE.tP (QE.tP (QE.bP ?_)))
         refine QE.panE (js := []) (hs := [0, 1]) (by decide) ⟨rfl, ?_⟩
         exact ⟨u, _, ⟨codeTo_bad (k := offK k + wds.getD k 0) ho (by rw [← codeTo_drop hk]; exact hk1), _, decTo_len l k, rfl⟩, rfl, rfl⟩
        rintro _ _ _ ⟨hk1, A', c', hcc', rfl, rfl, rfl⟩
        refine L.nil (QE.a (by kernel_rfl) ?_)
        refine LA.alt [6] (by kernel_rfl) (by decide) ⟨⟨_, rfl, ?_⟩, trivial⟩
        refine L.step (Ev.nilCheck rfl (Src.o 1 rfl) (by rw [I64_len, decTo_len]; decide)) rfl ?_
        refine L.nil (QE.a (by kernel_rfl) ?_)
        refine LA.alt [7] (by kernel_rfl) (by decide) ⟨⟨_, rfl, ?_⟩, trivial⟩
        refine L.store (j := 1) rfl rfl rfl rfl rfl rfl rfl (by exact I64_get (by rw [decTo_len]; omega)) ?_
        refine L.nil (QE.a (by kernel_rfl) ?_)
        refine LA.nil (by kernel_rfl) ?_
        refine QE.joined ((A', c')) (by exact ⟨hk1, hcc'⟩) (by exact Le.mk' (rs := [0]) (hs := [0, 1, 2]) ⟨rfl, rfl, rfl, rfl, rfl, trivial⟩ ⟨rfl, trivial⟩ ⟨rfl, (by rw [← decTo_set (l := l) (k := k) (by omega), ← I64_set]; rfl), rfl, trivial⟩ (by decide))
       ·
        refine L.callER (js := [0]) (js' := [1, 2, 3]) (takeJ_c D A (l.drop (2 * offK (k))) c (wds.getD k 0) hcc (by rw [List.length_drop]; omega) hw.2) rfl rfl rfl (by decide) (Hq [0] rfl) rfl ?_ ?_
        rotate_left
        ·
         rintro _ _ ⟨hk1, u, rfl, rfl⟩
         refine QE.aP ?_; refine QE.jP ?_; refine QE.bP (QE.tP (QE.tP (QE.bP ?_)))
         refine QE.panE (js := []) (hs := [0, 1]) (by decide) ⟨rfl, ?_⟩
         exact ⟨u, _, ⟨codeTo_bad (k := offK k + wds.getD k 0) ho (by rw [← codeTo_drop hk]; exact hk1), _, decTo_len l k, rfl⟩, rfl, rfl⟩
        rintro _ _ _ ⟨hk1, A', c', hcc', rfl, rfl, rfl⟩
        refine L.nil (QE.a (by kernel_rfl) ?_)
        refine LA.alt [1] (by kernel_rfl) (by decide) ⟨⟨_, rfl, ?_⟩, trivial⟩
        refine L.step (Ev.load rfl rfl rfl (Src.o 3 rfl) rfl) rfl ?_
        refine L.nil (QE.a (by kernel_rfl) ?_)
        refine LA.alt [6] (by kernel_rfl) (by decide) ⟨⟨_, rfl, ?_⟩, trivial⟩
        refine L.step (Ev.nilCheck rfl (Src.o 1 rfl) (by rw [I64_len, decTo_len]; decide)) rfl ?_
        refine L.nil (QE.a (by kernel_rfl) ?_)
        refine LA.alt [7] (by kernel_rfl) (by decide) ⟨⟨_, rfl, ?_⟩, trivial⟩
        refine L.store (j := 1) rfl rfl rfl rfl rfl rfl rfl (by exact I64_get (by rw [decTo_len]; omega)) ?_
        refine L.nil (QE.a (by kernel_rfl) ?_)
        refine LA.nil (by kernel_rfl) ?_
        refine QE.joined ((A', c')) (by exact ⟨hk1, hcc'⟩) (by exact Le.mk' (rs := [0]) (hs := [0, 1, 2]) ⟨rfl, rfl, rfl, rfl, rfl, trivial⟩ ⟨rfl, trivial⟩ ⟨rfl, (by rw [← decTo_set (l := l) (k := k) (by omega), ← I64_set]; rfl), rfl, trivial⟩ (by decide))
      ·
       refine L.callER (js := [0]) (js' := [1, 2, 3]) (takeJ_c D A (l.drop (2 * offK (k))) c (wds.getD k 0) hcc (by rw [List.length_drop]; omega) hw.2) rfl rfl rfl (by decide) (Hq [0] rfl) rfl ?_ ?_
       rotate_left
       ·
        rintro _ _ ⟨hk1, u, rfl, rfl⟩
        refine QE.aP ?_; refine QE.jP ?_; refine QE.bP (QE.tP (QE.tP (QE.bP ?_)))
        refine QE.panE (js := []) (hs := [0, 1]) (by decide) ⟨rfl, ?_⟩
        exact ⟨u, _, ⟨codeTo_bad (k := offK k + wds.getD k 0) ho (by rw [← codeTo_drop hk]; exact hk1), _, decTo_len l k, rfl⟩, rfl, rfl⟩
       rintro _ _ _ ⟨hk1, A', c', hcc', rfl, rfl, rfl⟩
       refine L.nil (QE.a (by kernel_rfl) ?_)
       refine LA.alt [0] (by kernel_rfl) (by decide) ⟨⟨_, rfl, ?_⟩, trivial⟩
       refine L.step (Ev.fieldAddr rfl rfl rfl rfl rfl rfl (Src.o 3 rfl) (Nat.zero_lt_succ _) rfl) rfl ?_
       refine L.nil (QE.a (by kernel_rfl) ?_)
       refine LA.alt [1] (by kernel_rfl) (by decide) ⟨⟨_, rfl, ?_⟩, trivial⟩
       refine L.step (Ev.load rfl rfl rfl (Src.o 3 rfl) rfl) rfl ?_
       refine L.nil (QE.a (by kernel_rfl) ?_)
       refine LA.alt [6] (by kernel_rfl) (by decide) ⟨⟨_, rfl, ?_⟩, trivial⟩
       refine L.step (Ev.nilCheck rfl (Src.o 1 rfl) (by rw [I64_len, decTo_len]; decide)) rfl ?_
       refine L.nil (QE.a (by kernel_rfl) ?_)
       refine LA.alt [7] (by kernel_rfl) (by decide) ⟨⟨_, rfl, ?_⟩, trivial⟩
       refine L.store (j := 1) rfl rfl rfl rfl rfl rfl rfl (by exact I64_get (by rw [decTo_len]; omega)) ?_
       refine L.nil (QE.a (by kernel_rfl) ?_)
       refine LA.nil (by kernel_rfl) ?_
       refine QE.joined ((A', c')) (by exact ⟨hk1, hcc'⟩) (by exact Le.mk' (rs := [0]) (hs := [0, 1, 2]) ⟨rfl, rfl, rfl, rfl, rfl, trivial⟩ ⟨rfl, trivial⟩ ⟨rfl, (by rw [← decTo_set (l := l) (k := k) (by omega), ← I64_set]; rfl), rfl, trivial⟩ (by decide))
  ·
   rintro ⟨A', c'⟩ ⟨hk1, hcc'⟩
   dsimp only at hk1 hcc' ⊢
   refine QE.blkN ?_; refine QE.seq (C.region ?_); refine L.step (Ev.add rfl rfl (by omega) (by omega)) rfl ?_; refine Lpu rfl rfl ?_; refine L.nil ?_
   refine QE.round (i := (k, A, c)) ((k + 1, A', c')) (by exact ⟨by dsimp only; omega, by dsimp only; rw [offK_succ (by omega), ← codeTo_drop hk]; exact hk1, by dsimp only; rw [offK_succ (by omega), Nat.mul_add, ← List.drop_drop]; exact hcc'⟩) (by dsimp only; omega) (by exact Le.mk' (rs := [0]) (hs := [0, 1, 2]) ⟨rfl, rfl, rfl, rfl, rfl, trivial⟩ ⟨(by dsimp only; rw [offK_succ (by omega), Nat.mul_add, ← List.drop_drop]; rfl), trivial⟩ ⟨(by dsimp only; rw [offK_succ (by omega), Nat.mul_add, ← List.drop_drop]; rfl), rfl, rfl, trivial⟩ (by decide))
 ·
  replace hc8 := of_decide_eq_false hc8
  refine C.exit ?_; refine QE.tX ?_; refine QE.tX ?_; refine QE.blk ?_; refine QE.retNE ?_
  obtain rfl : k = 9 := by omega
  rw [decTo_nine]
  refine QE.retE (js := []) (hs := [0, 1]) (vs := []) rfl trivial (by decide) ?_
  exact ⟨_, _, ⟨hk, rfl⟩, rfl, rfl, rfl⟩

end Go.Proofs.Ytmbjknampholjaa
