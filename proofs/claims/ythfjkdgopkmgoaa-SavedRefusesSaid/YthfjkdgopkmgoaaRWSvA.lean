/-
  The reader of a saved record: it panics where a record is not right; what is deferred recovers.
-/
import Derived.Test.YthfjkdgopkmgoaaRSlT
import Derived.Test.YthfjkdgopkmgoaaRPs
namespace Go.Proofs.Ythfjkdgopkmgoaa
open Go.Sl

def pw : Value := .iface 125 (.agg #[])
theorem pw_cmp : (X.P.info? 125).map (fun i => i.comparable) = some true := by kernel_rfl
theorem pw_plain : X.P.stoodInHeld 125 = false := by kernel_rfl
theorem rec_rest (β : Base) (v : Value) (hv : v = pw ∨ v = .nilIface) (Q : Exit → Act → World → Prop) (h : ∀ Γ, QE β 11 [] Q .normal Γ [] []) :
    C X β 11 [] Q (.seq (match Try.f73.body with | some (.seq _ (.seq a _)) => a | _ => .skip) (match Try.f73.body with | some (.seq _ (.seq _ b)) => b | _ => .skip)) [(0, v), (1, v)] [] [] := by
  obtain ⟨info, hi, hc⟩ := Option.map_eq_some_iff.1 pw_cmp
  rcases hv with rfl | rfl
  · refine C.seq ?_
    refine C.region ?_
    refine L.step (Ev.pure rfl) rfl ?_
    refine L.step (Ev.neNil rfl rfl rfl) rfl ?_
    refine L.step (Ev.pure rfl) rfl ?_
    refine L.yes rfl ?_
    refine L.step (Ev.pure rfl) rfl ?_
    refine L.yes rfl ?_
    refine L.step (Ev.build rfl rfl rfl rfl rfl rfl rfl) rfl ?_
    refine L.yes rfl ?_
    refine L.step (Ev.pure rfl) rfl ?_
    refine L.yes rfl ?_
    refine L.step (Ev.neUnit rfl rfl (X.ok 125 ti125 rfl).und hi hc pw_plain rfl rfl) rfl ?_
    refine L.step (Ev.pure rfl) rfl ?_
    refine L.nil ?_
    refine QE.seq ?_
    refine C.cond rfl (fun h => by cases h) (fun _ => ?_)
    refine C.skip ?_
    exact h _
  · refine C.seq ?_
    refine C.region ?_
    refine L.step (Ev.pure rfl) rfl ?_
    refine L.step (Ev.neNil0 rfl rfl rfl) rfl ?_
    refine L.step (Ev.pure rfl) rfl ?_
    refine L.no rfl rfl rfl ?_
    refine L.no rfl rfl rfl ?_
    refine L.no rfl rfl rfl ?_
    refine L.no rfl rfl rfl ?_
    refine L.step (Ev.pure rfl) rfl ?_
    refine L.nil ?_
    refine QE.seq ?_
    refine C.cond rfl (fun h => by cases h) (fun _ => ?_)
    refine C.skip ?_
    exact h _
theorem fr2 (v : Value) : Fr 11 [] { tmps := ((Array.replicate 11 undef).setIfInBounds 1 v).setIfInBounds 0 v, defers := [] } [(0, v), (1, v)] := by
  refine ⟨by simp, rfl, fun s u hu => ?_⟩
  match s, hu with
  | 0, hu => injection hu with hu; subst hu; simp
  | 1, hu => injection hu with hu; subst hu; simp
  | s + 2, hu => cases hu
theorem sat0 (w : World) : Sat ⟨w, fun _ => False, fun _ => False⟩ w [] [] := ⟨⟨rfl, rfl, rfl, Nat.le_refl _, fun _ _ _ => rfl⟩, by simp, by simp, by simp, by simp, by simp, by simp⟩
theorem rec_ok : RecOk X.P 73 pw := by
  refine ⟨fun w => ?_, fun w => ?_, fun w => ?_⟩
  · have hf : X.P.funcs[73]? = some Try.f73 := Try.func73
    have hb : Try.f73.body.isNone = false := rfl
    have hname : (Try.f73.name == "runtime.NumGoroutine") = false := rfl
    simp only [beq_eq_false_iff_ne] at hname
    simp [invoke, callFunc, run_program, hf, hname]
    intro h
    rw [h] at hb
    cases hb
  · refine callsD_of_wpS (P := X.P) Try.func73 rfl fun c₀ cs hu => ?_
    apply wpS_seq
    apply wpS_region
    simp [wpOpsS, go_sem, recoverD, hu, Exit.thenS]
    refine wpS_of_wp (rec_rest ⟨w, fun _ => False, fun _ => False⟩ .nilIface (.inr rfl) _ (fun Γ a' w' hf' hs' => ?_) _ w (fr2 _) (sat0 w))
    have hst : Stp w w' (fun _ => False) := ⟨hs'.ext.os, hs'.ext.tape, hs'.ext.output, hs'.ext.size, fun k hk hn => hs'.ext.block k hk hn⟩
    have hd := hf'.dfs
    cases c₀
    simp only at hu
    subst hu
    simp [bodyPostS, results, hd, hst]
  · refine callsD_of_wpS (P := X.P) Try.func73 rfl fun c₀ cs hu => ?_
    apply wpS_seq
    apply wpS_region
    simp [wpOpsS, go_sem, recoverD, hu, Exit.thenS]
    refine wpS_of_wp (rec_rest ⟨w, fun _ => False, fun _ => False⟩ pw (.inl rfl) _ (fun Γ a' w' hf' hs' => ?_) _ w (fr2 _) (sat0 w))
    have hst : Stp w w' (fun _ => False) := ⟨hs'.ext.os, hs'.ext.tape, hs'.ext.output, hs'.ext.size, fun k hk hn => hs'.ext.block k hk hn⟩
    have hd := hf'.dfs
    cases c₀
    simp only at hu
    subst hu
    simp [bodyPostS, results, hd, hst]

theorem take_c (T : TypeId) (sz : Nat) (A : Option Addr) (tl : List Value) (S : Option Addr) (l : List UInt8) (c : Nat) (k : Nat) (hc : l.length ≤ c) (_hk : (k : Int) ≤ 9223372036854775807) :
    CtrE X 87 [ptrOf A 0, .int .i64 (k : Int)] [] [Own T sz A 1 1 (.slice S l.length c :: tl)] (EndsBy [{ v := pw, recovered := false }] (fun v R' H' => v = .slice S k c ∧ k ≤ l.length ∧ R' = [] ∧ H' = [Own T sz A 1 1 (.slice (subA S c k 1) (l.drop k).length (c - k) :: tl)]) (fun R' H' => l.length < k ∧ R' = [] ∧ H' = [])) := by
  refine CtrE.of (X := X) (fn := Try.f87) Try.func87 rfl (by kernel_rfl) rfl ?_
  intro β
  refine C.seq ?_
  refine C.region ?_
  refine L.step (Ev.pure rfl) rfl ?_
  refine L.nil ?_
  refine QE.seq ?_
  refine C.seq ?_
  refine C.seq ?_
  refine C.region ?_
  refine L.step (Ev.pure rfl) rfl ?_
  refine L.step (Ev.pure rfl) rfl ?_
  refine L.step (Ev.nilCheck rfl (Src.o 0 rfl) (Nat.zero_lt_succ _)) rfl ?_
  refine L.step (Ev.fieldAddr rfl rfl rfl rfl rfl rfl (Src.o 0 rfl) (Nat.zero_lt_succ _) rfl) rfl ?_
  refine L.step (Ev.load rfl rfl rfl (Src.o 0 rfl) rfl) rfl ?_
  refine L.step (Ev.pure rfl) rfl ?_
  refine L.step (Ev.pure rfl) rfl ?_
  refine L.nil ?_
  refine QE.seq ?_
  refine C.condB 12 rfl (fun hc12 => ?_) (fun hc12 => ?_)
  · skip
    replace hc12 := of_decide_eq_true hc12
    refine C.region ?_
    refine L.step (Ev.build rfl rfl rfl rfl rfl rfl rfl) rfl ?_
    refine L.step (Ev.pure rfl) rfl ?_
    refine L.panic rfl ?_
    refine QE.tP ?_
    refine QE.panE (js := []) (hs := []) (by decide) ⟨rfl, ?_⟩
    exact ⟨by omega, rfl, rfl⟩
  · skip
    replace hc12 := of_decide_eq_false hc12
    refine C.skip ?_
    refine QE.seq ?_
    refine C.seq ?_
    refine C.region ?_
    refine L.step (Ev.pure rfl) rfl ?_
    refine L.step (Ev.nilCheck rfl (Src.o 0 rfl) (Nat.zero_lt_succ _)) rfl ?_
    refine L.step (Ev.fieldAddr rfl rfl rfl rfl rfl rfl (Src.o 0 rfl) (Nat.zero_lt_succ _) rfl) rfl ?_
    refine L.step (Ev.load rfl rfl rfl (Src.o 0 rfl) rfl) rfl ?_
    refine L.step (Ev.pure rfl) rfl ?_
    refine L.step (Ev.sliceH (h := k) rfl rfl rfl rfl rfl rfl (by omega)) rfl ?_
    refine L.step (Ev.pure rfl) rfl ?_
    refine L.nil ?_
    refine QE.seq ?_
    refine C.seq ?_
    refine C.region ?_
    refine L.step (Ev.pure rfl) rfl ?_
    refine L.step (Ev.pure rfl) rfl ?_
    refine L.step (Ev.nilCheck rfl (Src.o 0 rfl) (Nat.zero_lt_succ _)) rfl ?_
    refine L.step (Ev.fieldAddr rfl rfl rfl rfl rfl rfl (Src.o 0 rfl) (Nat.zero_lt_succ _) rfl) rfl ?_
    refine L.step (Ev.load rfl rfl rfl (Src.o 0 rfl) rfl) rfl ?_
    refine L.step (Ev.pure rfl) rfl ?_
    refine L.step (Ev.sliceL (l := k) rfl rfl rfl rfl rfl rfl (by omega)) rfl ?_
    refine L.step (Ev.nilCheck rfl (Src.o 0 rfl) (Nat.zero_lt_succ _)) rfl ?_
    refine L.step (Ev.fieldAddr rfl rfl rfl rfl rfl rfl (Src.o 0 rfl) (Nat.zero_lt_succ _) rfl) rfl ?_
    refine L.store (j := 0) rfl rfl rfl rfl rfl rfl rfl rfl ?_
    refine L.nil ?_
    refine QE.seq ?_
    refine C.seq ?_
    refine C.region ?_
    refine L.step (Ev.pure rfl) rfl ?_
    refine L.step (Ev.pure rfl) rfl ?_
    refine L.nil ?_
    refine QE.seq ?_
    refine C.ret ?_
    refine QE.retE (js := []) (hs := [0]) (vs := [_]) rfl ⟨rfl, trivial⟩ (by decide) ?_
    refine ⟨rfl, by omega, rfl, ?_⟩
    rw [List.length_drop]
    rfl

theorem number_c (T : TypeId) (sz : Nat) (A : Option Addr) (tl : List Value) (S : Option Addr) (l : List UInt8) (c : Nat) (hc : l.length ≤ c) :
    CtrE X 74 [ptrOf A 0] [Rd S (U8 l)] [Own T sz A 1 1 (.slice S l.length c :: tl)] (EndsBy [{ v := pw, recovered := false }] (fun v R' H' => v = .int .i64 (be2 l : Int) ∧ 2 ≤ l.length ∧ R' = [] ∧ H' = [Own T sz A 1 1 (.slice (subA S c 2 1) (l.drop 2).length (c - 2) :: tl)]) (fun R' H' => l.length < 2 ∧ R' = [] ∧ H' = [])) := by
  refine CtrE.of (X := X) (fn := Try.f74) Try.func74 rfl (by kernel_rfl) rfl ?_
  intro β
  refine C.seq ?_
  refine C.region ?_
  refine L.step (Ev.pure rfl) rfl ?_
  refine L.nil ?_
  refine QE.seq ?_
  refine C.seq ?_
  refine C.region ?_
  refine L.step (Ev.pure rfl) rfl ?_
  refine L.callE (js := [0]) (js' := []) (take_c T sz A tl S l c 2 hc (by decide)) rfl rfl rfl (by decide) trivial rfl ?_ ?_
  rotate_left
  · skip
    rintro _ _ ⟨h2, rfl, rfl⟩
    refine QE.tP ?_
    refine QE.panE (js := []) (hs := []) (by decide) ⟨rfl, ?_⟩
    exact ⟨h2, rfl, rfl⟩
  rintro _ _ _ ⟨rfl, h2, rfl, rfl⟩
  have hb0 := u8_lt (l.getD 0 0)
  refine L.step (Ev.pure rfl) rfl ?_
  refine L.nil ?_
  refine QE.seq ?_
  refine C.seq ?_
  refine C.regionQ (by kernel_rfl) ?_
  refine LQ.step (Ev.pure rfl) rfl ?_
  refine LQ.step (Ev.idx1 (k := 0) rfl rfl rfl rfl rfl rfl rfl (by decide) (Src.r 0 rfl) (by rw [U8_len]; omega)) rfl ?_
  refine LQ.step (Ev.load rfl rfl rfl (Src.r 0 rfl) (U8_get (by omega))) rfl ?_
  first | refine LQ.step (Ev.byteInt rfl rfl rfl rfl) rfl ?_ | refine LQ.step (Ev.toInt rfl rfl rfl rfl (by omega) (by omega)) rfl ?_
  refine LQ.step (Ev.shl8 rfl rfl (by omega) (by omega)) rfl ?_
  refine LQ.step (Ev.pure rfl) rfl ?_
  refine LQ.step (Ev.idx1 (k := 1) rfl rfl rfl rfl rfl rfl rfl (by decide) (Src.r 0 rfl) (by rw [U8_len]; omega)) rfl ?_
  refine LQ.step (Ev.load rfl rfl rfl (Src.r 0 rfl) (U8_get (by omega))) rfl ?_
  first | refine LQ.step (Ev.byteInt rfl rfl rfl rfl) rfl ?_ | refine LQ.step (Ev.toInt rfl rfl rfl rfl (by omega) (by omega)) rfl ?_
  refine LQ.step (Ev.cast (Ev.or16 rfl rfl) (congrArg (Value.int .i64) (be2_int l))) rfl ?_
  refine LQ.step (Ev.pure rfl) rfl ?_
  refine LQ.nil ?_
  refine QE.seq ?_
  refine C.ret ?_
  refine QE.retE (js := []) (hs := [0]) (vs := [_]) rfl ⟨rfl, trivial⟩ (by decide) ?_
  exact ⟨rfl, h2, rfl, rfl⟩

set_option maxHeartbeats 1000000 in
theorem piece_c (T : TypeId) (A S : Option Addr) (l : List UInt8) (c : Nat) (last size : Int) (hc : l.length ≤ c) :
    CtrE X 75 [ptrOf A 0] [Rd S (U8 l)] [Own T 3 A 1 1 (.slice S l.length c :: [.int .i64 last, .int .i64 size])] (EndsBy [{ v := pw, recovered := false }] (fun v R' H' => PieceOk l last size ∧ v = .tuple #[.int .i64 (be2 l : Int), .slice (subA (subA S c 2 1) (c - 2) 2 1) (be2 (l.drop 2)) (c - 2 - 2)] ∧ R' = [] ∧ H' = [Own T 3 A 1 1 (.slice (subA (subA (subA S c 2 1) (c - 2) 2 1) (c - 2 - 2) (be2 (l.drop 2)) 1) (((l.drop 2).drop 2).drop (be2 (l.drop 2))).length ((c - 2 - 2) - be2 (l.drop 2)) :: [.int .i64 ((be2 l : Int) + (be2 (l.drop 2) : Int)), .int .i64 size])]) (fun R' H' => ¬PieceOk l last size ∧ R' = [] ∧ H' = [])) := by
  refine CtrE.of (X := X) (fn := Try.f75) Try.func75 rfl (by kernel_rfl) rfl ?_
  intro β
  refine C.seq ?_
  refine C.region ?_
  refine L.step (Ev.pure rfl) rfl ?_
  refine L.step (Ev.pure rfl) rfl ?_
  refine L.nil ?_
  refine QE.seq ?_
  refine C.seq ?_
  refine C.join (fun q : Unit => [(0, ptrOf A 0), (4, .int .i64 (be2 l : Int)), (5, .int .i64 (be2 (l.drop 2) : Int))]) (fun q : Unit => [Rd S (U8 l)]) (fun q : Unit => [Own T 3 A 1 1 (.slice (subA (subA S c 2 1) (c - 2) 2 1) ((l.drop 2).drop 2).length (c - 2 - 2) :: [.int .i64 last, .int .i64 size])]) (fun q : Unit => 2 ≤ l.length ∧ 2 ≤ (l.drop 2).length) ?_ ?_
  · skip
    refine C.regionA ?_
    refine LA.alt [0, 4] (by kernel_rfl) (by decide) ⟨⟨_, rfl, ?_⟩, ⟨_, rfl, ?_⟩, trivial⟩
    · skip
      refine L.step (Ev.pure rfl) rfl ?_
      refine L.nil (QE.a (by kernel_rfl) ?_)
      refine LA.alt [1, 4] (by kernel_rfl) (by decide) ⟨⟨_, rfl, ?_⟩, ⟨_, rfl, ?_⟩, trivial⟩
      · skip
        refine L.step (Ev.nilCheck rfl (Src.o 0 rfl) (Nat.zero_lt_succ _)) rfl ?_
        refine L.nil (QE.a (by kernel_rfl) ?_)
        refine LA.alt [2, 4] (by kernel_rfl) (by decide) ⟨⟨_, rfl, ?_⟩, ⟨_, rfl, ?_⟩, trivial⟩
        · skip
          refine L.step (Ev.fieldAddr rfl rfl rfl rfl rfl rfl (Src.o 0 rfl) (Nat.zero_lt_succ _) rfl) rfl ?_
          refine L.nil (QE.a (by kernel_rfl) ?_)
          refine LA.alt [3, 4] (by kernel_rfl) (by decide) ⟨⟨_, rfl, ?_⟩, ⟨_, rfl, ?_⟩, trivial⟩
          · skip
            refine L.callE (js := [0]) (js' := []) (number_c T 3 A [.int .i64 last, .int .i64 size] S l c hc) rfl rfl rfl (by decide) ⟨(Has.r 0 rfl), trivial⟩ rfl ?_ ?_
            rotate_left
            · skip
              rintro _ _ ⟨h9, rfl, rfl⟩
              refine QE.aP ?_
              refine QE.jP ?_
              refine QE.tP ?_
              refine QE.panE (js := []) (hs := []) (by decide) ⟨rfl, ?_⟩
              exact ⟨fun hp => by unfold PieceOk at hp; omega, rfl, rfl⟩
            rintro _ _ _ ⟨rfl, h9, rfl, rfl⟩
            refine L.nil (QE.a (by kernel_rfl) ?_)
            refine LA.alt [4] (by kernel_rfl) (by decide) ⟨⟨_, rfl, ?_⟩, trivial⟩
            refine L.step (Ev.pure rfl) rfl ?_
            refine L.nil (QE.a (by kernel_rfl) ?_)
            refine LA.alt [5] (by kernel_rfl) (by decide) ⟨⟨_, rfl, ?_⟩, trivial⟩
            first | refine L.step (Ev.nilCheck rfl (Src.o 0 rfl) (Nat.zero_lt_succ _)) rfl ?_ | refine L.step (Ev.nilCheck rfl (Src.o 1 rfl) (Nat.zero_lt_succ _)) rfl ?_ | refine L.step (Ev.nilCheck rfl (Src.o 2 rfl) (Nat.zero_lt_succ _)) rfl ?_ | refine L.step (Ev.nilCheck rfl (Src.o 3 rfl) (Nat.zero_lt_succ _)) rfl ?_ | refine L.step (Ev.nilCheck rfl (Src.o 4 rfl) (Nat.zero_lt_succ _)) rfl ?_ | refine L.step (Ev.nilCheck rfl (Src.o 5 rfl) (Nat.zero_lt_succ _)) rfl ?_ | refine L.step (Ev.nilCheck rfl (Src.r 0 rfl) (Nat.zero_lt_succ _)) rfl ?_ | refine L.step (Ev.nilCheck rfl (Src.r 1 rfl) (Nat.zero_lt_succ _)) rfl ?_ | refine L.step (Ev.nilCheck rfl (Src.r 2 rfl) (Nat.zero_lt_succ _)) rfl ?_ | refine L.step (Ev.nilCheck rfl (Src.r 3 rfl) (Nat.zero_lt_succ _)) rfl ?_ | refine L.step (Ev.nilCheck rfl (Src.r 4 rfl) (Nat.zero_lt_succ _)) rfl ?_ | refine L.step (Ev.nilCheck rfl (Src.r 5 rfl) (Nat.zero_lt_succ _)) rfl ?_
            refine L.nil (QE.a (by kernel_rfl) ?_)
            refine LA.alt [6] (by kernel_rfl) (by decide) ⟨⟨_, rfl, ?_⟩, trivial⟩
            first | refine L.step (Ev.fieldAddr rfl rfl rfl rfl rfl rfl (Src.o 0 rfl) (Nat.zero_lt_succ _) rfl) rfl ?_ | refine L.step (Ev.fieldAddr rfl rfl rfl rfl rfl rfl (Src.o 1 rfl) (Nat.zero_lt_succ _) rfl) rfl ?_ | refine L.step (Ev.fieldAddr rfl rfl rfl rfl rfl rfl (Src.o 2 rfl) (Nat.zero_lt_succ _) rfl) rfl ?_ | refine L.step (Ev.fieldAddr rfl rfl rfl rfl rfl rfl (Src.o 3 rfl) (Nat.zero_lt_succ _) rfl) rfl ?_ | refine L.step (Ev.fieldAddr rfl rfl rfl rfl rfl rfl (Src.o 4 rfl) (Nat.zero_lt_succ _) rfl) rfl ?_ | refine L.step (Ev.fieldAddr rfl rfl rfl rfl rfl rfl (Src.o 5 rfl) (Nat.zero_lt_succ _) rfl) rfl ?_ | refine L.step (Ev.fieldAddr rfl rfl rfl rfl rfl rfl (Src.r 0 rfl) (Nat.zero_lt_succ _) rfl) rfl ?_ | refine L.step (Ev.fieldAddr rfl rfl rfl rfl rfl rfl (Src.r 1 rfl) (Nat.zero_lt_succ _) rfl) rfl ?_ | refine L.step (Ev.fieldAddr rfl rfl rfl rfl rfl rfl (Src.r 2 rfl) (Nat.zero_lt_succ _) rfl) rfl ?_ | refine L.step (Ev.fieldAddr rfl rfl rfl rfl rfl rfl (Src.r 3 rfl) (Nat.zero_lt_succ _) rfl) rfl ?_ | refine L.step (Ev.fieldAddr rfl rfl rfl rfl rfl rfl (Src.r 4 rfl) (Nat.zero_lt_succ _) rfl) rfl ?_ | refine L.step (Ev.fieldAddr rfl rfl rfl rfl rfl rfl (Src.r 5 rfl) (Nat.zero_lt_succ _) rfl) rfl ?_
            refine L.nil (QE.a (by kernel_rfl) ?_)
            refine LA.alt [7] (by kernel_rfl) (by decide) ⟨⟨_, rfl, ?_⟩, trivial⟩
            refine L.more (r := Rd (subA S c 2 1) (U8 (l.drop 2))) (Has.dropU (Has.r 0 rfl) c 2 hc) ?_
            refine L.callE (js := [0]) (js' := []) (number_c T 3 A [.int .i64 last, .int .i64 size] (subA S c 2 1) (l.drop 2) (c - 2) (by rw [List.length_drop]; omega)) rfl rfl rfl (by decide) ⟨(Has.r 0 rfl), trivial⟩ rfl ?_ ?_
            rotate_left
            · skip
              rintro _ _ ⟨h9, rfl, rfl⟩
              rw [List.length_drop] at h9
              refine QE.aP ?_
              refine QE.jP ?_
              refine QE.tP ?_
              refine QE.panE (js := []) (hs := []) (by decide) ⟨rfl, ?_⟩
              exact ⟨fun hp => by unfold PieceOk at hp; omega, rfl, rfl⟩
            rintro _ _ _ ⟨rfl, h13, rfl, rfl⟩
            refine L.nil (QE.a (by kernel_rfl) ?_)
            refine LA.alt [8] (by kernel_rfl) (by decide) ⟨⟨_, rfl, ?_⟩, trivial⟩
            refine L.step (Ev.pure rfl) rfl ?_
            refine L.nil (QE.a (by kernel_rfl) ?_)
            refine LA.alt [9] (by kernel_rfl) (by decide) ⟨⟨_, rfl, ?_⟩, trivial⟩
            refine L.step (Ev.pure rfl) rfl ?_
            refine L.nil (QE.a (by kernel_rfl) ?_)
            refine LA.nil (by kernel_rfl) ?_
            refine QE.joined (()) (by exact ⟨h9, h13⟩) (by exact Le.mk' (rs := [1]) (hs := [0]) ⟨rfl, rfl, rfl, trivial⟩ ⟨rfl, trivial⟩ ⟨rfl, trivial⟩ (by decide))
          · skip
            refine L.step (Ev.pure rfl) rfl ?_
            refine L.nil (QE.a (by kernel_rfl) ?_)
            refine LA.alt [3, 5] (by kernel_rfl) (by decide) ⟨⟨_, rfl, ?_⟩, ⟨_, rfl, ?_⟩, trivial⟩
            · skip
              refine L.callE (js := [0]) (js' := []) (number_c T 3 A [.int .i64 last, .int .i64 size] S l c hc) rfl rfl rfl (by decide) ⟨(Has.r 0 rfl), trivial⟩ rfl ?_ ?_
              rotate_left
              · skip
                rintro _ _ ⟨h9, rfl, rfl⟩
                refine QE.aP ?_
                refine QE.jP ?_
                refine QE.tP ?_
                refine QE.panE (js := []) (hs := []) (by decide) ⟨rfl, ?_⟩
                exact ⟨fun hp => by unfold PieceOk at hp; omega, rfl, rfl⟩
              rintro _ _ _ ⟨rfl, h9, rfl, rfl⟩
              refine L.nil (QE.a (by kernel_rfl) ?_)
              refine LA.alt [5] (by kernel_rfl) (by decide) ⟨⟨_, rfl, ?_⟩, trivial⟩
              first | refine L.step (Ev.nilCheck rfl (Src.o 0 rfl) (Nat.zero_lt_succ _)) rfl ?_ | refine L.step (Ev.nilCheck rfl (Src.o 1 rfl) (Nat.zero_lt_succ _)) rfl ?_ | refine L.step (Ev.nilCheck rfl (Src.o 2 rfl) (Nat.zero_lt_succ _)) rfl ?_ | refine L.step (Ev.nilCheck rfl (Src.o 3 rfl) (Nat.zero_lt_succ _)) rfl ?_ | refine L.step (Ev.nilCheck rfl (Src.o 4 rfl) (Nat.zero_lt_succ _)) rfl ?_ | refine L.step (Ev.nilCheck rfl (Src.o 5 rfl) (Nat.zero_lt_succ _)) rfl ?_ | refine L.step (Ev.nilCheck rfl (Src.r 0 rfl) (Nat.zero_lt_succ _)) rfl ?_ | refine L.step (Ev.nilCheck rfl (Src.r 1 rfl) (Nat.zero_lt_succ _)) rfl ?_ | refine L.step (Ev.nilCheck rfl (Src.r 2 rfl) (Nat.zero_lt_succ _)) rfl ?_ | refine L.step (Ev.nilCheck rfl (Src.r 3 rfl) (Nat.zero_lt_succ _)) rfl ?_ | refine L.step (Ev.nilCheck rfl (Src.r 4 rfl) (Nat.zero_lt_succ _)) rfl ?_ | refine L.step (Ev.nilCheck rfl (Src.r 5 rfl) (Nat.zero_lt_succ _)) rfl ?_
              refine L.nil (QE.a (by kernel_rfl) ?_)
              refine LA.alt [6] (by kernel_rfl) (by decide) ⟨⟨_, rfl, ?_⟩, trivial⟩
              first | refine L.step (Ev.fieldAddr rfl rfl rfl rfl rfl rfl (Src.o 0 rfl) (Nat.zero_lt_succ _) rfl) rfl ?_ | refine L.step (Ev.fieldAddr rfl rfl rfl rfl rfl rfl (Src.o 1 rfl) (Nat.zero_lt_succ _) rfl) rfl ?_ | refine L.step (Ev.fieldAddr rfl rfl rfl rfl rfl rfl (Src.o 2 rfl) (Nat.zero_lt_succ _) rfl) rfl ?_ | refine L.step (Ev.fieldAddr rfl rfl rfl rfl rfl rfl (Src.o 3 rfl) (Nat.zero_lt_succ _) rfl) rfl ?_ | refine L.step (Ev.fieldAddr rfl rfl rfl rfl rfl rfl (Src.o 4 rfl) (Nat.zero_lt_succ _) rfl) rfl ?_ | refine L.step (Ev.fieldAddr rfl rfl rfl rfl rfl rfl (Src.o 5 rfl) (Nat.zero_lt_succ _) rfl) rfl ?_ | refine L.step (Ev.fieldAddr rfl rfl rfl rfl rfl rfl (Src.r 0 rfl) (Nat.zero_lt_succ _) rfl) rfl ?_ | refine L.step (Ev.fieldAddr rfl rfl rfl rfl rfl rfl (Src.r 1 rfl) (Nat.zero_lt_succ _) rfl) rfl ?_ | refine L.step (Ev.fieldAddr rfl rfl rfl rfl rfl rfl (Src.r 2 rfl) (Nat.zero_lt_succ _) rfl) rfl ?_ | refine L.step (Ev.fieldAddr rfl rfl rfl rfl rfl rfl (Src.r 3 rfl) (Nat.zero_lt_succ _) rfl) rfl ?_ | refine L.step (Ev.fieldAddr rfl rfl rfl rfl rfl rfl (Src.r 4 rfl) (Nat.zero_lt_succ _) rfl) rfl ?_ | refine L.step (Ev.fieldAddr rfl rfl rfl rfl rfl rfl (Src.r 5 rfl) (Nat.zero_lt_succ _) rfl) rfl ?_
              refine L.nil (QE.a (by kernel_rfl) ?_)
              refine LA.alt [7] (by kernel_rfl) (by decide) ⟨⟨_, rfl, ?_⟩, trivial⟩
              refine L.more (r := Rd (subA S c 2 1) (U8 (l.drop 2))) (Has.dropU (Has.r 0 rfl) c 2 hc) ?_
              refine L.callE (js := [0]) (js' := []) (number_c T 3 A [.int .i64 last, .int .i64 size] (subA S c 2 1) (l.drop 2) (c - 2) (by rw [List.length_drop]; omega)) rfl rfl rfl (by decide) ⟨(Has.r 0 rfl), trivial⟩ rfl ?_ ?_
              rotate_left
              · skip
                rintro _ _ ⟨h9, rfl, rfl⟩
                rw [List.length_drop] at h9
                refine QE.aP ?_
                refine QE.jP ?_
                refine QE.tP ?_
                refine QE.panE (js := []) (hs := []) (by decide) ⟨rfl, ?_⟩
                exact ⟨fun hp => by unfold PieceOk at hp; omega, rfl, rfl⟩
              rintro _ _ _ ⟨rfl, h13, rfl, rfl⟩
              refine L.nil (QE.a (by kernel_rfl) ?_)
              refine LA.alt [8] (by kernel_rfl) (by decide) ⟨⟨_, rfl, ?_⟩, trivial⟩
              refine L.step (Ev.pure rfl) rfl ?_
              refine L.nil (QE.a (by kernel_rfl) ?_)
              refine LA.alt [9] (by kernel_rfl) (by decide) ⟨⟨_, rfl, ?_⟩, trivial⟩
              refine L.step (Ev.pure rfl) rfl ?_
              refine L.nil (QE.a (by kernel_rfl) ?_)
              refine LA.nil (by kernel_rfl) ?_
              refine QE.joined (()) (by exact ⟨h9, h13⟩) (by exact Le.mk' (rs := [1]) (hs := [0]) ⟨rfl, rfl, rfl, trivial⟩ ⟨rfl, trivial⟩ ⟨rfl, trivial⟩ (by decide))
            · skip
              refine L.step (Ev.nilCheck rfl (Src.o 0 rfl) (Nat.zero_lt_succ _)) rfl ?_
              refine L.nil (QE.a (by kernel_rfl) ?_)
              refine LA.alt [3, 6] (by kernel_rfl) (by decide) ⟨⟨_, rfl, ?_⟩, ⟨_, rfl, ?_⟩, trivial⟩
              · skip
                refine L.callE (js := [0]) (js' := []) (number_c T 3 A [.int .i64 last, .int .i64 size] S l c hc) rfl rfl rfl (by decide) ⟨(Has.r 0 rfl), trivial⟩ rfl ?_ ?_
                rotate_left
                · skip
                  rintro _ _ ⟨h9, rfl, rfl⟩
                  refine QE.aP ?_
                  refine QE.jP ?_
                  refine QE.tP ?_
                  refine QE.panE (js := []) (hs := []) (by decide) ⟨rfl, ?_⟩
                  exact ⟨fun hp => by unfold PieceOk at hp; omega, rfl, rfl⟩
                rintro _ _ _ ⟨rfl, h9, rfl, rfl⟩
                refine L.nil (QE.a (by kernel_rfl) ?_)
                refine LA.alt [6] (by kernel_rfl) (by decide) ⟨⟨_, rfl, ?_⟩, trivial⟩
                first | refine L.step (Ev.fieldAddr rfl rfl rfl rfl rfl rfl (Src.o 0 rfl) (Nat.zero_lt_succ _) rfl) rfl ?_ | refine L.step (Ev.fieldAddr rfl rfl rfl rfl rfl rfl (Src.o 1 rfl) (Nat.zero_lt_succ _) rfl) rfl ?_ | refine L.step (Ev.fieldAddr rfl rfl rfl rfl rfl rfl (Src.o 2 rfl) (Nat.zero_lt_succ _) rfl) rfl ?_ | refine L.step (Ev.fieldAddr rfl rfl rfl rfl rfl rfl (Src.o 3 rfl) (Nat.zero_lt_succ _) rfl) rfl ?_ | refine L.step (Ev.fieldAddr rfl rfl rfl rfl rfl rfl (Src.o 4 rfl) (Nat.zero_lt_succ _) rfl) rfl ?_ | refine L.step (Ev.fieldAddr rfl rfl rfl rfl rfl rfl (Src.o 5 rfl) (Nat.zero_lt_succ _) rfl) rfl ?_ | refine L.step (Ev.fieldAddr rfl rfl rfl rfl rfl rfl (Src.r 0 rfl) (Nat.zero_lt_succ _) rfl) rfl ?_ | refine L.step (Ev.fieldAddr rfl rfl rfl rfl rfl rfl (Src.r 1 rfl) (Nat.zero_lt_succ _) rfl) rfl ?_ | refine L.step (Ev.fieldAddr rfl rfl rfl rfl rfl rfl (Src.r 2 rfl) (Nat.zero_lt_succ _) rfl) rfl ?_ | refine L.step (Ev.fieldAddr rfl rfl rfl rfl rfl rfl (Src.r 3 rfl) (Nat.zero_lt_succ _) rfl) rfl ?_ | refine L.step (Ev.fieldAddr rfl rfl rfl rfl rfl rfl (Src.r 4 rfl) (Nat.zero_lt_succ _) rfl) rfl ?_ | refine L.step (Ev.fieldAddr rfl rfl rfl rfl rfl rfl (Src.r 5 rfl) (Nat.zero_lt_succ _) rfl) rfl ?_
                refine L.nil (QE.a (by kernel_rfl) ?_)
                refine LA.alt [7] (by kernel_rfl) (by decide) ⟨⟨_, rfl, ?_⟩, trivial⟩
                refine L.more (r := Rd (subA S c 2 1) (U8 (l.drop 2))) (Has.dropU (Has.r 0 rfl) c 2 hc) ?_
                refine L.callE (js := [0]) (js' := []) (number_c T 3 A [.int .i64 last, .int .i64 size] (subA S c 2 1) (l.drop 2) (c - 2) (by rw [List.length_drop]; omega)) rfl rfl rfl (by decide) ⟨(Has.r 0 rfl), trivial⟩ rfl ?_ ?_
                rotate_left
                · skip
                  rintro _ _ ⟨h9, rfl, rfl⟩
                  rw [List.length_drop] at h9
                  refine QE.aP ?_
                  refine QE.jP ?_
                  refine QE.tP ?_
                  refine QE.panE (js := []) (hs := []) (by decide) ⟨rfl, ?_⟩
                  exact ⟨fun hp => by unfold PieceOk at hp; omega, rfl, rfl⟩
                rintro _ _ _ ⟨rfl, h13, rfl, rfl⟩
                refine L.nil (QE.a (by kernel_rfl) ?_)
                refine LA.alt [8] (by kernel_rfl) (by decide) ⟨⟨_, rfl, ?_⟩, trivial⟩
                refine L.step (Ev.pure rfl) rfl ?_
                refine L.nil (QE.a (by kernel_rfl) ?_)
                refine LA.alt [9] (by kernel_rfl) (by decide) ⟨⟨_, rfl, ?_⟩, trivial⟩
                refine L.step (Ev.pure rfl) rfl ?_
                refine L.nil (QE.a (by kernel_rfl) ?_)
                refine LA.nil (by kernel_rfl) ?_
                refine QE.joined (()) (by exact ⟨h9, h13⟩) (by exact Le.mk' (rs := [1]) (hs := [0]) ⟨rfl, rfl, rfl, trivial⟩ ⟨rfl, trivial⟩ ⟨rfl, trivial⟩ (by decide))
              · skip
                refine L.step (Ev.fieldAddr rfl rfl rfl rfl rfl rfl (Src.o 0 rfl) (Nat.zero_lt_succ _) rfl) rfl ?_
                refine L.nil (QE.a (by kernel_rfl) ?_)
                refine LA.alt [3] (by kernel_rfl) (by decide) ⟨⟨_, rfl, ?_⟩, trivial⟩
                refine L.callE (js := [0]) (js' := []) (number_c T 3 A [.int .i64 last, .int .i64 size] S l c hc) rfl rfl rfl (by decide) ⟨(Has.r 0 rfl), trivial⟩ rfl ?_ ?_
                rotate_left
                · skip
                  rintro _ _ ⟨h9, rfl, rfl⟩
                  refine QE.aP ?_
                  refine QE.jP ?_
                  refine QE.tP ?_
                  refine QE.panE (js := []) (hs := []) (by decide) ⟨rfl, ?_⟩
                  exact ⟨fun hp => by unfold PieceOk at hp; omega, rfl, rfl⟩
                rintro _ _ _ ⟨rfl, h9, rfl, rfl⟩
                refine L.nil (QE.a (by kernel_rfl) ?_)
                refine LA.alt [7] (by kernel_rfl) (by decide) ⟨⟨_, rfl, ?_⟩, trivial⟩
                refine L.more (r := Rd (subA S c 2 1) (U8 (l.drop 2))) (Has.dropU (Has.r 0 rfl) c 2 hc) ?_
                refine L.callE (js := [0]) (js' := []) (number_c T 3 A [.int .i64 last, .int .i64 size] (subA S c 2 1) (l.drop 2) (c - 2) (by rw [List.length_drop]; omega)) rfl rfl rfl (by decide) ⟨(Has.r 0 rfl), trivial⟩ rfl ?_ ?_
                rotate_left
                · skip
                  rintro _ _ ⟨h9, rfl, rfl⟩
                  rw [List.length_drop] at h9
                  refine QE.aP ?_
                  refine QE.jP ?_
                  refine QE.tP ?_
                  refine QE.panE (js := []) (hs := []) (by decide) ⟨rfl, ?_⟩
                  exact ⟨fun hp => by unfold PieceOk at hp; omega, rfl, rfl⟩
                rintro _ _ _ ⟨rfl, h13, rfl, rfl⟩
                refine L.nil (QE.a (by kernel_rfl) ?_)
                refine LA.alt [8] (by kernel_rfl) (by decide) ⟨⟨_, rfl, ?_⟩, trivial⟩
                refine L.step (Ev.pure rfl) rfl ?_
                refine L.nil (QE.a (by kernel_rfl) ?_)
                refine LA.alt [9] (by kernel_rfl) (by decide) ⟨⟨_, rfl, ?_⟩, trivial⟩
                refine L.step (Ev.pure rfl) rfl ?_
                refine L.nil (QE.a (by kernel_rfl) ?_)
                refine LA.nil (by kernel_rfl) ?_
                refine QE.joined (()) (by exact ⟨h9, h13⟩) (by exact Le.mk' (rs := [1]) (hs := [0]) ⟨rfl, rfl, rfl, trivial⟩ ⟨rfl, trivial⟩ ⟨rfl, trivial⟩ (by decide))
        · skip
          refine L.step (Ev.pure rfl) rfl ?_
          refine L.nil (QE.a (by kernel_rfl) ?_)
          refine LA.alt [2, 5] (by kernel_rfl) (by decide) ⟨⟨_, rfl, ?_⟩, ⟨_, rfl, ?_⟩, trivial⟩
          · skip
            refine L.step (Ev.fieldAddr rfl rfl rfl rfl rfl rfl (Src.o 0 rfl) (Nat.zero_lt_succ _) rfl) rfl ?_
            refine L.nil (QE.a (by kernel_rfl) ?_)
            refine LA.alt [3, 5] (by kernel_rfl) (by decide) ⟨⟨_, rfl, ?_⟩, ⟨_, rfl, ?_⟩, trivial⟩
            · skip
              refine L.callE (js := [0]) (js' := []) (number_c T 3 A [.int .i64 last, .int .i64 size] S l c hc) rfl rfl rfl (by decide) ⟨(Has.r 0 rfl), trivial⟩ rfl ?_ ?_
              rotate_left
              · skip
                rintro _ _ ⟨h9, rfl, rfl⟩
                refine QE.aP ?_
                refine QE.jP ?_
                refine QE.tP ?_
                refine QE.panE (js := []) (hs := []) (by decide) ⟨rfl, ?_⟩
                exact ⟨fun hp => by unfold PieceOk at hp; omega, rfl, rfl⟩
              rintro _ _ _ ⟨rfl, h9, rfl, rfl⟩
              refine L.nil (QE.a (by kernel_rfl) ?_)
              refine LA.alt [5] (by kernel_rfl) (by decide) ⟨⟨_, rfl, ?_⟩, trivial⟩
              first | refine L.step (Ev.nilCheck rfl (Src.o 0 rfl) (Nat.zero_lt_succ _)) rfl ?_ | refine L.step (Ev.nilCheck rfl (Src.o 1 rfl) (Nat.zero_lt_succ _)) rfl ?_ | refine L.step (Ev.nilCheck rfl (Src.o 2 rfl) (Nat.zero_lt_succ _)) rfl ?_ | refine L.step (Ev.nilCheck rfl (Src.o 3 rfl) (Nat.zero_lt_succ _)) rfl ?_ | refine L.step (Ev.nilCheck rfl (Src.o 4 rfl) (Nat.zero_lt_succ _)) rfl ?_ | refine L.step (Ev.nilCheck rfl (Src.o 5 rfl) (Nat.zero_lt_succ _)) rfl ?_ | refine L.step (Ev.nilCheck rfl (Src.r 0 rfl) (Nat.zero_lt_succ _)) rfl ?_ | refine L.step (Ev.nilCheck rfl (Src.r 1 rfl) (Nat.zero_lt_succ _)) rfl ?_ | refine L.step (Ev.nilCheck rfl (Src.r 2 rfl) (Nat.zero_lt_succ _)) rfl ?_ | refine L.step (Ev.nilCheck rfl (Src.r 3 rfl) (Nat.zero_lt_succ _)) rfl ?_ | refine L.step (Ev.nilCheck rfl (Src.r 4 rfl) (Nat.zero_lt_succ _)) rfl ?_ | refine L.step (Ev.nilCheck rfl (Src.r 5 rfl) (Nat.zero_lt_succ _)) rfl ?_
              refine L.nil (QE.a (by kernel_rfl) ?_)
              refine LA.alt [6] (by kernel_rfl) (by decide) ⟨⟨_, rfl, ?_⟩, trivial⟩
              first | refine L.step (Ev.fieldAddr rfl rfl rfl rfl rfl rfl (Src.o 0 rfl) (Nat.zero_lt_succ _) rfl) rfl ?_ | refine L.step (Ev.fieldAddr rfl rfl rfl rfl rfl rfl (Src.o 1 rfl) (Nat.zero_lt_succ _) rfl) rfl ?_ | refine L.step (Ev.fieldAddr rfl rfl rfl rfl rfl rfl (Src.o 2 rfl) (Nat.zero_lt_succ _) rfl) rfl ?_ | refine L.step (Ev.fieldAddr rfl rfl rfl rfl rfl rfl (Src.o 3 rfl) (Nat.zero_lt_succ _) rfl) rfl ?_ | refine L.step (Ev.fieldAddr rfl rfl rfl rfl rfl rfl (Src.o 4 rfl) (Nat.zero_lt_succ _) rfl) rfl ?_ | refine L.step (Ev.fieldAddr rfl rfl rfl rfl rfl rfl (Src.o 5 rfl) (Nat.zero_lt_succ _) rfl) rfl ?_ | refine L.step (Ev.fieldAddr rfl rfl rfl rfl rfl rfl (Src.r 0 rfl) (Nat.zero_lt_succ _) rfl) rfl ?_ | refine L.step (Ev.fieldAddr rfl rfl rfl rfl rfl rfl (Src.r 1 rfl) (Nat.zero_lt_succ _) rfl) rfl ?_ | refine L.step (Ev.fieldAddr rfl rfl rfl rfl rfl rfl (Src.r 2 rfl) (Nat.zero_lt_succ _) rfl) rfl ?_ | refine L.step (Ev.fieldAddr rfl rfl rfl rfl rfl rfl (Src.r 3 rfl) (Nat.zero_lt_succ _) rfl) rfl ?_ | refine L.step (Ev.fieldAddr rfl rfl rfl rfl rfl rfl (Src.r 4 rfl) (Nat.zero_lt_succ _) rfl) rfl ?_ | refine L.step (Ev.fieldAddr rfl rfl rfl rfl rfl rfl (Src.r 5 rfl) (Nat.zero_lt_succ _) rfl) rfl ?_
              refine L.nil (QE.a (by kernel_rfl) ?_)
              refine LA.alt [7] (by kernel_rfl) (by decide) ⟨⟨_, rfl, ?_⟩, trivial⟩
              refine L.more (r := Rd (subA S c 2 1) (U8 (l.drop 2))) (Has.dropU (Has.r 0 rfl) c 2 hc) ?_
              refine L.callE (js := [0]) (js' := []) (number_c T 3 A [.int .i64 last, .int .i64 size] (subA S c 2 1) (l.drop 2) (c - 2) (by rw [List.length_drop]; omega)) rfl rfl rfl (by decide) ⟨(Has.r 0 rfl), trivial⟩ rfl ?_ ?_
              rotate_left
              · skip
                rintro _ _ ⟨h9, rfl, rfl⟩
                rw [List.length_drop] at h9
                refine QE.aP ?_
                refine QE.jP ?_
                refine QE.tP ?_
                refine QE.panE (js := []) (hs := []) (by decide) ⟨rfl, ?_⟩
                exact ⟨fun hp => by unfold PieceOk at hp; omega, rfl, rfl⟩
              rintro _ _ _ ⟨rfl, h13, rfl, rfl⟩
              refine L.nil (QE.a (by kernel_rfl) ?_)
              refine LA.alt [8] (by kernel_rfl) (by decide) ⟨⟨_, rfl, ?_⟩, trivial⟩
              refine L.step (Ev.pure rfl) rfl ?_
              refine L.nil (QE.a (by kernel_rfl) ?_)
              refine LA.alt [9] (by kernel_rfl) (by decide) ⟨⟨_, rfl, ?_⟩, trivial⟩
              refine L.step (Ev.pure rfl) rfl ?_
              refine L.nil (QE.a (by kernel_rfl) ?_)
              refine LA.nil (by kernel_rfl) ?_
              refine QE.joined (()) (by exact ⟨h9, h13⟩) (by exact Le.mk' (rs := [1]) (hs := [0]) ⟨rfl, rfl, rfl, trivial⟩ ⟨rfl, trivial⟩ ⟨rfl, trivial⟩ (by decide))
            · skip
              refine L.step (Ev.nilCheck rfl (Src.o 0 rfl) (Nat.zero_lt_succ _)) rfl ?_
              refine L.nil (QE.a (by kernel_rfl) ?_)
              refine LA.alt [3, 6] (by kernel_rfl) (by decide) ⟨⟨_, rfl, ?_⟩, ⟨_, rfl, ?_⟩, trivial⟩
              · skip
                refine L.callE (js := [0]) (js' := []) (number_c T 3 A [.int .i64 last, .int .i64 size] S l c hc) rfl rfl rfl (by decide) ⟨(Has.r 0 rfl), trivial⟩ rfl ?_ ?_
                rotate_left
                · skip
                  rintro _ _ ⟨h9, rfl, rfl⟩
                  refine QE.aP ?_
                  refine QE.jP ?_
                  refine QE.tP ?_
                  refine QE.panE (js := []) (hs := []) (by decide) ⟨rfl, ?_⟩
                  exact ⟨fun hp => by unfold PieceOk at hp; omega, rfl, rfl⟩
                rintro _ _ _ ⟨rfl, h9, rfl, rfl⟩
                refine L.nil (QE.a (by kernel_rfl) ?_)
                refine LA.alt [6] (by kernel_rfl) (by decide) ⟨⟨_, rfl, ?_⟩, trivial⟩
                first | refine L.step (Ev.fieldAddr rfl rfl rfl rfl rfl rfl (Src.o 0 rfl) (Nat.zero_lt_succ _) rfl) rfl ?_ | refine L.step (Ev.fieldAddr rfl rfl rfl rfl rfl rfl (Src.o 1 rfl) (Nat.zero_lt_succ _) rfl) rfl ?_ | refine L.step (Ev.fieldAddr rfl rfl rfl rfl rfl rfl (Src.o 2 rfl) (Nat.zero_lt_succ _) rfl) rfl ?_ | refine L.step (Ev.fieldAddr rfl rfl rfl rfl rfl rfl (Src.o 3 rfl) (Nat.zero_lt_succ _) rfl) rfl ?_ | refine L.step (Ev.fieldAddr rfl rfl rfl rfl rfl rfl (Src.o 4 rfl) (Nat.zero_lt_succ _) rfl) rfl ?_ | refine L.step (Ev.fieldAddr rfl rfl rfl rfl rfl rfl (Src.o 5 rfl) (Nat.zero_lt_succ _) rfl) rfl ?_ | refine L.step (Ev.fieldAddr rfl rfl rfl rfl rfl rfl (Src.r 0 rfl) (Nat.zero_lt_succ _) rfl) rfl ?_ | refine L.step (Ev.fieldAddr rfl rfl rfl rfl rfl rfl (Src.r 1 rfl) (Nat.zero_lt_succ _) rfl) rfl ?_ | refine L.step (Ev.fieldAddr rfl rfl rfl rfl rfl rfl (Src.r 2 rfl) (Nat.zero_lt_succ _) rfl) rfl ?_ | refine L.step (Ev.fieldAddr rfl rfl rfl rfl rfl rfl (Src.r 3 rfl) (Nat.zero_lt_succ _) rfl) rfl ?_ | refine L.step (Ev.fieldAddr rfl rfl rfl rfl rfl rfl (Src.r 4 rfl) (Nat.zero_lt_succ _) rfl) rfl ?_ | refine L.step (Ev.fieldAddr rfl rfl rfl rfl rfl rfl (Src.r 5 rfl) (Nat.zero_lt_succ _) rfl) rfl ?_
                refine L.nil (QE.a (by kernel_rfl) ?_)
                refine LA.alt [7] (by kernel_rfl) (by decide) ⟨⟨_, rfl, ?_⟩, trivial⟩
                refine L.more (r := Rd (subA S c 2 1) (U8 (l.drop 2))) (Has.dropU (Has.r 0 rfl) c 2 hc) ?_
                refine L.callE (js := [0]) (js' := []) (number_c T 3 A [.int .i64 last, .int .i64 size] (subA S c 2 1) (l.drop 2) (c - 2) (by rw [List.length_drop]; omega)) rfl rfl rfl (by decide) ⟨(Has.r 0 rfl), trivial⟩ rfl ?_ ?_
                rotate_left
                · skip
                  rintro _ _ ⟨h9, rfl, rfl⟩
                  rw [List.length_drop] at h9
                  refine QE.aP ?_
                  refine QE.jP ?_
                  refine QE.tP ?_
                  refine QE.panE (js := []) (hs := []) (by decide) ⟨rfl, ?_⟩
                  exact ⟨fun hp => by unfold PieceOk at hp; omega, rfl, rfl⟩
                rintro _ _ _ ⟨rfl, h13, rfl, rfl⟩
                refine L.nil (QE.a (by kernel_rfl) ?_)
                refine LA.alt [8] (by kernel_rfl) (by decide) ⟨⟨_, rfl, ?_⟩, trivial⟩
                refine L.step (Ev.pure rfl) rfl ?_
                refine L.nil (QE.a (by kernel_rfl) ?_)
                refine LA.alt [9] (by kernel_rfl) (by decide) ⟨⟨_, rfl, ?_⟩, trivial⟩
                refine L.step (Ev.pure rfl) rfl ?_
                refine L.nil (QE.a (by kernel_rfl) ?_)
                refine LA.nil (by kernel_rfl) ?_
                refine QE.joined (()) (by exact ⟨h9, h13⟩) (by exact Le.mk' (rs := [1]) (hs := [0]) ⟨rfl, rfl, rfl, trivial⟩ ⟨rfl, trivial⟩ ⟨rfl, trivial⟩ (by decide))
              · skip
                refine L.step (Ev.fieldAddr rfl rfl rfl rfl rfl rfl (Src.o 0 rfl) (Nat.zero_lt_succ _) rfl) rfl ?_
                refine L.nil (QE.a (by kernel_rfl) ?_)
                refine LA.alt [3] (by kernel_rfl) (by decide) ⟨⟨_, rfl, ?_⟩, trivial⟩
                refine L.callE (js := [0]) (js' := []) (number_c T 3 A [.int .i64 last, .int .i64 size] S l c hc) rfl rfl rfl (by decide) ⟨(Has.r 0 rfl), trivial⟩ rfl ?_ ?_
                rotate_left
                · skip
                  rintro _ _ ⟨h9, rfl, rfl⟩
                  refine QE.aP ?_
                  refine QE.jP ?_
                  refine QE.tP ?_
                  refine QE.panE (js := []) (hs := []) (by decide) ⟨rfl, ?_⟩
                  exact ⟨fun hp => by unfold PieceOk at hp; omega, rfl, rfl⟩
                rintro _ _ _ ⟨rfl, h9, rfl, rfl⟩
                refine L.nil (QE.a (by kernel_rfl) ?_)
                refine LA.alt [7] (by kernel_rfl) (by decide) ⟨⟨_, rfl, ?_⟩, trivial⟩
                refine L.more (r := Rd (subA S c 2 1) (U8 (l.drop 2))) (Has.dropU (Has.r 0 rfl) c 2 hc) ?_
                refine L.callE (js := [0]) (js' := []) (number_c T 3 A [.int .i64 last, .int .i64 size] (subA S c 2 1) (l.drop 2) (c - 2) (by rw [List.length_drop]; omega)) rfl rfl rfl (by decide) ⟨(Has.r 0 rfl), trivial⟩ rfl ?_ ?_
                rotate_left
                · skip
                  rintro _ _ ⟨h9, rfl, rfl⟩
                  rw [List.length_drop] at h9
                  refine QE.aP ?_
                  refine QE.jP ?_
                  refine QE.tP ?_
                  refine QE.panE (js := []) (hs := []) (by decide) ⟨rfl, ?_⟩
                  exact ⟨fun hp => by unfold PieceOk at hp; omega, rfl, rfl⟩
                rintro _ _ _ ⟨rfl, h13, rfl, rfl⟩
                refine L.nil (QE.a (by kernel_rfl) ?_)
                refine LA.alt [8] (by kernel_rfl) (by decide) ⟨⟨_, rfl, ?_⟩, trivial⟩
                refine L.step (Ev.pure rfl) rfl ?_
                refine L.nil (QE.a (by kernel_rfl) ?_)
                refine LA.alt [9] (by kernel_rfl) (by decide) ⟨⟨_, rfl, ?_⟩, trivial⟩
                refine L.step (Ev.pure rfl) rfl ?_
                refine L.nil (QE.a (by kernel_rfl) ?_)
                refine LA.nil (by kernel_rfl) ?_
                refine QE.joined (()) (by exact ⟨h9, h13⟩) (by exact Le.mk' (rs := [1]) (hs := [0]) ⟨rfl, rfl, rfl, trivial⟩ ⟨rfl, trivial⟩ ⟨rfl, trivial⟩ (by decide))
          · skip
            refine L.step (Ev.nilCheck rfl (Src.o 0 rfl) (Nat.zero_lt_succ _)) rfl ?_
            refine L.nil (QE.a (by kernel_rfl) ?_)
            refine LA.alt [2, 6] (by kernel_rfl) (by decide) ⟨⟨_, rfl, ?_⟩, ⟨_, rfl, ?_⟩, trivial⟩
            · skip
              refine L.step (Ev.fieldAddr rfl rfl rfl rfl rfl rfl (Src.o 0 rfl) (Nat.zero_lt_succ _) rfl) rfl ?_
              refine L.nil (QE.a (by kernel_rfl) ?_)
              refine LA.alt [3, 6] (by kernel_rfl) (by decide) ⟨⟨_, rfl, ?_⟩, ⟨_, rfl, ?_⟩, trivial⟩
              · skip
                refine L.callE (js := [0]) (js' := []) (number_c T 3 A [.int .i64 last, .int .i64 size] S l c hc) rfl rfl rfl (by decide) ⟨(Has.r 0 rfl), trivial⟩ rfl ?_ ?_
                rotate_left
                · skip
                  rintro _ _ ⟨h9, rfl, rfl⟩
                  refine QE.aP ?_
                  refine QE.jP ?_
                  refine QE.tP ?_
                  refine QE.panE (js := []) (hs := []) (by decide) ⟨rfl, ?_⟩
                  exact ⟨fun hp => by unfold PieceOk at hp; omega, rfl, rfl⟩
                rintro _ _ _ ⟨rfl, h9, rfl, rfl⟩
                refine L.nil (QE.a (by kernel_rfl) ?_)
                refine LA.alt [6] (by kernel_rfl) (by decide) ⟨⟨_, rfl, ?_⟩, trivial⟩
                first | refine L.step (Ev.fieldAddr rfl rfl rfl rfl rfl rfl (Src.o 0 rfl) (Nat.zero_lt_succ _) rfl) rfl ?_ | refine L.step (Ev.fieldAddr rfl rfl rfl rfl rfl rfl (Src.o 1 rfl) (Nat.zero_lt_succ _) rfl) rfl ?_ | refine L.step (Ev.fieldAddr rfl rfl rfl rfl rfl rfl (Src.o 2 rfl) (Nat.zero_lt_succ _) rfl) rfl ?_ | refine L.step (Ev.fieldAddr rfl rfl rfl rfl rfl rfl (Src.o 3 rfl) (Nat.zero_lt_succ _) rfl) rfl ?_ | refine L.step (Ev.fieldAddr rfl rfl rfl rfl rfl rfl (Src.o 4 rfl) (Nat.zero_lt_succ _) rfl) rfl ?_ | refine L.step (Ev.fieldAddr rfl rfl rfl rfl rfl rfl (Src.o 5 rfl) (Nat.zero_lt_succ _) rfl) rfl ?_ | refine L.step (Ev.fieldAddr rfl rfl rfl rfl rfl rfl (Src.r 0 rfl) (Nat.zero_lt_succ _) rfl) rfl ?_ | refine L.step (Ev.fieldAddr rfl rfl rfl rfl rfl rfl (Src.r 1 rfl) (Nat.zero_lt_succ _) rfl) rfl ?_ | refine L.step (Ev.fieldAddr rfl rfl rfl rfl rfl rfl (Src.r 2 rfl) (Nat.zero_lt_succ _) rfl) rfl ?_ | refine L.step (Ev.fieldAddr rfl rfl rfl rfl rfl rfl (Src.r 3 rfl) (Nat.zero_lt_succ _) rfl) rfl ?_ | refine L.step (Ev.fieldAddr rfl rfl rfl rfl rfl rfl (Src.r 4 rfl) (Nat.zero_lt_succ _) rfl) rfl ?_ | refine L.step (Ev.fieldAddr rfl rfl rfl rfl rfl rfl (Src.r 5 rfl) (Nat.zero_lt_succ _) rfl) rfl ?_
                refine L.nil (QE.a (by kernel_rfl) ?_)
                refine LA.alt [7] (by kernel_rfl) (by decide) ⟨⟨_, rfl, ?_⟩, trivial⟩
                refine L.more (r := Rd (subA S c 2 1) (U8 (l.drop 2))) (Has.dropU (Has.r 0 rfl) c 2 hc) ?_
                refine L.callE (js := [0]) (js' := []) (number_c T 3 A [.int .i64 last, .int .i64 size] (subA S c 2 1) (l.drop 2) (c - 2) (by rw [List.length_drop]; omega)) rfl rfl rfl (by decide) ⟨(Has.r 0 rfl), trivial⟩ rfl ?_ ?_
                rotate_left
                · skip
                  rintro _ _ ⟨h9, rfl, rfl⟩
                  rw [List.length_drop] at h9
                  refine QE.aP ?_
                  refine QE.jP ?_
                  refine QE.tP ?_
                  refine QE.panE (js := []) (hs := []) (by decide) ⟨rfl, ?_⟩
                  exact ⟨fun hp => by unfold PieceOk at hp; omega, rfl, rfl⟩
                rintro _ _ _ ⟨rfl, h13, rfl, rfl⟩
                refine L.nil (QE.a (by kernel_rfl) ?_)
                refine LA.alt [8] (by kernel_rfl) (by decide) ⟨⟨_, rfl, ?_⟩, trivial⟩
                refine L.step (Ev.pure rfl) rfl ?_
                refine L.nil (QE.a (by kernel_rfl) ?_)
                refine LA.alt [9] (by kernel_rfl) (by decide) ⟨⟨_, rfl, ?_⟩, trivial⟩
                refine L.step (Ev.pure rfl) rfl ?_
                refine L.nil (QE.a (by kernel_rfl) ?_)
                refine LA.nil (by kernel_rfl) ?_
                refine QE.joined (()) (by exact ⟨h9, h13⟩) (by exact Le.mk' (rs := [1]) (hs := [0]) ⟨rfl, rfl, rfl, trivial⟩ ⟨rfl, trivial⟩ ⟨rfl, trivial⟩ (by decide))
              · skip
                refine L.step (Ev.fieldAddr rfl rfl rfl rfl rfl rfl (Src.o 0 rfl) (Nat.zero_lt_succ _) rfl) rfl ?_
                refine L.nil (QE.a (by kernel_rfl) ?_)
                refine LA.alt [3] (by kernel_rfl) (by decide) ⟨⟨_, rfl, ?_⟩, trivial⟩
                refine L.callE (js := [0]) (js' := []) (number_c T 3 A [.int .i64 last, .int .i64 size] S l c hc) rfl rfl rfl (by decide) ⟨(Has.r 0 rfl), trivial⟩ rfl ?_ ?_
                rotate_left
                · skip
                  rintro _ _ ⟨h9, rfl, rfl⟩
                  refine QE.aP ?_
                  refine QE.jP ?_
                  refine QE.tP ?_
                  refine QE.panE (js := []) (hs := []) (by decide) ⟨rfl, ?_⟩
                  exact ⟨fun hp => by unfold PieceOk at hp; omega, rfl, rfl⟩
                rintro _ _ _ ⟨rfl, h9, rfl, rfl⟩
                refine L.nil (QE.a (by kernel_rfl) ?_)
                refine LA.alt [7] (by kernel_rfl) (by decide) ⟨⟨_, rfl, ?_⟩, trivial⟩
                refine L.more (r := Rd (subA S c 2 1) (U8 (l.drop 2))) (Has.dropU (Has.r 0 rfl) c 2 hc) ?_
                refine L.callE (js := [0]) (js' := []) (number_c T 3 A [.int .i64 last, .int .i64 size] (subA S c 2 1) (l.drop 2) (c - 2) (by rw [List.length_drop]; omega)) rfl rfl rfl (by decide) ⟨(Has.r 0 rfl), trivial⟩ rfl ?_ ?_
                rotate_left
                · skip
                  rintro _ _ ⟨h9, rfl, rfl⟩
                  rw [List.length_drop] at h9
                  refine QE.aP ?_
                  refine QE.jP ?_
                  refine QE.tP ?_
                  refine QE.panE (js := []) (hs := []) (by decide) ⟨rfl, ?_⟩
                  exact ⟨fun hp => by unfold PieceOk at hp; omega, rfl, rfl⟩
                rintro _ _ _ ⟨rfl, h13, rfl, rfl⟩
                refine L.nil (QE.a (by kernel_rfl) ?_)
                refine LA.alt [8] (by kernel_rfl) (by decide) ⟨⟨_, rfl, ?_⟩, trivial⟩
                refine L.step (Ev.pure rfl) rfl ?_
                refine L.nil (QE.a (by kernel_rfl) ?_)
                refine LA.alt [9] (by kernel_rfl) (by decide) ⟨⟨_, rfl, ?_⟩, trivial⟩
                refine L.step (Ev.pure rfl) rfl ?_
                refine L.nil (QE.a (by kernel_rfl) ?_)
                refine LA.nil (by kernel_rfl) ?_
                refine QE.joined (()) (by exact ⟨h9, h13⟩) (by exact Le.mk' (rs := [1]) (hs := [0]) ⟨rfl, rfl, rfl, trivial⟩ ⟨rfl, trivial⟩ ⟨rfl, trivial⟩ (by decide))
            · skip
              refine L.step (Ev.fieldAddr rfl rfl rfl rfl rfl rfl (Src.o 0 rfl) (Nat.zero_lt_succ _) rfl) rfl ?_
              refine L.nil (QE.a (by kernel_rfl) ?_)
              refine LA.alt [2] (by kernel_rfl) (by decide) ⟨⟨_, rfl, ?_⟩, trivial⟩
              refine L.step (Ev.fieldAddr rfl rfl rfl rfl rfl rfl (Src.o 0 rfl) (Nat.zero_lt_succ _) rfl) rfl ?_
              refine L.nil (QE.a (by kernel_rfl) ?_)
              refine LA.alt [3] (by kernel_rfl) (by decide) ⟨⟨_, rfl, ?_⟩, trivial⟩
              refine L.callE (js := [0]) (js' := []) (number_c T 3 A [.int .i64 last, .int .i64 size] S l c hc) rfl rfl rfl (by decide) ⟨(Has.r 0 rfl), trivial⟩ rfl ?_ ?_
              rotate_left
              · skip
                rintro _ _ ⟨h9, rfl, rfl⟩
                refine QE.aP ?_
                refine QE.jP ?_
                refine QE.tP ?_
                refine QE.panE (js := []) (hs := []) (by decide) ⟨rfl, ?_⟩
                exact ⟨fun hp => by unfold PieceOk at hp; omega, rfl, rfl⟩
              rintro _ _ _ ⟨rfl, h9, rfl, rfl⟩
              refine L.nil (QE.a (by kernel_rfl) ?_)
              refine LA.alt [7] (by kernel_rfl) (by decide) ⟨⟨_, rfl, ?_⟩, trivial⟩
              refine L.more (r := Rd (subA S c 2 1) (U8 (l.drop 2))) (Has.dropU (Has.r 0 rfl) c 2 hc) ?_
              refine L.callE (js := [0]) (js' := []) (number_c T 3 A [.int .i64 last, .int .i64 size] (subA S c 2 1) (l.drop 2) (c - 2) (by rw [List.length_drop]; omega)) rfl rfl rfl (by decide) ⟨(Has.r 0 rfl), trivial⟩ rfl ?_ ?_
              rotate_left
              · skip
                rintro _ _ ⟨h9, rfl, rfl⟩
                rw [List.length_drop] at h9
                refine QE.aP ?_
                refine QE.jP ?_
                refine QE.tP ?_
                refine QE.panE (js := []) (hs := []) (by decide) ⟨rfl, ?_⟩
                exact ⟨fun hp => by unfold PieceOk at hp; omega, rfl, rfl⟩
              rintro _ _ _ ⟨rfl, h13, rfl, rfl⟩
              refine L.nil (QE.a (by kernel_rfl) ?_)
              refine LA.alt [8] (by kernel_rfl) (by decide) ⟨⟨_, rfl, ?_⟩, trivial⟩
              refine L.step (Ev.pure rfl) rfl ?_
              refine L.nil (QE.a (by kernel_rfl) ?_)
              refine LA.alt [9] (by kernel_rfl) (by decide) ⟨⟨_, rfl, ?_⟩, trivial⟩
              refine L.step (Ev.pure rfl) rfl ?_
              refine L.nil (QE.a (by kernel_rfl) ?_)
              refine LA.nil (by kernel_rfl) ?_
              refine QE.joined (()) (by exact ⟨h9, h13⟩) (by exact Le.mk' (rs := [1]) (hs := [0]) ⟨rfl, rfl, rfl, trivial⟩ ⟨rfl, trivial⟩ ⟨rfl, trivial⟩ (by decide))
      · skip
        refine L.step (Ev.pure rfl) rfl ?_
        refine L.nil (QE.a (by kernel_rfl) ?_)
        refine LA.alt [1, 5] (by kernel_rfl) (by decide) ⟨⟨_, rfl, ?_⟩, ⟨_, rfl, ?_⟩, trivial⟩
        · skip
          refine L.step (Ev.nilCheck rfl (Src.o 0 rfl) (Nat.zero_lt_succ _)) rfl ?_
          refine L.nil (QE.a (by kernel_rfl) ?_)
          refine LA.alt [2, 5] (by kernel_rfl) (by decide) ⟨⟨_, rfl, ?_⟩, ⟨_, rfl, ?_⟩, trivial⟩
          · skip
            refine L.step (Ev.fieldAddr rfl rfl rfl rfl rfl rfl (Src.o 0 rfl) (Nat.zero_lt_succ _) rfl) rfl ?_
            refine L.nil (QE.a (by kernel_rfl) ?_)
            refine LA.alt [3, 5] (by kernel_rfl) (by decide) ⟨⟨_, rfl, ?_⟩, ⟨_, rfl, ?_⟩, trivial⟩
            · skip
              refine L.callE (js := [0]) (js' := []) (number_c T 3 A [.int .i64 last, .int .i64 size] S l c hc) rfl rfl rfl (by decide) ⟨(Has.r 0 rfl), trivial⟩ rfl ?_ ?_
              rotate_left
              · skip
                rintro _ _ ⟨h9, rfl, rfl⟩
                refine QE.aP ?_
                refine QE.jP ?_
                refine QE.tP ?_
                refine QE.panE (js := []) (hs := []) (by decide) ⟨rfl, ?_⟩
                exact ⟨fun hp => by unfold PieceOk at hp; omega, rfl, rfl⟩
              rintro _ _ _ ⟨rfl, h9, rfl, rfl⟩
              refine L.nil (QE.a (by kernel_rfl) ?_)
              refine LA.alt [5] (by kernel_rfl) (by decide) ⟨⟨_, rfl, ?_⟩, trivial⟩
              first | refine L.step (Ev.nilCheck rfl (Src.o 0 rfl) (Nat.zero_lt_succ _)) rfl ?_ | refine L.step (Ev.nilCheck rfl (Src.o 1 rfl) (Nat.zero_lt_succ _)) rfl ?_ | refine L.step (Ev.nilCheck rfl (Src.o 2 rfl) (Nat.zero_lt_succ _)) rfl ?_ | refine L.step (Ev.nilCheck rfl (Src.o 3 rfl) (Nat.zero_lt_succ _)) rfl ?_ | refine L.step (Ev.nilCheck rfl (Src.o 4 rfl) (Nat.zero_lt_succ _)) rfl ?_ | refine L.step (Ev.nilCheck rfl (Src.o 5 rfl) (Nat.zero_lt_succ _)) rfl ?_ | refine L.step (Ev.nilCheck rfl (Src.r 0 rfl) (Nat.zero_lt_succ _)) rfl ?_ | refine L.step (Ev.nilCheck rfl (Src.r 1 rfl) (Nat.zero_lt_succ _)) rfl ?_ | refine L.step (Ev.nilCheck rfl (Src.r 2 rfl) (Nat.zero_lt_succ _)) rfl ?_ | refine L.step (Ev.nilCheck rfl (Src.r 3 rfl) (Nat.zero_lt_succ _)) rfl ?_ | refine L.step (Ev.nilCheck rfl (Src.r 4 rfl) (Nat.zero_lt_succ _)) rfl ?_ | refine L.step (Ev.nilCheck rfl (Src.r 5 rfl) (Nat.zero_lt_succ _)) rfl ?_
              refine L.nil (QE.a (by kernel_rfl) ?_)
              refine LA.alt [6] (by kernel_rfl) (by decide) ⟨⟨_, rfl, ?_⟩, trivial⟩
              first | refine L.step (Ev.fieldAddr rfl rfl rfl rfl rfl rfl (Src.o 0 rfl) (Nat.zero_lt_succ _) rfl) rfl ?_ | refine L.step (Ev.fieldAddr rfl rfl rfl rfl rfl rfl (Src.o 1 rfl) (Nat.zero_lt_succ _) rfl) rfl ?_ | refine L.step (Ev.fieldAddr rfl rfl rfl rfl rfl rfl (Src.o 2 rfl) (Nat.zero_lt_succ _) rfl) rfl ?_ | refine L.step (Ev.fieldAddr rfl rfl rfl rfl rfl rfl (Src.o 3 rfl) (Nat.zero_lt_succ _) rfl) rfl ?_ | refine L.step (Ev.fieldAddr rfl rfl rfl rfl rfl rfl (Src.o 4 rfl) (Nat.zero_lt_succ _) rfl) rfl ?_ | refine L.step (Ev.fieldAddr rfl rfl rfl rfl rfl rfl (Src.o 5 rfl) (Nat.zero_lt_succ _) rfl) rfl ?_ | refine L.step (Ev.fieldAddr rfl rfl rfl rfl rfl rfl (Src.r 0 rfl) (Nat.zero_lt_succ _) rfl) rfl ?_ | refine L.step (Ev.fieldAddr rfl rfl rfl rfl rfl rfl (Src.r 1 rfl) (Nat.zero_lt_succ _) rfl) rfl ?_ | refine L.step (Ev.fieldAddr rfl rfl rfl rfl rfl rfl (Src.r 2 rfl) (Nat.zero_lt_succ _) rfl) rfl ?_ | refine L.step (Ev.fieldAddr rfl rfl rfl rfl rfl rfl (Src.r 3 rfl) (Nat.zero_lt_succ _) rfl) rfl ?_ | refine L.step (Ev.fieldAddr rfl rfl rfl rfl rfl rfl (Src.r 4 rfl) (Nat.zero_lt_succ _) rfl) rfl ?_ | refine L.step (Ev.fieldAddr rfl rfl rfl rfl rfl rfl (Src.r 5 rfl) (Nat.zero_lt_succ _) rfl) rfl ?_
              refine L.nil (QE.a (by kernel_rfl) ?_)
              refine LA.alt [7] (by kernel_rfl) (by decide) ⟨⟨_, rfl, ?_⟩, trivial⟩
              refine L.more (r := Rd (subA S c 2 1) (U8 (l.drop 2))) (Has.dropU (Has.r 0 rfl) c 2 hc) ?_
              refine L.callE (js := [0]) (js' := []) (number_c T 3 A [.int .i64 last, .int .i64 size] (subA S c 2 1) (l.drop 2) (c - 2) (by rw [List.length_drop]; omega)) rfl rfl rfl (by decide) ⟨(Has.r 0 rfl), trivial⟩ rfl ?_ ?_
              rotate_left
              · skip
                rintro _ _ ⟨h9, rfl, rfl⟩
                rw [List.length_drop] at h9
                refine QE.aP ?_
                refine QE.jP ?_
                refine QE.tP ?_
                refine QE.panE (js := []) (hs := []) (by decide) ⟨rfl, ?_⟩
                exact ⟨fun hp => by unfold PieceOk at hp; omega, rfl, rfl⟩
              rintro _ _ _ ⟨rfl, h13, rfl, rfl⟩
              refine L.nil (QE.a (by kernel_rfl) ?_)
              refine LA.alt [8] (by kernel_rfl) (by decide) ⟨⟨_, rfl, ?_⟩, trivial⟩
              refine L.step (Ev.pure rfl) rfl ?_
              refine L.nil (QE.a (by kernel_rfl) ?_)
              refine LA.alt [9] (by kernel_rfl) (by decide) ⟨⟨_, rfl, ?_⟩, trivial⟩
              refine L.step (Ev.pure rfl) rfl ?_
              refine L.nil (QE.a (by kernel_rfl) ?_)
              refine LA.nil (by kernel_rfl) ?_
              refine QE.joined (()) (by exact ⟨h9, h13⟩) (by exact Le.mk' (rs := [1]) (hs := [0]) ⟨rfl, rfl, rfl, trivial⟩ ⟨rfl, trivial⟩ ⟨rfl, trivial⟩ (by decide))
            · skip
              refine L.step (Ev.nilCheck rfl (Src.o 0 rfl) (Nat.zero_lt_succ _)) rfl ?_
              refine L.nil (QE.a (by kernel_rfl) ?_)
              refine LA.alt [3, 6] (by kernel_rfl) (by decide) ⟨⟨_, rfl, ?_⟩, ⟨_, rfl, ?_⟩, trivial⟩
              · skip
                refine L.callE (js := [0]) (js' := []) (number_c T 3 A [.int .i64 last, .int .i64 size] S l c hc) rfl rfl rfl (by decide) ⟨(Has.r 0 rfl), trivial⟩ rfl ?_ ?_
                rotate_left
                · skip
                  rintro _ _ ⟨h9, rfl, rfl⟩
                  refine QE.aP ?_
                  refine QE.jP ?_
                  refine QE.tP ?_
                  refine QE.panE (js := []) (hs := []) (by decide) ⟨rfl, ?_⟩
                  exact ⟨fun hp => by unfold PieceOk at hp; omega, rfl, rfl⟩
                rintro _ _ _ ⟨rfl, h9, rfl, rfl⟩
                refine L.nil (QE.a (by kernel_rfl) ?_)
                refine LA.alt [6] (by kernel_rfl) (by decide) ⟨⟨_, rfl, ?_⟩, trivial⟩
                first | refine L.step (Ev.fieldAddr rfl rfl rfl rfl rfl rfl (Src.o 0 rfl) (Nat.zero_lt_succ _) rfl) rfl ?_ | refine L.step (Ev.fieldAddr rfl rfl rfl rfl rfl rfl (Src.o 1 rfl) (Nat.zero_lt_succ _) rfl) rfl ?_ | refine L.step (Ev.fieldAddr rfl rfl rfl rfl rfl rfl (Src.o 2 rfl) (Nat.zero_lt_succ _) rfl) rfl ?_ | refine L.step (Ev.fieldAddr rfl rfl rfl rfl rfl rfl (Src.o 3 rfl) (Nat.zero_lt_succ _) rfl) rfl ?_ | refine L.step (Ev.fieldAddr rfl rfl rfl rfl rfl rfl (Src.o 4 rfl) (Nat.zero_lt_succ _) rfl) rfl ?_ | refine L.step (Ev.fieldAddr rfl rfl rfl rfl rfl rfl (Src.o 5 rfl) (Nat.zero_lt_succ _) rfl) rfl ?_ | refine L.step (Ev.fieldAddr rfl rfl rfl rfl rfl rfl (Src.r 0 rfl) (Nat.zero_lt_succ _) rfl) rfl ?_ | refine L.step (Ev.fieldAddr rfl rfl rfl rfl rfl rfl (Src.r 1 rfl) (Nat.zero_lt_succ _) rfl) rfl ?_ | refine L.step (Ev.fieldAddr rfl rfl rfl rfl rfl rfl (Src.r 2 rfl) (Nat.zero_lt_succ _) rfl) rfl ?_ | refine L.step (Ev.fieldAddr rfl rfl rfl rfl rfl rfl (Src.r 3 rfl) (Nat.zero_lt_succ _) rfl) rfl ?_ | refine L.step (Ev.fieldAddr rfl rfl rfl rfl rfl rfl (Src.r 4 rfl) (Nat.zero_lt_succ _) rfl) rfl ?_ | refine L.step (Ev.fieldAddr rfl rfl rfl rfl rfl rfl (Src.r 5 rfl) (Nat.zero_lt_succ _) rfl) rfl ?_
                refine L.nil (QE.a (by kernel_rfl) ?_)
                refine LA.alt [7] (by kernel_rfl) (by decide) ⟨⟨_, rfl, ?_⟩, trivial⟩
                refine L.more (r := Rd (subA S c 2 1) (U8 (l.drop 2))) (Has.dropU (Has.r 0 rfl) c 2 hc) ?_
                refine L.callE (js := [0]) (js' := []) (number_c T 3 A [.int .i64 last, .int .i64 size] (subA S c 2 1) (l.drop 2) (c - 2) (by rw [List.length_drop]; omega)) rfl rfl rfl (by decide) ⟨(Has.r 0 rfl), trivial⟩ rfl ?_ ?_
                rotate_left
                · skip
                  rintro _ _ ⟨h9, rfl, rfl⟩
                  rw [List.length_drop] at h9
                  refine QE.aP ?_
                  refine QE.jP ?_
                  refine QE.tP ?_
                  refine QE.panE (js := []) (hs := []) (by decide) ⟨rfl, ?_⟩
                  exact ⟨fun hp => by unfold PieceOk at hp; omega, rfl, rfl⟩
                rintro _ _ _ ⟨rfl, h13, rfl, rfl⟩
                refine L.nil (QE.a (by kernel_rfl) ?_)
                refine LA.alt [8] (by kernel_rfl) (by decide) ⟨⟨_, rfl, ?_⟩, trivial⟩
                refine L.step (Ev.pure rfl) rfl ?_
                refine L.nil (QE.a (by kernel_rfl) ?_)
                refine LA.alt [9] (by kernel_rfl) (by decide) ⟨⟨_, rfl, ?_⟩, trivial⟩
                refine L.step (Ev.pure rfl) rfl ?_
                refine L.nil (QE.a (by kernel_rfl) ?_)
                refine LA.nil (by kernel_rfl) ?_
                refine QE.joined (()) (by exact ⟨h9, h13⟩) (by exact Le.mk' (rs := [1]) (hs := [0]) ⟨rfl, rfl, rfl, trivial⟩ ⟨rfl, trivial⟩ ⟨rfl, trivial⟩ (by decide))
              · skip
                refine L.step (Ev.fieldAddr rfl rfl rfl rfl rfl rfl (Src.o 0 rfl) (Nat.zero_lt_succ _) rfl) rfl ?_
                refine L.nil (QE.a (by kernel_rfl) ?_)
                refine LA.alt [3] (by kernel_rfl) (by decide) ⟨⟨_, rfl, ?_⟩, trivial⟩
                refine L.callE (js := [0]) (js' := []) (number_c T 3 A [.int .i64 last, .int .i64 size] S l c hc) rfl rfl rfl (by decide) ⟨(Has.r 0 rfl), trivial⟩ rfl ?_ ?_
                rotate_left
                · skip
                  rintro _ _ ⟨h9, rfl, rfl⟩
                  refine QE.aP ?_
                  refine QE.jP ?_
                  refine QE.tP ?_
                  refine QE.panE (js := []) (hs := []) (by decide) ⟨rfl, ?_⟩
                  exact ⟨fun hp => by unfold PieceOk at hp; omega, rfl, rfl⟩
                rintro _ _ _ ⟨rfl, h9, rfl, rfl⟩
                refine L.nil (QE.a (by kernel_rfl) ?_)
                refine LA.alt [7] (by kernel_rfl) (by decide) ⟨⟨_, rfl, ?_⟩, trivial⟩
                refine L.more (r := Rd (subA S c 2 1) (U8 (l.drop 2))) (Has.dropU (Has.r 0 rfl) c 2 hc) ?_
                refine L.callE (js := [0]) (js' := []) (number_c T 3 A [.int .i64 last, .int .i64 size] (subA S c 2 1) (l.drop 2) (c - 2) (by rw [List.length_drop]; omega)) rfl rfl rfl (by decide) ⟨(Has.r 0 rfl), trivial⟩ rfl ?_ ?_
                rotate_left
                · skip
                  rintro _ _ ⟨h9, rfl, rfl⟩
                  rw [List.length_drop] at h9
                  refine QE.aP ?_
                  refine QE.jP ?_
                  refine QE.tP ?_
                  refine QE.panE (js := []) (hs := []) (by decide) ⟨rfl, ?_⟩
                  exact ⟨fun hp => by unfold PieceOk at hp; omega, rfl, rfl⟩
                rintro _ _ _ ⟨rfl, h13, rfl, rfl⟩
                refine L.nil (QE.a (by kernel_rfl) ?_)
                refine LA.alt [8] (by kernel_rfl) (by decide) ⟨⟨_, rfl, ?_⟩, trivial⟩
                refine L.step (Ev.pure rfl) rfl ?_
                refine L.nil (QE.a (by kernel_rfl) ?_)
                refine LA.alt [9] (by kernel_rfl) (by decide) ⟨⟨_, rfl, ?_⟩, trivial⟩
                refine L.step (Ev.pure rfl) rfl ?_
                refine L.nil (QE.a (by kernel_rfl) ?_)
                refine LA.nil (by kernel_rfl) ?_
                refine QE.joined (()) (by exact ⟨h9, h13⟩) (by exact Le.mk' (rs := [1]) (hs := [0]) ⟨rfl, rfl, rfl, trivial⟩ ⟨rfl, trivial⟩ ⟨rfl, trivial⟩ (by decide))
          · skip
            refine L.step (Ev.nilCheck rfl (Src.o 0 rfl) (Nat.zero_lt_succ _)) rfl ?_
            refine L.nil (QE.a (by kernel_rfl) ?_)
            refine LA.alt [2, 6] (by kernel_rfl) (by decide) ⟨⟨_, rfl, ?_⟩, ⟨_, rfl, ?_⟩, trivial⟩
            · skip
              refine L.step (Ev.fieldAddr rfl rfl rfl rfl rfl rfl (Src.o 0 rfl) (Nat.zero_lt_succ _) rfl) rfl ?_
              refine L.nil (QE.a (by kernel_rfl) ?_)
              refine LA.alt [3, 6] (by kernel_rfl) (by decide) ⟨⟨_, rfl, ?_⟩, ⟨_, rfl, ?_⟩, trivial⟩
              · skip
                refine L.callE (js := [0]) (js' := []) (number_c T 3 A [.int .i64 last, .int .i64 size] S l c hc) rfl rfl rfl (by decide) ⟨(Has.r 0 rfl), trivial⟩ rfl ?_ ?_
                rotate_left
                · skip
                  rintro _ _ ⟨h9, rfl, rfl⟩
                  refine QE.aP ?_
                  refine QE.jP ?_
                  refine QE.tP ?_
                  refine QE.panE (js := []) (hs := []) (by decide) ⟨rfl, ?_⟩
                  exact ⟨fun hp => by unfold PieceOk at hp; omega, rfl, rfl⟩
                rintro _ _ _ ⟨rfl, h9, rfl, rfl⟩
                refine L.nil (QE.a (by kernel_rfl) ?_)
                refine LA.alt [6] (by kernel_rfl) (by decide) ⟨⟨_, rfl, ?_⟩, trivial⟩
                first | refine L.step (Ev.fieldAddr rfl rfl rfl rfl rfl rfl (Src.o 0 rfl) (Nat.zero_lt_succ _) rfl) rfl ?_ | refine L.step (Ev.fieldAddr rfl rfl rfl rfl rfl rfl (Src.o 1 rfl) (Nat.zero_lt_succ _) rfl) rfl ?_ | refine L.step (Ev.fieldAddr rfl rfl rfl rfl rfl rfl (Src.o 2 rfl) (Nat.zero_lt_succ _) rfl) rfl ?_ | refine L.step (Ev.fieldAddr rfl rfl rfl rfl rfl rfl (Src.o 3 rfl) (Nat.zero_lt_succ _) rfl) rfl ?_ | refine L.step (Ev.fieldAddr rfl rfl rfl rfl rfl rfl (Src.o 4 rfl) (Nat.zero_lt_succ _) rfl) rfl ?_ | refine L.step (Ev.fieldAddr rfl rfl rfl rfl rfl rfl (Src.o 5 rfl) (Nat.zero_lt_succ _) rfl) rfl ?_ | refine L.step (Ev.fieldAddr rfl rfl rfl rfl rfl rfl (Src.r 0 rfl) (Nat.zero_lt_succ _) rfl) rfl ?_ | refine L.step (Ev.fieldAddr rfl rfl rfl rfl rfl rfl (Src.r 1 rfl) (Nat.zero_lt_succ _) rfl) rfl ?_ | refine L.step (Ev.fieldAddr rfl rfl rfl rfl rfl rfl (Src.r 2 rfl) (Nat.zero_lt_succ _) rfl) rfl ?_ | refine L.step (Ev.fieldAddr rfl rfl rfl rfl rfl rfl (Src.r 3 rfl) (Nat.zero_lt_succ _) rfl) rfl ?_ | refine L.step (Ev.fieldAddr rfl rfl rfl rfl rfl rfl (Src.r 4 rfl) (Nat.zero_lt_succ _) rfl) rfl ?_ | refine L.step (Ev.fieldAddr rfl rfl rfl rfl rfl rfl (Src.r 5 rfl) (Nat.zero_lt_succ _) rfl) rfl ?_
                refine L.nil (QE.a (by kernel_rfl) ?_)
                refine LA.alt [7] (by kernel_rfl) (by decide) ⟨⟨_, rfl, ?_⟩, trivial⟩
                refine L.more (r := Rd (subA S c 2 1) (U8 (l.drop 2))) (Has.dropU (Has.r 0 rfl) c 2 hc) ?_
                refine L.callE (js := [0]) (js' := []) (number_c T 3 A [.int .i64 last, .int .i64 size] (subA S c 2 1) (l.drop 2) (c - 2) (by rw [List.length_drop]; omega)) rfl rfl rfl (by decide) ⟨(Has.r 0 rfl), trivial⟩ rfl ?_ ?_
                rotate_left
                · skip
                  rintro _ _ ⟨h9, rfl, rfl⟩
                  rw [List.length_drop] at h9
                  refine QE.aP ?_
                  refine QE.jP ?_
                  refine QE.tP ?_
                  refine QE.panE (js := []) (hs := []) (by decide) ⟨rfl, ?_⟩
                  exact ⟨fun hp => by unfold PieceOk at hp; omega, rfl, rfl⟩
                rintro _ _ _ ⟨rfl, h13, rfl, rfl⟩
                refine L.nil (QE.a (by kernel_rfl) ?_)
                refine LA.alt [8] (by kernel_rfl) (by decide) ⟨⟨_, rfl, ?_⟩, trivial⟩
                refine L.step (Ev.pure rfl) rfl ?_
                refine L.nil (QE.a (by kernel_rfl) ?_)
                refine LA.alt [9] (by kernel_rfl) (by decide) ⟨⟨_, rfl, ?_⟩, trivial⟩
                refine L.step (Ev.pure rfl) rfl ?_
                refine L.nil (QE.a (by kernel_rfl) ?_)
                refine LA.nil (by kernel_rfl) ?_
                refine QE.joined (()) (by exact ⟨h9, h13⟩) (by exact Le.mk' (rs := [1]) (hs := [0]) ⟨rfl, rfl, rfl, trivial⟩ ⟨rfl, trivial⟩ ⟨rfl, trivial⟩ (by decide))
              · skip
                refine L.step (Ev.fieldAddr rfl rfl rfl rfl rfl rfl (Src.o 0 rfl) (Nat.zero_lt_succ _) rfl) rfl ?_
                refine L.nil (QE.a (by kernel_rfl) ?_)
                refine LA.alt [3] (by kernel_rfl) (by decide) ⟨⟨_, rfl, ?_⟩, trivial⟩
                refine L.callE (js := [0]) (js' := []) (number_c T 3 A [.int .i64 last, .int .i64 size] S l c hc) rfl rfl rfl (by decide) ⟨(Has.r 0 rfl), trivial⟩ rfl ?_ ?_
                rotate_left
                · skip
                  rintro _ _ ⟨h9, rfl, rfl⟩
                  refine QE.aP ?_
                  refine QE.jP ?_
                  refine QE.tP ?_
                  refine QE.panE (js := []) (hs := []) (by decide) ⟨rfl, ?_⟩
                  exact ⟨fun hp => by unfold PieceOk at hp; omega, rfl, rfl⟩
                rintro _ _ _ ⟨rfl, h9, rfl, rfl⟩
                refine L.nil (QE.a (by kernel_rfl) ?_)
                refine LA.alt [7] (by kernel_rfl) (by decide) ⟨⟨_, rfl, ?_⟩, trivial⟩
                refine L.more (r := Rd (subA S c 2 1) (U8 (l.drop 2))) (Has.dropU (Has.r 0 rfl) c 2 hc) ?_
                refine L.callE (js := [0]) (js' := []) (number_c T 3 A [.int .i64 last, .int .i64 size] (subA S c 2 1) (l.drop 2) (c - 2) (by rw [List.length_drop]; omega)) rfl rfl rfl (by decide) ⟨(Has.r 0 rfl), trivial⟩ rfl ?_ ?_
                rotate_left
                · skip
                  rintro _ _ ⟨h9, rfl, rfl⟩
                  rw [List.length_drop] at h9
                  refine QE.aP ?_
                  refine QE.jP ?_
                  refine QE.tP ?_
                  refine QE.panE (js := []) (hs := []) (by decide) ⟨rfl, ?_⟩
                  exact ⟨fun hp => by unfold PieceOk at hp; omega, rfl, rfl⟩
                rintro _ _ _ ⟨rfl, h13, rfl, rfl⟩
                refine L.nil (QE.a (by kernel_rfl) ?_)
                refine LA.alt [8] (by kernel_rfl) (by decide) ⟨⟨_, rfl, ?_⟩, trivial⟩
                refine L.step (Ev.pure rfl) rfl ?_
                refine L.nil (QE.a (by kernel_rfl) ?_)
                refine LA.alt [9] (by kernel_rfl) (by decide) ⟨⟨_, rfl, ?_⟩, trivial⟩
                refine L.step (Ev.pure rfl) rfl ?_
                refine L.nil (QE.a (by kernel_rfl) ?_)
                refine LA.nil (by kernel_rfl) ?_
                refine QE.joined (()) (by exact ⟨h9, h13⟩) (by exact Le.mk' (rs := [1]) (hs := [0]) ⟨rfl, rfl, rfl, trivial⟩ ⟨rfl, trivial⟩ ⟨rfl, trivial⟩ (by decide))
            · skip
              refine L.step (Ev.fieldAddr rfl rfl rfl rfl rfl rfl (Src.o 0 rfl) (Nat.zero_lt_succ _) rfl) rfl ?_
              refine L.nil (QE.a (by kernel_rfl) ?_)
              refine LA.alt [2] (by kernel_rfl) (by decide) ⟨⟨_, rfl, ?_⟩, trivial⟩
              refine L.step (Ev.fieldAddr rfl rfl rfl rfl rfl rfl (Src.o 0 rfl) (Nat.zero_lt_succ _) rfl) rfl ?_
              refine L.nil (QE.a (by kernel_rfl) ?_)
              refine LA.alt [3] (by kernel_rfl) (by decide) ⟨⟨_, rfl, ?_⟩, trivial⟩
              refine L.callE (js := [0]) (js' := []) (number_c T 3 A [.int .i64 last, .int .i64 size] S l c hc) rfl rfl rfl (by decide) ⟨(Has.r 0 rfl), trivial⟩ rfl ?_ ?_
              rotate_left
              · skip
                rintro _ _ ⟨h9, rfl, rfl⟩
                refine QE.aP ?_
                refine QE.jP ?_
                refine QE.tP ?_
                refine QE.panE (js := []) (hs := []) (by decide) ⟨rfl, ?_⟩
                exact ⟨fun hp => by unfold PieceOk at hp; omega, rfl, rfl⟩
              rintro _ _ _ ⟨rfl, h9, rfl, rfl⟩
              refine L.nil (QE.a (by kernel_rfl) ?_)
              refine LA.alt [7] (by kernel_rfl) (by decide) ⟨⟨_, rfl, ?_⟩, trivial⟩
              refine L.more (r := Rd (subA S c 2 1) (U8 (l.drop 2))) (Has.dropU (Has.r 0 rfl) c 2 hc) ?_
              refine L.callE (js := [0]) (js' := []) (number_c T 3 A [.int .i64 last, .int .i64 size] (subA S c 2 1) (l.drop 2) (c - 2) (by rw [List.length_drop]; omega)) rfl rfl rfl (by decide) ⟨(Has.r 0 rfl), trivial⟩ rfl ?_ ?_
              rotate_left
              · skip
                rintro _ _ ⟨h9, rfl, rfl⟩
                rw [List.length_drop] at h9
                refine QE.aP ?_
                refine QE.jP ?_
                refine QE.tP ?_
                refine QE.panE (js := []) (hs := []) (by decide) ⟨rfl, ?_⟩
                exact ⟨fun hp => by unfold PieceOk at hp; omega, rfl, rfl⟩
              rintro _ _ _ ⟨rfl, h13, rfl, rfl⟩
              refine L.nil (QE.a (by kernel_rfl) ?_)
              refine LA.alt [8] (by kernel_rfl) (by decide) ⟨⟨_, rfl, ?_⟩, trivial⟩
              refine L.step (Ev.pure rfl) rfl ?_
              refine L.nil (QE.a (by kernel_rfl) ?_)
              refine LA.alt [9] (by kernel_rfl) (by decide) ⟨⟨_, rfl, ?_⟩, trivial⟩
              refine L.step (Ev.pure rfl) rfl ?_
              refine L.nil (QE.a (by kernel_rfl) ?_)
              refine LA.nil (by kernel_rfl) ?_
              refine QE.joined (()) (by exact ⟨h9, h13⟩) (by exact Le.mk' (rs := [1]) (hs := [0]) ⟨rfl, rfl, rfl, trivial⟩ ⟨rfl, trivial⟩ ⟨rfl, trivial⟩ (by decide))
        · skip
          refine L.step (Ev.nilCheck rfl (Src.o 0 rfl) (Nat.zero_lt_succ _)) rfl ?_
          refine L.nil (QE.a (by kernel_rfl) ?_)
          refine LA.alt [1, 6] (by kernel_rfl) (by decide) ⟨⟨_, rfl, ?_⟩, ⟨_, rfl, ?_⟩, trivial⟩
          · skip
            refine L.step (Ev.nilCheck rfl (Src.o 0 rfl) (Nat.zero_lt_succ _)) rfl ?_
            refine L.nil (QE.a (by kernel_rfl) ?_)
            refine LA.alt [2, 6] (by kernel_rfl) (by decide) ⟨⟨_, rfl, ?_⟩, ⟨_, rfl, ?_⟩, trivial⟩
            · skip
              refine L.step (Ev.fieldAddr rfl rfl rfl rfl rfl rfl (Src.o 0 rfl) (Nat.zero_lt_succ _) rfl) rfl ?_
              refine L.nil (QE.a (by kernel_rfl) ?_)
              refine LA.alt [3, 6] (by kernel_rfl) (by decide) ⟨⟨_, rfl, ?_⟩, ⟨_, rfl, ?_⟩, trivial⟩
              · skip
                refine L.callE (js := [0]) (js' := []) (number_c T 3 A [.int .i64 last, .int .i64 size] S l c hc) rfl rfl rfl (by decide) ⟨(Has.r 0 rfl), trivial⟩ rfl ?_ ?_
                rotate_left
                · skip
                  rintro _ _ ⟨h9, rfl, rfl⟩
                  refine QE.aP ?_
                  refine QE.jP ?_
                  refine QE.tP ?_
                  refine QE.panE (js := []) (hs := []) (by decide) ⟨rfl, ?_⟩
                  exact ⟨fun hp => by unfold PieceOk at hp; omega, rfl, rfl⟩
                rintro _ _ _ ⟨rfl, h9, rfl, rfl⟩
                refine L.nil (QE.a (by kernel_rfl) ?_)
                refine LA.alt [6] (by kernel_rfl) (by decide) ⟨⟨_, rfl, ?_⟩, trivial⟩
                first | refine L.step (Ev.fieldAddr rfl rfl rfl rfl rfl rfl (Src.o 0 rfl) (Nat.zero_lt_succ _) rfl) rfl ?_ | refine L.step (Ev.fieldAddr rfl rfl rfl rfl rfl rfl (Src.o 1 rfl) (Nat.zero_lt_succ _) rfl) rfl ?_ | refine L.step (Ev.fieldAddr rfl rfl rfl rfl rfl rfl (Src.o 2 rfl) (Nat.zero_lt_succ _) rfl) rfl ?_ | refine L.step (Ev.fieldAddr rfl rfl rfl rfl rfl rfl (Src.o 3 rfl) (Nat.zero_lt_succ _) rfl) rfl ?_ | refine L.step (Ev.fieldAddr rfl rfl rfl rfl rfl rfl (Src.o 4 rfl) (Nat.zero_lt_succ _) rfl) rfl ?_ | refine L.step (Ev.fieldAddr rfl rfl rfl rfl rfl rfl (Src.o 5 rfl) (Nat.zero_lt_succ _) rfl) rfl ?_ | refine L.step (Ev.fieldAddr rfl rfl rfl rfl rfl rfl (Src.r 0 rfl) (Nat.zero_lt_succ _) rfl) rfl ?_ | refine L.step (Ev.fieldAddr rfl rfl rfl rfl rfl rfl (Src.r 1 rfl) (Nat.zero_lt_succ _) rfl) rfl ?_ | refine L.step (Ev.fieldAddr rfl rfl rfl rfl rfl rfl (Src.r 2 rfl) (Nat.zero_lt_succ _) rfl) rfl ?_ | refine L.step (Ev.fieldAddr rfl rfl rfl rfl rfl rfl (Src.r 3 rfl) (Nat.zero_lt_succ _) rfl) rfl ?_ | refine L.step (Ev.fieldAddr rfl rfl rfl rfl rfl rfl (Src.r 4 rfl) (Nat.zero_lt_succ _) rfl) rfl ?_ | refine L.step (Ev.fieldAddr rfl rfl rfl rfl rfl rfl (Src.r 5 rfl) (Nat.zero_lt_succ _) rfl) rfl ?_
                refine L.nil (QE.a (by kernel_rfl) ?_)
                refine LA.alt [7] (by kernel_rfl) (by decide) ⟨⟨_, rfl, ?_⟩, trivial⟩
                refine L.more (r := Rd (subA S c 2 1) (U8 (l.drop 2))) (Has.dropU (Has.r 0 rfl) c 2 hc) ?_
                refine L.callE (js := [0]) (js' := []) (number_c T 3 A [.int .i64 last, .int .i64 size] (subA S c 2 1) (l.drop 2) (c - 2) (by rw [List.length_drop]; omega)) rfl rfl rfl (by decide) ⟨(Has.r 0 rfl), trivial⟩ rfl ?_ ?_
                rotate_left
                · skip
                  rintro _ _ ⟨h9, rfl, rfl⟩
                  rw [List.length_drop] at h9
                  refine QE.aP ?_
                  refine QE.jP ?_
                  refine QE.tP ?_
                  refine QE.panE (js := []) (hs := []) (by decide) ⟨rfl, ?_⟩
                  exact ⟨fun hp => by unfold PieceOk at hp; omega, rfl, rfl⟩
                rintro _ _ _ ⟨rfl, h13, rfl, rfl⟩
                refine L.nil (QE.a (by kernel_rfl) ?_)
                refine LA.alt [8] (by kernel_rfl) (by decide) ⟨⟨_, rfl, ?_⟩, trivial⟩
                refine L.step (Ev.pure rfl) rfl ?_
                refine L.nil (QE.a (by kernel_rfl) ?_)
                refine LA.alt [9] (by kernel_rfl) (by decide) ⟨⟨_, rfl, ?_⟩, trivial⟩
                refine L.step (Ev.pure rfl) rfl ?_
                refine L.nil (QE.a (by kernel_rfl) ?_)
                refine LA.nil (by kernel_rfl) ?_
                refine QE.joined (()) (by exact ⟨h9, h13⟩) (by exact Le.mk' (rs := [1]) (hs := [0]) ⟨rfl, rfl, rfl, trivial⟩ ⟨rfl, trivial⟩ ⟨rfl, trivial⟩ (by decide))
              · skip
                refine L.step (Ev.fieldAddr rfl rfl rfl rfl rfl rfl (Src.o 0 rfl) (Nat.zero_lt_succ _) rfl) rfl ?_
                refine L.nil (QE.a (by kernel_rfl) ?_)
                refine LA.alt [3] (by kernel_rfl) (by decide) ⟨⟨_, rfl, ?_⟩, trivial⟩
                refine L.callE (js := [0]) (js' := []) (number_c T 3 A [.int .i64 last, .int .i64 size] S l c hc) rfl rfl rfl (by decide) ⟨(Has.r 0 rfl), trivial⟩ rfl ?_ ?_
                rotate_left
                · skip
                  rintro _ _ ⟨h9, rfl, rfl⟩
                  refine QE.aP ?_
                  refine QE.jP ?_
                  refine QE.tP ?_
                  refine QE.panE (js := []) (hs := []) (by decide) ⟨rfl, ?_⟩
                  exact ⟨fun hp => by unfold PieceOk at hp; omega, rfl, rfl⟩
                rintro _ _ _ ⟨rfl, h9, rfl, rfl⟩
                refine L.nil (QE.a (by kernel_rfl) ?_)
                refine LA.alt [7] (by kernel_rfl) (by decide) ⟨⟨_, rfl, ?_⟩, trivial⟩
                refine L.more (r := Rd (subA S c 2 1) (U8 (l.drop 2))) (Has.dropU (Has.r 0 rfl) c 2 hc) ?_
                refine L.callE (js := [0]) (js' := []) (number_c T 3 A [.int .i64 last, .int .i64 size] (subA S c 2 1) (l.drop 2) (c - 2) (by rw [List.length_drop]; omega)) rfl rfl rfl (by decide) ⟨(Has.r 0 rfl), trivial⟩ rfl ?_ ?_
                rotate_left
                · skip
                  rintro _ _ ⟨h9, rfl, rfl⟩
                  rw [List.length_drop] at h9
                  refine QE.aP ?_
                  refine QE.jP ?_
                  refine QE.tP ?_
                  refine QE.panE (js := []) (hs := []) (by decide) ⟨rfl, ?_⟩
                  exact ⟨fun hp => by unfold PieceOk at hp; omega, rfl, rfl⟩
                rintro _ _ _ ⟨rfl, h13, rfl, rfl⟩
                refine L.nil (QE.a (by kernel_rfl) ?_)
                refine LA.alt [8] (by kernel_rfl) (by decide) ⟨⟨_, rfl, ?_⟩, trivial⟩
                refine L.step (Ev.pure rfl) rfl ?_
                refine L.nil (QE.a (by kernel_rfl) ?_)
                refine LA.alt [9] (by kernel_rfl) (by decide) ⟨⟨_, rfl, ?_⟩, trivial⟩
                refine L.step (Ev.pure rfl) rfl ?_
                refine L.nil (QE.a (by kernel_rfl) ?_)
                refine LA.nil (by kernel_rfl) ?_
                refine QE.joined (()) (by exact ⟨h9, h13⟩) (by exact Le.mk' (rs := [1]) (hs := [0]) ⟨rfl, rfl, rfl, trivial⟩ ⟨rfl, trivial⟩ ⟨rfl, trivial⟩ (by decide))
            · skip
              refine L.step (Ev.fieldAddr rfl rfl rfl rfl rfl rfl (Src.o 0 rfl) (Nat.zero_lt_succ _) rfl) rfl ?_
              refine L.nil (QE.a (by kernel_rfl) ?_)
              refine LA.alt [2] (by kernel_rfl) (by decide) ⟨⟨_, rfl, ?_⟩, trivial⟩
              refine L.step (Ev.fieldAddr rfl rfl rfl rfl rfl rfl (Src.o 0 rfl) (Nat.zero_lt_succ _) rfl) rfl ?_
              refine L.nil (QE.a (by kernel_rfl) ?_)
              refine LA.alt [3] (by kernel_rfl) (by decide) ⟨⟨_, rfl, ?_⟩, trivial⟩
              refine L.callE (js := [0]) (js' := []) (number_c T 3 A [.int .i64 last, .int .i64 size] S l c hc) rfl rfl rfl (by decide) ⟨(Has.r 0 rfl), trivial⟩ rfl ?_ ?_
              rotate_left
              · skip
                rintro _ _ ⟨h9, rfl, rfl⟩
                refine QE.aP ?_
                refine QE.jP ?_
                refine QE.tP ?_
                refine QE.panE (js := []) (hs := []) (by decide) ⟨rfl, ?_⟩
                exact ⟨fun hp => by unfold PieceOk at hp; omega, rfl, rfl⟩
              rintro _ _ _ ⟨rfl, h9, rfl, rfl⟩
              refine L.nil (QE.a (by kernel_rfl) ?_)
              refine LA.alt [7] (by kernel_rfl) (by decide) ⟨⟨_, rfl, ?_⟩, trivial⟩
              refine L.more (r := Rd (subA S c 2 1) (U8 (l.drop 2))) (Has.dropU (Has.r 0 rfl) c 2 hc) ?_
              refine L.callE (js := [0]) (js' := []) (number_c T 3 A [.int .i64 last, .int .i64 size] (subA S c 2 1) (l.drop 2) (c - 2) (by rw [List.length_drop]; omega)) rfl rfl rfl (by decide) ⟨(Has.r 0 rfl), trivial⟩ rfl ?_ ?_
              rotate_left
              · skip
                rintro _ _ ⟨h9, rfl, rfl⟩
                rw [List.length_drop] at h9
                refine QE.aP ?_
                refine QE.jP ?_
                refine QE.tP ?_
                refine QE.panE (js := []) (hs := []) (by decide) ⟨rfl, ?_⟩
                exact ⟨fun hp => by unfold PieceOk at hp; omega, rfl, rfl⟩
              rintro _ _ _ ⟨rfl, h13, rfl, rfl⟩
              refine L.nil (QE.a (by kernel_rfl) ?_)
              refine LA.alt [8] (by kernel_rfl) (by decide) ⟨⟨_, rfl, ?_⟩, trivial⟩
              refine L.step (Ev.pure rfl) rfl ?_
              refine L.nil (QE.a (by kernel_rfl) ?_)
              refine LA.alt [9] (by kernel_rfl) (by decide) ⟨⟨_, rfl, ?_⟩, trivial⟩
              refine L.step (Ev.pure rfl) rfl ?_
              refine L.nil (QE.a (by kernel_rfl) ?_)
              refine LA.nil (by kernel_rfl) ?_
              refine QE.joined (()) (by exact ⟨h9, h13⟩) (by exact Le.mk' (rs := [1]) (hs := [0]) ⟨rfl, rfl, rfl, trivial⟩ ⟨rfl, trivial⟩ ⟨rfl, trivial⟩ (by decide))
          · skip
            refine L.step (Ev.fieldAddr rfl rfl rfl rfl rfl rfl (Src.o 0 rfl) (Nat.zero_lt_succ _) rfl) rfl ?_
            refine L.nil (QE.a (by kernel_rfl) ?_)
            refine LA.alt [1] (by kernel_rfl) (by decide) ⟨⟨_, rfl, ?_⟩, trivial⟩
            refine L.step (Ev.nilCheck rfl (Src.o 0 rfl) (Nat.zero_lt_succ _)) rfl ?_
            refine L.nil (QE.a (by kernel_rfl) ?_)
            refine LA.alt [2] (by kernel_rfl) (by decide) ⟨⟨_, rfl, ?_⟩, trivial⟩
            refine L.step (Ev.fieldAddr rfl rfl rfl rfl rfl rfl (Src.o 0 rfl) (Nat.zero_lt_succ _) rfl) rfl ?_
            refine L.nil (QE.a (by kernel_rfl) ?_)
            refine LA.alt [3] (by kernel_rfl) (by decide) ⟨⟨_, rfl, ?_⟩, trivial⟩
            refine L.callE (js := [0]) (js' := []) (number_c T 3 A [.int .i64 last, .int .i64 size] S l c hc) rfl rfl rfl (by decide) ⟨(Has.r 0 rfl), trivial⟩ rfl ?_ ?_
            rotate_left
            · skip
              rintro _ _ ⟨h9, rfl, rfl⟩
              refine QE.aP ?_
              refine QE.jP ?_
              refine QE.tP ?_
              refine QE.panE (js := []) (hs := []) (by decide) ⟨rfl, ?_⟩
              exact ⟨fun hp => by unfold PieceOk at hp; omega, rfl, rfl⟩
            rintro _ _ _ ⟨rfl, h9, rfl, rfl⟩
            refine L.nil (QE.a (by kernel_rfl) ?_)
            refine LA.alt [7] (by kernel_rfl) (by decide) ⟨⟨_, rfl, ?_⟩, trivial⟩
            refine L.more (r := Rd (subA S c 2 1) (U8 (l.drop 2))) (Has.dropU (Has.r 0 rfl) c 2 hc) ?_
            refine L.callE (js := [0]) (js' := []) (number_c T 3 A [.int .i64 last, .int .i64 size] (subA S c 2 1) (l.drop 2) (c - 2) (by rw [List.length_drop]; omega)) rfl rfl rfl (by decide) ⟨(Has.r 0 rfl), trivial⟩ rfl ?_ ?_
            rotate_left
            · skip
              rintro _ _ ⟨h9, rfl, rfl⟩
              rw [List.length_drop] at h9
              refine QE.aP ?_
              refine QE.jP ?_
              refine QE.tP ?_
              refine QE.panE (js := []) (hs := []) (by decide) ⟨rfl, ?_⟩
              exact ⟨fun hp => by unfold PieceOk at hp; omega, rfl, rfl⟩
            rintro _ _ _ ⟨rfl, h13, rfl, rfl⟩
            refine L.nil (QE.a (by kernel_rfl) ?_)
            refine LA.alt [8] (by kernel_rfl) (by decide) ⟨⟨_, rfl, ?_⟩, trivial⟩
            refine L.step (Ev.pure rfl) rfl ?_
            refine L.nil (QE.a (by kernel_rfl) ?_)
            refine LA.alt [9] (by kernel_rfl) (by decide) ⟨⟨_, rfl, ?_⟩, trivial⟩
            refine L.step (Ev.pure rfl) rfl ?_
            refine L.nil (QE.a (by kernel_rfl) ?_)
            refine LA.nil (by kernel_rfl) ?_
            refine QE.joined (()) (by exact ⟨h9, h13⟩) (by exact Le.mk' (rs := [1]) (hs := [0]) ⟨rfl, rfl, rfl, trivial⟩ ⟨rfl, trivial⟩ ⟨rfl, trivial⟩ (by decide))
    · skip
      refine L.step (Ev.pure rfl) rfl ?_
      refine L.nil (QE.a (by kernel_rfl) ?_)
      refine LA.alt [0, 5] (by kernel_rfl) (by decide) ⟨⟨_, rfl, ?_⟩, ⟨_, rfl, ?_⟩, trivial⟩
      · skip
        refine L.step (Ev.pure rfl) rfl ?_
        refine L.nil (QE.a (by kernel_rfl) ?_)
        refine LA.alt [1, 5] (by kernel_rfl) (by decide) ⟨⟨_, rfl, ?_⟩, ⟨_, rfl, ?_⟩, trivial⟩
        · skip
          refine L.step (Ev.nilCheck rfl (Src.o 0 rfl) (Nat.zero_lt_succ _)) rfl ?_
          refine L.nil (QE.a (by kernel_rfl) ?_)
          refine LA.alt [2, 5] (by kernel_rfl) (by decide) ⟨⟨_, rfl, ?_⟩, ⟨_, rfl, ?_⟩, trivial⟩
          · skip
            refine L.step (Ev.fieldAddr rfl rfl rfl rfl rfl rfl (Src.o 0 rfl) (Nat.zero_lt_succ _) rfl) rfl ?_
            refine L.nil (QE.a (by kernel_rfl) ?_)
            refine LA.alt [3, 5] (by kernel_rfl) (by decide) ⟨⟨_, rfl, ?_⟩, ⟨_, rfl, ?_⟩, trivial⟩
            · skip
              refine L.callE (js := [0]) (js' := []) (number_c T 3 A [.int .i64 last, .int .i64 size] S l c hc) rfl rfl rfl (by decide) ⟨(Has.r 0 rfl), trivial⟩ rfl ?_ ?_
              rotate_left
              · skip
                rintro _ _ ⟨h9, rfl, rfl⟩
                refine QE.aP ?_
                refine QE.jP ?_
                refine QE.tP ?_
                refine QE.panE (js := []) (hs := []) (by decide) ⟨rfl, ?_⟩
                exact ⟨fun hp => by unfold PieceOk at hp; omega, rfl, rfl⟩
              rintro _ _ _ ⟨rfl, h9, rfl, rfl⟩
              refine L.nil (QE.a (by kernel_rfl) ?_)
              refine LA.alt [5] (by kernel_rfl) (by decide) ⟨⟨_, rfl, ?_⟩, trivial⟩
              first | refine L.step (Ev.nilCheck rfl (Src.o 0 rfl) (Nat.zero_lt_succ _)) rfl ?_ | refine L.step (Ev.nilCheck rfl (Src.o 1 rfl) (Nat.zero_lt_succ _)) rfl ?_ | refine L.step (Ev.nilCheck rfl (Src.o 2 rfl) (Nat.zero_lt_succ _)) rfl ?_ | refine L.step (Ev.nilCheck rfl (Src.o 3 rfl) (Nat.zero_lt_succ _)) rfl ?_ | refine L.step (Ev.nilCheck rfl (Src.o 4 rfl) (Nat.zero_lt_succ _)) rfl ?_ | refine L.step (Ev.nilCheck rfl (Src.o 5 rfl) (Nat.zero_lt_succ _)) rfl ?_ | refine L.step (Ev.nilCheck rfl (Src.r 0 rfl) (Nat.zero_lt_succ _)) rfl ?_ | refine L.step (Ev.nilCheck rfl (Src.r 1 rfl) (Nat.zero_lt_succ _)) rfl ?_ | refine L.step (Ev.nilCheck rfl (Src.r 2 rfl) (Nat.zero_lt_succ _)) rfl ?_ | refine L.step (Ev.nilCheck rfl (Src.r 3 rfl) (Nat.zero_lt_succ _)) rfl ?_ | refine L.step (Ev.nilCheck rfl (Src.r 4 rfl) (Nat.zero_lt_succ _)) rfl ?_ | refine L.step (Ev.nilCheck rfl (Src.r 5 rfl) (Nat.zero_lt_succ _)) rfl ?_
              refine L.nil (QE.a (by kernel_rfl) ?_)
              refine LA.alt [6] (by kernel_rfl) (by decide) ⟨⟨_, rfl, ?_⟩, trivial⟩
              first | refine L.step (Ev.fieldAddr rfl rfl rfl rfl rfl rfl (Src.o 0 rfl) (Nat.zero_lt_succ _) rfl) rfl ?_ | refine L.step (Ev.fieldAddr rfl rfl rfl rfl rfl rfl (Src.o 1 rfl) (Nat.zero_lt_succ _) rfl) rfl ?_ | refine L.step (Ev.fieldAddr rfl rfl rfl rfl rfl rfl (Src.o 2 rfl) (Nat.zero_lt_succ _) rfl) rfl ?_ | refine L.step (Ev.fieldAddr rfl rfl rfl rfl rfl rfl (Src.o 3 rfl) (Nat.zero_lt_succ _) rfl) rfl ?_ | refine L.step (Ev.fieldAddr rfl rfl rfl rfl rfl rfl (Src.o 4 rfl) (Nat.zero_lt_succ _) rfl) rfl ?_ | refine L.step (Ev.fieldAddr rfl rfl rfl rfl rfl rfl (Src.o 5 rfl) (Nat.zero_lt_succ _) rfl) rfl ?_ | refine L.step (Ev.fieldAddr rfl rfl rfl rfl rfl rfl (Src.r 0 rfl) (Nat.zero_lt_succ _) rfl) rfl ?_ | refine L.step (Ev.fieldAddr rfl rfl rfl rfl rfl rfl (Src.r 1 rfl) (Nat.zero_lt_succ _) rfl) rfl ?_ | refine L.step (Ev.fieldAddr rfl rfl rfl rfl rfl rfl (Src.r 2 rfl) (Nat.zero_lt_succ _) rfl) rfl ?_ | refine L.step (Ev.fieldAddr rfl rfl rfl rfl rfl rfl (Src.r 3 rfl) (Nat.zero_lt_succ _) rfl) rfl ?_ | refine L.step (Ev.fieldAddr rfl rfl rfl rfl rfl rfl (Src.r 4 rfl) (Nat.zero_lt_succ _) rfl) rfl ?_ | refine L.step (Ev.fieldAddr rfl rfl rfl rfl rfl rfl (Src.r 5 rfl) (Nat.zero_lt_succ _) rfl) rfl ?_
              refine L.nil (QE.a (by kernel_rfl) ?_)
              refine LA.alt [7] (by kernel_rfl) (by decide) ⟨⟨_, rfl, ?_⟩, trivial⟩
              refine L.more (r := Rd (subA S c 2 1) (U8 (l.drop 2))) (Has.dropU (Has.r 0 rfl) c 2 hc) ?_
              refine L.callE (js := [0]) (js' := []) (number_c T 3 A [.int .i64 last, .int .i64 size] (subA S c 2 1) (l.drop 2) (c - 2) (by rw [List.length_drop]; omega)) rfl rfl rfl (by decide) ⟨(Has.r 0 rfl), trivial⟩ rfl ?_ ?_
              rotate_left
              · skip
                rintro _ _ ⟨h9, rfl, rfl⟩
                rw [List.length_drop] at h9
                refine QE.aP ?_
                refine QE.jP ?_
                refine QE.tP ?_
                refine QE.panE (js := []) (hs := []) (by decide) ⟨rfl, ?_⟩
                exact ⟨fun hp => by unfold PieceOk at hp; omega, rfl, rfl⟩
              rintro _ _ _ ⟨rfl, h13, rfl, rfl⟩
              refine L.nil (QE.a (by kernel_rfl) ?_)
              refine LA.alt [8] (by kernel_rfl) (by decide) ⟨⟨_, rfl, ?_⟩, trivial⟩
              refine L.step (Ev.pure rfl) rfl ?_
              refine L.nil (QE.a (by kernel_rfl) ?_)
              refine LA.alt [9] (by kernel_rfl) (by decide) ⟨⟨_, rfl, ?_⟩, trivial⟩
              refine L.step (Ev.pure rfl) rfl ?_
              refine L.nil (QE.a (by kernel_rfl) ?_)
              refine LA.nil (by kernel_rfl) ?_
              refine QE.joined (()) (by exact ⟨h9, h13⟩) (by exact Le.mk' (rs := [1]) (hs := [0]) ⟨rfl, rfl, rfl, trivial⟩ ⟨rfl, trivial⟩ ⟨rfl, trivial⟩ (by decide))
            · skip
              refine L.step (Ev.nilCheck rfl (Src.o 0 rfl) (Nat.zero_lt_succ _)) rfl ?_
              refine L.nil (QE.a (by kernel_rfl) ?_)
              refine LA.alt [3, 6] (by kernel_rfl) (by decide) ⟨⟨_, rfl, ?_⟩, ⟨_, rfl, ?_⟩, trivial⟩
              · skip
                refine L.callE (js := [0]) (js' := []) (number_c T 3 A [.int .i64 last, .int .i64 size] S l c hc) rfl rfl rfl (by decide) ⟨(Has.r 0 rfl), trivial⟩ rfl ?_ ?_
                rotate_left
                · skip
                  rintro _ _ ⟨h9, rfl, rfl⟩
                  refine QE.aP ?_
                  refine QE.jP ?_
                  refine QE.tP ?_
                  refine QE.panE (js := []) (hs := []) (by decide) ⟨rfl, ?_⟩
                  exact ⟨fun hp => by unfold PieceOk at hp; omega, rfl, rfl⟩
                rintro _ _ _ ⟨rfl, h9, rfl, rfl⟩
                refine L.nil (QE.a (by kernel_rfl) ?_)
                refine LA.alt [6] (by kernel_rfl) (by decide) ⟨⟨_, rfl, ?_⟩, trivial⟩
                first | refine L.step (Ev.fieldAddr rfl rfl rfl rfl rfl rfl (Src.o 0 rfl) (Nat.zero_lt_succ _) rfl) rfl ?_ | refine L.step (Ev.fieldAddr rfl rfl rfl rfl rfl rfl (Src.o 1 rfl) (Nat.zero_lt_succ _) rfl) rfl ?_ | refine L.step (Ev.fieldAddr rfl rfl rfl rfl rfl rfl (Src.o 2 rfl) (Nat.zero_lt_succ _) rfl) rfl ?_ | refine L.step (Ev.fieldAddr rfl rfl rfl rfl rfl rfl (Src.o 3 rfl) (Nat.zero_lt_succ _) rfl) rfl ?_ | refine L.step (Ev.fieldAddr rfl rfl rfl rfl rfl rfl (Src.o 4 rfl) (Nat.zero_lt_succ _) rfl) rfl ?_ | refine L.step (Ev.fieldAddr rfl rfl rfl rfl rfl rfl (Src.o 5 rfl) (Nat.zero_lt_succ _) rfl) rfl ?_ | refine L.step (Ev.fieldAddr rfl rfl rfl rfl rfl rfl (Src.r 0 rfl) (Nat.zero_lt_succ _) rfl) rfl ?_ | refine L.step (Ev.fieldAddr rfl rfl rfl rfl rfl rfl (Src.r 1 rfl) (Nat.zero_lt_succ _) rfl) rfl ?_ | refine L.step (Ev.fieldAddr rfl rfl rfl rfl rfl rfl (Src.r 2 rfl) (Nat.zero_lt_succ _) rfl) rfl ?_ | refine L.step (Ev.fieldAddr rfl rfl rfl rfl rfl rfl (Src.r 3 rfl) (Nat.zero_lt_succ _) rfl) rfl ?_ | refine L.step (Ev.fieldAddr rfl rfl rfl rfl rfl rfl (Src.r 4 rfl) (Nat.zero_lt_succ _) rfl) rfl ?_ | refine L.step (Ev.fieldAddr rfl rfl rfl rfl rfl rfl (Src.r 5 rfl) (Nat.zero_lt_succ _) rfl) rfl ?_
                refine L.nil (QE.a (by kernel_rfl) ?_)
                refine LA.alt [7] (by kernel_rfl) (by decide) ⟨⟨_, rfl, ?_⟩, trivial⟩
                refine L.more (r := Rd (subA S c 2 1) (U8 (l.drop 2))) (Has.dropU (Has.r 0 rfl) c 2 hc) ?_
                refine L.callE (js := [0]) (js' := []) (number_c T 3 A [.int .i64 last, .int .i64 size] (subA S c 2 1) (l.drop 2) (c - 2) (by rw [List.length_drop]; omega)) rfl rfl rfl (by decide) ⟨(Has.r 0 rfl), trivial⟩ rfl ?_ ?_
                rotate_left
                · skip
                  rintro _ _ ⟨h9, rfl, rfl⟩
                  rw [List.length_drop] at h9
                  refine QE.aP ?_
                  refine QE.jP ?_
                  refine QE.tP ?_
                  refine QE.panE (js := []) (hs := []) (by decide) ⟨rfl, ?_⟩
                  exact ⟨fun hp => by unfold PieceOk at hp; omega, rfl, rfl⟩
                rintro _ _ _ ⟨rfl, h13, rfl, rfl⟩
                refine L.nil (QE.a (by kernel_rfl) ?_)
                refine LA.alt [8] (by kernel_rfl) (by decide) ⟨⟨_, rfl, ?_⟩, trivial⟩
                refine L.step (Ev.pure rfl) rfl ?_
                refine L.nil (QE.a (by kernel_rfl) ?_)
                refine LA.alt [9] (by kernel_rfl) (by decide) ⟨⟨_, rfl, ?_⟩, trivial⟩
                refine L.step (Ev.pure rfl) rfl ?_
                refine L.nil (QE.a (by kernel_rfl) ?_)
                refine LA.nil (by kernel_rfl) ?_
                refine QE.joined (()) (by exact ⟨h9, h13⟩) (by exact Le.mk' (rs := [1]) (hs := [0]) ⟨rfl, rfl, rfl, trivial⟩ ⟨rfl, trivial⟩ ⟨rfl, trivial⟩ (by decide))
              · skip
                refine L.step (Ev.fieldAddr rfl rfl rfl rfl rfl rfl (Src.o 0 rfl) (Nat.zero_lt_succ _) rfl) rfl ?_
                refine L.nil (QE.a (by kernel_rfl) ?_)
                refine LA.alt [3] (by kernel_rfl) (by decide) ⟨⟨_, rfl, ?_⟩, trivial⟩
                refine L.callE (js := [0]) (js' := []) (number_c T 3 A [.int .i64 last, .int .i64 size] S l c hc) rfl rfl rfl (by decide) ⟨(Has.r 0 rfl), trivial⟩ rfl ?_ ?_
                rotate_left
                · skip
                  rintro _ _ ⟨h9, rfl, rfl⟩
                  refine QE.aP ?_
                  refine QE.jP ?_
                  refine QE.tP ?_
                  refine QE.panE (js := []) (hs := []) (by decide) ⟨rfl, ?_⟩
                  exact ⟨fun hp => by unfold PieceOk at hp; omega, rfl, rfl⟩
                rintro _ _ _ ⟨rfl, h9, rfl, rfl⟩
                refine L.nil (QE.a (by kernel_rfl) ?_)
                refine LA.alt [7] (by kernel_rfl) (by decide) ⟨⟨_, rfl, ?_⟩, trivial⟩
                refine L.more (r := Rd (subA S c 2 1) (U8 (l.drop 2))) (Has.dropU (Has.r 0 rfl) c 2 hc) ?_
                refine L.callE (js := [0]) (js' := []) (number_c T 3 A [.int .i64 last, .int .i64 size] (subA S c 2 1) (l.drop 2) (c - 2) (by rw [List.length_drop]; omega)) rfl rfl rfl (by decide) ⟨(Has.r 0 rfl), trivial⟩ rfl ?_ ?_
                rotate_left
                · skip
                  rintro _ _ ⟨h9, rfl, rfl⟩
                  rw [List.length_drop] at h9
                  refine QE.aP ?_
                  refine QE.jP ?_
                  refine QE.tP ?_
                  refine QE.panE (js := []) (hs := []) (by decide) ⟨rfl, ?_⟩
                  exact ⟨fun hp => by unfold PieceOk at hp; omega, rfl, rfl⟩
                rintro _ _ _ ⟨rfl, h13, rfl, rfl⟩
                refine L.nil (QE.a (by kernel_rfl) ?_)
                refine LA.alt [8] (by kernel_rfl) (by decide) ⟨⟨_, rfl, ?_⟩, trivial⟩
                refine L.step (Ev.pure rfl) rfl ?_
                refine L.nil (QE.a (by kernel_rfl) ?_)
                refine LA.alt [9] (by kernel_rfl) (by decide) ⟨⟨_, rfl, ?_⟩, trivial⟩
                refine L.step (Ev.pure rfl) rfl ?_
                refine L.nil (QE.a (by kernel_rfl) ?_)
                refine LA.nil (by kernel_rfl) ?_
                refine QE.joined (()) (by exact ⟨h9, h13⟩) (by exact Le.mk' (rs := [1]) (hs := [0]) ⟨rfl, rfl, rfl, trivial⟩ ⟨rfl, trivial⟩ ⟨rfl, trivial⟩ (by decide))
          · skip
            refine L.step (Ev.nilCheck rfl (Src.o 0 rfl) (Nat.zero_lt_succ _)) rfl ?_
            refine L.nil (QE.a (by kernel_rfl) ?_)
            refine LA.alt [2, 6] (by kernel_rfl) (by decide) ⟨⟨_, rfl, ?_⟩, ⟨_, rfl, ?_⟩, trivial⟩
            · skip
              refine L.step (Ev.fieldAddr rfl rfl rfl rfl rfl rfl (Src.o 0 rfl) (Nat.zero_lt_succ _) rfl) rfl ?_
              refine L.nil (QE.a (by kernel_rfl) ?_)
              refine LA.alt [3, 6] (by kernel_rfl) (by decide) ⟨⟨_, rfl, ?_⟩, ⟨_, rfl, ?_⟩, trivial⟩
              · skip
                refine L.callE (js := [0]) (js' := []) (number_c T 3 A [.int .i64 last, .int .i64 size] S l c hc) rfl rfl rfl (by decide) ⟨(Has.r 0 rfl), trivial⟩ rfl ?_ ?_
                rotate_left
                · skip
                  rintro _ _ ⟨h9, rfl, rfl⟩
                  refine QE.aP ?_
                  refine QE.jP ?_
                  refine QE.tP ?_
                  refine QE.panE (js := []) (hs := []) (by decide) ⟨rfl, ?_⟩
                  exact ⟨fun hp => by unfold PieceOk at hp; omega, rfl, rfl⟩
                rintro _ _ _ ⟨rfl, h9, rfl, rfl⟩
                refine L.nil (QE.a (by kernel_rfl) ?_)
                refine LA.alt [6] (by kernel_rfl) (by decide) ⟨⟨_, rfl, ?_⟩, trivial⟩
                first | refine L.step (Ev.fieldAddr rfl rfl rfl rfl rfl rfl (Src.o 0 rfl) (Nat.zero_lt_succ _) rfl) rfl ?_ | refine L.step (Ev.fieldAddr rfl rfl rfl rfl rfl rfl (Src.o 1 rfl) (Nat.zero_lt_succ _) rfl) rfl ?_ | refine L.step (Ev.fieldAddr rfl rfl rfl rfl rfl rfl (Src.o 2 rfl) (Nat.zero_lt_succ _) rfl) rfl ?_ | refine L.step (Ev.fieldAddr rfl rfl rfl rfl rfl rfl (Src.o 3 rfl) (Nat.zero_lt_succ _) rfl) rfl ?_ | refine L.step (Ev.fieldAddr rfl rfl rfl rfl rfl rfl (Src.o 4 rfl) (Nat.zero_lt_succ _) rfl) rfl ?_ | refine L.step (Ev.fieldAddr rfl rfl rfl rfl rfl rfl (Src.o 5 rfl) (Nat.zero_lt_succ _) rfl) rfl ?_ | refine L.step (Ev.fieldAddr rfl rfl rfl rfl rfl rfl (Src.r 0 rfl) (Nat.zero_lt_succ _) rfl) rfl ?_ | refine L.step (Ev.fieldAddr rfl rfl rfl rfl rfl rfl (Src.r 1 rfl) (Nat.zero_lt_succ _) rfl) rfl ?_ | refine L.step (Ev.fieldAddr rfl rfl rfl rfl rfl rfl (Src.r 2 rfl) (Nat.zero_lt_succ _) rfl) rfl ?_ | refine L.step (Ev.fieldAddr rfl rfl rfl rfl rfl rfl (Src.r 3 rfl) (Nat.zero_lt_succ _) rfl) rfl ?_ | refine L.step (Ev.fieldAddr rfl rfl rfl rfl rfl rfl (Src.r 4 rfl) (Nat.zero_lt_succ _) rfl) rfl ?_ | refine L.step (Ev.fieldAddr rfl rfl rfl rfl rfl rfl (Src.r 5 rfl) (Nat.zero_lt_succ _) rfl) rfl ?_
                refine L.nil (QE.a (by kernel_rfl) ?_)
                refine LA.alt [7] (by kernel_rfl) (by decide) ⟨⟨_, rfl, ?_⟩, trivial⟩
                refine L.more (r := Rd (subA S c 2 1) (U8 (l.drop 2))) (Has.dropU (Has.r 0 rfl) c 2 hc) ?_
                refine L.callE (js := [0]) (js' := []) (number_c T 3 A [.int .i64 last, .int .i64 size] (subA S c 2 1) (l.drop 2) (c - 2) (by rw [List.length_drop]; omega)) rfl rfl rfl (by decide) ⟨(Has.r 0 rfl), trivial⟩ rfl ?_ ?_
                rotate_left
                · skip
                  rintro _ _ ⟨h9, rfl, rfl⟩
                  rw [List.length_drop] at h9
                  refine QE.aP ?_
                  refine QE.jP ?_
                  refine QE.tP ?_
                  refine QE.panE (js := []) (hs := []) (by decide) ⟨rfl, ?_⟩
                  exact ⟨fun hp => by unfold PieceOk at hp; omega, rfl, rfl⟩
                rintro _ _ _ ⟨rfl, h13, rfl, rfl⟩
                refine L.nil (QE.a (by kernel_rfl) ?_)
                refine LA.alt [8] (by kernel_rfl) (by decide) ⟨⟨_, rfl, ?_⟩, trivial⟩
                refine L.step (Ev.pure rfl) rfl ?_
                refine L.nil (QE.a (by kernel_rfl) ?_)
                refine LA.alt [9] (by kernel_rfl) (by decide) ⟨⟨_, rfl, ?_⟩, trivial⟩
                refine L.step (Ev.pure rfl) rfl ?_
                refine L.nil (QE.a (by kernel_rfl) ?_)
                refine LA.nil (by kernel_rfl) ?_
                refine QE.joined (()) (by exact ⟨h9, h13⟩) (by exact Le.mk' (rs := [1]) (hs := [0]) ⟨rfl, rfl, rfl, trivial⟩ ⟨rfl, trivial⟩ ⟨rfl, trivial⟩ (by decide))
              · skip
                refine L.step (Ev.fieldAddr rfl rfl rfl rfl rfl rfl (Src.o 0 rfl) (Nat.zero_lt_succ _) rfl) rfl ?_
                refine L.nil (QE.a (by kernel_rfl) ?_)
                refine LA.alt [3] (by kernel_rfl) (by decide) ⟨⟨_, rfl, ?_⟩, trivial⟩
                refine L.callE (js := [0]) (js' := []) (number_c T 3 A [.int .i64 last, .int .i64 size] S l c hc) rfl rfl rfl (by decide) ⟨(Has.r 0 rfl), trivial⟩ rfl ?_ ?_
                rotate_left
                · skip
                  rintro _ _ ⟨h9, rfl, rfl⟩
                  refine QE.aP ?_
                  refine QE.jP ?_
                  refine QE.tP ?_
                  refine QE.panE (js := []) (hs := []) (by decide) ⟨rfl, ?_⟩
                  exact ⟨fun hp => by unfold PieceOk at hp; omega, rfl, rfl⟩
                rintro _ _ _ ⟨rfl, h9, rfl, rfl⟩
                refine L.nil (QE.a (by kernel_rfl) ?_)
                refine LA.alt [7] (by kernel_rfl) (by decide) ⟨⟨_, rfl, ?_⟩, trivial⟩
                refine L.more (r := Rd (subA S c 2 1) (U8 (l.drop 2))) (Has.dropU (Has.r 0 rfl) c 2 hc) ?_
                refine L.callE (js := [0]) (js' := []) (number_c T 3 A [.int .i64 last, .int .i64 size] (subA S c 2 1) (l.drop 2) (c - 2) (by rw [List.length_drop]; omega)) rfl rfl rfl (by decide) ⟨(Has.r 0 rfl), trivial⟩ rfl ?_ ?_
                rotate_left
                · skip
                  rintro _ _ ⟨h9, rfl, rfl⟩
                  rw [List.length_drop] at h9
                  refine QE.aP ?_
                  refine QE.jP ?_
                  refine QE.tP ?_
                  refine QE.panE (js := []) (hs := []) (by decide) ⟨rfl, ?_⟩
                  exact ⟨fun hp => by unfold PieceOk at hp; omega, rfl, rfl⟩
                rintro _ _ _ ⟨rfl, h13, rfl, rfl⟩
                refine L.nil (QE.a (by kernel_rfl) ?_)
                refine LA.alt [8] (by kernel_rfl) (by decide) ⟨⟨_, rfl, ?_⟩, trivial⟩
                refine L.step (Ev.pure rfl) rfl ?_
                refine L.nil (QE.a (by kernel_rfl) ?_)
                refine LA.alt [9] (by kernel_rfl) (by decide) ⟨⟨_, rfl, ?_⟩, trivial⟩
                refine L.step (Ev.pure rfl) rfl ?_
                refine L.nil (QE.a (by kernel_rfl) ?_)
                refine LA.nil (by kernel_rfl) ?_
                refine QE.joined (()) (by exact ⟨h9, h13⟩) (by exact Le.mk' (rs := [1]) (hs := [0]) ⟨rfl, rfl, rfl, trivial⟩ ⟨rfl, trivial⟩ ⟨rfl, trivial⟩ (by decide))
            · skip
              refine L.step (Ev.fieldAddr rfl rfl rfl rfl rfl rfl (Src.o 0 rfl) (Nat.zero_lt_succ _) rfl) rfl ?_
              refine L.nil (QE.a (by kernel_rfl) ?_)
              refine LA.alt [2] (by kernel_rfl) (by decide) ⟨⟨_, rfl, ?_⟩, trivial⟩
              refine L.step (Ev.fieldAddr rfl rfl rfl rfl rfl rfl (Src.o 0 rfl) (Nat.zero_lt_succ _) rfl) rfl ?_
              refine L.nil (QE.a (by kernel_rfl) ?_)
              refine LA.alt [3] (by kernel_rfl) (by decide) ⟨⟨_, rfl, ?_⟩, trivial⟩
              refine L.callE (js := [0]) (js' := []) (number_c T 3 A [.int .i64 last, .int .i64 size] S l c hc) rfl rfl rfl (by decide) ⟨(Has.r 0 rfl), trivial⟩ rfl ?_ ?_
              rotate_left
              · skip
                rintro _ _ ⟨h9, rfl, rfl⟩
                refine QE.aP ?_
                refine QE.jP ?_
                refine QE.tP ?_
                refine QE.panE (js := []) (hs := []) (by decide) ⟨rfl, ?_⟩
                exact ⟨fun hp => by unfold PieceOk at hp; omega, rfl, rfl⟩
              rintro _ _ _ ⟨rfl, h9, rfl, rfl⟩
              refine L.nil (QE.a (by kernel_rfl) ?_)
              refine LA.alt [7] (by kernel_rfl) (by decide) ⟨⟨_, rfl, ?_⟩, trivial⟩
              refine L.more (r := Rd (subA S c 2 1) (U8 (l.drop 2))) (Has.dropU (Has.r 0 rfl) c 2 hc) ?_
              refine L.callE (js := [0]) (js' := []) (number_c T 3 A [.int .i64 last, .int .i64 size] (subA S c 2 1) (l.drop 2) (c - 2) (by rw [List.length_drop]; omega)) rfl rfl rfl (by decide) ⟨(Has.r 0 rfl), trivial⟩ rfl ?_ ?_
              rotate_left
              · skip
                rintro _ _ ⟨h9, rfl, rfl⟩
                rw [List.length_drop] at h9
                refine QE.aP ?_
                refine QE.jP ?_
                refine QE.tP ?_
                refine QE.panE (js := []) (hs := []) (by decide) ⟨rfl, ?_⟩
                exact ⟨fun hp => by unfold PieceOk at hp; omega, rfl, rfl⟩
              rintro _ _ _ ⟨rfl, h13, rfl, rfl⟩
              refine L.nil (QE.a (by kernel_rfl) ?_)
              refine LA.alt [8] (by kernel_rfl) (by decide) ⟨⟨_, rfl, ?_⟩, trivial⟩
              refine L.step (Ev.pure rfl) rfl ?_
              refine L.nil (QE.a (by kernel_rfl) ?_)
              refine LA.alt [9] (by kernel_rfl) (by decide) ⟨⟨_, rfl, ?_⟩, trivial⟩
              refine L.step (Ev.pure rfl) rfl ?_
              refine L.nil (QE.a (by kernel_rfl) ?_)
              refine LA.nil (by kernel_rfl) ?_
              refine QE.joined (()) (by exact ⟨h9, h13⟩) (by exact Le.mk' (rs := [1]) (hs := [0]) ⟨rfl, rfl, rfl, trivial⟩ ⟨rfl, trivial⟩ ⟨rfl, trivial⟩ (by decide))
        · skip
          refine L.step (Ev.nilCheck rfl (Src.o 0 rfl) (Nat.zero_lt_succ _)) rfl ?_
          refine L.nil (QE.a (by kernel_rfl) ?_)
          refine LA.alt [1, 6] (by kernel_rfl) (by decide) ⟨⟨_, rfl, ?_⟩, ⟨_, rfl, ?_⟩, trivial⟩
          · skip
            refine L.step (Ev.nilCheck rfl (Src.o 0 rfl) (Nat.zero_lt_succ _)) rfl ?_
            refine L.nil (QE.a (by kernel_rfl) ?_)
            refine LA.alt [2, 6] (by kernel_rfl) (by decide) ⟨⟨_, rfl, ?_⟩, ⟨_, rfl, ?_⟩, trivial⟩
            · skip
              refine L.step (Ev.fieldAddr rfl rfl rfl rfl rfl rfl (Src.o 0 rfl) (Nat.zero_lt_succ _) rfl) rfl ?_
              refine L.nil (QE.a (by kernel_rfl) ?_)
              refine LA.alt [3, 6] (by kernel_rfl) (by decide) ⟨⟨_, rfl, ?_⟩, ⟨_, rfl, ?_⟩, trivial⟩
              · skip
                refine L.callE (js := [0]) (js' := []) (number_c T 3 A [.int .i64 last, .int .i64 size] S l c hc) rfl rfl rfl (by decide) ⟨(Has.r 0 rfl), trivial⟩ rfl ?_ ?_
                rotate_left
                · skip
                  rintro _ _ ⟨h9, rfl, rfl⟩
                  refine QE.aP ?_
                  refine QE.jP ?_
                  refine QE.tP ?_
                  refine QE.panE (js := []) (hs := []) (by decide) ⟨rfl, ?_⟩
                  exact ⟨fun hp => by unfold PieceOk at hp; omega, rfl, rfl⟩
                rintro _ _ _ ⟨rfl, h9, rfl, rfl⟩
                refine L.nil (QE.a (by kernel_rfl) ?_)
                refine LA.alt [6] (by kernel_rfl) (by decide) ⟨⟨_, rfl, ?_⟩, trivial⟩
                first | refine L.step (Ev.fieldAddr rfl rfl rfl rfl rfl rfl (Src.o 0 rfl) (Nat.zero_lt_succ _) rfl) rfl ?_ | refine L.step (Ev.fieldAddr rfl rfl rfl rfl rfl rfl (Src.o 1 rfl) (Nat.zero_lt_succ _) rfl) rfl ?_ | refine L.step (Ev.fieldAddr rfl rfl rfl rfl rfl rfl (Src.o 2 rfl) (Nat.zero_lt_succ _) rfl) rfl ?_ | refine L.step (Ev.fieldAddr rfl rfl rfl rfl rfl rfl (Src.o 3 rfl) (Nat.zero_lt_succ _) rfl) rfl ?_ | refine L.step (Ev.fieldAddr rfl rfl rfl rfl rfl rfl (Src.o 4 rfl) (Nat.zero_lt_succ _) rfl) rfl ?_ | refine L.step (Ev.fieldAddr rfl rfl rfl rfl rfl rfl (Src.o 5 rfl) (Nat.zero_lt_succ _) rfl) rfl ?_ | refine L.step (Ev.fieldAddr rfl rfl rfl rfl rfl rfl (Src.r 0 rfl) (Nat.zero_lt_succ _) rfl) rfl ?_ | refine L.step (Ev.fieldAddr rfl rfl rfl rfl rfl rfl (Src.r 1 rfl) (Nat.zero_lt_succ _) rfl) rfl ?_ | refine L.step (Ev.fieldAddr rfl rfl rfl rfl rfl rfl (Src.r 2 rfl) (Nat.zero_lt_succ _) rfl) rfl ?_ | refine L.step (Ev.fieldAddr rfl rfl rfl rfl rfl rfl (Src.r 3 rfl) (Nat.zero_lt_succ _) rfl) rfl ?_ | refine L.step (Ev.fieldAddr rfl rfl rfl rfl rfl rfl (Src.r 4 rfl) (Nat.zero_lt_succ _) rfl) rfl ?_ | refine L.step (Ev.fieldAddr rfl rfl rfl rfl rfl rfl (Src.r 5 rfl) (Nat.zero_lt_succ _) rfl) rfl ?_
                refine L.nil (QE.a (by kernel_rfl) ?_)
                refine LA.alt [7] (by kernel_rfl) (by decide) ⟨⟨_, rfl, ?_⟩, trivial⟩
                refine L.more (r := Rd (subA S c 2 1) (U8 (l.drop 2))) (Has.dropU (Has.r 0 rfl) c 2 hc) ?_
                refine L.callE (js := [0]) (js' := []) (number_c T 3 A [.int .i64 last, .int .i64 size] (subA S c 2 1) (l.drop 2) (c - 2) (by rw [List.length_drop]; omega)) rfl rfl rfl (by decide) ⟨(Has.r 0 rfl), trivial⟩ rfl ?_ ?_
                rotate_left
                · skip
                  rintro _ _ ⟨h9, rfl, rfl⟩
                  rw [List.length_drop] at h9
                  refine QE.aP ?_
                  refine QE.jP ?_
                  refine QE.tP ?_
                  refine QE.panE (js := []) (hs := []) (by decide) ⟨rfl, ?_⟩
                  exact ⟨fun hp => by unfold PieceOk at hp; omega, rfl, rfl⟩
                rintro _ _ _ ⟨rfl, h13, rfl, rfl⟩
                refine L.nil (QE.a (by kernel_rfl) ?_)
                refine LA.alt [8] (by kernel_rfl) (by decide) ⟨⟨_, rfl, ?_⟩, trivial⟩
                refine L.step (Ev.pure rfl) rfl ?_
                refine L.nil (QE.a (by kernel_rfl) ?_)
                refine LA.alt [9] (by kernel_rfl) (by decide) ⟨⟨_, rfl, ?_⟩, trivial⟩
                refine L.step (Ev.pure rfl) rfl ?_
                refine L.nil (QE.a (by kernel_rfl) ?_)
                refine LA.nil (by kernel_rfl) ?_
                refine QE.joined (()) (by exact ⟨h9, h13⟩) (by exact Le.mk' (rs := [1]) (hs := [0]) ⟨rfl, rfl, rfl, trivial⟩ ⟨rfl, trivial⟩ ⟨rfl, trivial⟩ (by decide))
              · skip
                refine L.step (Ev.fieldAddr rfl rfl rfl rfl rfl rfl (Src.o 0 rfl) (Nat.zero_lt_succ _) rfl) rfl ?_
                refine L.nil (QE.a (by kernel_rfl) ?_)
                refine LA.alt [3] (by kernel_rfl) (by decide) ⟨⟨_, rfl, ?_⟩, trivial⟩
                refine L.callE (js := [0]) (js' := []) (number_c T 3 A [.int .i64 last, .int .i64 size] S l c hc) rfl rfl rfl (by decide) ⟨(Has.r 0 rfl), trivial⟩ rfl ?_ ?_
                rotate_left
                · skip
                  rintro _ _ ⟨h9, rfl, rfl⟩
                  refine QE.aP ?_
                  refine QE.jP ?_
                  refine QE.tP ?_
                  refine QE.panE (js := []) (hs := []) (by decide) ⟨rfl, ?_⟩
                  exact ⟨fun hp => by unfold PieceOk at hp; omega, rfl, rfl⟩
                rintro _ _ _ ⟨rfl, h9, rfl, rfl⟩
                refine L.nil (QE.a (by kernel_rfl) ?_)
                refine LA.alt [7] (by kernel_rfl) (by decide) ⟨⟨_, rfl, ?_⟩, trivial⟩
                refine L.more (r := Rd (subA S c 2 1) (U8 (l.drop 2))) (Has.dropU (Has.r 0 rfl) c 2 hc) ?_
                refine L.callE (js := [0]) (js' := []) (number_c T 3 A [.int .i64 last, .int .i64 size] (subA S c 2 1) (l.drop 2) (c - 2) (by rw [List.length_drop]; omega)) rfl rfl rfl (by decide) ⟨(Has.r 0 rfl), trivial⟩ rfl ?_ ?_
                rotate_left
                · skip
                  rintro _ _ ⟨h9, rfl, rfl⟩
                  rw [List.length_drop] at h9
                  refine QE.aP ?_
                  refine QE.jP ?_
                  refine QE.tP ?_
                  refine QE.panE (js := []) (hs := []) (by decide) ⟨rfl, ?_⟩
                  exact ⟨fun hp => by unfold PieceOk at hp; omega, rfl, rfl⟩
                rintro _ _ _ ⟨rfl, h13, rfl, rfl⟩
                refine L.nil (QE.a (by kernel_rfl) ?_)
                refine LA.alt [8] (by kernel_rfl) (by decide) ⟨⟨_, rfl, ?_⟩, trivial⟩
                refine L.step (Ev.pure rfl) rfl ?_
                refine L.nil (QE.a (by kernel_rfl) ?_)
                refine LA.alt [9] (by kernel_rfl) (by decide) ⟨⟨_, rfl, ?_⟩, trivial⟩
                refine L.step (Ev.pure rfl) rfl ?_
                refine L.nil (QE.a (by kernel_rfl) ?_)
                refine LA.nil (by kernel_rfl) ?_
                refine QE.joined (()) (by exact ⟨h9, h13⟩) (by exact Le.mk' (rs := [1]) (hs := [0]) ⟨rfl, rfl, rfl, trivial⟩ ⟨rfl, trivial⟩ ⟨rfl, trivial⟩ (by decide))
            · skip
              refine L.step (Ev.fieldAddr rfl rfl rfl rfl rfl rfl (Src.o 0 rfl) (Nat.zero_lt_succ _) rfl) rfl ?_
              refine L.nil (QE.a (by kernel_rfl) ?_)
              refine LA.alt [2] (by kernel_rfl) (by decide) ⟨⟨_, rfl, ?_⟩, trivial⟩
              refine L.step (Ev.fieldAddr rfl rfl rfl rfl rfl rfl (Src.o 0 rfl) (Nat.zero_lt_succ _) rfl) rfl ?_
              refine L.nil (QE.a (by kernel_rfl) ?_)
              refine LA.alt [3] (by kernel_rfl) (by decide) ⟨⟨_, rfl, ?_⟩, trivial⟩
              refine L.callE (js := [0]) (js' := []) (number_c T 3 A [.int .i64 last, .int .i64 size] S l c hc) rfl rfl rfl (by decide) ⟨(Has.r 0 rfl), trivial⟩ rfl ?_ ?_
              rotate_left
              · skip
                rintro _ _ ⟨h9, rfl, rfl⟩
                refine QE.aP ?_
                refine QE.jP ?_
                refine QE.tP ?_
                refine QE.panE (js := []) (hs := []) (by decide) ⟨rfl, ?_⟩
                exact ⟨fun hp => by unfold PieceOk at hp; omega, rfl, rfl⟩
              rintro _ _ _ ⟨rfl, h9, rfl, rfl⟩
              refine L.nil (QE.a (by kernel_rfl) ?_)
              refine LA.alt [7] (by kernel_rfl) (by decide) ⟨⟨_, rfl, ?_⟩, trivial⟩
              refine L.more (r := Rd (subA S c 2 1) (U8 (l.drop 2))) (Has.dropU (Has.r 0 rfl) c 2 hc) ?_
              refine L.callE (js := [0]) (js' := []) (number_c T 3 A [.int .i64 last, .int .i64 size] (subA S c 2 1) (l.drop 2) (c - 2) (by rw [List.length_drop]; omega)) rfl rfl rfl (by decide) ⟨(Has.r 0 rfl), trivial⟩ rfl ?_ ?_
              rotate_left
              · skip
                rintro _ _ ⟨h9, rfl, rfl⟩
                rw [List.length_drop] at h9
                refine QE.aP ?_
                refine QE.jP ?_
                refine QE.tP ?_
                refine QE.panE (js := []) (hs := []) (by decide) ⟨rfl, ?_⟩
                exact ⟨fun hp => by unfold PieceOk at hp; omega, rfl, rfl⟩
              rintro _ _ _ ⟨rfl, h13, rfl, rfl⟩
              refine L.nil (QE.a (by kernel_rfl) ?_)
              refine LA.alt [8] (by kernel_rfl) (by decide) ⟨⟨_, rfl, ?_⟩, trivial⟩
              refine L.step (Ev.pure rfl) rfl ?_
              refine L.nil (QE.a (by kernel_rfl) ?_)
              refine LA.alt [9] (by kernel_rfl) (by decide) ⟨⟨_, rfl, ?_⟩, trivial⟩
              refine L.step (Ev.pure rfl) rfl ?_
              refine L.nil (QE.a (by kernel_rfl) ?_)
              refine LA.nil (by kernel_rfl) ?_
              refine QE.joined (()) (by exact ⟨h9, h13⟩) (by exact Le.mk' (rs := [1]) (hs := [0]) ⟨rfl, rfl, rfl, trivial⟩ ⟨rfl, trivial⟩ ⟨rfl, trivial⟩ (by decide))
          · skip
            refine L.step (Ev.fieldAddr rfl rfl rfl rfl rfl rfl (Src.o 0 rfl) (Nat.zero_lt_succ _) rfl) rfl ?_
            refine L.nil (QE.a (by kernel_rfl) ?_)
            refine LA.alt [1] (by kernel_rfl) (by decide) ⟨⟨_, rfl, ?_⟩, trivial⟩
            refine L.step (Ev.nilCheck rfl (Src.o 0 rfl) (Nat.zero_lt_succ _)) rfl ?_
            refine L.nil (QE.a (by kernel_rfl) ?_)
            refine LA.alt [2] (by kernel_rfl) (by decide) ⟨⟨_, rfl, ?_⟩, trivial⟩
            refine L.step (Ev.fieldAddr rfl rfl rfl rfl rfl rfl (Src.o 0 rfl) (Nat.zero_lt_succ _) rfl) rfl ?_
            refine L.nil (QE.a (by kernel_rfl) ?_)
            refine LA.alt [3] (by kernel_rfl) (by decide) ⟨⟨_, rfl, ?_⟩, trivial⟩
            refine L.callE (js := [0]) (js' := []) (number_c T 3 A [.int .i64 last, .int .i64 size] S l c hc) rfl rfl rfl (by decide) ⟨(Has.r 0 rfl), trivial⟩ rfl ?_ ?_
            rotate_left
            · skip
              rintro _ _ ⟨h9, rfl, rfl⟩
              refine QE.aP ?_
              refine QE.jP ?_
              refine QE.tP ?_
              refine QE.panE (js := []) (hs := []) (by decide) ⟨rfl, ?_⟩
              exact ⟨fun hp => by unfold PieceOk at hp; omega, rfl, rfl⟩
            rintro _ _ _ ⟨rfl, h9, rfl, rfl⟩
            refine L.nil (QE.a (by kernel_rfl) ?_)
            refine LA.alt [7] (by kernel_rfl) (by decide) ⟨⟨_, rfl, ?_⟩, trivial⟩
            refine L.more (r := Rd (subA S c 2 1) (U8 (l.drop 2))) (Has.dropU (Has.r 0 rfl) c 2 hc) ?_
            refine L.callE (js := [0]) (js' := []) (number_c T 3 A [.int .i64 last, .int .i64 size] (subA S c 2 1) (l.drop 2) (c - 2) (by rw [List.length_drop]; omega)) rfl rfl rfl (by decide) ⟨(Has.r 0 rfl), trivial⟩ rfl ?_ ?_
            rotate_left
            · skip
              rintro _ _ ⟨h9, rfl, rfl⟩
              rw [List.length_drop] at h9
              refine QE.aP ?_
              refine QE.jP ?_
              refine QE.tP ?_
              refine QE.panE (js := []) (hs := []) (by decide) ⟨rfl, ?_⟩
              exact ⟨fun hp => by unfold PieceOk at hp; omega, rfl, rfl⟩
            rintro _ _ _ ⟨rfl, h13, rfl, rfl⟩
            refine L.nil (QE.a (by kernel_rfl) ?_)
            refine LA.alt [8] (by kernel_rfl) (by decide) ⟨⟨_, rfl, ?_⟩, trivial⟩
            refine L.step (Ev.pure rfl) rfl ?_
            refine L.nil (QE.a (by kernel_rfl) ?_)
            refine LA.alt [9] (by kernel_rfl) (by decide) ⟨⟨_, rfl, ?_⟩, trivial⟩
            refine L.step (Ev.pure rfl) rfl ?_
            refine L.nil (QE.a (by kernel_rfl) ?_)
            refine LA.nil (by kernel_rfl) ?_
            refine QE.joined (()) (by exact ⟨h9, h13⟩) (by exact Le.mk' (rs := [1]) (hs := [0]) ⟨rfl, rfl, rfl, trivial⟩ ⟨rfl, trivial⟩ ⟨rfl, trivial⟩ (by decide))
      · skip
        refine L.step (Ev.nilCheck rfl (Src.o 0 rfl) (Nat.zero_lt_succ _)) rfl ?_
        refine L.nil (QE.a (by kernel_rfl) ?_)
        refine LA.alt [0, 6] (by kernel_rfl) (by decide) ⟨⟨_, rfl, ?_⟩, ⟨_, rfl, ?_⟩, trivial⟩
        · skip
          refine L.step (Ev.pure rfl) rfl ?_
          refine L.nil (QE.a (by kernel_rfl) ?_)
          refine LA.alt [1, 6] (by kernel_rfl) (by decide) ⟨⟨_, rfl, ?_⟩, ⟨_, rfl, ?_⟩, trivial⟩
          · skip
            refine L.step (Ev.nilCheck rfl (Src.o 0 rfl) (Nat.zero_lt_succ _)) rfl ?_
            refine L.nil (QE.a (by kernel_rfl) ?_)
            refine LA.alt [2, 6] (by kernel_rfl) (by decide) ⟨⟨_, rfl, ?_⟩, ⟨_, rfl, ?_⟩, trivial⟩
            · skip
              refine L.step (Ev.fieldAddr rfl rfl rfl rfl rfl rfl (Src.o 0 rfl) (Nat.zero_lt_succ _) rfl) rfl ?_
              refine L.nil (QE.a (by kernel_rfl) ?_)
              refine LA.alt [3, 6] (by kernel_rfl) (by decide) ⟨⟨_, rfl, ?_⟩, ⟨_, rfl, ?_⟩, trivial⟩
              · skip
                refine L.callE (js := [0]) (js' := []) (number_c T 3 A [.int .i64 last, .int .i64 size] S l c hc) rfl rfl rfl (by decide) ⟨(Has.r 0 rfl), trivial⟩ rfl ?_ ?_
                rotate_left
                · skip
                  rintro _ _ ⟨h9, rfl, rfl⟩
                  refine QE.aP ?_
                  refine QE.jP ?_
                  refine QE.tP ?_
                  refine QE.panE (js := []) (hs := []) (by decide) ⟨rfl, ?_⟩
                  exact ⟨fun hp => by unfold PieceOk at hp; omega, rfl, rfl⟩
                rintro _ _ _ ⟨rfl, h9, rfl, rfl⟩
                refine L.nil (QE.a (by kernel_rfl) ?_)
                refine LA.alt [6] (by kernel_rfl) (by decide) ⟨⟨_, rfl, ?_⟩, trivial⟩
                first | refine L.step (Ev.fieldAddr rfl rfl rfl rfl rfl rfl (Src.o 0 rfl) (Nat.zero_lt_succ _) rfl) rfl ?_ | refine L.step (Ev.fieldAddr rfl rfl rfl rfl rfl rfl (Src.o 1 rfl) (Nat.zero_lt_succ _) rfl) rfl ?_ | refine L.step (Ev.fieldAddr rfl rfl rfl rfl rfl rfl (Src.o 2 rfl) (Nat.zero_lt_succ _) rfl) rfl ?_ | refine L.step (Ev.fieldAddr rfl rfl rfl rfl rfl rfl (Src.o 3 rfl) (Nat.zero_lt_succ _) rfl) rfl ?_ | refine L.step (Ev.fieldAddr rfl rfl rfl rfl rfl rfl (Src.o 4 rfl) (Nat.zero_lt_succ _) rfl) rfl ?_ | refine L.step (Ev.fieldAddr rfl rfl rfl rfl rfl rfl (Src.o 5 rfl) (Nat.zero_lt_succ _) rfl) rfl ?_ | refine L.step (Ev.fieldAddr rfl rfl rfl rfl rfl rfl (Src.r 0 rfl) (Nat.zero_lt_succ _) rfl) rfl ?_ | refine L.step (Ev.fieldAddr rfl rfl rfl rfl rfl rfl (Src.r 1 rfl) (Nat.zero_lt_succ _) rfl) rfl ?_ | refine L.step (Ev.fieldAddr rfl rfl rfl rfl rfl rfl (Src.r 2 rfl) (Nat.zero_lt_succ _) rfl) rfl ?_ | refine L.step (Ev.fieldAddr rfl rfl rfl rfl rfl rfl (Src.r 3 rfl) (Nat.zero_lt_succ _) rfl) rfl ?_ | refine L.step (Ev.fieldAddr rfl rfl rfl rfl rfl rfl (Src.r 4 rfl) (Nat.zero_lt_succ _) rfl) rfl ?_ | refine L.step (Ev.fieldAddr rfl rfl rfl rfl rfl rfl (Src.r 5 rfl) (Nat.zero_lt_succ _) rfl) rfl ?_
                refine L.nil (QE.a (by kernel_rfl) ?_)
                refine LA.alt [7] (by kernel_rfl) (by decide) ⟨⟨_, rfl, ?_⟩, trivial⟩
                refine L.more (r := Rd (subA S c 2 1) (U8 (l.drop 2))) (Has.dropU (Has.r 0 rfl) c 2 hc) ?_
                refine L.callE (js := [0]) (js' := []) (number_c T 3 A [.int .i64 last, .int .i64 size] (subA S c 2 1) (l.drop 2) (c - 2) (by rw [List.length_drop]; omega)) rfl rfl rfl (by decide) ⟨(Has.r 0 rfl), trivial⟩ rfl ?_ ?_
                rotate_left
                · skip
                  rintro _ _ ⟨h9, rfl, rfl⟩
                  rw [List.length_drop] at h9
                  refine QE.aP ?_
                  refine QE.jP ?_
                  refine QE.tP ?_
                  refine QE.panE (js := []) (hs := []) (by decide) ⟨rfl, ?_⟩
                  exact ⟨fun hp => by unfold PieceOk at hp; omega, rfl, rfl⟩
                rintro _ _ _ ⟨rfl, h13, rfl, rfl⟩
                refine L.nil (QE.a (by kernel_rfl) ?_)
                refine LA.alt [8] (by kernel_rfl) (by decide) ⟨⟨_, rfl, ?_⟩, trivial⟩
                refine L.step (Ev.pure rfl) rfl ?_
                refine L.nil (QE.a (by kernel_rfl) ?_)
                refine LA.alt [9] (by kernel_rfl) (by decide) ⟨⟨_, rfl, ?_⟩, trivial⟩
                refine L.step (Ev.pure rfl) rfl ?_
                refine L.nil (QE.a (by kernel_rfl) ?_)
                refine LA.nil (by kernel_rfl) ?_
                refine QE.joined (()) (by exact ⟨h9, h13⟩) (by exact Le.mk' (rs := [1]) (hs := [0]) ⟨rfl, rfl, rfl, trivial⟩ ⟨rfl, trivial⟩ ⟨rfl, trivial⟩ (by decide))
              · skip
                refine L.step (Ev.fieldAddr rfl rfl rfl rfl rfl rfl (Src.o 0 rfl) (Nat.zero_lt_succ _) rfl) rfl ?_
                refine L.nil (QE.a (by kernel_rfl) ?_)
                refine LA.alt [3] (by kernel_rfl) (by decide) ⟨⟨_, rfl, ?_⟩, trivial⟩
                refine L.callE (js := [0]) (js' := []) (number_c T 3 A [.int .i64 last, .int .i64 size] S l c hc) rfl rfl rfl (by decide) ⟨(Has.r 0 rfl), trivial⟩ rfl ?_ ?_
                rotate_left
                · skip
                  rintro _ _ ⟨h9, rfl, rfl⟩
                  refine QE.aP ?_
                  refine QE.jP ?_
                  refine QE.tP ?_
                  refine QE.panE (js := []) (hs := []) (by decide) ⟨rfl, ?_⟩
                  exact ⟨fun hp => by unfold PieceOk at hp; omega, rfl, rfl⟩
                rintro _ _ _ ⟨rfl, h9, rfl, rfl⟩
                refine L.nil (QE.a (by kernel_rfl) ?_)
                refine LA.alt [7] (by kernel_rfl) (by decide) ⟨⟨_, rfl, ?_⟩, trivial⟩
                refine L.more (r := Rd (subA S c 2 1) (U8 (l.drop 2))) (Has.dropU (Has.r 0 rfl) c 2 hc) ?_
                refine L.callE (js := [0]) (js' := []) (number_c T 3 A [.int .i64 last, .int .i64 size] (subA S c 2 1) (l.drop 2) (c - 2) (by rw [List.length_drop]; omega)) rfl rfl rfl (by decide) ⟨(Has.r 0 rfl), trivial⟩ rfl ?_ ?_
                rotate_left
                · skip
                  rintro _ _ ⟨h9, rfl, rfl⟩
                  rw [List.length_drop] at h9
                  refine QE.aP ?_
                  refine QE.jP ?_
                  refine QE.tP ?_
                  refine QE.panE (js := []) (hs := []) (by decide) ⟨rfl, ?_⟩
                  exact ⟨fun hp => by unfold PieceOk at hp; omega, rfl, rfl⟩
                rintro _ _ _ ⟨rfl, h13, rfl, rfl⟩
                refine L.nil (QE.a (by kernel_rfl) ?_)
                refine LA.alt [8] (by kernel_rfl) (by decide) ⟨⟨_, rfl, ?_⟩, trivial⟩
                refine L.step (Ev.pure rfl) rfl ?_
                refine L.nil (QE.a (by kernel_rfl) ?_)
                refine LA.alt [9] (by kernel_rfl) (by decide) ⟨⟨_, rfl, ?_⟩, trivial⟩
                refine L.step (Ev.pure rfl) rfl ?_
                refine L.nil (QE.a (by kernel_rfl) ?_)
                refine LA.nil (by kernel_rfl) ?_
                refine QE.joined (()) (by exact ⟨h9, h13⟩) (by exact Le.mk' (rs := [1]) (hs := [0]) ⟨rfl, rfl, rfl, trivial⟩ ⟨rfl, trivial⟩ ⟨rfl, trivial⟩ (by decide))
            · skip
              refine L.step (Ev.fieldAddr rfl rfl rfl rfl rfl rfl (Src.o 0 rfl) (Nat.zero_lt_succ _) rfl) rfl ?_
              refine L.nil (QE.a (by kernel_rfl) ?_)
              refine LA.alt [2] (by kernel_rfl) (by decide) ⟨⟨_, rfl, ?_⟩, trivial⟩
              refine L.step (Ev.fieldAddr rfl rfl rfl rfl rfl rfl (Src.o 0 rfl) (Nat.zero_lt_succ _) rfl) rfl ?_
              refine L.nil (QE.a (by kernel_rfl) ?_)
              refine LA.alt [3] (by kernel_rfl) (by decide) ⟨⟨_, rfl, ?_⟩, trivial⟩
              refine L.callE (js := [0]) (js' := []) (number_c T 3 A [.int .i64 last, .int .i64 size] S l c hc) rfl rfl rfl (by decide) ⟨(Has.r 0 rfl), trivial⟩ rfl ?_ ?_
              rotate_left
              · skip
                rintro _ _ ⟨h9, rfl, rfl⟩
                refine QE.aP ?_
                refine QE.jP ?_
                refine QE.tP ?_
                refine QE.panE (js := []) (hs := []) (by decide) ⟨rfl, ?_⟩
                exact ⟨fun hp => by unfold PieceOk at hp; omega, rfl, rfl⟩
              rintro _ _ _ ⟨rfl, h9, rfl, rfl⟩
              refine L.nil (QE.a (by kernel_rfl) ?_)
              refine LA.alt [7] (by kernel_rfl) (by decide) ⟨⟨_, rfl, ?_⟩, trivial⟩
              refine L.more (r := Rd (subA S c 2 1) (U8 (l.drop 2))) (Has.dropU (Has.r 0 rfl) c 2 hc) ?_
              refine L.callE (js := [0]) (js' := []) (number_c T 3 A [.int .i64 last, .int .i64 size] (subA S c 2 1) (l.drop 2) (c - 2) (by rw [List.length_drop]; omega)) rfl rfl rfl (by decide) ⟨(Has.r 0 rfl), trivial⟩ rfl ?_ ?_
              rotate_left
              · skip
                rintro _ _ ⟨h9, rfl, rfl⟩
                rw [List.length_drop] at h9
                refine QE.aP ?_
                refine QE.jP ?_
                refine QE.tP ?_
                refine QE.panE (js := []) (hs := []) (by decide) ⟨rfl, ?_⟩
                exact ⟨fun hp => by unfold PieceOk at hp; omega, rfl, rfl⟩
              rintro _ _ _ ⟨rfl, h13, rfl, rfl⟩
              refine L.nil (QE.a (by kernel_rfl) ?_)
              refine LA.alt [8] (by kernel_rfl) (by decide) ⟨⟨_, rfl, ?_⟩, trivial⟩
              refine L.step (Ev.pure rfl) rfl ?_
              refine L.nil (QE.a (by kernel_rfl) ?_)
              refine LA.alt [9] (by kernel_rfl) (by decide) ⟨⟨_, rfl, ?_⟩, trivial⟩
              refine L.step (Ev.pure rfl) rfl ?_
              refine L.nil (QE.a (by kernel_rfl) ?_)
              refine LA.nil (by kernel_rfl) ?_
              refine QE.joined (()) (by exact ⟨h9, h13⟩) (by exact Le.mk' (rs := [1]) (hs := [0]) ⟨rfl, rfl, rfl, trivial⟩ ⟨rfl, trivial⟩ ⟨rfl, trivial⟩ (by decide))
          · skip
            refine L.step (Ev.fieldAddr rfl rfl rfl rfl rfl rfl (Src.o 0 rfl) (Nat.zero_lt_succ _) rfl) rfl ?_
            refine L.nil (QE.a (by kernel_rfl) ?_)
            refine LA.alt [1] (by kernel_rfl) (by decide) ⟨⟨_, rfl, ?_⟩, trivial⟩
            refine L.step (Ev.nilCheck rfl (Src.o 0 rfl) (Nat.zero_lt_succ _)) rfl ?_
            refine L.nil (QE.a (by kernel_rfl) ?_)
            refine LA.alt [2] (by kernel_rfl) (by decide) ⟨⟨_, rfl, ?_⟩, trivial⟩
            refine L.step (Ev.fieldAddr rfl rfl rfl rfl rfl rfl (Src.o 0 rfl) (Nat.zero_lt_succ _) rfl) rfl ?_
            refine L.nil (QE.a (by kernel_rfl) ?_)
            refine LA.alt [3] (by kernel_rfl) (by decide) ⟨⟨_, rfl, ?_⟩, trivial⟩
            refine L.callE (js := [0]) (js' := []) (number_c T 3 A [.int .i64 last, .int .i64 size] S l c hc) rfl rfl rfl (by decide) ⟨(Has.r 0 rfl), trivial⟩ rfl ?_ ?_
            rotate_left
            · skip
              rintro _ _ ⟨h9, rfl, rfl⟩
              refine QE.aP ?_
              refine QE.jP ?_
              refine QE.tP ?_
              refine QE.panE (js := []) (hs := []) (by decide) ⟨rfl, ?_⟩
              exact ⟨fun hp => by unfold PieceOk at hp; omega, rfl, rfl⟩
            rintro _ _ _ ⟨rfl, h9, rfl, rfl⟩
            refine L.nil (QE.a (by kernel_rfl) ?_)
            refine LA.alt [7] (by kernel_rfl) (by decide) ⟨⟨_, rfl, ?_⟩, trivial⟩
            refine L.more (r := Rd (subA S c 2 1) (U8 (l.drop 2))) (Has.dropU (Has.r 0 rfl) c 2 hc) ?_
            refine L.callE (js := [0]) (js' := []) (number_c T 3 A [.int .i64 last, .int .i64 size] (subA S c 2 1) (l.drop 2) (c - 2) (by rw [List.length_drop]; omega)) rfl rfl rfl (by decide) ⟨(Has.r 0 rfl), trivial⟩ rfl ?_ ?_
            rotate_left
            · skip
              rintro _ _ ⟨h9, rfl, rfl⟩
              rw [List.length_drop] at h9
              refine QE.aP ?_
              refine QE.jP ?_
              refine QE.tP ?_
              refine QE.panE (js := []) (hs := []) (by decide) ⟨rfl, ?_⟩
              exact ⟨fun hp => by unfold PieceOk at hp; omega, rfl, rfl⟩
            rintro _ _ _ ⟨rfl, h13, rfl, rfl⟩
            refine L.nil (QE.a (by kernel_rfl) ?_)
            refine LA.alt [8] (by kernel_rfl) (by decide) ⟨⟨_, rfl, ?_⟩, trivial⟩
            refine L.step (Ev.pure rfl) rfl ?_
            refine L.nil (QE.a (by kernel_rfl) ?_)
            refine LA.alt [9] (by kernel_rfl) (by decide) ⟨⟨_, rfl, ?_⟩, trivial⟩
            refine L.step (Ev.pure rfl) rfl ?_
            refine L.nil (QE.a (by kernel_rfl) ?_)
            refine LA.nil (by kernel_rfl) ?_
            refine QE.joined (()) (by exact ⟨h9, h13⟩) (by exact Le.mk' (rs := [1]) (hs := [0]) ⟨rfl, rfl, rfl, trivial⟩ ⟨rfl, trivial⟩ ⟨rfl, trivial⟩ (by decide))
        · skip
          refine L.step (Ev.fieldAddr rfl rfl rfl rfl rfl rfl (Src.o 0 rfl) (Nat.zero_lt_succ _) rfl) rfl ?_
          refine L.nil (QE.a (by kernel_rfl) ?_)
          refine LA.alt [0] (by kernel_rfl) (by decide) ⟨⟨_, rfl, ?_⟩, trivial⟩
          refine L.step (Ev.pure rfl) rfl ?_
          refine L.nil (QE.a (by kernel_rfl) ?_)
          refine LA.alt [1] (by kernel_rfl) (by decide) ⟨⟨_, rfl, ?_⟩, trivial⟩
          refine L.step (Ev.nilCheck rfl (Src.o 0 rfl) (Nat.zero_lt_succ _)) rfl ?_
          refine L.nil (QE.a (by kernel_rfl) ?_)
          refine LA.alt [2] (by kernel_rfl) (by decide) ⟨⟨_, rfl, ?_⟩, trivial⟩
          refine L.step (Ev.fieldAddr rfl rfl rfl rfl rfl rfl (Src.o 0 rfl) (Nat.zero_lt_succ _) rfl) rfl ?_
          refine L.nil (QE.a (by kernel_rfl) ?_)
          refine LA.alt [3] (by kernel_rfl) (by decide) ⟨⟨_, rfl, ?_⟩, trivial⟩
          refine L.callE (js := [0]) (js' := []) (number_c T 3 A [.int .i64 last, .int .i64 size] S l c hc) rfl rfl rfl (by decide) ⟨(Has.r 0 rfl), trivial⟩ rfl ?_ ?_
          rotate_left
          · skip
            rintro _ _ ⟨h9, rfl, rfl⟩
            refine QE.aP ?_
            refine QE.jP ?_
            refine QE.tP ?_
            refine QE.panE (js := []) (hs := []) (by decide) ⟨rfl, ?_⟩
            exact ⟨fun hp => by unfold PieceOk at hp; omega, rfl, rfl⟩
          rintro _ _ _ ⟨rfl, h9, rfl, rfl⟩
          refine L.nil (QE.a (by kernel_rfl) ?_)
          refine LA.alt [7] (by kernel_rfl) (by decide) ⟨⟨_, rfl, ?_⟩, trivial⟩
          refine L.more (r := Rd (subA S c 2 1) (U8 (l.drop 2))) (Has.dropU (Has.r 0 rfl) c 2 hc) ?_
          refine L.callE (js := [0]) (js' := []) (number_c T 3 A [.int .i64 last, .int .i64 size] (subA S c 2 1) (l.drop 2) (c - 2) (by rw [List.length_drop]; omega)) rfl rfl rfl (by decide) ⟨(Has.r 0 rfl), trivial⟩ rfl ?_ ?_
          rotate_left
          · skip
            rintro _ _ ⟨h9, rfl, rfl⟩
            rw [List.length_drop] at h9
            refine QE.aP ?_
            refine QE.jP ?_
            refine QE.tP ?_
            refine QE.panE (js := []) (hs := []) (by decide) ⟨rfl, ?_⟩
            exact ⟨fun hp => by unfold PieceOk at hp; omega, rfl, rfl⟩
          rintro _ _ _ ⟨rfl, h13, rfl, rfl⟩
          refine L.nil (QE.a (by kernel_rfl) ?_)
          refine LA.alt [8] (by kernel_rfl) (by decide) ⟨⟨_, rfl, ?_⟩, trivial⟩
          refine L.step (Ev.pure rfl) rfl ?_
          refine L.nil (QE.a (by kernel_rfl) ?_)
          refine LA.alt [9] (by kernel_rfl) (by decide) ⟨⟨_, rfl, ?_⟩, trivial⟩
          refine L.step (Ev.pure rfl) rfl ?_
          refine L.nil (QE.a (by kernel_rfl) ?_)
          refine LA.nil (by kernel_rfl) ?_
          refine QE.joined (()) (by exact ⟨h9, h13⟩) (by exact Le.mk' (rs := [1]) (hs := [0]) ⟨rfl, rfl, rfl, trivial⟩ ⟨rfl, trivial⟩ ⟨rfl, trivial⟩ (by decide))
  · skip
    rintro _ ⟨h9, h13⟩
    have hf := be2_lt l
    have hn := be2_lt (l.drop 2)
    rw [List.length_drop] at h13
    refine QE.seq ?_
    refine C.seq ?_
    refine C.seq ?_
    refine C.region ?_
    refine L.step (Ev.pure rfl) rfl ?_
    refine L.step (Ev.pure rfl) rfl ?_
    first | refine L.step (Ev.nilCheck rfl (Src.o 0 rfl) (Nat.zero_lt_succ _)) rfl ?_ | refine L.step (Ev.nilCheck rfl (Src.o 1 rfl) (Nat.zero_lt_succ _)) rfl ?_ | refine L.step (Ev.nilCheck rfl (Src.o 2 rfl) (Nat.zero_lt_succ _)) rfl ?_ | refine L.step (Ev.nilCheck rfl (Src.o 3 rfl) (Nat.zero_lt_succ _)) rfl ?_ | refine L.step (Ev.nilCheck rfl (Src.o 4 rfl) (Nat.zero_lt_succ _)) rfl ?_ | refine L.step (Ev.nilCheck rfl (Src.o 5 rfl) (Nat.zero_lt_succ _)) rfl ?_ | refine L.step (Ev.nilCheck rfl (Src.r 0 rfl) (Nat.zero_lt_succ _)) rfl ?_ | refine L.step (Ev.nilCheck rfl (Src.r 1 rfl) (Nat.zero_lt_succ _)) rfl ?_ | refine L.step (Ev.nilCheck rfl (Src.r 2 rfl) (Nat.zero_lt_succ _)) rfl ?_ | refine L.step (Ev.nilCheck rfl (Src.r 3 rfl) (Nat.zero_lt_succ _)) rfl ?_ | refine L.step (Ev.nilCheck rfl (Src.r 4 rfl) (Nat.zero_lt_succ _)) rfl ?_ | refine L.step (Ev.nilCheck rfl (Src.r 5 rfl) (Nat.zero_lt_succ _)) rfl ?_
    first | refine L.step (Ev.fieldAddr rfl rfl rfl rfl rfl rfl (Src.o 0 rfl) (Nat.zero_lt_succ _) rfl) rfl ?_ | refine L.step (Ev.fieldAddr rfl rfl rfl rfl rfl rfl (Src.o 1 rfl) (Nat.zero_lt_succ _) rfl) rfl ?_ | refine L.step (Ev.fieldAddr rfl rfl rfl rfl rfl rfl (Src.o 2 rfl) (Nat.zero_lt_succ _) rfl) rfl ?_ | refine L.step (Ev.fieldAddr rfl rfl rfl rfl rfl rfl (Src.o 3 rfl) (Nat.zero_lt_succ _) rfl) rfl ?_ | refine L.step (Ev.fieldAddr rfl rfl rfl rfl rfl rfl (Src.o 4 rfl) (Nat.zero_lt_succ _) rfl) rfl ?_ | refine L.step (Ev.fieldAddr rfl rfl rfl rfl rfl rfl (Src.o 5 rfl) (Nat.zero_lt_succ _) rfl) rfl ?_ | refine L.step (Ev.fieldAddr rfl rfl rfl rfl rfl rfl (Src.r 0 rfl) (Nat.zero_lt_succ _) rfl) rfl ?_ | refine L.step (Ev.fieldAddr rfl rfl rfl rfl rfl rfl (Src.r 1 rfl) (Nat.zero_lt_succ _) rfl) rfl ?_ | refine L.step (Ev.fieldAddr rfl rfl rfl rfl rfl rfl (Src.r 2 rfl) (Nat.zero_lt_succ _) rfl) rfl ?_ | refine L.step (Ev.fieldAddr rfl rfl rfl rfl rfl rfl (Src.r 3 rfl) (Nat.zero_lt_succ _) rfl) rfl ?_ | refine L.step (Ev.fieldAddr rfl rfl rfl rfl rfl rfl (Src.r 4 rfl) (Nat.zero_lt_succ _) rfl) rfl ?_ | refine L.step (Ev.fieldAddr rfl rfl rfl rfl rfl rfl (Src.r 5 rfl) (Nat.zero_lt_succ _) rfl) rfl ?_
    first | refine L.step (Ev.load rfl rfl rfl (Src.o 0 rfl) rfl) rfl ?_ | refine L.step (Ev.load rfl rfl rfl (Src.o 1 rfl) rfl) rfl ?_ | refine L.step (Ev.load rfl rfl rfl (Src.o 2 rfl) rfl) rfl ?_ | refine L.step (Ev.load rfl rfl rfl (Src.o 3 rfl) rfl) rfl ?_ | refine L.step (Ev.load rfl rfl rfl (Src.o 4 rfl) rfl) rfl ?_ | refine L.step (Ev.load rfl rfl rfl (Src.o 5 rfl) rfl) rfl ?_ | refine L.step (Ev.load rfl rfl rfl (Src.r 0 rfl) rfl) rfl ?_ | refine L.step (Ev.load rfl rfl rfl (Src.r 1 rfl) rfl) rfl ?_ | refine L.step (Ev.load rfl rfl rfl (Src.r 2 rfl) rfl) rfl ?_ | refine L.step (Ev.load rfl rfl rfl (Src.r 3 rfl) rfl) rfl ?_ | refine L.step (Ev.load rfl rfl rfl (Src.r 4 rfl) rfl) rfl ?_ | refine L.step (Ev.load rfl rfl rfl (Src.r 5 rfl) rfl) rfl ?_
    refine L.step (Ev.pure rfl) rfl ?_
    refine L.step (Ev.pure rfl) rfl ?_
    refine L.bool 20 rfl (fun hg20 => ?_) (fun hg20 => ?_)
    · skip
      replace hg20 := of_decide_eq_true hg20
      refine L.no rfl rfl rfl ?_
      refine L.no rfl rfl rfl ?_
      refine L.step (Ev.pure rfl) rfl ?_
      refine L.step (Ev.pure rfl) rfl ?_
      refine L.no rfl rfl rfl ?_
      refine L.no rfl rfl rfl ?_
      refine L.no rfl rfl rfl ?_
      refine L.no rfl rfl rfl ?_
      refine L.no rfl rfl rfl ?_
      refine L.no rfl rfl rfl ?_
      refine L.no rfl rfl rfl ?_
      refine L.no rfl rfl rfl ?_
      refine L.step (Ev.pure rfl) rfl ?_
      refine L.nil ?_
      refine QE.seq ?_
      refine C.cond rfl (fun _ => ?_) (fun h => by cases h)
      refine C.region ?_
      refine L.step (Ev.build rfl rfl rfl rfl rfl rfl rfl) rfl ?_
      refine L.step (Ev.pure rfl) rfl ?_
      refine L.panic rfl ?_
      refine QE.tP ?_
      refine QE.panE (js := []) (hs := []) (by decide) ⟨rfl, ?_⟩
      exact ⟨fun hp => by unfold PieceOk at hp; omega, rfl, rfl⟩
    · skip
      replace hg20 := of_decide_eq_false hg20
      refine L.yes rfl ?_
      refine L.step (Ev.pure rfl) rfl ?_
      refine L.yes rfl ?_
      refine L.step (Ev.pure rfl) rfl ?_
      refine L.step (Ev.pure rfl) rfl ?_
      refine L.step (Ev.pure rfl) rfl ?_
      refine L.bool 24 rfl (fun hg24 => ?_) (fun hg24 => ?_)
      · skip
        replace hg24 := of_decide_eq_true hg24
        refine L.no rfl rfl rfl ?_
        refine L.no rfl rfl rfl ?_
        refine L.no rfl rfl rfl ?_
        refine L.no rfl rfl rfl ?_
        refine L.no rfl rfl rfl ?_
        refine L.no rfl rfl rfl ?_
        refine L.no rfl rfl rfl ?_
        refine L.no rfl rfl rfl ?_
        refine L.step (Ev.pure rfl) rfl ?_
        refine L.nil ?_
        refine QE.seq ?_
        refine C.cond rfl (fun _ => ?_) (fun h => by cases h)
        refine C.region ?_
        refine L.step (Ev.build rfl rfl rfl rfl rfl rfl rfl) rfl ?_
        refine L.step (Ev.pure rfl) rfl ?_
        refine L.panic rfl ?_
        refine QE.tP ?_
        refine QE.panE (js := []) (hs := []) (by decide) ⟨rfl, ?_⟩
        exact ⟨fun hp => by unfold PieceOk at hp; omega, rfl, rfl⟩
      · skip
        replace hg24 := of_decide_eq_false hg24
        refine L.yes rfl ?_
        refine L.step (Ev.pure rfl) rfl ?_
        refine L.yes rfl ?_
        refine L.step (Ev.pure rfl) rfl ?_
        refine L.yes rfl ?_
        refine L.step (Ev.add rfl rfl (by omega) (by omega)) rfl ?_
        refine L.yes rfl ?_
        refine L.step (Ev.pure rfl) rfl ?_
        refine L.yes rfl ?_
        first | refine L.step (Ev.nilCheck rfl (Src.o 0 rfl) (Nat.zero_lt_succ _)) rfl ?_ | refine L.step (Ev.nilCheck rfl (Src.o 1 rfl) (Nat.zero_lt_succ _)) rfl ?_ | refine L.step (Ev.nilCheck rfl (Src.o 2 rfl) (Nat.zero_lt_succ _)) rfl ?_ | refine L.step (Ev.nilCheck rfl (Src.o 3 rfl) (Nat.zero_lt_succ _)) rfl ?_ | refine L.step (Ev.nilCheck rfl (Src.o 4 rfl) (Nat.zero_lt_succ _)) rfl ?_ | refine L.step (Ev.nilCheck rfl (Src.o 5 rfl) (Nat.zero_lt_succ _)) rfl ?_ | refine L.step (Ev.nilCheck rfl (Src.r 0 rfl) (Nat.zero_lt_succ _)) rfl ?_ | refine L.step (Ev.nilCheck rfl (Src.r 1 rfl) (Nat.zero_lt_succ _)) rfl ?_ | refine L.step (Ev.nilCheck rfl (Src.r 2 rfl) (Nat.zero_lt_succ _)) rfl ?_ | refine L.step (Ev.nilCheck rfl (Src.r 3 rfl) (Nat.zero_lt_succ _)) rfl ?_ | refine L.step (Ev.nilCheck rfl (Src.r 4 rfl) (Nat.zero_lt_succ _)) rfl ?_ | refine L.step (Ev.nilCheck rfl (Src.r 5 rfl) (Nat.zero_lt_succ _)) rfl ?_
        refine L.yes rfl ?_
        first | refine L.step (Ev.fieldAddr rfl rfl rfl rfl rfl rfl (Src.o 0 rfl) (Nat.zero_lt_succ _) rfl) rfl ?_ | refine L.step (Ev.fieldAddr rfl rfl rfl rfl rfl rfl (Src.o 1 rfl) (Nat.zero_lt_succ _) rfl) rfl ?_ | refine L.step (Ev.fieldAddr rfl rfl rfl rfl rfl rfl (Src.o 2 rfl) (Nat.zero_lt_succ _) rfl) rfl ?_ | refine L.step (Ev.fieldAddr rfl rfl rfl rfl rfl rfl (Src.o 3 rfl) (Nat.zero_lt_succ _) rfl) rfl ?_ | refine L.step (Ev.fieldAddr rfl rfl rfl rfl rfl rfl (Src.o 4 rfl) (Nat.zero_lt_succ _) rfl) rfl ?_ | refine L.step (Ev.fieldAddr rfl rfl rfl rfl rfl rfl (Src.o 5 rfl) (Nat.zero_lt_succ _) rfl) rfl ?_ | refine L.step (Ev.fieldAddr rfl rfl rfl rfl rfl rfl (Src.r 0 rfl) (Nat.zero_lt_succ _) rfl) rfl ?_ | refine L.step (Ev.fieldAddr rfl rfl rfl rfl rfl rfl (Src.r 1 rfl) (Nat.zero_lt_succ _) rfl) rfl ?_ | refine L.step (Ev.fieldAddr rfl rfl rfl rfl rfl rfl (Src.r 2 rfl) (Nat.zero_lt_succ _) rfl) rfl ?_ | refine L.step (Ev.fieldAddr rfl rfl rfl rfl rfl rfl (Src.r 3 rfl) (Nat.zero_lt_succ _) rfl) rfl ?_ | refine L.step (Ev.fieldAddr rfl rfl rfl rfl rfl rfl (Src.r 4 rfl) (Nat.zero_lt_succ _) rfl) rfl ?_ | refine L.step (Ev.fieldAddr rfl rfl rfl rfl rfl rfl (Src.r 5 rfl) (Nat.zero_lt_succ _) rfl) rfl ?_
        refine L.yes rfl ?_
        first | refine L.step (Ev.load rfl rfl rfl (Src.o 0 rfl) rfl) rfl ?_ | refine L.step (Ev.load rfl rfl rfl (Src.o 1 rfl) rfl) rfl ?_ | refine L.step (Ev.load rfl rfl rfl (Src.o 2 rfl) rfl) rfl ?_ | refine L.step (Ev.load rfl rfl rfl (Src.o 3 rfl) rfl) rfl ?_ | refine L.step (Ev.load rfl rfl rfl (Src.o 4 rfl) rfl) rfl ?_ | refine L.step (Ev.load rfl rfl rfl (Src.o 5 rfl) rfl) rfl ?_ | refine L.step (Ev.load rfl rfl rfl (Src.r 0 rfl) rfl) rfl ?_ | refine L.step (Ev.load rfl rfl rfl (Src.r 1 rfl) rfl) rfl ?_ | refine L.step (Ev.load rfl rfl rfl (Src.r 2 rfl) rfl) rfl ?_ | refine L.step (Ev.load rfl rfl rfl (Src.r 3 rfl) rfl) rfl ?_ | refine L.step (Ev.load rfl rfl rfl (Src.r 4 rfl) rfl) rfl ?_ | refine L.step (Ev.load rfl rfl rfl (Src.r 5 rfl) rfl) rfl ?_
        refine L.yes rfl ?_
        refine L.step (Ev.pure rfl) rfl ?_
        refine L.step (Ev.pure rfl) rfl ?_
        refine L.nil ?_
        refine QE.seq ?_
        refine C.condB 33 rfl (fun hc33 => ?_) (fun hc33 => ?_)
        · skip
          replace hc33 := of_decide_eq_true hc33
          refine C.region ?_
          refine L.step (Ev.build rfl rfl rfl rfl rfl rfl rfl) rfl ?_
          refine L.step (Ev.pure rfl) rfl ?_
          refine L.panic rfl ?_
          refine QE.tP ?_
          refine QE.panE (js := []) (hs := []) (by decide) ⟨rfl, ?_⟩
          exact ⟨fun hp => by unfold PieceOk at hp; omega, rfl, rfl⟩
        · skip
          replace hc33 := of_decide_eq_false hc33
          refine C.skip ?_
          refine QE.seq ?_
          refine C.seq ?_
          refine C.region ?_
          refine L.step (Ev.pure rfl) rfl ?_
          refine L.step (Ev.pure rfl) rfl ?_
          refine L.step (Ev.pure rfl) rfl ?_
          refine L.step (Ev.add rfl rfl (by omega) (by omega)) rfl ?_
          first | refine L.step (Ev.nilCheck rfl (Src.o 0 rfl) (Nat.zero_lt_succ _)) rfl ?_ | refine L.step (Ev.nilCheck rfl (Src.o 1 rfl) (Nat.zero_lt_succ _)) rfl ?_ | refine L.step (Ev.nilCheck rfl (Src.o 2 rfl) (Nat.zero_lt_succ _)) rfl ?_ | refine L.step (Ev.nilCheck rfl (Src.o 3 rfl) (Nat.zero_lt_succ _)) rfl ?_ | refine L.step (Ev.nilCheck rfl (Src.o 4 rfl) (Nat.zero_lt_succ _)) rfl ?_ | refine L.step (Ev.nilCheck rfl (Src.o 5 rfl) (Nat.zero_lt_succ _)) rfl ?_ | refine L.step (Ev.nilCheck rfl (Src.r 0 rfl) (Nat.zero_lt_succ _)) rfl ?_ | refine L.step (Ev.nilCheck rfl (Src.r 1 rfl) (Nat.zero_lt_succ _)) rfl ?_ | refine L.step (Ev.nilCheck rfl (Src.r 2 rfl) (Nat.zero_lt_succ _)) rfl ?_ | refine L.step (Ev.nilCheck rfl (Src.r 3 rfl) (Nat.zero_lt_succ _)) rfl ?_ | refine L.step (Ev.nilCheck rfl (Src.r 4 rfl) (Nat.zero_lt_succ _)) rfl ?_ | refine L.step (Ev.nilCheck rfl (Src.r 5 rfl) (Nat.zero_lt_succ _)) rfl ?_
          first | refine L.step (Ev.fieldAddr rfl rfl rfl rfl rfl rfl (Src.o 0 rfl) (Nat.zero_lt_succ _) rfl) rfl ?_ | refine L.step (Ev.fieldAddr rfl rfl rfl rfl rfl rfl (Src.o 1 rfl) (Nat.zero_lt_succ _) rfl) rfl ?_ | refine L.step (Ev.fieldAddr rfl rfl rfl rfl rfl rfl (Src.o 2 rfl) (Nat.zero_lt_succ _) rfl) rfl ?_ | refine L.step (Ev.fieldAddr rfl rfl rfl rfl rfl rfl (Src.o 3 rfl) (Nat.zero_lt_succ _) rfl) rfl ?_ | refine L.step (Ev.fieldAddr rfl rfl rfl rfl rfl rfl (Src.o 4 rfl) (Nat.zero_lt_succ _) rfl) rfl ?_ | refine L.step (Ev.fieldAddr rfl rfl rfl rfl rfl rfl (Src.o 5 rfl) (Nat.zero_lt_succ _) rfl) rfl ?_ | refine L.step (Ev.fieldAddr rfl rfl rfl rfl rfl rfl (Src.r 0 rfl) (Nat.zero_lt_succ _) rfl) rfl ?_ | refine L.step (Ev.fieldAddr rfl rfl rfl rfl rfl rfl (Src.r 1 rfl) (Nat.zero_lt_succ _) rfl) rfl ?_ | refine L.step (Ev.fieldAddr rfl rfl rfl rfl rfl rfl (Src.r 2 rfl) (Nat.zero_lt_succ _) rfl) rfl ?_ | refine L.step (Ev.fieldAddr rfl rfl rfl rfl rfl rfl (Src.r 3 rfl) (Nat.zero_lt_succ _) rfl) rfl ?_ | refine L.step (Ev.fieldAddr rfl rfl rfl rfl rfl rfl (Src.r 4 rfl) (Nat.zero_lt_succ _) rfl) rfl ?_ | refine L.step (Ev.fieldAddr rfl rfl rfl rfl rfl rfl (Src.r 5 rfl) (Nat.zero_lt_succ _) rfl) rfl ?_
          first | refine L.store (j := 0) rfl rfl rfl rfl rfl rfl rfl rfl ?_ | refine L.store (j := 1) rfl rfl rfl rfl rfl rfl rfl rfl ?_ | refine L.store (j := 2) rfl rfl rfl rfl rfl rfl rfl rfl ?_ | refine L.store (j := 3) rfl rfl rfl rfl rfl rfl rfl rfl ?_ | refine L.store (j := 4) rfl rfl rfl rfl rfl rfl rfl rfl ?_ | refine L.store (j := 5) rfl rfl rfl rfl rfl rfl rfl rfl ?_
          refine L.nil ?_
          refine QE.seq ?_
          refine C.seq ?_
          refine C.region ?_
          refine L.step (Ev.pure rfl) rfl ?_
          refine L.step (Ev.pure rfl) rfl ?_
          first | refine L.step (Ev.nilCheck rfl (Src.o 0 rfl) (Nat.zero_lt_succ _)) rfl ?_ | refine L.step (Ev.nilCheck rfl (Src.o 1 rfl) (Nat.zero_lt_succ _)) rfl ?_ | refine L.step (Ev.nilCheck rfl (Src.o 2 rfl) (Nat.zero_lt_succ _)) rfl ?_ | refine L.step (Ev.nilCheck rfl (Src.o 3 rfl) (Nat.zero_lt_succ _)) rfl ?_ | refine L.step (Ev.nilCheck rfl (Src.o 4 rfl) (Nat.zero_lt_succ _)) rfl ?_ | refine L.step (Ev.nilCheck rfl (Src.o 5 rfl) (Nat.zero_lt_succ _)) rfl ?_ | refine L.step (Ev.nilCheck rfl (Src.r 0 rfl) (Nat.zero_lt_succ _)) rfl ?_ | refine L.step (Ev.nilCheck rfl (Src.r 1 rfl) (Nat.zero_lt_succ _)) rfl ?_ | refine L.step (Ev.nilCheck rfl (Src.r 2 rfl) (Nat.zero_lt_succ _)) rfl ?_ | refine L.step (Ev.nilCheck rfl (Src.r 3 rfl) (Nat.zero_lt_succ _)) rfl ?_ | refine L.step (Ev.nilCheck rfl (Src.r 4 rfl) (Nat.zero_lt_succ _)) rfl ?_ | refine L.step (Ev.nilCheck rfl (Src.r 5 rfl) (Nat.zero_lt_succ _)) rfl ?_
          first | refine L.step (Ev.fieldAddr rfl rfl rfl rfl rfl rfl (Src.o 0 rfl) (Nat.zero_lt_succ _) rfl) rfl ?_ | refine L.step (Ev.fieldAddr rfl rfl rfl rfl rfl rfl (Src.o 1 rfl) (Nat.zero_lt_succ _) rfl) rfl ?_ | refine L.step (Ev.fieldAddr rfl rfl rfl rfl rfl rfl (Src.o 2 rfl) (Nat.zero_lt_succ _) rfl) rfl ?_ | refine L.step (Ev.fieldAddr rfl rfl rfl rfl rfl rfl (Src.o 3 rfl) (Nat.zero_lt_succ _) rfl) rfl ?_ | refine L.step (Ev.fieldAddr rfl rfl rfl rfl rfl rfl (Src.o 4 rfl) (Nat.zero_lt_succ _) rfl) rfl ?_ | refine L.step (Ev.fieldAddr rfl rfl rfl rfl rfl rfl (Src.o 5 rfl) (Nat.zero_lt_succ _) rfl) rfl ?_ | refine L.step (Ev.fieldAddr rfl rfl rfl rfl rfl rfl (Src.r 0 rfl) (Nat.zero_lt_succ _) rfl) rfl ?_ | refine L.step (Ev.fieldAddr rfl rfl rfl rfl rfl rfl (Src.r 1 rfl) (Nat.zero_lt_succ _) rfl) rfl ?_ | refine L.step (Ev.fieldAddr rfl rfl rfl rfl rfl rfl (Src.r 2 rfl) (Nat.zero_lt_succ _) rfl) rfl ?_ | refine L.step (Ev.fieldAddr rfl rfl rfl rfl rfl rfl (Src.r 3 rfl) (Nat.zero_lt_succ _) rfl) rfl ?_ | refine L.step (Ev.fieldAddr rfl rfl rfl rfl rfl rfl (Src.r 4 rfl) (Nat.zero_lt_succ _) rfl) rfl ?_ | refine L.step (Ev.fieldAddr rfl rfl rfl rfl rfl rfl (Src.r 5 rfl) (Nat.zero_lt_succ _) rfl) rfl ?_
          refine L.step (Ev.pure rfl) rfl ?_
          refine L.callE (js := [0]) (js' := []) (take_c T 3 A [.int .i64 ((be2 l : Int) + (be2 (l.drop 2) : Int)), .int .i64 size] (subA (subA S c 2 1) (c - 2) 2 1) ((l.drop 2).drop 2) (c - 2 - 2) (be2 (l.drop 2)) (by rw [List.length_drop, List.length_drop]; omega) (by omega)) rfl rfl rfl (by decide) trivial rfl ?_ ?_
          rotate_left
          · skip
            rintro _ _ ⟨h47, rfl, rfl⟩
            rw [List.length_drop, List.length_drop] at h47
            refine QE.tP ?_
            refine QE.panE (js := []) (hs := []) (by decide) ⟨rfl, ?_⟩
            exact ⟨fun hp => by unfold PieceOk at hp; omega, rfl, rfl⟩
          rintro _ _ _ ⟨rfl, h47, rfl, rfl⟩
          rw [List.length_drop, List.length_drop] at h47
          refine L.step (Ev.pure rfl) rfl ?_
          refine L.step (Ev.pure rfl) rfl ?_
          refine L.nil ?_
          refine QE.seq ?_
          refine C.ret ?_
          refine QE.retE (js := []) (hs := [0]) (vs := [_, _]) rfl ⟨rfl, rfl, trivial⟩ (by decide) ?_
          exact ⟨by unfold PieceOk; omega, rfl, rfl, rfl⟩

end Go.Proofs.Ythfjkdgopkmgoaa
