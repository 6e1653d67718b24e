/-
  The contracts of the makers of flashes, layouts and contents.
-/
import Derived.Test.YthfjkdgopkmgoaaRWSvG
import Derived.Test.YthfjkdgopkmgoaaRPw
import Derived.Test.YthfjkdgopkmgoaaRWFlH
import Derived.Test.YthfjkdgopkmgoaaRPm
namespace Go.Proofs.Ythfjkdgopkmgoaa
open Go.Sl

theorem caps_app {hs : List Hd} {k s : Nat} {A : Option Addr} (hh : hs.length = k) (h : ∀ i, i < k → (hs.getD i (none, 0)).2 = s) : ∀ i, i < k + 1 → ((hs ++ [(A, s)]).getD i (none, 0)).2 = s := by
  intro i hi
  subst hh
  by_cases hc : i < hs.length
  · have := h i hc
    simp only [List.getD_eq_getElem?_getD, List.getElem?_append_left hc] at this ⊢
    exact this
  · obtain rfl : i = hs.length := by omega
    simp

theorem new217_c (s m : Nat) (l : Int) (hs1 : 1 ≤ s) (hs2 : s ≤ 4096) (hm1 : 1 ≤ m) (hm2 : m ≤ 64) (hl1 : 1 ≤ l) (hl2 : l ≤ 100000) :
    Ctr X 47 [.int .i64 (s : Int), .int .i64 (m : Int), .int .i64 l] [] [] (fun v R' H' => ∃ a : Fa, v = .tuple #[flV (fl0 s m l) a, .int .i64 0] ∧ R' = [] ∧ H' = flO (fl0 s m l) a ∧ a.hs.length = m ∧ ∀ i, i < m → (a.hs.getD i (none, 0)).2 = s) := by
  refine Ctr.of (X := X) (fn := Try.f47) Try.func47 rfl (by kernel_rfl) rfl ?_
  intro β
  refine C.seq ?_
  refine C.region ?_
  refine L.alloc rfl rfl rfl (fun A6 => ?_)
  refine L.step (Ev.pure rfl) rfl ?_
  refine L.nil ?_
  refine QE.seq ?_
  refine C.seq ?_
  refine C.seq ?_
  refine C.region ?_
  refine L.step (Ev.pure rfl) rfl ?_
  refine L.call (js := []) (js' := [0]) (in_yes _ _ _ (by omega) (by omega)) rfl rfl rfl (by decide) trivial rfl ?_
  rintro _ _ _ ⟨rfl, rfl, rfl⟩
  refine L.step (Ev.pure rfl) rfl ?_
  refine L.step (Ev.pure rfl) rfl ?_
  refine L.yes rfl ?_
  refine L.step (Ev.pure rfl) rfl ?_
  refine L.yes rfl ?_
  refine L.call (js := []) (js' := [0]) (in_yes _ _ _ (by omega) (by omega)) rfl rfl rfl (by decide) trivial rfl ?_
  rintro _ _ _ ⟨rfl, rfl, rfl⟩
  refine L.yes rfl ?_
  refine L.step (Ev.pure rfl) rfl ?_
  refine L.step (Ev.pure rfl) rfl ?_
  refine L.step (Ev.pure rfl) rfl ?_
  refine L.yes rfl ?_
  refine L.step (Ev.pure rfl) rfl ?_
  refine L.yes rfl ?_
  refine L.call (js := []) (js' := [0]) (in_yes _ _ _ (by omega) (by omega)) rfl rfl rfl (by decide) trivial rfl ?_
  rintro _ _ _ ⟨rfl, rfl, rfl⟩
  refine L.yes rfl ?_
  refine L.step (Ev.pure rfl) rfl ?_
  refine L.step (Ev.pure rfl) rfl ?_
  refine L.nil ?_
  refine QE.seq ?_
  refine C.cond rfl (fun h => by cases h) (fun _ => ?_)
  refine C.skip ?_
  refine QE.seq ?_
  refine C.seq ?_
  refine C.join (fun q : Option Addr × Option Addr × Option Addr => [(0, .int .i64 (s : Int)), (1, .int .i64 (m : Int)), (6, ptrOf A6 0), (8, ptrOf q.1 0)]) (fun q : Option Addr × Option Addr × Option Addr => []) (fun q : Option Addr × Option Addr × Option Addr => [Own 32 5 A6 1 1 [.int .i64 0, .slice none 0 0, .slice none 0 0, .int .i64 0, .slice none 0 0], Own 32 5 q.1 1 1 [.int .i64 (s : Int), .slice none 0 0, .slice q.2.1 m m, .int .i64 l, .slice q.2.2 m m], Own 3 1 q.2.1 m m (List.replicate m (.int .i64 0)), Own 4 1 q.2.2 m m (List.replicate m (.bool false))]) (fun q : Option Addr × Option Addr × Option Addr => True) ?_ ?_
  · skip
    refine C.regionM [] trivial ?_
    refine LM.q 0 rfl (by kernel_rfl) (Ev.pure rfl) rfl trivial ?_
    refine LM.q 1 rfl (by kernel_rfl) (Ev.pure rfl) rfl trivial ?_
    refine LM.q 2 rfl (by kernel_rfl) (Ev.pure rfl) rfl trivial ?_
    refine LM.q 4 rfl (by kernel_rfl) (Ev.pure rfl) rfl trivial ?_
    refine LM.alt [3, 5, 7] (by kernel_rfl) (by decide) trivial ⟨⟨_, rfl, ?_⟩, ⟨_, rfl, ?_⟩, ⟨_, rfl, ?_⟩, trivial⟩
    · skip
      refine L.make rfl rfl rfl rfl rfl rfl rfl rfl rfl (by show 8 * _ ≤ _; omega) (by omega) rfl (fun A27 => ?_)
      refine L.nil (QE.m (by kernel_rfl) ?_)
      refine LM.alt [5, 7] (by kernel_rfl) (by decide) trivial ⟨⟨_, rfl, ?_⟩, ⟨_, rfl, ?_⟩, trivial⟩
      · skip
        refine L.make rfl rfl rfl rfl rfl rfl rfl rfl rfl (by show 1 * _ ≤ _; omega) (by omega) rfl (fun A29 => ?_)
        refine L.nil (QE.m (by kernel_rfl) ?_)
        refine LM.q 6 rfl (by kernel_rfl) (Ev.build rfl rfl rfl rfl rfl rfl rfl) rfl trivial ?_
        refine LM.f 7 rfl (by kernel_rfl) trivial ?_
        refine L.alloc rfl rfl rfl (fun A8 => ?_)
        refine L.nil (QE.m (by kernel_rfl) ?_)
        refine LM.f 8 rfl (by kernel_rfl) trivial ?_
        refine L.storeA (j := 3) rfl rfl rfl rfl rfl (Nat.zero_lt_succ _) rfl rfl ?_
        refine L.nil (QE.m (by kernel_rfl) ?_)
        refine LM.nil (by kernel_rfl) trivial ?_
        refine QE.joined ((A8, A27, A29)) (by exact trivial) (by exact Le.mk' (rs := []) (hs := [0, 3, 1, 2]) ⟨rfl, rfl, rfl, rfl, trivial⟩ trivial ⟨rfl, rfl, rfl, rfl, trivial⟩ (by decide))
      · skip
        refine L.alloc rfl rfl rfl (fun A8 => ?_)
        refine L.nil (QE.m (by kernel_rfl) ?_)
        refine LM.f 5 rfl (by kernel_rfl) trivial ?_
        refine L.make rfl rfl rfl rfl rfl rfl rfl rfl rfl (by show 1 * _ ≤ _; omega) (by omega) rfl (fun A29 => ?_)
        refine L.nil (QE.m (by kernel_rfl) ?_)
        refine LM.f 6 rfl (by kernel_rfl) trivial ?_
        refine L.step (Ev.build rfl rfl rfl rfl rfl rfl rfl) rfl ?_
        refine L.nil (QE.m (by kernel_rfl) ?_)
        refine LM.f 8 rfl (by kernel_rfl) trivial ?_
        refine L.storeA (j := 2) rfl rfl rfl rfl rfl (Nat.zero_lt_succ _) rfl rfl ?_
        refine L.nil (QE.m (by kernel_rfl) ?_)
        refine LM.nil (by kernel_rfl) trivial ?_
        refine QE.joined ((A8, A27, A29)) (by exact trivial) (by exact Le.mk' (rs := []) (hs := [0, 2, 1, 3]) ⟨rfl, rfl, rfl, rfl, trivial⟩ trivial ⟨rfl, rfl, rfl, rfl, trivial⟩ (by decide))
    · skip
      refine L.make rfl rfl rfl rfl rfl rfl rfl rfl rfl (by show 1 * _ ≤ _; omega) (by omega) rfl (fun A29 => ?_)
      refine L.nil (QE.m (by kernel_rfl) ?_)
      refine LM.alt [3, 7] (by kernel_rfl) (by decide) trivial ⟨⟨_, rfl, ?_⟩, ⟨_, rfl, ?_⟩, trivial⟩
      · skip
        refine L.make rfl rfl rfl rfl rfl rfl rfl rfl rfl (by show 8 * _ ≤ _; omega) (by omega) rfl (fun A27 => ?_)
        refine L.nil (QE.m (by kernel_rfl) ?_)
        refine LM.q 6 rfl (by kernel_rfl) (Ev.build rfl rfl rfl rfl rfl rfl rfl) rfl trivial ?_
        refine LM.f 7 rfl (by kernel_rfl) trivial ?_
        refine L.alloc rfl rfl rfl (fun A8 => ?_)
        refine L.nil (QE.m (by kernel_rfl) ?_)
        refine LM.f 8 rfl (by kernel_rfl) trivial ?_
        refine L.storeA (j := 3) rfl rfl rfl rfl rfl (Nat.zero_lt_succ _) rfl rfl ?_
        refine L.nil (QE.m (by kernel_rfl) ?_)
        refine LM.nil (by kernel_rfl) trivial ?_
        refine QE.joined ((A8, A27, A29)) (by exact trivial) (by exact Le.mk' (rs := []) (hs := [0, 3, 2, 1]) ⟨rfl, rfl, rfl, rfl, trivial⟩ trivial ⟨rfl, rfl, rfl, rfl, trivial⟩ (by decide))
      · skip
        refine L.alloc rfl rfl rfl (fun A8 => ?_)
        refine L.nil (QE.m (by kernel_rfl) ?_)
        refine LM.f 3 rfl (by kernel_rfl) trivial ?_
        refine L.make rfl rfl rfl rfl rfl rfl rfl rfl rfl (by show 8 * _ ≤ _; omega) (by omega) rfl (fun A27 => ?_)
        refine L.nil (QE.m (by kernel_rfl) ?_)
        refine LM.f 6 rfl (by kernel_rfl) trivial ?_
        refine L.step (Ev.build rfl rfl rfl rfl rfl rfl rfl) rfl ?_
        refine L.nil (QE.m (by kernel_rfl) ?_)
        refine LM.f 8 rfl (by kernel_rfl) trivial ?_
        refine L.storeA (j := 2) rfl rfl rfl rfl rfl (Nat.zero_lt_succ _) rfl rfl ?_
        refine L.nil (QE.m (by kernel_rfl) ?_)
        refine LM.nil (by kernel_rfl) trivial ?_
        refine QE.joined ((A8, A27, A29)) (by exact trivial) (by exact Le.mk' (rs := []) (hs := [0, 2, 3, 1]) ⟨rfl, rfl, rfl, rfl, trivial⟩ trivial ⟨rfl, rfl, rfl, rfl, trivial⟩ (by decide))
    · skip
      refine L.alloc rfl rfl rfl (fun A8 => ?_)
      refine L.nil (QE.m (by kernel_rfl) ?_)
      refine LM.alt [3, 5] (by kernel_rfl) (by decide) trivial ⟨⟨_, rfl, ?_⟩, ⟨_, rfl, ?_⟩, trivial⟩
      · skip
        refine L.make rfl rfl rfl rfl rfl rfl rfl rfl rfl (by show 8 * _ ≤ _; omega) (by omega) rfl (fun A27 => ?_)
        refine L.nil (QE.m (by kernel_rfl) ?_)
        refine LM.f 5 rfl (by kernel_rfl) trivial ?_
        refine L.make rfl rfl rfl rfl rfl rfl rfl rfl rfl (by show 1 * _ ≤ _; omega) (by omega) rfl (fun A29 => ?_)
        refine L.nil (QE.m (by kernel_rfl) ?_)
        refine LM.f 6 rfl (by kernel_rfl) trivial ?_
        refine L.step (Ev.build rfl rfl rfl rfl rfl rfl rfl) rfl ?_
        refine L.nil (QE.m (by kernel_rfl) ?_)
        refine LM.f 8 rfl (by kernel_rfl) trivial ?_
        refine L.storeA (j := 1) rfl rfl rfl rfl rfl (Nat.zero_lt_succ _) rfl rfl ?_
        refine L.nil (QE.m (by kernel_rfl) ?_)
        refine LM.nil (by kernel_rfl) trivial ?_
        refine QE.joined ((A8, A27, A29)) (by exact trivial) (by exact Le.mk' (rs := []) (hs := [0, 1, 2, 3]) ⟨rfl, rfl, rfl, rfl, trivial⟩ trivial ⟨rfl, rfl, rfl, rfl, trivial⟩ (by decide))
      · skip
        refine L.make rfl rfl rfl rfl rfl rfl rfl rfl rfl (by show 1 * _ ≤ _; omega) (by omega) rfl (fun A29 => ?_)
        refine L.nil (QE.m (by kernel_rfl) ?_)
        refine LM.f 3 rfl (by kernel_rfl) trivial ?_
        refine L.make rfl rfl rfl rfl rfl rfl rfl rfl rfl (by show 8 * _ ≤ _; omega) (by omega) rfl (fun A27 => ?_)
        refine L.nil (QE.m (by kernel_rfl) ?_)
        refine LM.f 6 rfl (by kernel_rfl) trivial ?_
        refine L.step (Ev.build rfl rfl rfl rfl rfl rfl rfl) rfl ?_
        refine L.nil (QE.m (by kernel_rfl) ?_)
        refine LM.f 8 rfl (by kernel_rfl) trivial ?_
        refine L.storeA (j := 1) rfl rfl rfl rfl rfl (Nat.zero_lt_succ _) rfl rfl ?_
        refine L.nil (QE.m (by kernel_rfl) ?_)
        refine LM.nil (by kernel_rfl) trivial ?_
        refine QE.joined ((A8, A27, A29)) (by exact trivial) (by exact Le.mk' (rs := []) (hs := [0, 1, 3, 2]) ⟨rfl, rfl, rfl, rfl, trivial⟩ trivial ⟨rfl, rfl, rfl, rfl, trivial⟩ (by decide))
  · skip
    rintro ⟨A8, A27, A29⟩ _
    dsimp only
    refine QE.seq ?_
    refine C.seq ?_
    refine C.seq ?_
    refine C.region ?_
    refine L.step (Ev.pure rfl) rfl ?_
    refine L.nil ?_
    refine QE.seq ?_
    refine C.block ?_
    refine C.nil_own 24 1 ?_
    refine C.kids0 5 ?_
    refine C.loop (fun q : Nat × Option Addr × Nat × List Hd => [(0, .int .i64 (s : Int)), (1, .int .i64 (m : Int)), (6, ptrOf A6 0), (8, ptrOf A8 0), (9, .int .i64 (q.1 : Int))]) (fun q : Nat × Option Addr × Nat × List Hd => []) (fun q : Nat × Option Addr × Nat × List Hd => [Own 32 5 A6 1 1 [.int .i64 0, .slice none 0 0, .slice none 0 0, .int .i64 0, .slice none 0 0], Own 32 5 A8 1 1 [.int .i64 (s : Int), .slice q.2.1 q.1 q.2.2.1, .slice A27 m m, .int .i64 l, .slice A29 m m], Own 3 1 A27 m m (List.replicate m (.int .i64 0)), Own 4 1 A29 m m (List.replicate m (.bool false)), Own 24 1 q.2.1 q.1 q.2.2.1 (rowsV q.2.2.2 (B8 (List.replicate q.1 (List.replicate s 255)))), OwnKids 5 q.2.2.2 (B8 (List.replicate q.1 (List.replicate s 255)))]) (fun q : Nat × Option Addr × Nat × List Hd => q.1 ≤ m ∧ q.2.2.2.length = q.1 ∧ ∀ i, i < q.1 → (q.2.2.2.getD i (none, 0)).2 = s) (fun q : Nat × Option Addr × Nat × List Hd => m - q.1) (0, none, 0, []) ⟨by simp, rfl, fun i hi => absurd hi (Nat.not_lt_zero _)⟩ (by exact Le.mk' (rs := []) (hs := [0, 1, 2, 3, 4, 5]) ⟨rfl, rfl, rfl, rfl, rfl, trivial⟩ trivial ⟨rfl, rfl, rfl, rfl, rfl, rfl, trivial⟩ (by decide)) ?_
    rintro ⟨k, D, cD, hs⟩ ⟨hk, hh, hcp⟩
    dsimp only at hk hh hcp ⊢
    refine C.seq ?_
    refine C.seq ?_
    refine C.region ?_
    refine L.step (Ev.pure rfl) rfl ?_
    refine L.step (Ev.pure rfl) rfl ?_
    refine L.step (Ev.pure rfl) rfl ?_
    refine L.nil ?_
    refine QE.seq ?_
    refine C.condB 33 rfl (fun hc33 => ?_) (fun hc33 => ?_)
    · skip
      replace hc33 := of_decide_eq_true hc33
      refine C.skip ?_
      refine QE.seq ?_
      refine C.seq ?_
      refine C.block ?_
      refine C.regionM [Rd A8 [.int .i64 (s : Int), .slice D k cD, .slice A27 m m, .int .i64 l, .slice A29 m m]] ⟨Has.o 1 rfl, trivial⟩ ?_
      refine LM.q 0 rfl (by kernel_rfl) (Ev.fieldAddr rfl rfl rfl rfl rfl rfl (Src.r 0 rfl) (Nat.zero_lt_succ _) rfl) rfl ⟨Has.o 1 rfl, trivial⟩ ?_
      refine LM.q 1 rfl (by kernel_rfl) (Ev.load rfl rfl rfl (Src.r 0 rfl) rfl) rfl ⟨Has.o 1 rfl, trivial⟩ ?_
      refine LM.f 2 rfl (by kernel_rfl) ⟨Has.o 1 rfl, trivial⟩ ?_
      refine L.step (Ev.pure rfl) rfl ?_
      refine L.nil (QE.m (by kernel_rfl) ?_)
      refine LM.f 3 rfl (by kernel_rfl) ⟨Has.o 1 rfl, trivial⟩ ?_
      refine L.call (js := []) (js' := [0, 1, 2, 3, 4, 5]) (blank_c s (by omega)) rfl rfl rfl (by decide) trivial rfl ?_
      rintro _ _ _ ⟨A39, rfl, rfl, rfl⟩
      refine L.nil (QE.m (by kernel_rfl) ?_)
      refine LM.f 4 rfl (by kernel_rfl) ⟨Has.o 2 rfl, trivial⟩ ?_
      refine L.lit rfl rfl rfl rfl rfl (by rfl) (by rfl) (by rfl) rfl rfl (fun A40 => ?_)
      refine L.nil (QE.m (by kernel_rfl) ?_)
      refine LM.cut [] (by kernel_rfl) ⟨Has.o 2 rfl, trivial⟩ ?_
      refine LM.f 5 rfl (by kernel_rfl) trivial ?_
      refine L.append (j := 5) rfl rfl rfl rfl (by decide) rfl rfl rfl rfl (Src.o 7 rfl) rfl (by intro v hv; simp at hv; subst hv; rfl) (by omega) (by show _ * 24 ≤ _; omega) rfl (fun A41 cc41 => ?_)
      refine L.nil (QE.m (by kernel_rfl) ?_)
      refine LM.f 6 rfl (by kernel_rfl) trivial ?_
      refine L.step (Ev.fieldAddr rfl rfl rfl rfl rfl rfl (Src.o 2 rfl) (Nat.zero_lt_succ _) rfl) rfl ?_
      refine L.nil (QE.m (by kernel_rfl) ?_)
      refine LM.f 7 rfl (by kernel_rfl) trivial ?_
      refine L.store (j := 2) rfl rfl rfl rfl rfl rfl rfl rfl ?_
      refine L.nil (QE.m (by kernel_rfl) ?_)
      refine LM.nil (by kernel_rfl) trivial ?_
      refine QE.blkN ?_
      refine QE.seq ?_
      refine C.region ?_
      refine L.step (Ev.pure rfl) rfl ?_
      refine L.step (Ev.add rfl rfl (by omega) (by omega)) rfl ?_
      refine L.step (Ev.pure rfl) rfl ?_
      refine L.nil ?_
      refine QE.absorb 6 0 rfl rfl [1, 2, 3, 4, 5, 7] (by decide) ?_
      refine QE.round (i := (k, D, cD, hs)) ((k + 1, A41, cc41, hs ++ [(A39, s)])) (by exact ⟨by dsimp only; omega, by simp [hh], caps_app hh hcp⟩) (by dsimp only; omega) (by exact Le.mk' (rs := []) (hs := [1, 2, 3, 4, 5, 0]) ⟨rfl, rfl, rfl, rfl, rfl, trivial⟩ trivial ⟨rfl, rfl, rfl, rfl, (congrArg some (own_eq rfl (by rw [List.replicate_succ', ← rows8_app (by simp [hh])]; simp))), (congrArg some (by rw [List.replicate_succ', ← B8_snoc])), trivial⟩ (by decide))
    · skip
      replace hc33 := of_decide_eq_false hc33
      refine C.exit ?_
      refine QE.tX ?_
      refine QE.tX ?_
      refine QE.blk ?_
      refine QE.seq ?_
      refine C.seq ?_
      refine C.region ?_
      refine L.step (Ev.loadA rfl rfl rfl (Src.o 1 rfl) rfl rfl (by decide)) rfl ?_
      refine L.storeA (j := 0) rfl rfl rfl rfl rfl (Nat.zero_lt_succ _) rfl rfl ?_
      refine L.step (Ev.pure rfl) rfl ?_
      refine L.nil ?_
      refine QE.seq ?_
      refine C.ret ?_
      refine QE.ret (js := []) (hs := [4, 5, 2, 3]) (vs := [_, _]) rfl ⟨⟨_, _, 0, _, rfl, rfl, Src.o 0 rfl, .inl ⟨rfl, by decide, _, rfl, rfl, rfl⟩⟩, rfl, trivial⟩ (by decide) ?_
      obtain rfl : m = k := by omega
      refine ⟨⟨D, cD, hs, A27, m, A29, m⟩, ?_, rfl, ?_, hh, hcp⟩
      · show Value.tuple #[.agg (List.toArray [.int .i64 (s : Int), .slice D m cD, .slice A27 m m, .int .i64 l, .slice A29 m m]), .int .i64 0] = _
        simp [flV, flL, fl0]
      · simp [sel, flO, fl0, I64_rep, Bs_rep]
        done

theorem new21_c (z : Nat) (f : Fl) (hf : f = fl0 z 5 9) (h1 : 1 ≤ z) (h2 : z ≤ 4096) : Ctr X 47 [.int .i64 (z : Int), .int .i64 5, .int .i64 9] [] []
    (fun v R' H' => ∃ a : Fa, a.hs.length = f.data.length ∧ Caps f a ∧ v = .tuple #[.agg (List.toArray [.int .i64 (f.size : Int), .slice a.D f.data.length a.cD, .slice a.W f.wear.length a.cW, .int .i64 f.limit, .slice a.E f.dead.length a.cE]), .int .i64 0] ∧ R' = [] ∧ H' = [Own 24 1 a.D f.data.length a.cD (rowsV a.hs (B8 f.data)), OwnKids 5 a.hs (B8 f.data), Own 3 1 a.W f.wear.length a.cW (I64 f.wear), Own 4 1 a.E f.dead.length a.cE (Bs f.dead)]) := by
  subst hf
  refine (new217_c z 5 9 h1 h2 (by decide) (by decide) (by decide) (by decide)).mono ?_
  rintro v R' H' ⟨a, rfl, rfl, rfl, hb, hc⟩
  refine ⟨a, by rw [hb]; simp [fl0], fun i hi => ?_, rfl, rfl, rfl⟩
  have hi5 : i < 5 := by simpa [fl0] using hi
  rw [hc i hi5]
  exact Nat.le_refl _

set_option maxHeartbeats 1000000 in
theorem made21_c (sz un : UInt8) (f : Fl) (us : List Int) (hf : f = fl0 (4 + sz.toNat % 12) 5 9) (hus : us = undoL un) :
    Ctr X 19 [.agg (List.toArray [.int .u8 (sz.toNat : Int), .int .u8 (un.toNat : Int)])] [] [] (fun v R' H' => ∃ (a : Fa) (U : Option Addr) (uc : Nat), a.hs.length = f.data.length ∧ Caps f a ∧ v = .tuple #[.agg (List.toArray [.int .i64 (f.size : Int), .slice a.D f.data.length a.cD, .slice a.W f.wear.length a.cW, .int .i64 f.limit, .slice a.E f.dead.length a.cE]), .agg (List.toArray [.int .i64 0, .int .i64 0, .int .i64 0, .int .i64 0, .int .i64 0, .slice none 0 0, .slice U us.length uc, .slice none 0 0])] ∧ R' = [] ∧ H' = [Own 24 1 a.D f.data.length a.cD (rowsV a.hs (B8 f.data)), OwnKids 5 a.hs (B8 f.data), Own 3 1 a.W f.wear.length a.cW (I64 f.wear), Own 4 1 a.E f.dead.length a.cE (Bs f.dead), Own 3 1 U us.length uc (I64 us)]) := by
  have hz8 := u8_lt sz
  have hu8 := u8_lt un
  refine Ctr.of (X := X) (fn := Try.f19) Try.func19 rfl (by kernel_rfl) rfl ?_
  intro β
  refine C.seq ?_
  refine C.region ?_
  refine L.boxA rfl rfl (fun A1 => ?_)
  refine L.alloc rfl rfl rfl (fun A2 => ?_)
  refine L.alloc rfl rfl rfl (fun A3 => ?_)
  refine L.nil ?_
  refine QE.seq ?_
  refine C.seq ?_
  refine C.freeze 0 rfl [1, 2] (by decide) (by decide) ?_
  refine C.region ?_
  refine L.step (Ev.fieldAddr rfl rfl rfl rfl rfl rfl (Src.r 0 rfl) (Nat.zero_lt_succ _) rfl) rfl ?_
  refine L.step (Ev.load rfl rfl rfl (Src.r 0 rfl) rfl) rfl ?_
  first | refine L.step (Ev.byteInt rfl rfl rfl rfl) rfl ?_ | refine L.step (Ev.toInt rfl rfl rfl rfl (by omega) (by omega)) rfl ?_
  refine L.step (Ev.cast (u := .int .i64 ((sz.toNat % 12 : Nat) : Int)) (Ev.rem rfl rfl (by omega) (by omega)) (congrArg (Value.int .i64) (by rw [Int.natCast_emod]; rfl))) rfl ?_
  refine L.step (Ev.cast (u := .int .i64 ((4 + sz.toNat % 12 : Nat) : Int)) (Ev.add rfl rfl (by omega) (by omega)) (congrArg (Value.int .i64) (by omega))) rfl ?_
  refine L.call (js := []) (js' := [0, 1]) (new21_c (4 + sz.toNat % 12) f hf (by omega) (by omega)) rfl rfl rfl (by decide) trivial rfl ?_
  rintro _ _ _ ⟨a, hb, hcp, rfl, rfl, rfl⟩
  refine L.step (Ev.pure rfl) rfl ?_
  refine L.step (Ev.pure rfl) rfl ?_
  refine L.step (Ev.pure rfl) rfl ?_
  refine L.alloc rfl rfl rfl (fun A4 => ?_)
  refine L.storeA (j := 6) rfl rfl rfl rfl rfl (Nat.zero_lt_succ _) rfl rfl ?_
  refine L.step (Ev.pure rfl) rfl ?_
  refine L.nil ?_
  refine QE.seq ?_
  refine C.seq ?_
  refine C.region ?_
  refine L.step (Ev.build rfl rfl rfl rfl rfl rfl rfl) rfl ?_
  refine L.alloc rfl rfl rfl (fun A6 => ?_)
  refine L.storeA (j := 7) rfl rfl rfl rfl rfl (Nat.zero_lt_succ _) rfl rfl ?_
  refine L.nil ?_
  refine QE.seq ?_
  refine C.seq ?_
  refine C.seq ?_
  refine C.own0 3 1 ?_
  refine C.region ?_
  refine L.step (Ev.pure rfl) rfl ?_
  refine L.nil ?_
  refine QE.seq ?_
  refine C.block ?_
  refine C.loop (fun q : Nat × Option Addr × Nat => [(1, ptrOf A1 0), (2, ptrOf A2 0), (3, ptrOf A3 0), (4, ptrOf A4 0), (6, ptrOf A6 0), (7, .int .i64 (q.1 : Int))]) (fun q : Nat × Option Addr × Nat => [Rd A1 [.int .u8 (sz.toNat : Int), .int .u8 (un.toNat : Int)]]) (fun q : Nat × Option Addr × Nat => [Own 32 5 A2 1 1 [.int .i64 0, .slice none 0 0, .slice none 0 0, .int .i64 0, .slice none 0 0], Own 35 8 A3 1 1 [.int .i64 0, .int .i64 0, .int .i64 0, .int .i64 0, .int .i64 0, .slice none 0 0, .slice none 0 0, .slice none 0 0], Own 32 5 A4 1 1 [.int .i64 (f.size : Int), .slice a.D f.data.length a.cD, .slice a.W f.wear.length a.cW, .int .i64 f.limit, .slice a.E f.dead.length a.cE], Own 24 1 a.D f.data.length a.cD (rowsV a.hs (B8 f.data)), OwnKids 5 a.hs (B8 f.data), Own 3 1 a.W f.wear.length a.cW (I64 f.wear), Own 4 1 a.E f.dead.length a.cE (Bs f.dead), Own 35 8 A6 1 1 [.int .i64 0, .int .i64 0, .int .i64 0, .int .i64 0, .int .i64 0, .slice none 0 0, .slice q.2.1 q.1 q.2.2, .slice none 0 0], Own 3 1 q.2.1 q.1 q.2.2 (I64 (undoN un q.1))]) (fun q : Nat × Option Addr × Nat => q.1 ≤ (1 + un.toNat % 3)) (fun q : Nat × Option Addr × Nat => (1 + un.toNat % 3) - q.1) (0, none, 0) (Nat.zero_le _) (by exact Le.mk' (rs := [0]) (hs := [4, 5, 6, 0, 1, 2, 3, 7, 8]) ⟨rfl, rfl, rfl, rfl, rfl, rfl, trivial⟩ ⟨rfl, trivial⟩ ⟨rfl, rfl, rfl, rfl, rfl, rfl, rfl, rfl, rfl, trivial⟩ (by decide)) ?_
  rintro ⟨k, U, uc⟩ hk
  dsimp only at hk ⊢
  refine C.seq ?_
  refine C.seq ?_
  refine C.region ?_
  refine L.step (Ev.pure rfl) rfl ?_
  refine L.step (Ev.fieldAddr rfl rfl rfl rfl rfl rfl (Src.r 0 rfl) (Nat.zero_lt_succ _) rfl) rfl ?_
  refine L.step (Ev.load rfl rfl rfl (Src.r 0 rfl) rfl) rfl ?_
  first | refine L.step (Ev.byteInt rfl rfl rfl rfl) rfl ?_ | refine L.step (Ev.toInt rfl rfl rfl rfl (by omega) (by omega)) rfl ?_
  refine L.step (Ev.cast (u := .int .i64 ((un.toNat % 3 : Nat) : Int)) (Ev.rem rfl rfl (by omega) (by omega)) (congrArg (Value.int .i64) (by rw [Int.natCast_emod]; rfl))) rfl ?_
  refine L.step (Ev.cast (u := .int .i64 ((1 + un.toNat % 3 : Nat) : Int)) (Ev.add rfl rfl (by omega) (by omega)) (congrArg (Value.int .i64) (by omega))) rfl ?_
  refine L.step (Ev.pure rfl) rfl ?_
  refine L.nil ?_
  refine QE.seq ?_
  refine C.condB 24 rfl (fun hc24 => ?_) (fun hc24 => ?_)
  · skip
    replace hc24 := of_decide_eq_true hc24
    refine C.skip ?_
    refine QE.seq ?_
    refine C.seq ?_
    refine C.block ?_
    refine C.region ?_
    refine L.step (Ev.fieldAddr rfl rfl rfl rfl rfl rfl (Src.o 7 rfl) (Nat.zero_lt_succ _) rfl) rfl ?_
    refine L.step (Ev.load rfl rfl rfl (Src.o 7 rfl) rfl) rfl ?_
    refine L.step (Ev.fieldAddr rfl rfl rfl rfl rfl rfl (Src.r 0 rfl) (Nat.zero_lt_succ _) rfl) rfl ?_
    refine L.step (Ev.load rfl rfl rfl (Src.r 0 rfl) rfl) rfl ?_
    first | refine L.step (Ev.byteInt rfl rfl rfl rfl) rfl ?_ | refine L.step (Ev.toInt rfl rfl rfl rfl (by omega) (by omega)) rfl ?_
    refine L.step (Ev.cast (u := .int .i64 ((un.toNat / 3 : Nat) : Int)) (Ev.quo rfl rfl (by omega) (by omega) (by omega)) (congrArg (Value.int .i64) (by rw [Int.natCast_ediv]; rfl))) rfl ?_
    refine L.step (Ev.pure rfl) rfl ?_
    refine L.step (Ev.cast (u := .int .i64 ((3 * k : Nat) : Int)) (Ev.mul rfl rfl (by omega) (by omega)) (congrArg (Value.int .i64) (by omega))) rfl ?_
    refine L.step (Ev.cast (u := .int .i64 ((un.toNat / 3 + 3 * k : Nat) : Int)) (Ev.add rfl rfl (by omega) (by omega)) (congrArg (Value.int .i64) (by omega))) rfl ?_
    refine L.step (Ev.cast (u := .int .i64 (((un.toNat / 3 + 3 * k) % 5 : Nat) : Int)) (Ev.rem rfl rfl (by omega) (by omega)) (congrArg (Value.int .i64) (by rw [Int.natCast_emod]; rfl))) rfl ?_
    refine L.lit rfl rfl rfl rfl rfl (by rfl) (by rfl) (by rfl) rfl rfl (fun A37 => ?_)
    refine L.append (j := 8) rfl rfl rfl rfl (by decide) rfl rfl rfl rfl (Src.o 9 rfl) rfl (allOne rfl) (by omega) (by show _ * 8 ≤ _; omega) rfl (fun A38 cc38 => ?_)
    refine L.step (Ev.fieldAddr rfl rfl rfl rfl rfl rfl (Src.o 7 rfl) (Nat.zero_lt_succ _) rfl) rfl ?_
    refine L.store (j := 7) rfl rfl rfl rfl rfl rfl rfl rfl ?_
    refine L.nil ?_
    refine QE.blkN ?_
    refine QE.seq ?_
    refine C.region ?_
    refine L.step (Ev.pure rfl) rfl ?_
    refine L.step (Ev.add rfl rfl (by omega) (by omega)) rfl ?_
    refine L.step (Ev.pure rfl) rfl ?_
    refine L.nil ?_
    refine QE.round (i := (k, U, uc)) ((k + 1, A38, cc38)) (by dsimp only; omega) (by dsimp only; omega) (by exact Le.mk' (rs := [0]) (hs := [0, 1, 2, 3, 4, 5, 6, 7, 8]) ⟨rfl, rfl, rfl, rfl, rfl, rfl, trivial⟩ ⟨rfl, trivial⟩ ⟨rfl, rfl, rfl, rfl, rfl, rfl, rfl, rfl, (congrArg some (own_eq rfl (by dsimp only; rw [undoN_succ, ← I64_app]; rfl))), trivial⟩ (by decide))
  · skip
    replace hc24 := of_decide_eq_false hc24
    refine C.exit ?_
    refine QE.tX ?_
    refine QE.tX ?_
    refine QE.blk ?_
    refine QE.seq ?_
    refine C.seq ?_
    obtain rfl : k = (1 + un.toNat % 3) := by omega
    refine C.regionM [Rd A1 [.int .u8 (sz.toNat : Int), .int .u8 (un.toNat : Int)], Rd A4 [.int .i64 (f.size : Int), .slice a.D f.data.length a.cD, .slice a.W f.wear.length a.cW, .int .i64 f.limit, .slice a.E f.dead.length a.cE], Rd A6 [.int .i64 0, .int .i64 0, .int .i64 0, .int .i64 0, .int .i64 0, .slice none 0 0, .slice U (1 + un.toNat % 3) uc, .slice none 0 0]] ⟨Has.r 0 rfl, Has.o 2 rfl, Has.o 7 rfl, trivial⟩ ?_
    refine LM.q 0 rfl (by kernel_rfl) (Ev.loadA rfl rfl rfl (Src.r 1 rfl) rfl rfl (by decide)) rfl ⟨Has.r 0 rfl, Has.o 2 rfl, Has.o 7 rfl, trivial⟩ ?_
    refine LM.q 1 rfl (by kernel_rfl) (Ev.loadA rfl rfl rfl (Src.r 2 rfl) rfl rfl (by decide)) rfl ⟨Has.r 0 rfl, Has.o 2 rfl, Has.o 7 rfl, trivial⟩ ?_
    refine LM.f 2 rfl (by kernel_rfl) ⟨Has.r 0 rfl, Has.o 2 rfl, Has.o 7 rfl, trivial⟩ ?_
    refine L.storeA (j := 0) rfl rfl rfl rfl rfl (Nat.zero_lt_succ _) rfl rfl ?_
    refine L.nil (QE.m (by kernel_rfl) ?_)
    refine LM.cut [] (by kernel_rfl) ⟨Has.r 0 rfl, Has.o 2 rfl, Has.o 7 rfl, trivial⟩ ?_
    refine LM.f 3 rfl (by kernel_rfl) trivial ?_
    refine L.storeA (j := 1) rfl rfl rfl rfl rfl (Nat.zero_lt_succ _) rfl rfl ?_
    refine L.nil (QE.m (by kernel_rfl) ?_)
    refine LM.nil (by kernel_rfl) trivial ?_
    refine QE.seq ?_
    refine C.ret ?_
    refine QE.ret (js := []) (hs := [3, 4, 5, 6, 8]) (vs := [_, _]) rfl ⟨⟨_, _, 0, _, rfl, rfl, Src.o 0 rfl, .inl ⟨rfl, by decide, _, rfl, rfl, rfl⟩⟩, ⟨_, _, 0, _, rfl, rfl, Src.o 1 rfl, .inl ⟨rfl, by decide, _, rfl, rfl, rfl⟩⟩, trivial⟩ (by decide) ?_
    have hul : us.length = (1 + un.toNat % 3) := by rw [hus, undoL_len]
    refine ⟨a, U, uc, hb, hcp, ?_, rfl, ?_⟩
    · rw [hul]; rfl
    · rw [hul, hus]; rfl

set_option maxHeartbeats 1000000 in
theorem chg21_c (BA LA : Option Addr) (b : List UInt8) (l : List (UInt8 × UInt8)) (bc lc n : Nat) (hn0 : 1 ≤ n) (hn : n ≤ 100000) :
    Ctr X 20 [.slice BA b.length bc, .slice LA l.length lc, .int .i64 (n : Int)] [Rd BA (U8 b), Rd LA (pairsV l)] [] (fun v R' H' => ∃ (O N : Option Addr) (oc nc : Nat), v = .agg (List.toArray [.int .i64 0, .slice O n oc, .slice N n nc]) ∧ R' = [] ∧ H' = [Own 5 1 O n oc (U8 (oldN b n)), Own 5 1 N n nc (U8 (newL b l n))]) := by
  have hob := oldN_len b n
  refine Ctr.of (X := X) (fn := Try.f20) Try.func20 rfl (by kernel_rfl) rfl ?_
  intro β
  refine C.seq ?_
  refine C.region ?_
  refine L.alloc rfl rfl rfl (fun A6 => ?_)
  refine L.nil ?_
  refine QE.seq ?_
  refine C.seq ?_
  refine C.region ?_
  refine L.lit rfl rfl rfl rfl rfl (by rfl) (by rfl) (by rfl) rfl rfl (fun A11 => ?_)
  refine L.step (Ev.build rfl rfl rfl rfl rfl rfl rfl) rfl ?_
  refine L.alloc rfl rfl rfl (fun A7 => ?_)
  refine L.storeA (j := 2) rfl rfl rfl rfl rfl (Nat.zero_lt_succ _) rfl rfl ?_
  refine L.nil ?_
  refine QE.seq ?_
  refine C.seq ?_
  refine C.seq ?_
  refine C.region ?_
  refine L.step (Ev.pure rfl) rfl ?_
  refine L.nil ?_
  refine QE.seq ?_
  refine C.block ?_
  refine C.loop (fun q : Nat × Option Addr × Nat => [(0, .slice BA b.length bc), (1, .slice LA l.length lc), (2, .int .i64 (n : Int)), (6, ptrOf A6 0), (7, ptrOf A7 0), (8, .int .i64 (q.1 : Int))]) (fun q : Nat × Option Addr × Nat => [Rd BA (U8 b), Rd LA (pairsV l)]) (fun q : Nat × Option Addr × Nat => [Own 39 3 A6 1 1 [.int .i64 0, .slice none 0 0, .slice none 0 0], Own 39 3 A7 1 1 [.int .i64 0, .slice q.2.1 q.1 q.2.2, .slice none 0 0], Own 5 1 q.2.1 q.1 q.2.2 (U8 (oldN b q.1))]) (fun q : Nat × Option Addr × Nat => q.1 ≤ n) (fun q : Nat × Option Addr × Nat => n - q.1) (0, A11, 0) (Nat.zero_le _) (by exact Le.mk' (rs := [0, 1]) (hs := [0, 2, 1]) ⟨rfl, rfl, rfl, rfl, rfl, rfl, trivial⟩ ⟨rfl, rfl, trivial⟩ ⟨rfl, rfl, rfl, trivial⟩ (by decide)) ?_
  rintro ⟨k, O, c⟩ hk
  dsimp only at hk ⊢
  refine C.seq ?_
  refine C.seq ?_
  refine C.region ?_
  refine L.step (Ev.pure rfl) rfl ?_
  refine L.step (Ev.pure rfl) rfl ?_
  refine L.step (Ev.pure rfl) rfl ?_
  refine L.nil ?_
  refine QE.seq ?_
  refine C.condB 15 rfl (fun hc15 => ?_) (fun hc15 => ?_)
  · skip
    replace hc15 := of_decide_eq_true hc15
    refine C.skip ?_
    refine QE.seq ?_
    refine C.seq ?_
    refine C.block ?_
    refine C.seq ?_
    refine C.region ?_
    refine L.step (Ev.pure rfl) rfl ?_
    refine L.step (Ev.toByte rfl rfl rfl rfl) rfl ?_
    refine L.step (Ev.pure rfl) rfl ?_
    refine L.nil ?_
    refine QE.seq ?_
    refine C.seq ?_
    refine C.seq ?_
    refine C.region ?_
    refine L.step (Ev.pure rfl) rfl ?_
    refine L.step (Ev.pure rfl) rfl ?_
    refine L.step (Ev.pure rfl) rfl ?_
    refine L.step (Ev.pure rfl) rfl ?_
    refine L.nil ?_
    refine QE.seq ?_
    refine C.condB 23 rfl (fun hc23 => ?_) (fun hc23 => ?_)
    · skip
      replace hc23 := of_decide_eq_true hc23
      refine C.region ?_
      refine L.step (Ev.pure rfl) rfl ?_
      refine L.step (Ev.pure rfl) rfl ?_
      refine L.step (Ev.idx1 (k := k) rfl rfl rfl rfl rfl rfl rfl (by omega) (Src.r 0 rfl) (by rw [U8_len]; omega)) rfl ?_
      refine L.step (Ev.load rfl rfl rfl (Src.r 0 rfl) (U8_get (by omega))) rfl ?_
      refine L.step (Ev.pure rfl) rfl ?_
      refine L.nil ?_
      refine QE.seq ?_
      refine C.region ?_
      refine L.step (Ev.fieldAddr rfl rfl rfl rfl rfl rfl (Src.o 1 rfl) (Nat.zero_lt_succ _) rfl) rfl ?_
      refine L.step (Ev.load rfl rfl rfl (Src.o 1 rfl) rfl) rfl ?_
      refine L.step (Ev.pure rfl) rfl ?_
      refine L.lit rfl rfl rfl rfl rfl (by rfl) (by rfl) (by rfl) rfl rfl (fun A31 => ?_)
      refine L.append (j := 2) rfl rfl rfl rfl (by decide) rfl rfl rfl rfl (Src.o 3 rfl) rfl (allOne rfl) (by omega) (by show _ * 1 ≤ _; omega) rfl (fun A32 cc32 => ?_)
      refine L.step (Ev.fieldAddr rfl rfl rfl rfl rfl rfl (Src.o 1 rfl) (Nat.zero_lt_succ _) rfl) rfl ?_
      refine L.store (j := 1) rfl rfl rfl rfl rfl rfl rfl rfl ?_
      refine L.nil ?_
      refine QE.blkN ?_
      refine QE.seq ?_
      refine C.region ?_
      refine L.step (Ev.pure rfl) rfl ?_
      refine L.step (Ev.add rfl rfl (by omega) (by omega)) rfl ?_
      refine L.step (Ev.pure rfl) rfl ?_
      refine L.nil ?_
      have e1 : oldN b (k + 1) = oldN b k ++ [b.getD k 0] := by rw [oldN_succ, oldB]; rw [if_pos (by omega)]
      refine QE.round (i := (k, O, c)) ((k + 1, A32, cc32)) (by dsimp only; omega) (by dsimp only; omega) (by exact Le.mk' (rs := [0, 1]) (hs := [0, 1, 2]) ⟨rfl, rfl, rfl, rfl, rfl, rfl, trivial⟩ ⟨rfl, rfl, trivial⟩ ⟨rfl, rfl, (congrArg some (own_eq rfl (by dsimp only; rw [e1, ← U8_app]; rfl))), trivial⟩ (by decide))
    · skip
      replace hc23 := of_decide_eq_false hc23
      refine C.skip ?_
      refine QE.seq ?_
      refine C.region ?_
      refine L.step (Ev.fieldAddr rfl rfl rfl rfl rfl rfl (Src.o 1 rfl) (Nat.zero_lt_succ _) rfl) rfl ?_
      refine L.step (Ev.load rfl rfl rfl (Src.o 1 rfl) rfl) rfl ?_
      refine L.step (Ev.pure rfl) rfl ?_
      refine L.lit rfl rfl rfl rfl rfl (by rfl) (by rfl) (by rfl) rfl rfl (fun A31 => ?_)
      refine L.append (j := 2) rfl rfl rfl rfl (by decide) rfl rfl rfl rfl (Src.o 3 rfl) rfl (allOne rfl) (by omega) (by show _ * 1 ≤ _; omega) rfl (fun A32 cc32 => ?_)
      refine L.step (Ev.fieldAddr rfl rfl rfl rfl rfl rfl (Src.o 1 rfl) (Nat.zero_lt_succ _) rfl) rfl ?_
      refine L.store (j := 1) rfl rfl rfl rfl rfl rfl rfl rfl ?_
      refine L.nil ?_
      refine QE.blkN ?_
      refine QE.seq ?_
      refine C.region ?_
      refine L.step (Ev.pure rfl) rfl ?_
      refine L.step (Ev.add rfl rfl (by omega) (by omega)) rfl ?_
      refine L.step (Ev.pure rfl) rfl ?_
      refine L.nil ?_
      have e1 : oldN b (k + 1) = oldN b k ++ [UInt8.ofInt (k : Int)] := by rw [oldN_succ, oldB]; rw [if_neg (by omega), ← ofInt_nat]
      refine QE.round (i := (k, O, c)) ((k + 1, A32, cc32)) (by dsimp only; omega) (by dsimp only; omega) (by exact Le.mk' (rs := [0, 1]) (hs := [0, 1, 2]) ⟨rfl, rfl, rfl, rfl, rfl, rfl, trivial⟩ ⟨rfl, rfl, trivial⟩ ⟨rfl, rfl, (congrArg some (own_eq rfl (by dsimp only; rw [e1, ← U8_app]; rfl))), trivial⟩ (by decide))
  · skip
    replace hc15 := of_decide_eq_false hc15
    refine C.exit ?_
    refine QE.tX ?_
    refine QE.tX ?_
    refine QE.blk ?_
    refine QE.seq ?_
    refine C.seq ?_
    obtain rfl : n = k := by omega
    refine C.region ?_
    refine L.lit rfl rfl rfl rfl rfl (by rfl) (by rfl) (by rfl) rfl rfl (fun A34 => ?_)
    refine L.step (Ev.fieldAddr rfl rfl rfl rfl rfl rfl (Src.o 1 rfl) (Nat.zero_lt_succ _) rfl) rfl ?_
    refine L.step (Ev.load rfl rfl rfl (Src.o 1 rfl) rfl) rfl ?_
    refine L.append (j := 3) rfl rfl rfl rfl (by decide) rfl rfl rfl rfl (Src.o 2 rfl) (by rw [U8_len, hob]; exact (Nat.mul_one _).symm) (U8_one _) (by omega) (by show _ * 1 ≤ _; omega) rfl (fun A37 cc37 => ?_)
    refine L.step (Ev.fieldAddr rfl rfl rfl rfl rfl rfl (Src.o 1 rfl) (Nat.zero_lt_succ _) rfl) rfl ?_
    refine L.store (j := 1) rfl rfl rfl rfl rfl rfl rfl rfl ?_
    refine L.nil ?_
    refine QE.seq ?_
    refine C.seq ?_
    refine C.seq ?_
    refine C.region ?_
    refine L.step (Ev.pure rfl) rfl ?_
    refine L.nil ?_
    refine QE.seq ?_
    refine C.block ?_
    refine C.loop (fun i : Nat => [(0, .slice BA b.length bc), (1, .slice LA l.length lc), (2, .int .i64 (n : Int)), (6, ptrOf A6 0), (7, ptrOf A7 0), (10, .int .i64 (i : Int))]) (fun i : Nat => [Rd BA (U8 b), Rd LA (pairsV l)]) (fun i : Nat => [Own 39 3 A6 1 1 [.int .i64 0, .slice none 0 0, .slice none 0 0], Own 39 3 A7 1 1 [.int .i64 0, .slice O n c, .slice A37 n cc37], Own 5 1 O n c (U8 (oldN b n)), Own 5 1 A37 n cc37 (U8 (newN b l n i))]) (fun i : Nat => i ≤ (min l.length 8)) (fun i : Nat => (min l.length 8) - i) 0 (Nat.zero_le _) (by exact Le.mk' (rs := [0, 1]) (hs := [0, 1, 2, 3]) ⟨rfl, rfl, rfl, rfl, rfl, rfl, trivial⟩ ⟨rfl, rfl, trivial⟩ ⟨rfl, (by simp only [Nat.zero_add]; rfl), rfl, (by simp only [Nat.zero_add]; rfl), trivial⟩ (by decide)) ?_
    intro i hi
    refine C.seq ?_
    refine C.seq ?_
    refine C.region ?_
    refine L.step (Ev.pure rfl) rfl ?_
    refine L.step (Ev.pure rfl) rfl ?_
    refine L.step (Ev.pure rfl) rfl ?_
    refine L.step (Ev.pure rfl) rfl ?_
    refine L.step (Ev.pure rfl) rfl ?_
    refine L.bool 43 rfl (fun hg43 => ?_) (fun hg43 => ?_)
    · skip
      replace hg43 := of_decide_eq_true hg43
      refine L.yes rfl ?_
      refine L.step (Ev.pure rfl) rfl ?_
      refine L.yes rfl ?_
      refine L.step (Ev.pure rfl) rfl ?_
      refine L.step (Ev.pure rfl) rfl ?_
      refine L.nil ?_
      refine QE.seq ?_
      refine C.condB 46 rfl (fun hc46 => ?_) (fun hc46 => ?_)
      · skip
        replace hc46 := of_decide_eq_true hc46
        refine C.skip ?_
        refine QE.seq ?_
        refine C.seq ?_
        refine C.block ?_
        have hb8 := u8_lt (l.getD i (0, 0)).1
        have hmod : (l.getD i (0, 0)).1.toNat % n < n := Nat.mod_lt _ (by omega)
        have hil : i < l.length := by omega
        refine C.regionM [Rd BA (U8 b), Rd LA (pairsV l), Rd A7 [.int .i64 0, .slice O n c, .slice A37 n cc37], Rd A37 (U8 (newN b l n i))] ⟨Has.r 0 rfl, Has.r 1 rfl, Has.o 1 rfl, Has.o 3 rfl, trivial⟩ ?_
        refine LM.q 0 rfl (by kernel_rfl) (Ev.fieldAddr rfl rfl rfl rfl rfl rfl (Src.r 2 rfl) (Nat.zero_lt_succ _) rfl) rfl ⟨Has.r 0 rfl, Has.r 1 rfl, Has.o 1 rfl, Has.o 3 rfl, trivial⟩ ?_
        refine LM.q 1 rfl (by kernel_rfl) (Ev.load rfl rfl rfl (Src.r 2 rfl) rfl) rfl ⟨Has.r 0 rfl, Has.r 1 rfl, Has.o 1 rfl, Has.o 3 rfl, trivial⟩ ?_
        refine LM.q 2 rfl (by kernel_rfl) (Ev.pure rfl) rfl ⟨Has.r 0 rfl, Has.r 1 rfl, Has.o 1 rfl, Has.o 3 rfl, trivial⟩ ?_
        refine LM.q 3 rfl (by kernel_rfl) (Ev.pure rfl) rfl ⟨Has.r 0 rfl, Has.r 1 rfl, Has.o 1 rfl, Has.o 3 rfl, trivial⟩ ?_
        refine LM.q 4 rfl (by kernel_rfl) (Ev.idx (k := i) (m := i * 2) rfl rfl rfl rfl rfl rfl (by omega) (Src.r 1 rfl) (pairs_pos (k := i) (by omega)) rfl) rfl ⟨Has.r 0 rfl, Has.r 1 rfl, Has.o 1 rfl, Has.o 3 rfl, trivial⟩ ?_
        refine LM.q 5 rfl (by kernel_rfl) (Ev.idxArr (k := 0) (m := i * 2 + 0) rfl rfl rfl rfl rfl rfl (by decide) (Src.r 1 rfl) (pairs_pos (k := i) (by omega)) rfl) rfl ⟨Has.r 0 rfl, Has.r 1 rfl, Has.o 1 rfl, Has.o 3 rfl, trivial⟩ ?_
        refine LM.q 6 rfl (by kernel_rfl) (Ev.load rfl rfl rfl (Src.r 1 rfl) ((pairsV_get l i 0 (by omega) (by decide)).trans rfl)) rfl ⟨Has.r 0 rfl, Has.r 1 rfl, Has.o 1 rfl, Has.o 3 rfl, trivial⟩ ?_
        first | refine LM.q 7 rfl (by kernel_rfl) (Ev.byteInt rfl rfl rfl rfl) rfl ⟨Has.r 0 rfl, Has.r 1 rfl, Has.o 1 rfl, Has.o 3 rfl, trivial⟩ ?_ | refine LM.q 7 rfl (by kernel_rfl) (Ev.toInt rfl rfl rfl rfl (by omega) (by omega)) rfl ⟨Has.r 0 rfl, Has.r 1 rfl, Has.o 1 rfl, Has.o 3 rfl, trivial⟩ ?_
        refine LM.q 8 rfl (by kernel_rfl) (Ev.pure rfl) rfl ⟨Has.r 0 rfl, Has.r 1 rfl, Has.o 1 rfl, Has.o 3 rfl, trivial⟩ ?_
        refine LM.q 9 rfl (by kernel_rfl) (Ev.cast (u := .int .i64 (((l.getD i (0, 0)).1.toNat % n : Nat) : Int)) (Ev.rem rfl rfl (by omega) (by omega)) (congrArg (Value.int .i64) (by rw [Int.natCast_emod]))) rfl ⟨Has.r 0 rfl, Has.r 1 rfl, Has.o 1 rfl, Has.o 3 rfl, trivial⟩ ?_
        refine LM.q 10 rfl (by kernel_rfl) (Ev.pure rfl) rfl ⟨Has.r 0 rfl, Has.r 1 rfl, Has.o 1 rfl, Has.o 3 rfl, trivial⟩ ?_
        refine LM.f 11 rfl (by kernel_rfl) ⟨Has.r 0 rfl, Has.r 1 rfl, Has.o 1 rfl, Has.o 3 rfl, trivial⟩ ?_
        refine L.step (Ev.pure rfl) rfl ?_
        refine L.nil (QE.m (by kernel_rfl) ?_)
        refine LM.f 12 rfl (by kernel_rfl) ⟨Has.r 0 rfl, Has.r 1 rfl, Has.o 1 rfl, Has.o 3 rfl, trivial⟩ ?_
        refine L.step (Ev.idx (k := i) (m := i * 2) rfl rfl rfl rfl rfl rfl (by omega) (Src.r 1 rfl) (pairs_pos (k := i) (by omega)) rfl) rfl ?_
        refine L.nil (QE.m (by kernel_rfl) ?_)
        refine LM.f 13 rfl (by kernel_rfl) ⟨Has.r 0 rfl, Has.r 1 rfl, Has.o 1 rfl, Has.o 3 rfl, trivial⟩ ?_
        refine L.step (Ev.idxArr (k := 1) (m := i * 2 + 1) rfl rfl rfl rfl rfl rfl (by decide) (Src.r 1 rfl) (pairs_pos (k := i) (by omega)) rfl) rfl ?_
        refine L.nil (QE.m (by kernel_rfl) ?_)
        refine LM.f 14 rfl (by kernel_rfl) ⟨Has.r 0 rfl, Has.r 1 rfl, Has.o 1 rfl, Has.o 3 rfl, trivial⟩ ?_
        refine L.step (Ev.load rfl rfl rfl (Src.r 1 rfl) ((pairsV_get l i 1 (by omega) (by decide)).trans rfl)) rfl ?_
        refine L.nil (QE.m (by kernel_rfl) ?_)
        refine LM.cut [] (by kernel_rfl) ⟨Has.r 0 rfl, Has.r 1 rfl, Has.o 1 rfl, Has.o 3 rfl, trivial⟩ ?_
        refine LM.f 15 rfl (by kernel_rfl) trivial ?_
        refine L.step (Ev.idx1 (k := ((l.getD i (0, 0)).1.toNat % n)) rfl rfl rfl rfl rfl rfl rfl hmod (Src.o 3 rfl) (by rw [U8_len, newN_len]; omega)) rfl ?_
        refine L.nil (QE.m (by kernel_rfl) ?_)
        refine LM.f 16 rfl (by kernel_rfl) trivial ?_
        refine L.store (j := 3) rfl rfl rfl rfl rfl rfl rfl (by exact U8_get (by rw [newN_len]; exact hmod)) ?_
        refine L.nil (QE.m (by kernel_rfl) ?_)
        refine LM.nil (by kernel_rfl) trivial ?_
        refine QE.blkN ?_
        refine QE.seq ?_
        refine C.region ?_
        refine L.step (Ev.pure rfl) rfl ?_
        refine L.step (Ev.add rfl rfl (by omega) (by omega)) rfl ?_
        refine L.step (Ev.pure rfl) rfl ?_
        refine L.nil ?_
        refine QE.round (i + 1) (by omega) (by omega) (by exact Le.mk' (rs := [0, 1]) (hs := [0, 1, 2, 3]) ⟨rfl, rfl, rfl, rfl, rfl, rfl, trivial⟩ ⟨rfl, rfl, trivial⟩ ⟨rfl, rfl, rfl, (congrArg some (own_eq rfl (by rw [newN_succ hil, ← U8_set]))), trivial⟩ (by decide))
      · skip
        replace hc46 := of_decide_eq_false hc46
        refine C.exit ?_
        refine QE.tX ?_
        refine QE.tX ?_
        refine QE.blk ?_
        refine QE.seq ?_
        refine C.seq ?_
        refine C.region ?_
        refine L.step (Ev.loadA rfl rfl rfl (Src.o 1 rfl) rfl rfl (by decide)) rfl ?_
        refine L.storeA (j := 0) rfl rfl rfl rfl rfl (Nat.zero_lt_succ _) rfl rfl ?_
        refine L.nil ?_
        refine QE.seq ?_
        refine C.ret ?_
        refine QE.ret (js := []) (hs := [2, 3]) (vs := [_]) rfl ⟨⟨_, _, 0, _, rfl, rfl, Src.o 0 rfl, .inl ⟨rfl, by decide, _, rfl, rfl, rfl⟩⟩, trivial⟩ (by decide) ?_
        obtain rfl : i = (min l.length 8) := by omega
        exact ⟨O, A37, c, cc37, rfl, rfl, rfl⟩
    · skip
      replace hg43 := of_decide_eq_false hg43
      refine L.no rfl rfl rfl ?_
      refine L.no rfl rfl rfl ?_
      refine L.step (Ev.pure rfl) rfl ?_
      refine L.nil ?_
      refine QE.seq ?_
      refine C.cond rfl (fun h => by cases h) (fun _ => ?_)
      refine C.exit ?_
      refine QE.tX ?_
      refine QE.tX ?_
      refine QE.blk ?_
      refine QE.seq ?_
      refine C.seq ?_
      refine C.region ?_
      refine L.step (Ev.loadA rfl rfl rfl (Src.o 1 rfl) rfl rfl (by decide)) rfl ?_
      refine L.storeA (j := 0) rfl rfl rfl rfl rfl (Nat.zero_lt_succ _) rfl rfl ?_
      refine L.nil ?_
      refine QE.seq ?_
      refine C.ret ?_
      refine QE.ret (js := []) (hs := [2, 3]) (vs := [_]) rfl ⟨⟨_, _, 0, _, rfl, rfl, Src.o 0 rfl, .inl ⟨rfl, by decide, _, rfl, rfl, rfl⟩⟩, trivial⟩ (by decide) ?_
      obtain rfl : i = (min l.length 8) := by omega
      exact ⟨O, A37, c, cc37, rfl, rfl, rfl⟩

end Go.Proofs.Ythfjkdgopkmgoaa
