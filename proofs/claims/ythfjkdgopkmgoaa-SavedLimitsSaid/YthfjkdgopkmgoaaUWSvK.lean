/-
  The contract of SavedChains.
-/
import Derived.Test.YthfjkdgopkmgoaaUWSvJ
import Derived.Test.YthfjkdgopkmgoaaUPz
namespace Go.Proofs.Ythfjkdgopkmgoaa
open Go.Sl

theorem chg_g (BA LA : Option Addr) (b : List UInt8) (l : List (UInt8 × UInt8)) (bc lc m n : Nat) (hm : b.length = m) (hn0 : 1 ≤ n) (hn : n ≤ 100000) :
    Ctr X 20 [.slice BA m bc, .slice LA l.length lc, .int .i64 (n : Int)] [Rd BA (U8 b), Rd LA (pairsV l)] []
      (fun v R' H' => ∃ (O N : Option Addr) (oc nc : Nat), v = .agg (List.toArray [.int .i64 0, .slice O n oc, .slice N n nc]) ∧ R' = [] ∧ H' = [Own 5 1 O n oc (U8 (oldN b n)), Own 5 1 N n nc (U8 (newL b l n))]) := by
  subst hm
  exact chg21_c BA LA b l bc lc n hn0 hn
theorem caps_snoc {hs : List Hd} {k c : Nat} {g : Nat → List UInt8} {A : Option Addr} (hh : hs.length = k) (h : ∀ i, i < k → (g i).length ≤ (hs.getD i (none, 0)).2) (hc : (g k).length ≤ c) : ∀ i, i < k + 1 → (g i).length ≤ ((hs ++ [(A, c)]).getD i (none, 0)).2 := by
  intro i hi
  subst hh
  by_cases hq : i < hs.length
  · have := h i hq
    simp only [List.getD_eq_getElem?_getD, List.getElem?_append_left hq] at this ⊢
    exact this
  · obtain rfl : i = hs.length := by omega
    simpa using hc

set_option maxHeartbeats 1000000 in
theorem sChains_c (b : List UInt8) (Ls : List (List (UInt8 × UInt8))) (BA LA : Option Addr) (bc lc : Nat) (hs : List Hd) (_hbl : b.length ≤ 9223372036854775807) (hll : Ls.length ≤ 9223372036854775807) (hhs : hs.length = Ls.length) (w0 : UInt8) :
    Ctr X 7 [.slice BA b.length bc, .slice LA Ls.length lc, .int .u8 (w0.toNat : Int)] [Rd BA (U8 b), Rd LA (rowsP hs Ls), KidsR hs (Ls.map pairsV)] [] (fun v R' H' => v = .bool true ∧ R' = [] ∧ H' = []) := by
  have hw0 := u8_lt w0
  refine Ctr.of (X := X) (fn := Try.f7) Try.func7 rfl (by kernel_rfl) rfl ?_
  intro β
  obtain ⟨n, hn⟩ : ∃ n, n = (1 + w0.toNat % 20) := ⟨_, rfl⟩
  obtain ⟨o, ho⟩ : ∃ o, o = oldN b n := ⟨_, rfl⟩
  have hlo : o.length = n := by rw [ho, oldN_len]
  refine C.seq ?_
  refine C.region ?_
  refine L.step (Ev.pure rfl) rfl ?_
  refine L.nil ?_
  refine QE.seq ?_
  refine C.seq ?_
  refine C.region ?_
  refine L.call (js := []) (js' := []) (sanity21_c) rfl rfl rfl (by decide) trivial rfl ?_
  rintro _ _ _ ⟨rfl, rfl, rfl⟩
  refine L.step (Ev.pure rfl) rfl ?_
  refine L.nil ?_
  refine QE.seq ?_
  refine C.seq ?_
  refine C.region ?_
  refine L.step (Ev.pure rfl) rfl ?_
  refine L.step (Ev.pure rfl) rfl ?_
  first | refine L.step (Ev.byteInt rfl rfl rfl rfl) rfl ?_ | refine L.step (Ev.toInt rfl rfl rfl rfl (by omega) (by omega)) rfl ?_
  refine L.step (Ev.cast (u := .int .i64 ((w0.toNat % 20 : Nat) : Int)) (Ev.rem rfl rfl (by omega) (by omega)) (congrArg (Value.int .i64) (by rw [Int.natCast_emod]; rfl))) rfl ?_
  refine L.step (Ev.cast (u := .int .i64 ((n : Nat) : Int)) (Ev.add rfl rfl (by omega) (by omega)) (congrArg (Value.int .i64) (by omega))) rfl ?_
  refine L.call (js := []) (js' := []) (chg21_c BA none b [] bc 0 n (by omega) (by omega)) rfl rfl rfl (by decide) ⟨(Has.r 0 rfl), Has.nil, trivial⟩ rfl ?_
  rintro _ _ _ ⟨O, N, oc, nc, rfl, rfl, rfl⟩
  rw [← ho]
  refine L.norm (H' := [_, _]) [0, 1] ⟨rfl, rfl, trivial⟩ (by decide) ?_
  refine L.alloc rfl rfl rfl (fun A8 => ?_)
  refine L.storeA (j := 2) rfl rfl rfl rfl rfl (Nat.zero_lt_succ _) rfl rfl ?_
  refine L.nil ?_
  refine QE.seq ?_
  refine C.seq ?_
  refine C.cap 0 rfl (fun hoc => ?_)
  refine C.region ?_
  refine L.step (Ev.fieldAddr rfl rfl rfl rfl rfl rfl (Src.o 2 rfl) (Nat.zero_lt_succ _) rfl) rfl ?_
  refine L.step (Ev.load rfl rfl rfl (Src.o 2 rfl) rfl) rfl ?_
  refine L.lit rfl rfl rfl rfl rfl (by rfl) (by rfl) (by rfl) rfl rfl (fun A27 => ?_)
  refine L.step (Ev.pure rfl) rfl ?_
  refine L.step (Ev.pure rfl) rfl ?_
  refine L.nil ?_
  refine QE.seq ?_
  refine C.seq ?_
  refine C.seq ?_
  refine C.freeze 0 rfl [1, 2, 3] (by decide) (by decide) ?_
  refine C.norm (H' := [_, _, _]) [0, 1, 2] ⟨rfl, rfl, rfl, trivial⟩ (by decide) ?_
  refine C.freeze 1 rfl [0, 2] (by decide) (by decide) ?_
  refine C.norm (H' := [_, _]) [0, 1] ⟨rfl, rfl, trivial⟩ (by decide) ?_
  refine C.region ?_
  refine L.step (Ev.pure rfl) rfl ?_
  refine L.nil ?_
  refine QE.seq ?_
  refine C.block ?_
  refine C.more (r := KidsR [] []) Has.kids0 ?_
  refine C.more (r := Rd O (U8 o)) (Has.r 2 rfl) ?_
  refine C.loop (fun q : Nat × Option Addr × Nat × Option Addr × Nat × List Hd => [(1, .slice LA Ls.length lc), (7, .bool true), (8, ptrOf A8 0), (9, .slice q.2.1 n q.2.2.1), (10, .slice q.2.2.2.1 q.1 q.2.2.2.2.1), (11, .int .i64 (q.1 : Int))]) (fun q : Nat × Option Addr × Nat × Option Addr × Nat × List Hd => [Rd q.2.1 (U8 (chSt o Ls n q.1)), KidsR q.2.2.2.2.2 (B8 (chRecs o Ls n q.1)), Rd O (U8 o), Rd A8 [.int .i64 0, .slice O n oc, .slice N n nc], Rd LA (rowsP hs Ls), KidsR hs (Ls.map pairsV)]) (fun q : Nat × Option Addr × Nat × Option Addr × Nat × List Hd => [Own 24 1 q.2.2.2.1 q.1 q.2.2.2.2.1 (rowsV q.2.2.2.2.2 (B8 (chRecs o Ls n q.1)))]) (fun q : Nat × Option Addr × Nat × Option Addr × Nat × List Hd => q.1 ≤ Ls.length ∧ q.1 ≤ 5 ∧ n ≤ q.2.2.1 ∧ q.2.2.2.2.2.length = q.1 ∧ ∀ i, i < q.1 → (chRec o Ls n i).length ≤ (q.2.2.2.2.2.getD i (none, 0)).2) (fun q : Nat × Option Addr × Nat × Option Addr × Nat × List Hd => 5 - q.1) (0, O, oc, A27, 0, []) ⟨Nat.zero_le _, Nat.zero_le _, hoc, rfl, fun i hi => absurd hi (Nat.not_lt_zero _)⟩ (by exact Le.mk' (rs := [0, 1, 3, 2, 5, 6]) (hs := [1]) ⟨rfl, rfl, rfl, rfl, rfl, rfl, trivial⟩ ⟨rfl, rfl, rfl, rfl, rfl, rfl, trivial⟩ ⟨rfl, trivial⟩ (by decide)) ?_
  rintro ⟨k, A, ac, Q, qc, rs⟩ ⟨hk, hk5, hac, hrs, hrcs⟩
  dsimp only at hk hk5 hac hrs hrcs ⊢
  refine C.seq ?_
  refine C.seq ?_
  refine C.region ?_
  refine L.step (Ev.pure rfl) rfl ?_
  refine L.step (Ev.pure rfl) rfl ?_
  refine L.step (Ev.pure rfl) rfl ?_
  refine L.step (Ev.pure rfl) rfl ?_
  refine L.step (Ev.pure rfl) rfl ?_
  refine L.bool 32 rfl (fun hg32 => ?_) (fun hg32 => ?_)
  · skip
    replace hg32 := of_decide_eq_true hg32
    refine L.yes rfl ?_
    refine L.step (Ev.pure rfl) rfl ?_
    refine L.yes rfl ?_
    refine L.step (Ev.pure rfl) rfl ?_
    refine L.step (Ev.pure rfl) rfl ?_
    refine L.nil ?_
    refine QE.seq ?_
    refine C.condB 35 rfl (fun hc35 => ?_) (fun hc35 => ?_)
    · skip
      replace hc35 := of_decide_eq_true hc35
      refine C.skip ?_
      refine QE.seq ?_
      refine C.seq ?_
      refine C.block ?_
      refine C.seq ?_
      refine C.region ?_
      refine L.step (Ev.pure rfl) rfl ?_
      refine L.step (Ev.pure rfl) rfl ?_
      refine L.step (Ev.pure rfl) rfl ?_
      refine L.step (Ev.idx1 (k := k) rfl rfl rfl rfl rfl rfl rfl (by omega) (Src.r 4 rfl) (by rw [rowsP_len hhs]; omega)) rfl ?_
      refine L.step (Ev.load rfl rfl rfl (Src.r 4 rfl) (rowsP_get hhs (by omega))) rfl ?_
      refine L.step (Ev.pure rfl) rfl ?_
      refine L.step (Ev.pure rfl) rfl ?_
      refine L.call (js := []) (js' := [0]) (chg_g A (hs.getD k (none, 0)).1 (chSt o Ls n k) (Ls.getD k []) ac (hs.getD k (none, 0)).2 n n (chSt_len hlo k) (by omega) (by omega)) rfl rfl rfl (by decide) ⟨(Has.r 0 rfl), ((Has.kid 5 rfl (by rw [List.length_map]; exact hhs) (k) (by rw [List.length_map]; omega)).cast (pairs_kid _)), trivial⟩ rfl ?_
      rintro _ _ _ ⟨O2, N2, oc2, nc2, rfl, rfl, rfl⟩
      refine L.norm (H' := [_, _, _]) [0, 1, 2] ⟨rfl, rfl, rfl, trivial⟩ (by decide) ?_
      refine L.step (Ev.pure rfl) rfl ?_
      refine L.step (Ev.pure rfl) rfl ?_
      refine L.nil ?_
      refine QE.seq ?_
      refine C.seq ?_
      refine C.cap 1 rfl (fun hnc => ?_)
      have rI := chRec_is (ls := Ls) hlo (by omega) (by omega) k
      refine C.region ?_
      refine L.step (Ev.pure rfl) rfl ?_
      refine L.step (Ev.pure rfl) rfl ?_
      refine L.call (js := []) (js' := [0, 1, 2]) (rec_g ((3 : Nat) : Int) A N2 (chSt o Ls n k) (chSt o Ls n (k + 1)) n n ac nc2 (chRec o Ls n k) 0 (chSt_len hlo k) (chSt_len hlo (k + 1)) rI.eq rI.e (by omega) (by omega) (by omega)) rfl rfl rfl (by decide) ⟨(Has.r 0 rfl), (Has.o 1 rfl), trivial⟩ rfl ?_
      rintro _ _ _ ⟨R50, rc50, rfl, rfl, rfl⟩
      refine L.norm (H' := [_, _, _, _]) [0, 1, 2, 3] ⟨rfl, rfl, rfl, rfl, trivial⟩ (by decide) ?_
      refine L.step (Ev.pure rfl) rfl ?_
      refine L.step (Ev.pure rfl) rfl ?_
      refine L.step (Ev.pure rfl) rfl ?_
      refine L.step (Ev.pure rfl) rfl ?_
      refine L.step (Ev.pure rfl) rfl ?_
      refine L.nil ?_
      refine QE.seq ?_
      refine C.seq ?_
      refine C.seq ?_
      refine C.region ?_
      refine L.step (Ev.pure rfl) rfl ?_
      refine L.step (Ev.pure rfl) rfl ?_
      refine L.nil ?_
      refine QE.seq ?_
      refine C.condB 54 rfl (fun hc54 => ?_) (fun hc54 => ?_)
      · skip
        replace hc54 := b_ne hc54
        exact (hc54 rfl).elim
      · skip
        replace hc54 := b_eq hc54
        refine C.skip ?_
        refine QE.seq ?_
        refine C.seq ?_
        refine C.cap 0 rfl (fun hrc => ?_)
        refine C.region ?_
        refine L.step (Ev.pure rfl) rfl ?_
        refine L.step (Ev.pure rfl) rfl ?_
        refine L.lit rfl rfl rfl rfl rfl (by rfl) (by rfl) (by rfl) rfl rfl (fun A57 => ?_)
        refine L.append (j := 3) rfl rfl rfl rfl (by decide) rfl rfl rfl rfl (Src.o 4 rfl) rfl (by intro v hv; simp at hv; subst hv; rfl) (by omega) (by show _ * 24 ≤ _; omega) rfl (fun A58 cc58 => ?_)
        refine L.step (Ev.pure rfl) rfl ?_
        refine L.nil ?_
        refine QE.seq ?_
        refine C.freeze 2 rfl [0, 1, 3, 4] (by decide) (by decide) ?_
        refine C.norm (H' := [_, _, _, _]) [0, 1, 2, 3] ⟨rfl, rfl, rfl, rfl, trivial⟩ (by decide) ?_
        refine C.freeze 0 rfl [1, 2, 3] (by decide) (by decide) ?_
        refine C.norm (H' := [_, _, _]) [0, 1, 2] ⟨rfl, rfl, rfl, trivial⟩ (by decide) ?_
        refine C.region ?_
        refine L.step (Ev.pure rfl) rfl ?_
        refine L.step (Ev.pure rfl) rfl ?_
        refine L.nil ?_
        refine QE.blkN ?_
        refine QE.seq ?_
        refine C.region ?_
        refine L.step (Ev.pure rfl) rfl ?_
        refine L.step (Ev.add rfl rfl (by omega) (by omega)) rfl ?_
        refine L.step (Ev.pure rfl) rfl ?_
        refine L.nil ?_
        refine QE.more (r := KidsR (rs ++ [(R50, rc50)]) (B8 (chRecs o Ls n k) ++ [U8 (chRec o Ls n k)])) (Has.kidsSnoc 3 0 rc50 rfl rfl (by rw [B8_len, chRecs_len]; exact hrs)) ?_
        refine QE.round (i := (k, A, ac, Q, qc, rs)) ((k + 1, N2, nc2, A58, cc58, rs ++ [(R50, rc50)])) (by exact ⟨by dsimp only; omega, by dsimp only; omega, hnc, by simp [hrs], caps_snoc hrs hrcs hrc⟩) (by dsimp only; omega) (by exact Le.mk' (rs := [2, 0, 5, 6, 7, 8]) (hs := [1]) ⟨rfl, rfl, rfl, rfl, rfl, rfl, trivial⟩ ⟨rfl, (congrArg some (by dsimp only; rw [chRecs_succ, ← B8_snoc])), rfl, rfl, rfl, rfl, trivial⟩ ⟨(congrArg some (own_eq rfl (by dsimp only; rw [chRecs_succ, ← rows8_app (by rw [chRecs_len]; exact hrs)]; rfl))), trivial⟩ (by decide))
    · skip
      replace hc35 := of_decide_eq_false hc35
      refine C.exit ?_
      refine QE.tX ?_
      refine QE.tX ?_
      refine QE.blk ?_
      refine QE.seq ?_
      refine C.seq ?_
      refine C.seq ?_
      refine C.freeze 0 rfl [] (by decide) (by decide) ?_
      refine C.region ?_
      refine L.step (Ev.pure rfl) rfl ?_
      refine L.step (Ev.pure rfl) rfl ?_
      refine L.step (Ev.sub rfl rfl (by omega) (by omega)) rfl ?_
      refine L.step (Ev.pure rfl) rfl ?_
      refine L.nil ?_
      refine QE.seq ?_
      refine C.block ?_
      refine C.loop (fun q : Nat × Option Addr × Nat => [(7, .bool true), (8, ptrOf A8 0), (9, .slice q.2.1 n q.2.2), (10, .slice Q k qc), (15, .int .i64 ((q.1 : Int) - 1))]) (fun q : Nat × Option Addr × Nat => [Rd q.2.1 (U8 (chSt o Ls n q.1)), KidsR rs (B8 (chRecs o Ls n k)), Rd O (U8 o), Rd A8 [.int .i64 0, .slice O n oc, .slice N n nc], Rd Q (rowsV rs (B8 (chRecs o Ls n k)))]) (fun q : Nat × Option Addr × Nat => []) (fun q : Nat × Option Addr × Nat => q.1 ≤ k ∧ n ≤ q.2.2) (fun q : Nat × Option Addr × Nat => q.1) (k, A, ac) ⟨Nat.le_refl _, hac⟩ (by exact Le.mk' (rs := [1, 2, 3, 4, 0]) (hs := []) ⟨rfl, rfl, rfl, rfl, rfl, trivial⟩ ⟨rfl, rfl, rfl, rfl, rfl, trivial⟩ trivial (by decide)) ?_
      rintro ⟨j, A, ac⟩ ⟨hj, hac⟩
      dsimp only at hj hac ⊢
      refine C.seq ?_
      refine C.seq ?_
      refine C.region ?_
      refine L.step (Ev.pure rfl) rfl ?_
      refine L.step (Ev.pure rfl) rfl ?_
      refine L.nil ?_
      refine QE.seq ?_
      refine C.condB 64 rfl (fun hc64 => ?_) (fun hc64 => ?_)
      · skip
        replace hc64 := of_decide_eq_true hc64
        obtain ⟨i, rfl⟩ : ∃ i, j = i + 1 := ⟨j - 1, by omega⟩
        refine C.skip ?_
        refine QE.seq ?_
        refine C.seq ?_
        refine C.block ?_
        refine C.seq ?_
        have hri : (chRecs o Ls n k).getD i [] = chRec o Ls n i := chRecs_get (by omega)
        have rI : RecIs 3 (chSt o Ls n i) (chSt o Ls n (i + 1)) ((chRecs o Ls n k).getD i []) := hri ▸ chRec_is hlo (by omega) (by omega) i
        have rle := rI.le
        have hrci : ((chRecs o Ls n k).getD i []).length ≤ (rs.getD i (none, 0)).2 := by rw [hri]; exact hrcs i (by omega)
        refine C.region ?_
        refine L.step (Ev.pure rfl) rfl ?_
        refine L.step (Ev.pure rfl) rfl ?_
        refine L.step (Ev.pure rfl) rfl ?_
        refine L.step (Ev.idx1 (k := i) rfl rfl rfl rfl rfl rfl (by omega) (by omega) (Src.r 4 rfl) (by rw [rowsV_len (by rw [B8_len, chRecs_len]; exact hrs), B8_len, chRecs_len]; omega)) rfl ?_
        refine L.step (Ev.load rfl rfl rfl (Src.r 4 rfl) (rows8_get (by rw [chRecs_len]; exact hrs) (by rw [chRecs_len]; omega))) rfl ?_
        refine L.call (js := []) (js' := []) (res_g A (rs.getD i (none, 0)).1 (chSt o Ls n (i + 1)) ((chRecs o Ls n k).getD i []) n ac (rs.getD i (none, 0)).2 (chSt o Ls n i) 0 (chSt_len hlo (i + 1)) rI.res rI.resE (by omega) (by omega) hrci) rfl rfl rfl (by decide) ⟨(Has.r 0 rfl), ((Has.kid 1 rfl (by rw [B8_len]; exact (by rw [chRecs_len]; exact hrs)) (i) (by rw [B8_len]; exact (by rw [chRecs_len]; omega))).cast (B8_get _)), trivial⟩ rfl ?_
        rintro _ _ _ ⟨R73, rc73, rfl, rfl, rfl⟩
        refine L.norm (H' := [_]) [0] ⟨rfl, trivial⟩ (by decide) ?_
        refine L.step (Ev.pure rfl) rfl ?_
        refine L.step (Ev.pure rfl) rfl ?_
        refine L.step (Ev.pure rfl) rfl ?_
        refine L.step (Ev.pure rfl) rfl ?_
        refine L.step (Ev.pure rfl) rfl ?_
        refine L.nil ?_
        refine QE.seq ?_
        refine C.seq ?_
        refine C.seq ?_
        have hli := chSt_len (ls := Ls) hlo i
        refine C.cap 0 rfl (fun hrc => ?_)
        refine C.region ?_
        refine L.step (Ev.pure rfl) rfl ?_
        refine L.step (Ev.pure rfl) rfl ?_
        refine L.step (Ev.pure rfl) rfl ?_
        refine L.bool 78 rfl (fun hg78 => ?_) (fun hg78 => ?_)
        · skip
          replace hg78 := b_ne hg78
          exact (hg78 rfl).elim
        · skip
          replace hg78 := b_eq hg78
          refine L.yes rfl ?_
          refine L.step (Ev.pure rfl) rfl ?_
          refine L.yes rfl ?_
          refine L.step (Ev.pure rfl) rfl ?_
          refine L.yes rfl ?_
          refine L.step (Ev.fieldAddr rfl rfl rfl rfl rfl rfl (Src.r 3 rfl) (Nat.zero_lt_succ _) rfl) rfl ?_
          refine L.yes rfl ?_
          refine L.step (Ev.load rfl rfl rfl (Src.r 3 rfl) rfl) rfl ?_
          refine L.yes rfl ?_
          refine L.step (Ev.pure rfl) rfl ?_
          refine L.yes rfl ?_
          refine L.step (Ev.pure rfl) rfl ?_
          refine L.step (Ev.pure rfl) rfl ?_
          refine L.nil ?_
          refine QE.seq ?_
          refine C.condB 85 rfl (fun hc85 => ?_) (fun hc85 => ?_)
          · skip
            replace hc85 := b_ne hc85
            exact (hc85 (by rw [hli])).elim
          · skip
            replace hc85 := b_eq hc85
            refine C.skip ?_
            refine QE.seq ?_
            refine C.freeze 0 rfl [] (by decide) (by decide) ?_
            refine C.region ?_
            refine L.step (Ev.pure rfl) rfl ?_
            refine L.step (Ev.pure rfl) rfl ?_
            refine L.nil ?_
            refine QE.blkN ?_
            refine QE.seq ?_
            refine C.region ?_
            refine L.step (Ev.pure rfl) rfl ?_
            refine L.step (Ev.sub rfl rfl (by omega) (by omega)) rfl ?_
            refine L.step (Ev.pure rfl) rfl ?_
            refine L.nil ?_
            refine QE.round (i := (i + 1, A, ac)) ((i, R73, rc73)) (by exact ⟨by dsimp only; omega, by dsimp only; omega⟩) (by dsimp only; omega) (by exact Le.mk' (rs := [0, 2, 3, 4, 5]) (hs := []) ⟨rfl, rfl, (congrArg (fun x => some (Value.slice R73 x rc73)) hli), rfl, (congrArg some (congrArg (Value.int .i64) (by dsimp only; omega))), trivial⟩ ⟨rfl, rfl, rfl, rfl, rfl, trivial⟩ trivial (by decide))
      · skip
        replace hc64 := of_decide_eq_false hc64
        refine C.exit ?_
        refine QE.tX ?_
        refine QE.tX ?_
        refine QE.blk ?_
        refine QE.seq ?_
        refine C.seq ?_
        obtain rfl : j = 0 := by omega
        refine C.region ?_
        refine L.step (Ev.pure rfl) rfl ?_
        refine L.step (Ev.fieldAddr rfl rfl rfl rfl rfl rfl (Src.r 3 rfl) (Nat.zero_lt_succ _) rfl) rfl ?_
        refine L.step (Ev.load rfl rfl rfl (Src.r 3 rfl) rfl) rfl ?_
        refine L.call (js := []) (js' := []) (Ctr.tb true (same_g A O ac oc o o n n hlo hlo (by omega) (by omega)) (by simp)) rfl rfl rfl (by decide) ⟨(Has.r 0 rfl), (Has.r 2 rfl), trivial⟩ rfl ?_
        rintro _ _ _ ⟨rfl, rfl, rfl⟩
        refine L.step (Ev.pure rfl) rfl ?_
        refine L.yes rfl ?_
        refine L.step (Ev.pure rfl) rfl ?_
        refine L.step (Ev.pure rfl) rfl ?_
        refine L.step (Ev.pure rfl) rfl ?_
        refine L.nil ?_
        refine QE.seq ?_
        refine C.ret ?_
        refine QE.ret (js := []) (hs := []) (vs := [_]) rfl ⟨rfl, trivial⟩ (by decide) ?_
        exact ⟨rfl, rfl, rfl⟩
  · skip
    replace hg32 := of_decide_eq_false hg32
    refine L.no rfl rfl rfl ?_
    refine L.no rfl rfl rfl ?_
    refine L.step (Ev.pure rfl) rfl ?_
    refine L.nil ?_
    refine QE.seq ?_
    refine C.cond rfl (fun h => by cases h) (fun _ => ?_)
    refine C.exit ?_
    refine QE.tX ?_
    refine QE.tX ?_
    refine QE.blk ?_
    refine QE.seq ?_
    refine C.seq ?_
    refine C.seq ?_
    refine C.freeze 0 rfl [] (by decide) (by decide) ?_
    refine C.region ?_
    refine L.step (Ev.pure rfl) rfl ?_
    refine L.step (Ev.pure rfl) rfl ?_
    refine L.step (Ev.sub rfl rfl (by omega) (by omega)) rfl ?_
    refine L.step (Ev.pure rfl) rfl ?_
    refine L.nil ?_
    refine QE.seq ?_
    refine C.block ?_
    refine C.loop (fun q : Nat × Option Addr × Nat => [(7, .bool true), (8, ptrOf A8 0), (9, .slice q.2.1 n q.2.2), (10, .slice Q k qc), (15, .int .i64 ((q.1 : Int) - 1))]) (fun q : Nat × Option Addr × Nat => [Rd q.2.1 (U8 (chSt o Ls n q.1)), KidsR rs (B8 (chRecs o Ls n k)), Rd O (U8 o), Rd A8 [.int .i64 0, .slice O n oc, .slice N n nc], Rd Q (rowsV rs (B8 (chRecs o Ls n k)))]) (fun q : Nat × Option Addr × Nat => []) (fun q : Nat × Option Addr × Nat => q.1 ≤ k ∧ n ≤ q.2.2) (fun q : Nat × Option Addr × Nat => q.1) (k, A, ac) ⟨Nat.le_refl _, hac⟩ (by exact Le.mk' (rs := [1, 2, 3, 4, 0]) (hs := []) ⟨rfl, rfl, rfl, rfl, rfl, trivial⟩ ⟨rfl, rfl, rfl, rfl, rfl, trivial⟩ trivial (by decide)) ?_
    rintro ⟨j, A, ac⟩ ⟨hj, hac⟩
    dsimp only at hj hac ⊢
    refine C.seq ?_
    refine C.seq ?_
    refine C.region ?_
    refine L.step (Ev.pure rfl) rfl ?_
    refine L.step (Ev.pure rfl) rfl ?_
    refine L.nil ?_
    refine QE.seq ?_
    refine C.condB 64 rfl (fun hc64 => ?_) (fun hc64 => ?_)
    · skip
      replace hc64 := of_decide_eq_true hc64
      obtain ⟨i, rfl⟩ : ∃ i, j = i + 1 := ⟨j - 1, by omega⟩
      refine C.skip ?_
      refine QE.seq ?_
      refine C.seq ?_
      refine C.block ?_
      refine C.seq ?_
      have hri : (chRecs o Ls n k).getD i [] = chRec o Ls n i := chRecs_get (by omega)
      have rI : RecIs 3 (chSt o Ls n i) (chSt o Ls n (i + 1)) ((chRecs o Ls n k).getD i []) := hri ▸ chRec_is hlo (by omega) (by omega) i
      have rle := rI.le
      have hrci : ((chRecs o Ls n k).getD i []).length ≤ (rs.getD i (none, 0)).2 := by rw [hri]; exact hrcs i (by omega)
      refine C.region ?_
      refine L.step (Ev.pure rfl) rfl ?_
      refine L.step (Ev.pure rfl) rfl ?_
      refine L.step (Ev.pure rfl) rfl ?_
      refine L.step (Ev.idx1 (k := i) rfl rfl rfl rfl rfl rfl (by omega) (by omega) (Src.r 4 rfl) (by rw [rowsV_len (by rw [B8_len, chRecs_len]; exact hrs), B8_len, chRecs_len]; omega)) rfl ?_
      refine L.step (Ev.load rfl rfl rfl (Src.r 4 rfl) (rows8_get (by rw [chRecs_len]; exact hrs) (by rw [chRecs_len]; omega))) rfl ?_
      refine L.call (js := []) (js' := []) (res_g A (rs.getD i (none, 0)).1 (chSt o Ls n (i + 1)) ((chRecs o Ls n k).getD i []) n ac (rs.getD i (none, 0)).2 (chSt o Ls n i) 0 (chSt_len hlo (i + 1)) rI.res rI.resE (by omega) (by omega) hrci) rfl rfl rfl (by decide) ⟨(Has.r 0 rfl), ((Has.kid 1 rfl (by rw [B8_len]; exact (by rw [chRecs_len]; exact hrs)) (i) (by rw [B8_len]; exact (by rw [chRecs_len]; omega))).cast (B8_get _)), trivial⟩ rfl ?_
      rintro _ _ _ ⟨R73, rc73, rfl, rfl, rfl⟩
      refine L.norm (H' := [_]) [0] ⟨rfl, trivial⟩ (by decide) ?_
      refine L.step (Ev.pure rfl) rfl ?_
      refine L.step (Ev.pure rfl) rfl ?_
      refine L.step (Ev.pure rfl) rfl ?_
      refine L.step (Ev.pure rfl) rfl ?_
      refine L.step (Ev.pure rfl) rfl ?_
      refine L.nil ?_
      refine QE.seq ?_
      refine C.seq ?_
      refine C.seq ?_
      have hli := chSt_len (ls := Ls) hlo i
      refine C.cap 0 rfl (fun hrc => ?_)
      refine C.region ?_
      refine L.step (Ev.pure rfl) rfl ?_
      refine L.step (Ev.pure rfl) rfl ?_
      refine L.step (Ev.pure rfl) rfl ?_
      refine L.bool 78 rfl (fun hg78 => ?_) (fun hg78 => ?_)
      · skip
        replace hg78 := b_ne hg78
        exact (hg78 rfl).elim
      · skip
        replace hg78 := b_eq hg78
        refine L.yes rfl ?_
        refine L.step (Ev.pure rfl) rfl ?_
        refine L.yes rfl ?_
        refine L.step (Ev.pure rfl) rfl ?_
        refine L.yes rfl ?_
        refine L.step (Ev.fieldAddr rfl rfl rfl rfl rfl rfl (Src.r 3 rfl) (Nat.zero_lt_succ _) rfl) rfl ?_
        refine L.yes rfl ?_
        refine L.step (Ev.load rfl rfl rfl (Src.r 3 rfl) rfl) rfl ?_
        refine L.yes rfl ?_
        refine L.step (Ev.pure rfl) rfl ?_
        refine L.yes rfl ?_
        refine L.step (Ev.pure rfl) rfl ?_
        refine L.step (Ev.pure rfl) rfl ?_
        refine L.nil ?_
        refine QE.seq ?_
        refine C.condB 85 rfl (fun hc85 => ?_) (fun hc85 => ?_)
        · skip
          replace hc85 := b_ne hc85
          exact (hc85 (by rw [hli])).elim
        · skip
          replace hc85 := b_eq hc85
          refine C.skip ?_
          refine QE.seq ?_
          refine C.freeze 0 rfl [] (by decide) (by decide) ?_
          refine C.region ?_
          refine L.step (Ev.pure rfl) rfl ?_
          refine L.step (Ev.pure rfl) rfl ?_
          refine L.nil ?_
          refine QE.blkN ?_
          refine QE.seq ?_
          refine C.region ?_
          refine L.step (Ev.pure rfl) rfl ?_
          refine L.step (Ev.sub rfl rfl (by omega) (by omega)) rfl ?_
          refine L.step (Ev.pure rfl) rfl ?_
          refine L.nil ?_
          refine QE.round (i := (i + 1, A, ac)) ((i, R73, rc73)) (by exact ⟨by dsimp only; omega, by dsimp only; omega⟩) (by dsimp only; omega) (by exact Le.mk' (rs := [0, 2, 3, 4, 5]) (hs := []) ⟨rfl, rfl, (congrArg (fun x => some (Value.slice R73 x rc73)) hli), rfl, (congrArg some (congrArg (Value.int .i64) (by dsimp only; omega))), trivial⟩ ⟨rfl, rfl, rfl, rfl, rfl, trivial⟩ trivial (by decide))
    · skip
      replace hc64 := of_decide_eq_false hc64
      refine C.exit ?_
      refine QE.tX ?_
      refine QE.tX ?_
      refine QE.blk ?_
      refine QE.seq ?_
      refine C.seq ?_
      obtain rfl : j = 0 := by omega
      refine C.region ?_
      refine L.step (Ev.pure rfl) rfl ?_
      refine L.step (Ev.fieldAddr rfl rfl rfl rfl rfl rfl (Src.r 3 rfl) (Nat.zero_lt_succ _) rfl) rfl ?_
      refine L.step (Ev.load rfl rfl rfl (Src.r 3 rfl) rfl) rfl ?_
      refine L.call (js := []) (js' := []) (Ctr.tb true (same_g A O ac oc o o n n hlo hlo (by omega) (by omega)) (by simp)) rfl rfl rfl (by decide) ⟨(Has.r 0 rfl), (Has.r 2 rfl), trivial⟩ rfl ?_
      rintro _ _ _ ⟨rfl, rfl, rfl⟩
      refine L.step (Ev.pure rfl) rfl ?_
      refine L.yes rfl ?_
      refine L.step (Ev.pure rfl) rfl ?_
      refine L.step (Ev.pure rfl) rfl ?_
      refine L.step (Ev.pure rfl) rfl ?_
      refine L.nil ?_
      refine QE.seq ?_
      refine C.ret ?_
      refine QE.ret (js := []) (hs := []) (vs := [_]) rfl ⟨rfl, trivial⟩ (by decide) ?_
      exact ⟨rfl, rfl, rfl⟩

end Go.Proofs.Ythfjkdgopkmgoaa
