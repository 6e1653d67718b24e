/-
  The contract of SavedReadsBack.
-/
import Derived.Test.YthfjkdgopkmgoaaTPx
import Derived.Test.YthfjkdgopkmgoaaTQb
namespace Go.Proofs.Ythfjkdgopkmgoaa
open Go.Sl

theorem undo_dist (un : UInt8) : UDist (undoL un) := by
  intro s t hs ht e
  rw [undoL_len] at hs ht
  unfold undoL at e
  rw [undoN_get hs, undoN_get ht] at e
  omega
theorem rbF_rows {b : List UInt8} {ls : List (List (UInt8 × UInt8))} {f : Fl} {us : List Int} {hs : List Hd} (h : hs.length = f.data.length) : ∀ k, rowsV hs (B8 (rbF b ls f us k).data) = rowsV hs (B8 f.data)
  | 0 => rfl
  | k + 1 => by
    rw [← rbF_rows h k]
    exact wrD_rows (f := rbF b ls f us k) (by rw [(rbF_same k).2.2.2.2]; exact h) _ _

set_option maxHeartbeats 2000000 in
theorem sReads_c (b : List UInt8) (Ls : List (List (UInt8 × UInt8))) (BA LA : Option Addr) (bc lc : Nat) (hs : List Hd) (_hbl : b.length ≤ 9223372036854775807) (hll : Ls.length ≤ 9223372036854775807) (hhs : hs.length = Ls.length) :
    Ctr X 6 [.slice LA Ls.length lc, .slice BA b.length bc] [Rd LA (rowsP hs Ls), KidsR hs (Ls.map pairsV), Rd BA (U8 b)] [] (fun v R' H' => v = .bool true ∧ R' = [] ∧ H' = []) := by
  refine Ctr.of (X := X) (fn := Try.f6) Try.func6 rfl (by kernel_rfl) rfl ?_
  intro β
  obtain ⟨f, hf⟩ : ∃ f, f = fl0 (4 + (11 : UInt8).toNat % 12) 5 9 := ⟨_, rfl⟩
  obtain ⟨us, hus⟩ : ∃ us, us = undoL (2 : UInt8) := ⟨_, rfl⟩
  have hbk : Blank f us := made_blank (11 : UInt8) (2 : UInt8) hf hus
  have ok := hbk.ok
  have hu := hbk.hu
  obtain ⟨os1, os2, on1, on2, owl, odl, orows, ol1, ol2, owear⟩ := id ok
  have hone := hbk.one
  have hu0 := hu.r 0 hone
  have h15 : f.size = 15 := by rw [hf]; rfl
  have hul3 : us.length = 3 := by rw [hus]; rfl
  have nd : UDist us := by rw [hus]; exact undo_dist _
  refine C.seq ?_
  refine C.region ?_
  refine L.step (Ev.pure rfl) rfl ?_
  refine L.nil ?_
  refine QE.seq ?_
  refine C.seq ?_
  refine C.region ?_
  refine L.call (js := []) (js' := []) (sanity21_c) rfl rfl rfl (by decide) trivial rfl ?_
  rintro _ _ _ ⟨rfl, rfl, rfl⟩
  refine L.step (Ev.pure rfl) rfl ?_
  refine L.nil ?_
  refine QE.seq ?_
  refine C.seq ?_
  refine C.region ?_
  refine L.step (Ev.build rfl rfl rfl rfl rfl rfl rfl) rfl ?_
  refine L.call (js := []) (js' := []) (made21_c 11 2 f us hf hus) rfl rfl rfl (by decide) trivial rfl ?_
  rintro _ _ _ ⟨a, U, uc, hb, hcp, rfl, rfl, rfl⟩
  refine L.norm (H' := [_, _, _, _, _]) [0, 1, 2, 3, 4] ⟨rfl, rfl, rfl, rfl, rfl, trivial⟩ (by decide) ?_
  refine L.step (Ev.pure rfl) rfl ?_
  refine L.step (Ev.pure rfl) rfl ?_
  refine L.step (Ev.pure rfl) rfl ?_
  refine L.alloc rfl rfl rfl (fun A6 => ?_)
  refine L.alloc rfl rfl rfl (fun A7 => ?_)
  refine L.storeA (j := 5) rfl rfl rfl rfl rfl (Nat.zero_lt_succ _) rfl rfl ?_
  refine L.storeA (j := 6) rfl rfl rfl rfl rfl (Nat.zero_lt_succ _) rfl rfl ?_
  refine L.nil ?_
  refine QE.seq ?_
  refine C.seq ?_
  refine C.region ?_
  refine L.lit rfl rfl rfl rfl rfl (by rfl) (by rfl) (by rfl) rfl rfl (fun A24 => ?_)
  refine L.lit rfl rfl rfl rfl rfl (by rfl) (by rfl) (by rfl) rfl rfl (fun A25 => ?_)
  refine L.step (Ev.pure rfl) rfl ?_
  refine L.step (Ev.pure rfl) rfl ?_
  refine L.nil ?_
  refine QE.seq ?_
  refine C.seqJ (fun q : Nat × Option Addr × Nat × Option Addr × Nat × List Hd => [(0, .slice LA Ls.length lc), (1, .slice BA b.length bc), (5, .bool true), (6, ptrOf A6 0), (7, ptrOf A7 0), (8, .slice q.2.1 (q.1 + 1) q.2.2.1), (9, .slice q.2.2.2.1 q.1 q.2.2.2.2.1)]) (fun q : Nat × Option Addr × Nat × Option Addr × Nat × List Hd => [KidsR q.2.2.2.2.2 (B8 (rbRs b Ls q.1)), Rd U (I64 us), Rd a.D (rowsV a.hs (B8 f.data)), Rd a.W (I64 f.wear), Rd a.E (Bs f.dead), Rd A6 [.int .i64 (f.size : Int), .slice a.D f.data.length a.cD, .slice a.W f.wear.length a.cW, .int .i64 f.limit, .slice a.E f.dead.length a.cE], Rd A7 [.int .i64 0, .int .i64 0, .int .i64 0, .int .i64 0, .int .i64 0, .slice none 0 0, .slice U us.length uc, .slice none 0 0], Rd BA (U8 b), Rd LA (rowsP hs Ls), KidsR hs (Ls.map pairsV)]) (fun q : Nat × Option Addr × Nat × Option Addr × Nat × List Hd => [OwnKids 5 a.hs (B8 (rbF b Ls f us q.1).data), Own 3 1 q.2.1 (q.1 + 1) q.2.2.1 (I64 (rbEs b Ls q.1)), Own 24 1 q.2.2.2.1 q.1 q.2.2.2.2.1 (rowsV q.2.2.2.2.2 (B8 (rbRs b Ls q.1)))]) (fun q : Nat × Option Addr × Nat × Option Addr × Nat × List Hd => q.1 ≤ 3 ∧ (rbE b Ls q.1) ≤ 45 ∧ q.2.2.2.2.2.length = q.1) ?_ ?_
  · skip
    refine C.seq ?_
    refine C.freeze 0 rfl [1, 2, 3, 4, 5, 6, 7, 8] (by decide) (by decide) ?_
    refine C.norm (H' := [_, _, _, _, _, _, _, _]) [0, 1, 2, 3, 4, 5, 6, 7] ⟨rfl, rfl, rfl, rfl, rfl, rfl, rfl, rfl, trivial⟩ (by decide) ?_
    refine C.freeze 1 rfl [0, 2, 3, 4, 5, 6, 7] (by decide) (by decide) ?_
    refine C.norm (H' := [_, _, _, _, _, _, _]) [0, 1, 2, 3, 4, 5, 6] ⟨rfl, rfl, rfl, rfl, rfl, rfl, rfl, trivial⟩ (by decide) ?_
    refine C.freeze 1 rfl [0, 2, 3, 4, 5, 6] (by decide) (by decide) ?_
    refine C.norm (H' := [_, _, _, _, _, _]) [0, 1, 2, 3, 4, 5] ⟨rfl, rfl, rfl, rfl, rfl, rfl, trivial⟩ (by decide) ?_
    refine C.freeze 1 rfl [0, 2, 3, 4, 5] (by decide) (by decide) ?_
    refine C.norm (H' := [_, _, _, _, _]) [0, 1, 2, 3, 4] ⟨rfl, rfl, rfl, rfl, rfl, trivial⟩ (by decide) ?_
    refine C.freeze 1 rfl [0, 2, 3, 4] (by decide) (by decide) ?_
    refine C.norm (H' := [_, _, _, _]) [0, 1, 2, 3] ⟨rfl, rfl, rfl, rfl, trivial⟩ (by decide) ?_
    refine C.freeze 1 rfl [0, 2, 3] (by decide) (by decide) ?_
    refine C.norm (H' := [_, _, _]) [0, 1, 2] ⟨rfl, rfl, rfl, trivial⟩ (by decide) ?_
    refine C.region ?_
    refine L.step (Ev.pure rfl) rfl ?_
    refine L.nil ?_
    refine QE.seq ?_
    refine C.block ?_
    refine C.more (r := KidsR [] []) Has.kids0 ?_
    refine C.loop (fun q : Nat × Option Addr × Nat × Option Addr × Nat × List Hd => [(0, .slice LA Ls.length lc), (1, .slice BA b.length bc), (5, .bool true), (6, ptrOf A6 0), (7, ptrOf A7 0), (8, .slice q.2.1 (q.1 + 1) q.2.2.1), (9, .slice q.2.2.2.1 q.1 q.2.2.2.2.1), (10, .int .i64 (q.1 : Int))]) (fun q : Nat × Option Addr × Nat × Option Addr × Nat × List Hd => [KidsR q.2.2.2.2.2 (B8 (rbRs b Ls q.1)), Rd U (I64 us), Rd a.D (rowsV a.hs (B8 f.data)), Rd a.W (I64 f.wear), Rd a.E (Bs f.dead), Rd A6 [.int .i64 (f.size : Int), .slice a.D f.data.length a.cD, .slice a.W f.wear.length a.cW, .int .i64 f.limit, .slice a.E f.dead.length a.cE], Rd A7 [.int .i64 0, .int .i64 0, .int .i64 0, .int .i64 0, .int .i64 0, .slice none 0 0, .slice U us.length uc, .slice none 0 0], Rd BA (U8 b), Rd LA (rowsP hs Ls), KidsR hs (Ls.map pairsV)]) (fun q : Nat × Option Addr × Nat × Option Addr × Nat × List Hd => [OwnKids 5 a.hs (B8 (rbF b Ls f us q.1).data), Own 3 1 q.2.1 (q.1 + 1) q.2.2.1 (I64 (rbEs b Ls q.1)), Own 24 1 q.2.2.2.1 q.1 q.2.2.2.2.1 (rowsV q.2.2.2.2.2 (B8 (rbRs b Ls q.1)))]) (fun q : Nat × Option Addr × Nat × Option Addr × Nat × List Hd => q.1 ≤ Ls.length ∧ q.1 ≤ 3 ∧ (rbE b Ls q.1) ≤ 45 ∧ q.2.2.2.2.2.length = q.1) (fun q : Nat × Option Addr × Nat × Option Addr × Nat × List Hd => 3 - q.1) (0, A24, 1, A25, 0, []) ⟨Nat.zero_le _, Nat.zero_le _, Nat.zero_le _, rfl⟩ (by exact Le.mk' (rs := [0, 3, 6, 5, 4, 2, 1, 9, 7, 8]) (hs := [0, 1, 2]) ⟨rfl, rfl, rfl, rfl, rfl, rfl, rfl, rfl, trivial⟩ ⟨rfl, rfl, rfl, rfl, rfl, rfl, rfl, rfl, rfl, rfl, trivial⟩ ⟨rfl, rfl, rfl, trivial⟩ (by decide)) ?_
    rintro ⟨k, E, ec, V, vc, rs⟩ ⟨hk, hk3, hek, hrs⟩
    dsimp only at hk hk3 hek hrs ⊢
    refine C.seq ?_
    refine C.seq ?_
    refine C.region ?_
    refine L.step (Ev.pure rfl) rfl ?_
    refine L.step (Ev.pure rfl) rfl ?_
    refine L.step (Ev.pure rfl) rfl ?_
    refine L.step (Ev.pure rfl) rfl ?_
    refine L.step (Ev.pure rfl) rfl ?_
    refine L.bool 30 rfl (fun hg30 => ?_) (fun hg30 => ?_)
    · skip
      replace hg30 := of_decide_eq_true hg30
      refine L.yes rfl ?_
      refine L.step (Ev.pure rfl) rfl ?_
      refine L.yes rfl ?_
      refine L.step (Ev.pure rfl) rfl ?_
      refine L.step (Ev.pure rfl) rfl ?_
      refine L.nil ?_
      refine QE.seq ?_
      refine C.condB 33 rfl (fun hc33 => ?_) (fun hc33 => ?_)
      · skip
        replace hc33 := of_decide_eq_true hc33
        refine C.skip ?_
        refine QE.seq ?_
        refine C.seq ?_
        refine C.block ?_
        refine C.seq ?_
        refine C.join (fun q : Option Addr × Option Addr × Option Addr × Nat × Nat => [(0, .slice LA Ls.length lc), (1, .slice BA b.length bc), (5, .bool true), (6, ptrOf A6 0), (7, ptrOf A7 0), (8, .slice E (k + 1) ec), (9, .slice V k vc), (10, .int .i64 (k : Int)), (11, ptrOf q.1 0)]) (fun q : Option Addr × Option Addr × Option Addr × Nat × Nat => [KidsR rs (B8 (rbRs b Ls k)), Rd U (I64 us), Rd a.D (rowsV a.hs (B8 f.data)), Rd a.W (I64 f.wear), Rd a.E (Bs f.dead), Rd A6 [.int .i64 (f.size : Int), .slice a.D f.data.length a.cD, .slice a.W f.wear.length a.cW, .int .i64 f.limit, .slice a.E f.dead.length a.cE], Rd A7 [.int .i64 0, .int .i64 0, .int .i64 0, .int .i64 0, .int .i64 0, .slice none 0 0, .slice U us.length uc, .slice none 0 0], Rd BA (U8 b), Rd LA (rowsP hs Ls), KidsR hs (Ls.map pairsV)]) (fun q : Option Addr × Option Addr × Option Addr × Nat × Nat => [Own 5 1 q.2.1 15 q.2.2.2.1 (U8 (oldN b 15)), Own 5 1 q.2.2.1 15 q.2.2.2.2 (U8 (newL b (Ls.getD k []) 15)), OwnKids 5 a.hs (B8 (rbF b Ls f us k).data), Own 3 1 E (k + 1) ec (I64 (rbEs b Ls k)), Own 24 1 V k vc (rowsV rs (B8 (rbRs b Ls k))), Own 39 3 q.1 1 1 [.int .i64 0, .slice q.2.1 15 q.2.2.2.1, .slice q.2.2.1 15 q.2.2.2.2]]) (fun q : Option Addr × Option Addr × Option Addr × Nat × Nat => True) ?_ ?_
        · skip
          refine C.regionM [KidsR rs (B8 (rbRs b Ls k)), Rd U (I64 us), Rd a.D (rowsV a.hs (B8 f.data)), Rd a.W (I64 f.wear), Rd a.E (Bs f.dead), Rd A6 [.int .i64 (f.size : Int), .slice a.D f.data.length a.cD, .slice a.W f.wear.length a.cW, .int .i64 f.limit, .slice a.E f.dead.length a.cE], Rd A7 [.int .i64 0, .int .i64 0, .int .i64 0, .int .i64 0, .int .i64 0, .slice none 0 0, .slice U us.length uc, .slice none 0 0], Rd BA (U8 b), Rd LA (rowsP hs Ls), KidsR hs (Ls.map pairsV)] ⟨Has.r 0 rfl, Has.r 1 rfl, Has.r 2 rfl, Has.r 3 rfl, Has.r 4 rfl, Has.r 5 rfl, Has.r 6 rfl, Has.r 7 rfl, Has.r 8 rfl, Has.r 9 rfl, trivial⟩ ?_
          refine LM.q 0 rfl (by kernel_rfl) (Ev.pure rfl) rfl ⟨Has.r 0 rfl, Has.r 1 rfl, Has.r 2 rfl, Has.r 3 rfl, Has.r 4 rfl, Has.r 5 rfl, Has.r 6 rfl, Has.r 7 rfl, Has.r 8 rfl, Has.r 9 rfl, trivial⟩ ?_
          refine LM.q 1 rfl (by kernel_rfl) (Ev.pure rfl) rfl ⟨Has.r 0 rfl, Has.r 1 rfl, Has.r 2 rfl, Has.r 3 rfl, Has.r 4 rfl, Has.r 5 rfl, Has.r 6 rfl, Has.r 7 rfl, Has.r 8 rfl, Has.r 9 rfl, trivial⟩ ?_
          refine LM.q 2 rfl (by kernel_rfl) (Ev.pure rfl) rfl ⟨Has.r 0 rfl, Has.r 1 rfl, Has.r 2 rfl, Has.r 3 rfl, Has.r 4 rfl, Has.r 5 rfl, Has.r 6 rfl, Has.r 7 rfl, Has.r 8 rfl, Has.r 9 rfl, trivial⟩ ?_
          refine LM.q 3 rfl (by kernel_rfl) (Ev.idx1 (k := k) rfl rfl rfl rfl rfl rfl rfl (by omega) (Src.r 8 rfl) (by rw [rowsP_len hhs]; omega)) rfl ⟨Has.r 0 rfl, Has.r 1 rfl, Has.r 2 rfl, Has.r 3 rfl, Has.r 4 rfl, Has.r 5 rfl, Has.r 6 rfl, Has.r 7 rfl, Has.r 8 rfl, Has.r 9 rfl, trivial⟩ ?_
          refine LM.q 4 rfl (by kernel_rfl) (Ev.load rfl rfl rfl (Src.r 8 rfl) (rowsP_get hhs (by omega))) rfl ⟨Has.r 0 rfl, Has.r 1 rfl, Has.r 2 rfl, Has.r 3 rfl, Has.r 4 rfl, Has.r 5 rfl, Has.r 6 rfl, Has.r 7 rfl, Has.r 8 rfl, Has.r 9 rfl, trivial⟩ ?_
          refine LM.q 5 rfl (by kernel_rfl) (Ev.fieldAddr rfl rfl rfl rfl rfl rfl (Src.r 5 rfl) (Nat.zero_lt_succ _) rfl) rfl ⟨Has.r 0 rfl, Has.r 1 rfl, Has.r 2 rfl, Has.r 3 rfl, Has.r 4 rfl, Has.r 5 rfl, Has.r 6 rfl, Has.r 7 rfl, Has.r 8 rfl, Has.r 9 rfl, trivial⟩ ?_
          refine LM.q 6 rfl (by kernel_rfl) (Ev.cast (u := .int .i64 ((15 : Nat) : Int)) (Ev.load rfl rfl rfl (Src.r 5 rfl) rfl) (by rw [h15])) rfl ⟨Has.r 0 rfl, Has.r 1 rfl, Has.r 2 rfl, Has.r 3 rfl, Has.r 4 rfl, Has.r 5 rfl, Has.r 6 rfl, Has.r 7 rfl, Has.r 8 rfl, Has.r 9 rfl, trivial⟩ ?_
          refine LM.alt [7, 8] (by kernel_rfl) (by decide) ⟨Has.r 0 rfl, Has.r 1 rfl, Has.r 2 rfl, Has.r 3 rfl, Has.r 4 rfl, Has.r 5 rfl, Has.r 6 rfl, Has.r 7 rfl, Has.r 8 rfl, Has.r 9 rfl, trivial⟩ ⟨⟨_, rfl, ?_⟩, ⟨_, rfl, ?_⟩, trivial⟩
          · skip
            refine L.call (js := []) (js' := [0, 1, 2]) (chg_g BA (hs.getD k (none, 0)).1 b (Ls.getD k []) bc (hs.getD k (none, 0)).2 b.length 15 rfl (by omega) (by omega)) rfl rfl rfl (by decide) ⟨(Has.r 7 rfl), ((Has.kid 9 rfl (by rw [List.length_map]; exact hhs) (k) (by rw [List.length_map]; omega)).cast (pairs_kid _)), trivial⟩ rfl ?_
            rintro _ _ _ ⟨O, N, oc, nc, rfl, rfl, rfl⟩
            refine L.norm (H' := [_, _, _, _, _]) [0, 1, 2, 3, 4] ⟨rfl, rfl, rfl, rfl, rfl, trivial⟩ (by decide) ?_
            refine L.nil (QE.m (by kernel_rfl) ?_)
            refine LM.f 8 rfl (by kernel_rfl) ⟨Has.r 0 rfl, Has.r 1 rfl, Has.r 2 rfl, Has.r 3 rfl, Has.r 4 rfl, Has.r 5 rfl, Has.r 6 rfl, Has.r 7 rfl, Has.r 8 rfl, Has.r 9 rfl, trivial⟩ ?_
            refine L.alloc rfl rfl rfl (fun A11 => ?_)
            refine L.nil (QE.m (by kernel_rfl) ?_)
            refine LM.cut [] (by kernel_rfl) ⟨Has.r 0 rfl, Has.r 1 rfl, Has.r 2 rfl, Has.r 3 rfl, Has.r 4 rfl, Has.r 5 rfl, Has.r 6 rfl, Has.r 7 rfl, Has.r 8 rfl, Has.r 9 rfl, trivial⟩ ?_
            refine LM.f 9 rfl (by kernel_rfl) trivial ?_
            refine L.storeA (j := 5) rfl rfl rfl rfl rfl (Nat.zero_lt_succ _) rfl rfl ?_
            refine L.nil (QE.m (by kernel_rfl) ?_)
            refine LM.nil (by kernel_rfl) trivial ?_
            refine QE.joined ((A11, O, N, oc, nc)) (by exact trivial) (by exact Le.mk' (rs := [0, 1, 2, 3, 4, 5, 6, 7, 8, 9]) (hs := [0, 1, 2, 3, 4, 5]) ⟨rfl, rfl, rfl, rfl, rfl, rfl, rfl, rfl, rfl, trivial⟩ ⟨rfl, rfl, rfl, rfl, rfl, rfl, rfl, rfl, rfl, rfl, trivial⟩ ⟨rfl, rfl, rfl, rfl, rfl, rfl, trivial⟩ (by decide))
          · skip
            refine L.alloc rfl rfl rfl (fun A11 => ?_)
            refine L.nil (QE.m (by kernel_rfl) ?_)
            refine LM.f 7 rfl (by kernel_rfl) ⟨Has.r 0 rfl, Has.r 1 rfl, Has.r 2 rfl, Has.r 3 rfl, Has.r 4 rfl, Has.r 5 rfl, Has.r 6 rfl, Has.r 7 rfl, Has.r 8 rfl, Has.r 9 rfl, trivial⟩ ?_
            refine L.call (js := []) (js' := [0, 1, 2, 3]) (chg_g BA (hs.getD k (none, 0)).1 b (Ls.getD k []) bc (hs.getD k (none, 0)).2 b.length 15 rfl (by omega) (by omega)) rfl rfl rfl (by decide) ⟨(Has.r 7 rfl), ((Has.kid 9 rfl (by rw [List.length_map]; exact hhs) (k) (by rw [List.length_map]; omega)).cast (pairs_kid _)), trivial⟩ rfl ?_
            rintro _ _ _ ⟨O, N, oc, nc, rfl, rfl, rfl⟩
            refine L.norm (H' := [_, _, _, _, _, _]) [0, 1, 2, 3, 4, 5] ⟨rfl, rfl, rfl, rfl, rfl, rfl, trivial⟩ (by decide) ?_
            refine L.nil (QE.m (by kernel_rfl) ?_)
            refine LM.cut [] (by kernel_rfl) ⟨Has.r 0 rfl, Has.r 1 rfl, Has.r 2 rfl, Has.r 3 rfl, Has.r 4 rfl, Has.r 5 rfl, Has.r 6 rfl, Has.r 7 rfl, Has.r 8 rfl, Has.r 9 rfl, trivial⟩ ?_
            refine LM.f 9 rfl (by kernel_rfl) trivial ?_
            refine L.storeA (j := 5) rfl rfl rfl rfl rfl (Nat.zero_lt_succ _) rfl rfl ?_
            refine L.nil (QE.m (by kernel_rfl) ?_)
            refine LM.nil (by kernel_rfl) trivial ?_
            refine QE.joined ((A11, O, N, oc, nc)) (by exact trivial) (by exact Le.mk' (rs := [0, 1, 2, 3, 4, 5, 6, 7, 8, 9]) (hs := [0, 1, 2, 3, 4, 5]) ⟨rfl, rfl, rfl, rfl, rfl, rfl, rfl, rfl, rfl, trivial⟩ ⟨rfl, rfl, rfl, rfl, rfl, rfl, rfl, rfl, rfl, rfl, trivial⟩ ⟨rfl, rfl, rfl, rfl, rfl, rfl, trivial⟩ (by decide))
        · skip
          rintro ⟨A11, O, N, oc, nc⟩ _
          dsimp only
          refine QE.seq ?_
          refine C.seq ?_
          refine C.cap 0 rfl (fun hoc => ?_)
          have rI := rbR_is (b := b) (ls := Ls) (i := k) (by omega)
          have rle := rI.le
          have rlen := rI.len
          refine C.freeze 5 rfl [0, 1, 2, 3, 4] (by decide) (by decide) ?_
          refine C.norm (H' := [_, _, _, _, _]) [0, 1, 2, 3, 4] ⟨rfl, rfl, rfl, rfl, rfl, trivial⟩ (by decide) ?_
          refine C.freeze 0 rfl [1, 2, 3, 4] (by decide) (by decide) ?_
          refine C.norm (H' := [_, _, _, _]) [0, 1, 2, 3] ⟨rfl, rfl, rfl, rfl, trivial⟩ (by decide) ?_
          refine C.freeze 0 rfl [1, 2, 3] (by decide) (by decide) ?_
          refine C.norm (H' := [_, _, _]) [0, 1, 2] ⟨rfl, rfl, rfl, trivial⟩ (by decide) ?_
          refine C.region ?_
          refine L.step (Ev.pure rfl) rfl ?_
          refine L.step (Ev.fieldAddr rfl rfl rfl rfl rfl rfl (Src.r 2 rfl) (Nat.zero_lt_succ _) rfl) rfl ?_
          refine L.step (Ev.load rfl rfl rfl (Src.r 2 rfl) rfl) rfl ?_
          refine L.step (Ev.fieldAddr rfl rfl rfl rfl rfl rfl (Src.r 2 rfl) (Nat.zero_lt_succ _) rfl) rfl ?_
          refine L.step (Ev.load rfl rfl rfl (Src.r 2 rfl) rfl) rfl ?_
          refine L.call (js := []) (js' := [0, 1, 2]) (rec_g ((k : Nat) : Int) O N (oldN b 15) (newL b (Ls.getD k []) 15) 15 15 oc nc (rbR b Ls k) 0 (oldN_len _ _) (newL_len _ _ _) rI.eq rI.e hoc (by omega) (by omega)) rfl rfl rfl (by decide) ⟨(Has.r 1 rfl), (Has.r 0 rfl), trivial⟩ rfl ?_
          rintro _ _ _ ⟨R50, rc50, rfl, rfl, rfl⟩
          refine L.norm (H' := [_, _, _, _]) [0, 1, 2, 3] ⟨rfl, rfl, rfl, rfl, trivial⟩ (by decide) ?_
          refine L.step (Ev.pure rfl) rfl ?_
          refine L.step (Ev.pure rfl) rfl ?_
          refine L.step (Ev.pure rfl) rfl ?_
          refine L.step (Ev.pure rfl) rfl ?_
          refine L.step (Ev.pure rfl) rfl ?_
          refine L.nil ?_
          refine QE.seq ?_
          refine C.seq ?_
          refine C.region ?_
          refine L.step (Ev.pure rfl) rfl ?_
          refine L.step (Ev.pure rfl) rfl ?_
          refine L.step (Ev.pure rfl) rfl ?_
          refine L.step (Ev.cast (u := .int .i64 ((k : Nat) : Int)) (Ev.sub rfl rfl (by omega) (by omega)) (congrArg (Value.int .i64) (by omega))) rfl ?_
          refine L.step (Ev.idx1 (k := k) rfl rfl rfl rfl rfl rfl rfl (by omega) (Src.o 2 rfl) (by rw [I64_len, rbEs_len]; omega)) rfl ?_
          refine L.step (Ev.cast (u := .int .i64 ((rbE b Ls k) : Int)) (Ev.load rfl rfl rfl (Src.o 2 rfl) (I64_get (by rw [rbEs_len]; omega))) (by rw [rbEs_get (by omega)])) rfl ?_
          refine L.step (Ev.pure rfl) rfl ?_
          refine L.nil ?_
          refine QE.seq ?_
          refine C.seq ?_
          refine C.seq ?_
          refine C.region ?_
          refine L.step (Ev.pure rfl) rfl ?_
          refine L.step (Ev.pure rfl) rfl ?_
          refine L.step (Ev.pure rfl) rfl ?_
          refine L.bool 61 rfl (fun hg61 => ?_) (fun hg61 => ?_)
          · skip
            replace hg61 := b_ne hg61
            exact (hg61 rfl).elim
          · skip
            replace hg61 := b_eq hg61
            refine L.yes rfl ?_
            refine L.step (Ev.pure rfl) rfl ?_
            refine L.yes rfl ?_
            refine L.step (Ev.pure rfl) rfl ?_
            refine L.yes rfl ?_
            refine L.step (Ev.pure rfl) rfl ?_
            refine L.step (Ev.pure rfl) rfl ?_
            refine L.nil ?_
            refine QE.seq ?_
            refine C.condB 65 rfl (fun hc65 => ?_) (fun hc65 => ?_)
            · skip
              replace hc65 := i_eq hc65
              omega
            · skip
              replace hc65 := i_ne hc65
              refine C.skip ?_
              refine QE.seq ?_
              refine C.seq ?_
              refine C.seq ?_
              refine C.region ?_
              refine L.step (Ev.pure rfl) rfl ?_
              refine L.step (Ev.pure rfl) rfl ?_
              refine L.step (Ev.pure rfl) rfl ?_
              refine L.step (Ev.cast (u := .int .i64 (((rbE b Ls k) + (rbR b Ls k).length : Nat) : Int)) (Ev.add rfl rfl (by omega) (by omega)) (congrArg (Value.int .i64) (by omega))) rfl ?_
              refine L.step (Ev.pure rfl) rfl ?_
              refine L.nil ?_
              refine QE.seq ?_
              refine C.condB 70 rfl (fun hc70 => ?_) (fun hc70 => ?_)
              · skip
                replace hc70 := of_decide_eq_true hc70
                refine C.exit ?_
                refine QE.tX ?_
                refine QE.blkX rfl ?_
                refine QE.tX ?_
                refine QE.tX ?_
                refine QE.blk ?_
                refine QE.join ((k, E, ec, V, vc, rs)) (by exact ⟨hk3, hek, hrs⟩) (by exact Le.mk' (rs := [3, 4, 5, 6, 7, 8, 9, 10, 11, 12]) (hs := [1, 2, 3]) ⟨rfl, rfl, rfl, rfl, rfl, rfl, rfl, trivial⟩ ⟨rfl, rfl, rfl, rfl, rfl, rfl, rfl, rfl, rfl, rfl, trivial⟩ ⟨rfl, rfl, rfl, trivial⟩ (by decide))
              · skip
                replace hc70 := of_decide_eq_false hc70
                refine C.skip ?_
                refine QE.seq ?_
                refine C.seq ?_
                refine C.seq ?_
                refine C.freeze 0 rfl [1, 2, 3] (by decide) (by decide) ?_
                refine C.norm (H' := [_, _, _]) [0, 1, 2] ⟨rfl, rfl, rfl, trivial⟩ (by decide) ?_
                refine C.region ?_
                refine L.step (Ev.pure rfl) rfl ?_
                refine L.nil ?_
                refine QE.seq ?_
                refine C.block ?_
                refine C.loop (fun q : Nat => [(0, .slice LA Ls.length lc), (1, .slice BA b.length bc), (5, .bool true), (6, ptrOf A6 0), (7, ptrOf A7 0), (8, .slice E (k + 1) ec), (9, .slice V k vc), (10, .int .i64 (k : Int)), (12, .slice R50 (rbR b Ls k).length rc50), (14, .int .i64 ((rbE b Ls k) : Int)), (15, .int .i64 (q : Int))]) (fun q : Nat => [Rd R50 (U8 (rbR b Ls k)), KidsR rs (B8 (rbRs b Ls k)), Rd U (I64 us), Rd a.D (rowsV a.hs (B8 f.data)), Rd a.W (I64 f.wear), Rd a.E (Bs f.dead), Rd A6 [.int .i64 (f.size : Int), .slice a.D f.data.length a.cD, .slice a.W f.wear.length a.cW, .int .i64 f.limit, .slice a.E f.dead.length a.cE], Rd A7 [.int .i64 0, .int .i64 0, .int .i64 0, .int .i64 0, .int .i64 0, .slice none 0 0, .slice U us.length uc, .slice none 0 0], Rd BA (U8 b), Rd LA (rowsP hs Ls), KidsR hs (Ls.map pairsV)]) (fun q : Nat => [OwnKids 5 a.hs (B8 (wrD (rbF b Ls f us k).data us 15 (rbE b Ls k) (rbR b Ls k) q)), Own 3 1 E (k + 1) ec (I64 (rbEs b Ls k)), Own 24 1 V k vc (rowsV rs (B8 (rbRs b Ls k)))]) (fun q : Nat => q ≤ (rbR b Ls k).length) (fun q : Nat => (rbR b Ls k).length - q) 0 (Nat.zero_le _) (by exact Le.mk' (rs := [0, 4, 5, 6, 7, 8, 9, 10, 11, 12, 13]) (hs := [0, 1, 2]) ⟨rfl, rfl, rfl, rfl, rfl, rfl, rfl, rfl, rfl, rfl, rfl, trivial⟩ ⟨rfl, rfl, rfl, rfl, rfl, rfl, rfl, rfl, rfl, rfl, rfl, trivial⟩ ⟨rfl, rfl, rfl, trivial⟩ (by decide)) ?_
                intro q hq
                refine C.seq ?_
                refine C.seq ?_
                refine C.region ?_
                refine L.step (Ev.pure rfl) rfl ?_
                refine L.step (Ev.pure rfl) rfl ?_
                refine L.step (Ev.pure rfl) rfl ?_
                refine L.step (Ev.pure rfl) rfl ?_
                refine L.nil ?_
                refine QE.seq ?_
                refine C.condB 74 rfl (fun hc74 => ?_) (fun hc74 => ?_)
                · skip
                  replace hc74 := of_decide_eq_true hc74
                  refine C.skip ?_
                  refine QE.seq ?_
                  refine C.seq ?_
                  refine C.block ?_
                  obtain ⟨hp1, hp2, -⟩ := place (z := 15) (p := (rbE b Ls k)) (n := (rbR b Ls k).length) (m := us.length) (by omega) (by rw [hul3]; omega) (i := q) (by omega)
                  have hui := hu.r _ hp1
                  have hpu : (us.getD (((rbE b Ls k) + q) / 15) 0).toNat < f.data.length := by omega
                  have hpr := orows _ hpu
                  rw [h15] at hpr
                  have hrow := (rbF_ok (b := b) (ls := Ls) (us := us) ok k).rows (us.getD (((rbE b Ls k) + q) / 15) 0).toNat (by rw [(rbF_same k).2.2.2.2]; exact hpu)
                  rw [(rbF_same k).1, h15] at hrow
                  refine C.regionM [Rd R50 (U8 (rbR b Ls k)), KidsR rs (B8 (rbRs b Ls k)), Rd U (I64 us), Rd a.D (rowsV a.hs (B8 f.data)), Rd a.W (I64 f.wear), Rd a.E (Bs f.dead), Rd A6 [.int .i64 (f.size : Int), .slice a.D f.data.length a.cD, .slice a.W f.wear.length a.cW, .int .i64 f.limit, .slice a.E f.dead.length a.cE], Rd A7 [.int .i64 0, .int .i64 0, .int .i64 0, .int .i64 0, .int .i64 0, .slice none 0 0, .slice U us.length uc, .slice none 0 0], Rd BA (U8 b), Rd LA (rowsP hs Ls), KidsR hs (Ls.map pairsV), KidsR a.hs (B8 (wrD (rbF b Ls f us k).data us 15 (rbE b Ls k) (rbR b Ls k) q))] ⟨Has.r 0 rfl, Has.r 1 rfl, Has.r 2 rfl, Has.r 3 rfl, Has.r 4 rfl, Has.r 5 rfl, Has.r 6 rfl, Has.r 7 rfl, Has.r 8 rfl, Has.r 9 rfl, Has.r 10 rfl, Has.okids 0 rfl, trivial⟩ ?_
                  refine LM.q 0 rfl (by kernel_rfl) (Ev.fieldAddr rfl rfl rfl rfl rfl rfl (Src.r 6 rfl) (Nat.zero_lt_succ _) rfl) rfl ⟨Has.r 0 rfl, Has.r 1 rfl, Has.r 2 rfl, Has.r 3 rfl, Has.r 4 rfl, Has.r 5 rfl, Has.r 6 rfl, Has.r 7 rfl, Has.r 8 rfl, Has.r 9 rfl, Has.r 10 rfl, Has.okids 0 rfl, trivial⟩ ?_
                  refine LM.q 1 rfl (by kernel_rfl) (Ev.load rfl rfl rfl (Src.r 6 rfl) rfl) rfl ⟨Has.r 0 rfl, Has.r 1 rfl, Has.r 2 rfl, Has.r 3 rfl, Has.r 4 rfl, Has.r 5 rfl, Has.r 6 rfl, Has.r 7 rfl, Has.r 8 rfl, Has.r 9 rfl, Has.r 10 rfl, Has.okids 0 rfl, trivial⟩ ?_
                  refine LM.q 2 rfl (by kernel_rfl) (Ev.fieldAddr rfl rfl rfl rfl rfl rfl (Src.r 7 rfl) (Nat.zero_lt_succ _) rfl) rfl ⟨Has.r 0 rfl, Has.r 1 rfl, Has.r 2 rfl, Has.r 3 rfl, Has.r 4 rfl, Has.r 5 rfl, Has.r 6 rfl, Has.r 7 rfl, Has.r 8 rfl, Has.r 9 rfl, Has.r 10 rfl, Has.okids 0 rfl, trivial⟩ ?_
                  refine LM.q 3 rfl (by kernel_rfl) (Ev.load rfl rfl rfl (Src.r 7 rfl) rfl) rfl ⟨Has.r 0 rfl, Has.r 1 rfl, Has.r 2 rfl, Has.r 3 rfl, Has.r 4 rfl, Has.r 5 rfl, Has.r 6 rfl, Has.r 7 rfl, Has.r 8 rfl, Has.r 9 rfl, Has.r 10 rfl, Has.okids 0 rfl, trivial⟩ ?_
                  refine LM.q 4 rfl (by kernel_rfl) (Ev.pure rfl) rfl ⟨Has.r 0 rfl, Has.r 1 rfl, Has.r 2 rfl, Has.r 3 rfl, Has.r 4 rfl, Has.r 5 rfl, Has.r 6 rfl, Has.r 7 rfl, Has.r 8 rfl, Has.r 9 rfl, Has.r 10 rfl, Has.okids 0 rfl, trivial⟩ ?_
                  refine LM.q 5 rfl (by kernel_rfl) (Ev.pure rfl) rfl ⟨Has.r 0 rfl, Has.r 1 rfl, Has.r 2 rfl, Has.r 3 rfl, Has.r 4 rfl, Has.r 5 rfl, Has.r 6 rfl, Has.r 7 rfl, Has.r 8 rfl, Has.r 9 rfl, Has.r 10 rfl, Has.okids 0 rfl, trivial⟩ ?_
                  refine LM.q 6 rfl (by kernel_rfl) (Ev.cast (u := .int .i64 (((rbE b Ls k) + q : Nat) : Int)) (Ev.add rfl rfl (by omega) (by omega)) (congrArg (Value.int .i64) (by omega))) rfl ⟨Has.r 0 rfl, Has.r 1 rfl, Has.r 2 rfl, Has.r 3 rfl, Has.r 4 rfl, Has.r 5 rfl, Has.r 6 rfl, Has.r 7 rfl, Has.r 8 rfl, Has.r 9 rfl, Has.r 10 rfl, Has.okids 0 rfl, trivial⟩ ?_
                  refine LM.q 7 rfl (by kernel_rfl) (Ev.cast (u := .int .i64 ((((rbE b Ls k) + q) / 15 : Nat) : Int)) (Ev.quo rfl rfl (by omega) (by omega) (by omega)) (congrArg (Value.int .i64) (by rw [Int.natCast_ediv]; rfl))) rfl ⟨Has.r 0 rfl, Has.r 1 rfl, Has.r 2 rfl, Has.r 3 rfl, Has.r 4 rfl, Has.r 5 rfl, Has.r 6 rfl, Has.r 7 rfl, Has.r 8 rfl, Has.r 9 rfl, Has.r 10 rfl, Has.okids 0 rfl, trivial⟩ ?_
                  refine LM.q 8 rfl (by kernel_rfl) (Ev.idx1 (k := (((rbE b Ls k) + q) / 15)) rfl rfl rfl rfl rfl rfl rfl hp1 (Src.r 2 rfl) (by rw [I64_len]; omega)) rfl ⟨Has.r 0 rfl, Has.r 1 rfl, Has.r 2 rfl, Has.r 3 rfl, Has.r 4 rfl, Has.r 5 rfl, Has.r 6 rfl, Has.r 7 rfl, Has.r 8 rfl, Has.r 9 rfl, Has.r 10 rfl, Has.okids 0 rfl, trivial⟩ ?_
                  refine LM.q 9 rfl (by kernel_rfl) (Ev.load rfl rfl rfl (Src.r 2 rfl) (I64_get hp1)) rfl ⟨Has.r 0 rfl, Has.r 1 rfl, Has.r 2 rfl, Has.r 3 rfl, Has.r 4 rfl, Has.r 5 rfl, Has.r 6 rfl, Has.r 7 rfl, Has.r 8 rfl, Has.r 9 rfl, Has.r 10 rfl, Has.okids 0 rfl, trivial⟩ ?_
                  refine LM.q 10 rfl (by kernel_rfl) (Ev.idx1 (k := (us.getD (((rbE b Ls k) + q) / 15) 0).toNat) rfl rfl rfl rfl rfl rfl (by omega) hpu (Src.r 3 rfl) (by rw [rowsV_len (by rw [B8_len]; exact hb), B8_len]; omega)) rfl ⟨Has.r 0 rfl, Has.r 1 rfl, Has.r 2 rfl, Has.r 3 rfl, Has.r 4 rfl, Has.r 5 rfl, Has.r 6 rfl, Has.r 7 rfl, Has.r 8 rfl, Has.r 9 rfl, Has.r 10 rfl, Has.okids 0 rfl, trivial⟩ ?_
                  refine LM.q 11 rfl (by kernel_rfl) (Ev.load rfl rfl rfl (Src.r 3 rfl) (rows8_get hb hpu)) rfl ⟨Has.r 0 rfl, Has.r 1 rfl, Has.r 2 rfl, Has.r 3 rfl, Has.r 4 rfl, Has.r 5 rfl, Has.r 6 rfl, Has.r 7 rfl, Has.r 8 rfl, Has.r 9 rfl, Has.r 10 rfl, Has.okids 0 rfl, trivial⟩ ?_
                  refine LM.q 12 rfl (by kernel_rfl) (Ev.pure rfl) rfl ⟨Has.r 0 rfl, Has.r 1 rfl, Has.r 2 rfl, Has.r 3 rfl, Has.r 4 rfl, Has.r 5 rfl, Has.r 6 rfl, Has.r 7 rfl, Has.r 8 rfl, Has.r 9 rfl, Has.r 10 rfl, Has.okids 0 rfl, trivial⟩ ?_
                  refine LM.q 13 rfl (by kernel_rfl) (Ev.pure rfl) rfl ⟨Has.r 0 rfl, Has.r 1 rfl, Has.r 2 rfl, Has.r 3 rfl, Has.r 4 rfl, Has.r 5 rfl, Has.r 6 rfl, Has.r 7 rfl, Has.r 8 rfl, Has.r 9 rfl, Has.r 10 rfl, Has.okids 0 rfl, trivial⟩ ?_
                  refine LM.q 14 rfl (by kernel_rfl) (Ev.cast (u := .int .i64 (((rbE b Ls k) + q : Nat) : Int)) (Ev.add rfl rfl (by omega) (by omega)) (congrArg (Value.int .i64) (by omega))) rfl ⟨Has.r 0 rfl, Has.r 1 rfl, Has.r 2 rfl, Has.r 3 rfl, Has.r 4 rfl, Has.r 5 rfl, Has.r 6 rfl, Has.r 7 rfl, Has.r 8 rfl, Has.r 9 rfl, Has.r 10 rfl, Has.okids 0 rfl, trivial⟩ ?_
                  refine LM.q 15 rfl (by kernel_rfl) (Ev.cast (u := .int .i64 ((((rbE b Ls k) + q) % 15 : Nat) : Int)) (Ev.rem rfl rfl (by omega) (by omega)) (congrArg (Value.int .i64) (by rw [Int.natCast_emod]; rfl))) rfl ⟨Has.r 0 rfl, Has.r 1 rfl, Has.r 2 rfl, Has.r 3 rfl, Has.r 4 rfl, Has.r 5 rfl, Has.r 6 rfl, Has.r 7 rfl, Has.r 8 rfl, Has.r 9 rfl, Has.r 10 rfl, Has.okids 0 rfl, trivial⟩ ?_
                  refine LM.q 16 rfl (by kernel_rfl) (Ev.pure rfl) rfl ⟨Has.r 0 rfl, Has.r 1 rfl, Has.r 2 rfl, Has.r 3 rfl, Has.r 4 rfl, Has.r 5 rfl, Has.r 6 rfl, Has.r 7 rfl, Has.r 8 rfl, Has.r 9 rfl, Has.r 10 rfl, Has.okids 0 rfl, trivial⟩ ?_
                  refine LM.f 17 rfl (by kernel_rfl) ⟨Has.r 0 rfl, Has.r 1 rfl, Has.r 2 rfl, Has.r 3 rfl, Has.r 4 rfl, Has.r 5 rfl, Has.r 6 rfl, Has.r 7 rfl, Has.r 8 rfl, Has.r 9 rfl, Has.r 10 rfl, Has.okids 0 rfl, trivial⟩ ?_
                  refine L.step (Ev.pure rfl) rfl ?_
                  refine L.nil (QE.m (by kernel_rfl) ?_)
                  refine LM.f 18 rfl (by kernel_rfl) ⟨Has.r 0 rfl, Has.r 1 rfl, Has.r 2 rfl, Has.r 3 rfl, Has.r 4 rfl, Has.r 5 rfl, Has.r 6 rfl, Has.r 7 rfl, Has.r 8 rfl, Has.r 9 rfl, Has.r 10 rfl, Has.okids 0 rfl, trivial⟩ ?_
                  refine L.step (Ev.idx1 (k := q) rfl rfl rfl rfl rfl rfl rfl (by omega) (Src.r 0 rfl) (by rw [U8_len]; omega)) rfl ?_
                  refine L.nil (QE.m (by kernel_rfl) ?_)
                  refine LM.f 19 rfl (by kernel_rfl) ⟨Has.r 0 rfl, Has.r 1 rfl, Has.r 2 rfl, Has.r 3 rfl, Has.r 4 rfl, Has.r 5 rfl, Has.r 6 rfl, Has.r 7 rfl, Has.r 8 rfl, Has.r 9 rfl, Has.r 10 rfl, Has.okids 0 rfl, trivial⟩ ?_
                  refine L.step (Ev.load rfl rfl rfl (Src.r 0 rfl) (U8_get (by omega))) rfl ?_
                  refine L.nil (QE.m (by kernel_rfl) ?_)
                  refine LM.cut [] (by kernel_rfl) ⟨Has.r 0 rfl, Has.r 1 rfl, Has.r 2 rfl, Has.r 3 rfl, Has.r 4 rfl, Has.r 5 rfl, Has.r 6 rfl, Has.r 7 rfl, Has.r 8 rfl, Has.r 9 rfl, Has.r 10 rfl, Has.okids 0 rfl, trivial⟩ ?_
                  refine LM.f 20 rfl (by kernel_rfl) trivial ?_
                  refine L.step (Ev.idx1 (k := ((rbE b Ls k) + q) % 15) rfl rfl rfl rfl rfl rfl rfl (by rw [hpr]; exact hp2) (Src.okid 0 rfl (by rw [B8_len, wrD_len, (rbF_same k).2.2.2.2]; exact hb) (us.getD (((rbE b Ls k) + q) / 15) 0).toNat (by rw [B8_len, wrD_len, (rbF_same k).2.2.2.2]; exact hpu)) (by rw [B8_get, U8_len, wrD_row, hrow]; omega)) rfl ?_
                  refine L.nil (QE.m (by kernel_rfl) ?_)
                  refine LM.f 21 rfl (by kernel_rfl) trivial ?_
                  refine L.storeKid (j := 0) (i := (us.getD (((rbE b Ls k) + q) / 15) 0).toNat) rfl rfl (by rw [B8_len, wrD_len, (rbF_same k).2.2.2.2]; exact hb) (by rw [B8_len, wrD_len, (rbF_same k).2.2.2.2]; exact hpu) rfl rfl rfl rfl rfl (by rw [B8_get, U8_len, wrD_row, hrow]; exact hp2) ?_
                  refine L.nil (QE.m (by kernel_rfl) ?_)
                  refine LM.nil (by kernel_rfl) trivial ?_
                  refine QE.blkN ?_
                  refine QE.seq ?_
                  refine C.region ?_
                  refine L.step (Ev.pure rfl) rfl ?_
                  refine L.step (Ev.add rfl rfl (by omega) (by omega)) rfl ?_
                  refine L.step (Ev.pure rfl) rfl ?_
                  refine L.nil ?_
                  refine QE.round (q + 1) (by omega) (by omega) (by exact Le.mk' (rs := [0, 1, 2, 3, 4, 5, 6, 7, 8, 9, 10]) (hs := [0, 1, 2]) ⟨rfl, rfl, rfl, rfl, rfl, rfl, rfl, rfl, rfl, rfl, rfl, trivial⟩ ⟨rfl, rfl, rfl, rfl, rfl, rfl, rfl, rfl, rfl, rfl, rfl, trivial⟩ ⟨(congrArg some (by rw [B8_get, U8_set, B8_set]; rfl)), rfl, rfl, trivial⟩ (by decide))
                · skip
                  replace hc74 := of_decide_eq_false hc74
                  refine C.exit ?_
                  refine QE.tX ?_
                  refine QE.tX ?_
                  refine QE.blk ?_
                  refine QE.seq ?_
                  obtain rfl : q = (rbR b Ls k).length := by omega
                  refine C.region ?_
                  refine L.step (Ev.pure rfl) rfl ?_
                  refine L.step (Ev.pure rfl) rfl ?_
                  refine L.step (Ev.pure rfl) rfl ?_
                  refine L.step (Ev.pure rfl) rfl ?_
                  refine L.step (Ev.cast (u := .int .i64 (((rbE b Ls (k + 1)) : Nat) : Int)) (Ev.add rfl rfl (by omega) (by omega)) (congrArg (Value.int .i64) (by rw [← Int.natCast_add]; rfl))) rfl ?_
                  refine L.lit rfl rfl rfl rfl rfl (by rfl) (by rfl) (by rfl) rfl rfl (fun A103 => ?_)
                  refine L.append (j := 1) rfl rfl rfl rfl (by decide) rfl rfl rfl rfl (Src.o 3 rfl) rfl (allOne rfl) (by omega) (by show _ * 8 ≤ _; omega) rfl (fun A104 cc104 => ?_)
                  refine L.step (Ev.pure rfl) rfl ?_
                  refine L.step (Ev.pure rfl) rfl ?_
                  refine L.lit rfl rfl rfl rfl rfl (by rfl) (by rfl) (by rfl) rfl rfl (fun A107 => ?_)
                  refine L.append (j := 2) rfl rfl rfl rfl (by decide) rfl rfl rfl rfl (Src.o 4 rfl) rfl (by intro v hv; simp at hv; subst hv; rfl) (by omega) (by show _ * 24 ≤ _; omega) rfl (fun A108 cc108 => ?_)
                  refine L.step (Ev.pure rfl) rfl ?_
                  refine L.step (Ev.pure rfl) rfl ?_
                  refine L.nil ?_
                  refine QE.blkN ?_
                  refine QE.seq ?_
                  refine C.region ?_
                  refine L.step (Ev.pure rfl) rfl ?_
                  refine L.step (Ev.add rfl rfl (by omega) (by omega)) rfl ?_
                  refine L.step (Ev.pure rfl) rfl ?_
                  refine L.nil ?_
                  refine QE.more (r := KidsR (rs ++ [(R50, rc50)]) (B8 (rbRs b Ls k) ++ [U8 (rbR b Ls k)])) (Has.kidsSnoc 1 0 rc50 rfl rfl (by rw [B8_len, rbRs_len]; exact hrs)) ?_
                  refine QE.round (i := (k, E, ec, V, vc, rs)) ((k + 1, A104, cc104, A108, cc108, rs ++ [(R50, rc50)])) (by exact ⟨by dsimp only; omega, by dsimp only; omega, by show rbE b Ls k + (rbR b Ls k).length ≤ 45; omega, by simp [hrs]⟩) (by dsimp only; omega) (by exact Le.mk' (rs := [0, 3, 4, 5, 6, 7, 8, 9, 10, 11]) (hs := [0, 1, 2]) ⟨rfl, rfl, rfl, rfl, rfl, rfl, rfl, rfl, trivial⟩ ⟨(congrArg some (by dsimp only; rw [rbRs_succ, ← B8_snoc])), rfl, rfl, rfl, rfl, rfl, rfl, rfl, rfl, rfl, trivial⟩ ⟨(congrArg some (by show _ = OwnKids _ _ (B8 (wrD (rbF b Ls f us k).data us (rbF b Ls f us k).size _ _ _)); rw [(rbF_same k).1, h15])), (congrArg some (own_eq rfl (by dsimp only; rw [rbEs_succ, ← I64_app] <;> rfl))), (congrArg some (own_eq rfl (by dsimp only; rw [rbRs_succ, ← rows8_app (by rw [rbRs_len]; exact hrs)] <;> rfl))), trivial⟩ (by decide))
      · skip
        replace hc33 := of_decide_eq_false hc33
        refine C.exit ?_
        refine QE.tX ?_
        refine QE.tX ?_
        refine QE.blk ?_
        refine QE.join ((k, E, ec, V, vc, rs)) (by exact ⟨hk3, hek, hrs⟩) (by exact Le.mk' (rs := [0, 1, 2, 3, 4, 5, 6, 7, 8, 9]) (hs := [0, 1, 2]) ⟨rfl, rfl, rfl, rfl, rfl, rfl, rfl, trivial⟩ ⟨rfl, rfl, rfl, rfl, rfl, rfl, rfl, rfl, rfl, rfl, trivial⟩ ⟨rfl, rfl, rfl, trivial⟩ (by decide))
    · skip
      replace hg30 := of_decide_eq_false hg30
      refine L.no rfl rfl rfl ?_
      refine L.no rfl rfl rfl ?_
      refine L.step (Ev.pure rfl) rfl ?_
      refine L.nil ?_
      refine QE.seq ?_
      refine C.cond rfl (fun h => by cases h) (fun _ => ?_)
      refine C.exit ?_
      refine QE.tX ?_
      refine QE.tX ?_
      refine QE.blk ?_
      refine QE.join ((k, E, ec, V, vc, rs)) (by exact ⟨hk3, hek, hrs⟩) (by exact Le.mk' (rs := [0, 1, 2, 3, 4, 5, 6, 7, 8, 9]) (hs := [0, 1, 2]) ⟨rfl, rfl, rfl, rfl, rfl, rfl, rfl, trivial⟩ ⟨rfl, rfl, rfl, rfl, rfl, rfl, rfl, rfl, rfl, rfl, trivial⟩ ⟨rfl, rfl, rfl, trivial⟩ (by decide))
  · skip
    rintro ⟨k, E, ec, V, vc, rs⟩ ⟨hk3, hek, hrs⟩
    dsimp only at hk3 hek hrs ⊢
    refine C.seq ?_
    refine C.seq ?_
    obtain ⟨g, hg⟩ : ∃ g, g = (rbF b Ls f us k) := ⟨_, rfl⟩
    obtain ⟨gsz, gwr, glm, gdd, hgd⟩ := rbF_same (b := b) (ls := Ls) (f := f) (us := us) k
    rw [← hg] at gsz gwr glm gdd hgd
    have hgrow : rowsV a.hs (B8 g.data) = rowsV a.hs (B8 f.data) := by rw [hg]; exact rbF_rows hb k
    have gok : g.Ok := by rw [hg]; exact rbF_ok ok k
    have ghb : a.hs.length = g.data.length := by rw [hgd]; exact hb
    have ghu : UOk g us := hu.of hgd
    refine C.le (Γ' := [(5, .bool true), (6, ptrOf A6 0), (7, ptrOf A7 0), (8, .slice E (k + 1) ec), (9, .slice V k vc)]) (R' := [KidsR rs (B8 (rbRs b Ls k)), Rd U (I64 us), Rd a.D (rowsV a.hs (B8 g.data)), Rd a.W (I64 g.wear), Rd a.E (Bs g.dead), Rd A6 [.int .i64 (g.size : Int), .slice a.D g.data.length a.cD, .slice a.W g.wear.length a.cW, .int .i64 g.limit, .slice a.E g.dead.length a.cE], Rd A7 [.int .i64 0, .int .i64 0, .int .i64 0, .int .i64 0, .int .i64 0, .slice none 0 0, .slice U us.length uc, .slice none 0 0]]) (H' := [OwnKids 5 a.hs (B8 g.data), Own 3 1 E (k + 1) ec (I64 (rbEs b Ls k)), Own 24 1 V k vc (rowsV rs (B8 (rbRs b Ls k)))]) (by exact Le.mk' (rs := [0, 1, 2, 3, 4, 5, 6]) (hs := [0, 1, 2]) ⟨rfl, rfl, rfl, rfl, rfl, trivial⟩ ⟨rfl, rfl, (congrArg some (by rw [hgrow])), (congrArg some (by rw [gwr])), (congrArg some (by rw [gdd])), (congrArg some (by rw [gsz, gwr, glm, gdd, hgd])), rfl, trivial⟩ ⟨(congrArg some (by rw [hg])), rfl, rfl, trivial⟩ (by decide)) ?_
    refine C.freezeKids 0 rfl [1, 2] (by decide) (by decide) ?_
    refine C.norm (H' := [_, _]) [0, 1] ⟨rfl, rfl, trivial⟩ (by decide) ?_
    refine C.freeze 0 rfl [1] (by decide) (by decide) ?_
    refine C.norm (H' := [_]) [0] ⟨rfl, trivial⟩ (by decide) ?_
    refine C.freeze 0 rfl [] (by decide) (by decide) ?_
    refine C.region ?_
    refine L.step (Ev.pure rfl) rfl ?_
    refine L.step (Ev.pure rfl) rfl ?_
    refine L.step (Ev.sub rfl rfl (by omega) (by omega)) rfl ?_
    refine L.step (Ev.pure rfl) rfl ?_
    refine L.nil ?_
    refine QE.seq ?_
    refine C.block ?_
    refine C.loop (fun j : Nat => [(5, .bool true), (6, ptrOf A6 0), (7, ptrOf A7 0), (8, .slice E (k + 1) ec), (9, .slice V k vc), (16, .int .i64 ((j : Int) - 1))]) (fun j : Nat => [Rd V (rowsV rs (B8 (rbRs b Ls k))), Rd E (I64 (rbEs b Ls k)), KidsR a.hs (B8 g.data), KidsR rs (B8 (rbRs b Ls k)), Rd U (I64 us), Rd a.D (rowsV a.hs (B8 g.data)), Rd a.W (I64 g.wear), Rd a.E (Bs g.dead), Rd A6 [.int .i64 (g.size : Int), .slice a.D g.data.length a.cD, .slice a.W g.wear.length a.cW, .int .i64 g.limit, .slice a.E g.dead.length a.cE], Rd A7 [.int .i64 0, .int .i64 0, .int .i64 0, .int .i64 0, .int .i64 0, .slice none 0 0, .slice U us.length uc, .slice none 0 0]]) (fun j : Nat => []) (fun j : Nat => j ≤ k) (fun j : Nat => j) k (Nat.le_refl _) (by exact Le.mk' (rs := [0, 1, 2, 3, 4, 5, 6, 7, 8, 9]) (hs := []) ⟨rfl, rfl, rfl, rfl, rfl, rfl, trivial⟩ ⟨rfl, rfl, rfl, rfl, rfl, rfl, rfl, rfl, rfl, rfl, trivial⟩ trivial (by decide)) ?_
    intro j hj
    refine C.seq ?_
    refine C.seq ?_
    refine C.region ?_
    refine L.step (Ev.pure rfl) rfl ?_
    refine L.step (Ev.pure rfl) rfl ?_
    refine L.nil ?_
    refine QE.seq ?_
    refine C.condB 113 rfl (fun hc113 => ?_) (fun hc113 => ?_)
    · skip
      replace hc113 := of_decide_eq_true hc113
      obtain ⟨i, rfl⟩ : ∃ i, j = i + 1 := ⟨j - 1, by omega⟩
      have rI := rbR_is (b := b) (ls := Ls) (i := i) (by omega)
      have rle := rI.le
      have rlen := rI.len
      refine C.skip ?_
      refine QE.seq ?_
      refine C.seq ?_
      refine C.block ?_
      refine C.seq ?_
      have hgl : ((rbRs b Ls k).getD i []).length = (rbR b Ls i).length := by rw [rbRs_get (by omega)]
      refine C.join (fun q : Option Addr × Option Addr × Nat => [(5, .bool true), (6, ptrOf A6 0), (7, ptrOf A7 0), (8, .slice E (k + 1) ec), (9, .slice V k vc), (16, .int .i64 (((i + 1 : Nat) : Int) - 1)), (17, ptrOf q.1 0)]) (fun q : Option Addr × Option Addr × Nat => [Rd q.2.1 (U8 (rbR b Ls i)), Rd U (I64 us), KidsR a.hs (B8 g.data), Rd E (I64 (rbEs b Ls k)), Rd V (rowsV rs (B8 (rbRs b Ls k))), KidsR rs (B8 (rbRs b Ls k)), Rd a.D (rowsV a.hs (B8 g.data)), Rd a.W (I64 g.wear), Rd a.E (Bs g.dead), Rd A6 [.int .i64 (g.size : Int), .slice a.D g.data.length a.cD, .slice a.W g.wear.length a.cW, .int .i64 g.limit, .slice a.E g.dead.length a.cE], Rd A7 [.int .i64 0, .int .i64 0, .int .i64 0, .int .i64 0, .int .i64 0, .slice none 0 0, .slice U us.length uc, .slice none 0 0]]) (fun q : Option Addr × Option Addr × Nat => [Own 59 3 q.1 1 1 [.slice q.2.1 (rbR b Ls i).length q.2.2, .int .i64 ((rbE b Ls i) : Int), .int .i64 0]]) (fun q : Option Addr × Option Addr × Nat => True) ?_ ?_
      · skip
        refine C.regionM [Rd V (rowsV rs (B8 (rbRs b Ls k))), Rd E (I64 (rbEs b Ls k)), KidsR a.hs (B8 g.data), KidsR rs (B8 (rbRs b Ls k)), Rd U (I64 us), Rd a.D (rowsV a.hs (B8 g.data)), Rd a.W (I64 g.wear), Rd a.E (Bs g.dead), Rd A6 [.int .i64 (g.size : Int), .slice a.D g.data.length a.cD, .slice a.W g.wear.length a.cW, .int .i64 g.limit, .slice a.E g.dead.length a.cE], Rd A7 [.int .i64 0, .int .i64 0, .int .i64 0, .int .i64 0, .int .i64 0, .slice none 0 0, .slice U us.length uc, .slice none 0 0]] ⟨Has.r 0 rfl, Has.r 1 rfl, Has.r 2 rfl, Has.r 3 rfl, Has.r 4 rfl, Has.r 5 rfl, Has.r 6 rfl, Has.r 7 rfl, Has.r 8 rfl, Has.r 9 rfl, trivial⟩ ?_
        refine LM.q 0 rfl (by kernel_rfl) (Ev.loadA rfl rfl rfl (Src.r 8 rfl) rfl rfl (by decide)) rfl ⟨Has.r 0 rfl, Has.r 1 rfl, Has.r 2 rfl, Has.r 3 rfl, Has.r 4 rfl, Has.r 5 rfl, Has.r 6 rfl, Has.r 7 rfl, Has.r 8 rfl, Has.r 9 rfl, trivial⟩ ?_
        refine LM.q 1 rfl (by kernel_rfl) (Ev.loadA rfl rfl rfl (Src.r 9 rfl) rfl rfl (by decide)) rfl ⟨Has.r 0 rfl, Has.r 1 rfl, Has.r 2 rfl, Has.r 3 rfl, Has.r 4 rfl, Has.r 5 rfl, Has.r 6 rfl, Has.r 7 rfl, Has.r 8 rfl, Has.r 9 rfl, trivial⟩ ?_
        refine LM.q 2 rfl (by kernel_rfl) (Ev.pure rfl) rfl ⟨Has.r 0 rfl, Has.r 1 rfl, Has.r 2 rfl, Has.r 3 rfl, Has.r 4 rfl, Has.r 5 rfl, Has.r 6 rfl, Has.r 7 rfl, Has.r 8 rfl, Has.r 9 rfl, trivial⟩ ?_
        refine LM.q 3 rfl (by kernel_rfl) (Ev.pure rfl) rfl ⟨Has.r 0 rfl, Has.r 1 rfl, Has.r 2 rfl, Has.r 3 rfl, Has.r 4 rfl, Has.r 5 rfl, Has.r 6 rfl, Has.r 7 rfl, Has.r 8 rfl, Has.r 9 rfl, trivial⟩ ?_
        refine LM.q 4 rfl (by kernel_rfl) (Ev.cast (u := .int .i64 ((i + 1 : Nat) : Int)) (Ev.add rfl rfl (by omega) (by omega)) (congrArg (Value.int .i64) (by omega))) rfl ⟨Has.r 0 rfl, Has.r 1 rfl, Has.r 2 rfl, Has.r 3 rfl, Has.r 4 rfl, Has.r 5 rfl, Has.r 6 rfl, Has.r 7 rfl, Has.r 8 rfl, Has.r 9 rfl, trivial⟩ ?_
        refine LM.q 5 rfl (by kernel_rfl) (Ev.idx1 (k := (i + 1)) rfl rfl rfl rfl rfl rfl rfl (by omega) (Src.r 1 rfl) (by rw [I64_len, rbEs_len]; omega)) rfl ⟨Has.r 0 rfl, Has.r 1 rfl, Has.r 2 rfl, Has.r 3 rfl, Has.r 4 rfl, Has.r 5 rfl, Has.r 6 rfl, Has.r 7 rfl, Has.r 8 rfl, Has.r 9 rfl, trivial⟩ ?_
        refine LM.q 6 rfl (by kernel_rfl) (Ev.cast (u := .int .i64 ((rbE b Ls (i + 1)) : Int)) (Ev.load rfl rfl rfl (Src.r 1 rfl) (I64_get (by rw [rbEs_len]; omega))) (by rw [rbEs_get (by omega)])) rfl ⟨Has.r 0 rfl, Has.r 1 rfl, Has.r 2 rfl, Has.r 3 rfl, Has.r 4 rfl, Has.r 5 rfl, Has.r 6 rfl, Has.r 7 rfl, Has.r 8 rfl, Has.r 9 rfl, trivial⟩ ?_
        refine LM.alt [7, 8] (by kernel_rfl) (by decide) ⟨Has.r 0 rfl, Has.r 1 rfl, Has.r 2 rfl, Has.r 3 rfl, Has.r 4 rfl, Has.r 5 rfl, Has.r 6 rfl, Has.r 7 rfl, Has.r 8 rfl, Has.r 9 rfl, trivial⟩ ⟨⟨_, rfl, ?_⟩, ⟨_, rfl, ?_⟩, trivial⟩
        · skip
          refine L.callR (js := []) (js' := []) (llast_k g a gok ghb us U uc ghu ((rbE b Ls (i + 1)) : Int) ⟨(rbR b Ls i), ((rbE b Ls i) : Int), 0⟩ (by rw [gsz, hg]; exact rb_last ok hu nd h15 (by rw [hul3, h15]; omega) (by omega) (by omega))) rfl rfl rfl (by decide) ⟨(Has.r 5 rfl), (Has.r 2 rfl), (Has.r 6 rfl), (Has.r 7 rfl), (Has.r 4 rfl), trivial⟩ rfl ?_
          rintro _ _ _ ⟨T123, t123, rfl, rfl, rfl⟩
          refine L.nil (QE.m (by kernel_rfl) ?_)
          refine LM.f 8 rfl (by kernel_rfl) ⟨Has.r 1 rfl, Has.r 2 rfl, Has.r 3 rfl, Has.r 4 rfl, Has.r 5 rfl, Has.r 6 rfl, Has.r 7 rfl, Has.r 8 rfl, Has.r 9 rfl, Has.r 10 rfl, trivial⟩ ?_
          refine L.alloc rfl rfl rfl (fun A17 => ?_)
          refine L.nil (QE.m (by kernel_rfl) ?_)
          refine LM.cut [] (by kernel_rfl) ⟨Has.r 1 rfl, Has.r 2 rfl, Has.r 3 rfl, Has.r 4 rfl, Has.r 5 rfl, Has.r 6 rfl, Has.r 7 rfl, Has.r 8 rfl, Has.r 9 rfl, Has.r 10 rfl, trivial⟩ ?_
          refine LM.f 9 rfl (by kernel_rfl) trivial ?_
          refine L.storeA (j := 0) rfl rfl rfl rfl rfl (Nat.zero_lt_succ _) rfl rfl ?_
          refine L.nil (QE.m (by kernel_rfl) ?_)
          refine LM.nil (by kernel_rfl) trivial ?_
          refine QE.joined ((A17, T123, t123)) (by exact trivial) (by exact Le.mk' (rs := [0, 5, 3, 2, 1, 4, 6, 7, 8, 9, 10]) (hs := [0]) ⟨rfl, rfl, rfl, rfl, rfl, rfl, rfl, trivial⟩ ⟨rfl, rfl, rfl, rfl, rfl, rfl, rfl, rfl, rfl, rfl, rfl, trivial⟩ ⟨rfl, trivial⟩ (by decide))
        · skip
          refine L.alloc rfl rfl rfl (fun A17 => ?_)
          refine L.nil (QE.m (by kernel_rfl) ?_)
          refine LM.f 7 rfl (by kernel_rfl) ⟨Has.r 0 rfl, Has.r 1 rfl, Has.r 2 rfl, Has.r 3 rfl, Has.r 4 rfl, Has.r 5 rfl, Has.r 6 rfl, Has.r 7 rfl, Has.r 8 rfl, Has.r 9 rfl, trivial⟩ ?_
          refine L.callR (js := []) (js' := [0]) (llast_k g a gok ghb us U uc ghu ((rbE b Ls (i + 1)) : Int) ⟨(rbR b Ls i), ((rbE b Ls i) : Int), 0⟩ (by rw [gsz, hg]; exact rb_last ok hu nd h15 (by rw [hul3, h15]; omega) (by omega) (by omega))) rfl rfl rfl (by decide) ⟨(Has.r 5 rfl), (Has.r 2 rfl), (Has.r 6 rfl), (Has.r 7 rfl), (Has.r 4 rfl), trivial⟩ rfl ?_
          rintro _ _ _ ⟨T123, t123, rfl, rfl, rfl⟩
          refine L.norm (H' := [_]) [0] ⟨rfl, trivial⟩ (by decide) ?_
          refine L.nil (QE.m (by kernel_rfl) ?_)
          refine LM.cut [] (by kernel_rfl) ⟨Has.r 1 rfl, Has.r 2 rfl, Has.r 3 rfl, Has.r 4 rfl, Has.r 5 rfl, Has.r 6 rfl, Has.r 7 rfl, Has.r 8 rfl, Has.r 9 rfl, Has.r 10 rfl, trivial⟩ ?_
          refine LM.f 9 rfl (by kernel_rfl) trivial ?_
          refine L.storeA (j := 0) rfl rfl rfl rfl rfl (Nat.zero_lt_succ _) rfl rfl ?_
          refine L.nil (QE.m (by kernel_rfl) ?_)
          refine LM.nil (by kernel_rfl) trivial ?_
          refine QE.joined ((A17, T123, t123)) (by exact trivial) (by exact Le.mk' (rs := [0, 5, 3, 2, 1, 4, 6, 7, 8, 9, 10]) (hs := [0]) ⟨rfl, rfl, rfl, rfl, rfl, rfl, rfl, trivial⟩ ⟨rfl, rfl, rfl, rfl, rfl, rfl, rfl, rfl, rfl, rfl, rfl, trivial⟩ ⟨rfl, trivial⟩ (by decide))
      · skip
        rintro ⟨A17, T123, t123⟩ _
        dsimp only
        refine QE.seq ?_
        refine C.seq ?_
        refine C.freeze 0 rfl [] (by decide) (by decide) ?_
        refine C.regionQ (by kernel_rfl) ?_
        refine LQ.step (Ev.fieldAddr rfl rfl rfl rfl rfl rfl (Src.r 0 rfl) (Nat.zero_lt_succ _) rfl) rfl ?_
        refine LQ.step (Ev.load rfl rfl rfl (Src.r 0 rfl) rfl) rfl ?_
        refine LQ.step (Ev.pure rfl) rfl ?_
        refine LQ.step (Ev.pure rfl) rfl ?_
        refine LQ.bool 127 rfl (fun hg127 => ?_) (fun hg127 => ?_)
        · skip
          replace hg127 := b_ne hg127
          exact (hg127 rfl).elim
        · skip
          replace hg127 := b_eq hg127
          refine LQ.yes rfl ?_
          refine LQ.step (Ev.fieldAddr rfl rfl rfl rfl rfl rfl (Src.r 0 rfl) (Nat.zero_lt_succ _) rfl) rfl ?_
          refine LQ.yes rfl ?_
          refine LQ.step (Ev.load rfl rfl rfl (Src.r 0 rfl) rfl) rfl ?_
          refine LQ.yes rfl ?_
          refine LQ.step (Ev.pure rfl) rfl ?_
          refine LQ.yes rfl ?_
          refine LQ.step (Ev.pure rfl) rfl ?_
          refine LQ.yes rfl ?_
          refine LQ.step (Ev.idx1 (k := i) rfl rfl rfl rfl rfl rfl (by omega) (by omega) (Src.r 4 rfl) (by rw [I64_len, rbEs_len]; omega)) rfl ?_
          refine LQ.yes rfl ?_
          refine LQ.step (Ev.cast (u := .int .i64 ((rbE b Ls i) : Int)) (Ev.load rfl rfl rfl (Src.r 4 rfl) (I64_get (by rw [rbEs_len]; omega))) (by rw [rbEs_get (by omega)])) rfl ?_
          refine LQ.yes rfl ?_
          refine LQ.step (Ev.pure rfl) rfl ?_
          refine LQ.step (Ev.pure rfl) rfl ?_
          refine LQ.step (Ev.pure rfl) rfl ?_
          refine LQ.bool 136 rfl (fun hg136 => ?_) (fun hg136 => ?_)
          · skip
            replace hg136 := b_ne hg136
            exact (hg136 rfl).elim
          · skip
            replace hg136 := b_eq hg136
            refine LQ.yes rfl ?_
            refine LQ.step (Ev.fieldAddr rfl rfl rfl rfl rfl rfl (Src.r 0 rfl) (Nat.zero_lt_succ _) rfl) rfl ?_
            refine LQ.yes rfl ?_
            refine LQ.step (Ev.load rfl rfl rfl (Src.r 0 rfl) rfl) rfl ?_
            refine LQ.yes rfl ?_
            refine LQ.step (Ev.pure rfl) rfl ?_
            refine LQ.yes rfl ?_
            refine LQ.step (Ev.pure rfl) rfl ?_
            refine LQ.yes rfl ?_
            refine LQ.step (Ev.idx1 (k := i) rfl rfl rfl rfl rfl rfl (by omega) (by omega) (Src.r 5 rfl) (by rw [rowsV_len (by rw [B8_len, rbRs_len]; exact hrs), B8_len, rbRs_len]; omega)) rfl ?_
            refine LQ.yes rfl ?_
            refine LQ.step (Ev.load rfl rfl rfl (Src.r 5 rfl) (rows8_get (by rw [rbRs_len]; exact hrs) (by rw [rbRs_len]; omega))) rfl ?_
            refine LQ.yes rfl ?_
            refine LQ.call (.bool true) (Ctr.tb true (same_g T123 (rs.getD i (none, 0)).1 t123 (rs.getD i (none, 0)).2 (rbR b Ls i) ((rbRs b Ls k).getD i []) (rbR b Ls i).length ((rbRs b Ls k).getD i []).length rfl rfl (by omega) (by omega)) (by rw [rbRs_get (by omega)]; simp)) (fun _ _ _ h => h.1) rfl ⟨(Has.r 1 rfl), ((Has.kid 6 rfl (by rw [B8_len]; exact (by rw [rbRs_len]; exact hrs)) (i) (by rw [B8_len]; exact (by rw [rbRs_len]; omega))).cast (B8_get _)), trivial⟩ rfl ?_
            refine LQ.yes rfl ?_
            refine LQ.step (Ev.pure rfl) rfl ?_
            refine LQ.step (Ev.pure rfl) rfl ?_
            refine LQ.step (Ev.pure rfl) rfl ?_
            refine LQ.yes rfl ?_
            refine LQ.step (Ev.fieldAddr rfl rfl rfl rfl rfl rfl (Src.r 0 rfl) (Nat.zero_lt_succ _) rfl) rfl ?_
            refine LQ.yes rfl ?_
            refine LQ.step (Ev.load rfl rfl rfl (Src.r 0 rfl) rfl) rfl ?_
            refine LQ.yes rfl ?_
            refine LQ.call (.int .i64 ((i : Nat) : Int)) (sect_g T123 (rbR b Ls i) t123 i rI.head (by omega)) (fun _ _ _ h => h.1) rfl ⟨(Has.r 1 rfl), trivial⟩ rfl ?_
            refine LQ.yes rfl ?_
            refine LQ.step (Ev.pure rfl) rfl ?_
            refine LQ.yes rfl ?_
            refine LQ.step (Ev.pure rfl) rfl ?_
            refine LQ.step (Ev.pure rfl) rfl ?_
            refine LQ.nil ?_
            refine QE.seq ?_
            refine C.condB 152 rfl (fun hc152 => ?_) (fun hc152 => ?_)
            · skip
              replace hc152 := b_ne hc152
              exact (hc152 (by omega)).elim
            · skip
              replace hc152 := b_eq hc152
              refine C.skip ?_
              refine QE.blkN ?_
              refine QE.seq ?_
              refine C.region ?_
              refine L.step (Ev.pure rfl) rfl ?_
              refine L.step (Ev.sub rfl rfl (by omega) (by omega)) rfl ?_
              refine L.step (Ev.pure rfl) rfl ?_
              refine L.nil ?_
              refine QE.round (i := i + 1) (i) (by omega) (by omega) (by exact Le.mk' (rs := [5, 4, 3, 6, 2, 7, 8, 9, 10, 11]) (hs := []) ⟨rfl, rfl, rfl, rfl, rfl, (congrArg some (congrArg (Value.int .i64) (by omega))), trivial⟩ ⟨rfl, rfl, rfl, rfl, rfl, rfl, rfl, rfl, rfl, rfl, trivial⟩ trivial (by decide))
    · skip
      replace hc113 := of_decide_eq_false hc113
      refine C.exit ?_
      refine QE.tX ?_
      refine QE.tX ?_
      refine QE.blk ?_
      refine QE.seq ?_
      refine C.seq ?_
      refine C.region ?_
      refine L.step (Ev.pure rfl) rfl ?_
      refine L.step (Ev.pure rfl) rfl ?_
      refine L.nil ?_
      refine QE.seq ?_
      refine C.ret ?_
      refine QE.ret (js := []) (hs := []) (vs := [_]) rfl ⟨rfl, trivial⟩ (by decide) ?_
      exact ⟨rfl, rfl, rfl⟩

end Go.Proofs.Ythfjkdgopkmgoaa
