/-
  A cheapest patch: Plain.
-/
import Derived.Test.YtbkmahjhhncfcaaGreatQWMtD
import Derived.Test.YtbkmahjhhncfcaaGreatQMh
import Derived.Test.YtbkmahjhhncfcaaGreatQSlT
namespace Go.Proofs.YtbkmahjhhncfcaaGreat
open Go.Sl

theorem clone8_c (A : Option Addr) (n c : Nat) (xs : List Value) (hx : ∀ v ∈ xs, v.oneCell' = true) (hl : xs.length = n) (hn : n ≤ 1000000) :
   Ctr X 56 [.slice A n c] [Rd A xs] [] (fun v R' H' => ∃ A' c', v = .slice A' n c' ∧ R' = [] ∧ H' = [Own 5 1 A' n c' xs]) := by
 refine Ctr.of (X := X) (fn := Tryz.f56) Tryz.func56 rfl (by kernel_rfl) rfl ?_
 intro β
 refine C.seq (C.region ?_); refine Lpu rfl rfl ?_; refine L.nil (QE.seq (C.seq (C.seq (C.region ?_)))); refine Lpu rfl rfl ?_; refine L.step (Ev.eqNil rfl rfl rfl rfl) rfl ?_; refine L.nil (QE.seq ?_)
 refine C.condB 4 rfl (fun hc4 => ?_) (fun hc4 => ?_)
 ·
  refine C.seq (C.region ?_); refine Lpu rfl rfl ?_; refine L.nil (QE.seq (C.ret (QE.tR ?_)))
  obtain rfl : A = none := by simpa using hc4
  refine QE.rdNone 0 rfl (fun h0 => ?_)
  subst h0
  subst hl
  refine QE.nil_own 5 1 ?_; refine QE.ret (js := []) (hs := [0]) (vs := [_]) rfl ⟨rfl, trivial⟩ (by decide) ?_
  exact ⟨none, 0, rfl, rfl, rfl⟩
 ·
  refine C.skip (QE.seq (C.seq (C.region ?_)))
  refine L.lit rfl rfl rfl rfl rfl (by rfl) (by rfl) (by rfl) rfl rfl (fun A5 => ?_)
  refine Lpu rfl rfl ?_
  refine L.append (j := 0) rfl rfl rfl rfl (by decide) rfl rfl rfl rfl (Src.r 0 rfl) (by rw [hl]; exact (Nat.mul_one _).symm) hx (by omega) (by show _ * 1 ≤ _; omega) rfl (fun A7 cc7 => ?_)
  refine Lpu rfl rfl ?_; refine L.nil (QE.seq (C.ret ?_)); refine QE.ret (js := []) (hs := [0]) (vs := [_]) rfl ⟨rfl, trivial⟩ (by decide) ?_
  exact ⟨A7, cc7, by simp only [Nat.zero_add]; rfl, rfl, by simp only [sel, Nat.zero_add, List.nil_append]; rfl⟩

theorem reverse_c (A : Option Addr) (c : Nat) (l : List Pq) (hl : l.length ≤ 1000000) :
   Ctr X 57 [.slice A l.length c] [] [Own 88 5 A l.length c (pqV l)] (fun v R' H' => v = .tuple #[] ∧ R' = [] ∧ H' = [Own 88 5 A l.length c (pqV l.reverse)]) := by
 refine Ctr.of (X := X) (fn := Tryz.f57) Tryz.func57 rfl (by kernel_rfl) rfl ?_
 intro β
 refine C.seq (C.region ?_); refine Lpu rfl rfl ?_; refine Lpu rfl rfl ?_; refine L.step (Ev.sub rfl rfl (by omega) (by omega)) rfl ?_; refine Lpu rfl rfl ?_; refine Lpu rfl rfl ?_; refine L.nil (QE.seq (C.block ?_)); refine C.loop (fun s : Nat × List Pq => [(0, .slice A l.length c), (2, .int .i64 (s.1 : Int)), (3, .int .i64 ((l.length : Int) - 1 - (s.1 : Int)))]) (fun s : Nat × List Pq => []) (fun s : Nat × List Pq => [Own 88 5 A l.length c (pqV s.2)]) (fun s : Nat × List Pq => RvI Pq.zero l s.2 s.1 ∧ (s.1 < l.length ∨ s.1 = 0)) (fun s : Nat × List Pq => l.length - s.1) (0, l) ⟨RvI.start, .inr rfl⟩ (by exact Le.mk' (rs := []) (hs := [0]) ⟨rfl, rfl, (congrArg (fun n => some (Value.int .i64 n)) (by dsimp only; omega)), trivial⟩ trivial ⟨rfl, trivial⟩ (by decide)) ?_
 rintro ⟨i, xs⟩ ⟨hrv, hil⟩
 dsimp only at hrv hil ⊢
 have hxl := hrv.1
 refine C.seq (C.seq (C.region ?_)); refine Lpu rfl rfl ?_; refine Lpu rfl rfl ?_; refine Lpu rfl rfl ?_; refine L.nil (QE.seq ?_)
 refine C.condB 9 rfl (fun hc9 => ?_) (fun hc9 => ?_)
 ·
  replace hc9 := of_decide_eq_true hc9
  refine C.skip (QE.seq (C.seq (C.block ?_))); refine C.regionP ?_; refine LP.mv 2 rfl (by kernel_rfl) rfl rfl ?_; refine LP.mv 3 rfl (by kernel_rfl) rfl rfl ?_; refine LP.m [Rd A (pqV xs)] ⟨Has.o 0 rfl, trivial⟩ ?_; refine LM.q 0 rfl (by kernel_rfl) (Ev.pure rfl) rfl ⟨Has.o 0 rfl, trivial⟩ ?_; refine LM.q 1 rfl (by kernel_rfl) (Ev.pure rfl) rfl ⟨Has.o 0 rfl, trivial⟩ ?_; refine LM.q 4 rfl (by kernel_rfl) (Ev.pure rfl) rfl ⟨Has.o 0 rfl, trivial⟩ ?_; refine LM.q 5 rfl (by kernel_rfl) (Ev.pure rfl) rfl ⟨Has.o 0 rfl, trivial⟩ ?_; refine LM.q 6 rfl (by kernel_rfl) (Ev.idx (k := (l.length - 1 - i)) (m := (l.length - 1 - i) * 5) rfl rfl rfl rfl rfl (by omega) (by omega) (Src.r 0 rfl) (pqV_pos (k := (l.length - 1 - i)) (by omega)) rfl) rfl ⟨Has.o 0 rfl, trivial⟩ ?_; refine LM.q 7 rfl (by kernel_rfl) (Ev.loadA (vs := (xs.getD (l.length - 1 - i) Pq.zero).cells) rfl rfl rfl (Src.r 0 rfl) (pqV_at xs (l.length - 1 - i) (by omega)) rfl (by decide)) rfl ⟨Has.o 0 rfl, trivial⟩ ?_; refine LM.q 8 rfl (by kernel_rfl) (Ev.pure rfl) rfl ⟨Has.o 0 rfl, trivial⟩ ?_; refine LM.f 9 rfl (by kernel_rfl) ⟨Has.o 0 rfl, trivial⟩ ?_; refine Lpu rfl rfl ?_
  refine L.nil (QE.m (by kernel_rfl) ?_)
  refine LM.f 10 rfl (by kernel_rfl) ⟨Has.o 0 rfl, trivial⟩ ?_; refine L.step (Ev.idx (k := i) (m := i * 5) rfl rfl rfl rfl rfl rfl (by omega) (Src.o 0 rfl) (pqV_pos (k := i) (by omega)) rfl) rfl ?_
  refine L.nil (QE.m (by kernel_rfl) ?_)
  refine LM.f 11 rfl (by kernel_rfl) ⟨Has.o 0 rfl, trivial⟩ ?_; refine L.step (Ev.loadA (vs := (xs.getD i Pq.zero).cells) rfl rfl rfl (Src.o 0 rfl) (pqV_at xs i (by omega)) rfl (by decide)) rfl ?_
  refine L.nil (QE.m (by kernel_rfl) ?_)
  refine LM.cut [] (by kernel_rfl) ⟨Has.o 0 rfl, trivial⟩ ?_; refine LM.f 12 rfl (by kernel_rfl) trivial ?_; refine L.step (Ev.idx (k := i) (m := i * 5) rfl rfl rfl rfl rfl rfl (by omega) (Src.o 0 rfl) (pqV_pos (k := i) (by omega)) rfl) rfl ?_
  refine L.nil (QE.m (by kernel_rfl) ?_)
  refine LM.f 13 rfl (by kernel_rfl) trivial ?_; refine L.storeA (j := 0) (k := i * 5) (vs := (xs.getD (l.length - 1 - i) Pq.zero).cells) rfl rfl rfl (Pq.cells_one _) rfl (Nat.zero_lt_succ _) rfl (pqV_ble _ (by omega)) ?_
  rw [pqV_put _ (by omega)]
  refine L.nil (QE.m (by kernel_rfl) ?_)
  refine LM.f 14 rfl (by kernel_rfl) trivial ?_; refine L.step (Ev.idx (k := (l.length - 1 - i)) (m := (l.length - 1 - i) * 5) rfl rfl rfl rfl rfl (by omega) (by omega) (Src.o 0 rfl) (pqV_pos (k := (l.length - 1 - i)) (by rw [List.length_set]; omega)) rfl) rfl ?_
  refine L.nil (QE.m (by kernel_rfl) ?_)
  refine LM.f 15 rfl (by kernel_rfl) trivial ?_; refine L.storeA (j := 0) (k := (l.length - 1 - i) * 5) (vs := (xs.getD i Pq.zero).cells) rfl rfl rfl (Pq.cells_one _) rfl (Nat.zero_lt_succ _) rfl (pqV_ble _ (by rw [List.length_set]; omega)) ?_
  rw [pqV_put _ (by rw [List.length_set]; omega)]
  refine L.nil (QE.m (by kernel_rfl) ?_)
  refine LM.nil (by kernel_rfl) trivial ?_; refine QE.blkN ?_; refine QE.seq (C.region ?_); refine Lpu rfl rfl ?_; refine L.step (Ev.add rfl rfl (by omega) (by omega)) rfl ?_; refine Lpu rfl rfl ?_; refine L.step (Ev.sub rfl rfl (by omega) (by omega)) rfl ?_; refine Lpu rfl rfl ?_; refine Lpu rfl rfl ?_; refine L.nil ?_
  refine QE.round (i := (i, xs)) ((i + 1, (xs.set i (xs.getD (l.length - 1 - i) Pq.zero)).set (l.length - 1 - i) (xs.getD i Pq.zero))) (by exact ⟨hrv.step (by omega), by dsimp only; omega⟩) (by dsimp only; omega) (by exact Le.mk' (rs := []) (hs := [0]) ⟨rfl, rfl, (congrArg (fun n => some (Value.int .i64 n)) (by dsimp only; omega)), trivial⟩ trivial ⟨rfl, trivial⟩ (by decide))
 ·
  replace hc9 := of_decide_eq_false hc9
  refine C.exit ?_; refine QE.tX ?_; refine QE.tX ?_; refine QE.blk ?_; refine QE.retN ?_; refine QE.ret (js := []) (hs := [0]) (vs := []) rfl trivial (by decide) ?_
  have hd := hrv.done (by omega) (by omega)
  subst hd
  exact ⟨rfl, rfl, rfl⟩

theorem plainE_c (A B : Option Addr) (ol nl oc nc : Nat) (ho : ol ≤ 1000000) (hn : nl ≤ 1000000) (hb : 65536 < ol ∨ 65536 < nl) :
   Ctr X 24 [.slice A ol oc, .slice B nl nc] [] [] (fun v R' H' => v = .tuple #[.agg (List.toArray [.bool false, .int .i64 0, .int .i64 0, .slice none 0 0]), .int .i64 2] ∧ R' = [] ∧ H' = []) := by
 refine Ctr.of (X := X) (fn := Tryz.f24) Tryz.func24 rfl (by kernel_rfl) rfl ?_
 intro β
 refine C.seq (C.region ?_)
 refine L.alloc rfl rfl rfl (fun A4 => ?_)
 refine Lpu rfl rfl ?_; refine L.nil (QE.seq (C.seq (C.seq (C.region ?_)))); refine Lpu rfl rfl ?_; refine Lpu rfl rfl ?_; refine Lpu rfl rfl ?_; refine Lpu rfl rfl ?_; refine Lpu rfl rfl ?_; refine Lpu rfl rfl ?_; refine L.nil (QE.seq ?_)
 refine C.condB 15 rfl (fun hc15 => ?_) (fun hc15 => ?_)
 ·
  replace hc15 := of_decide_eq_true hc15
  refine C.seq (C.region ?_); refine L.step (Ev.build rfl rfl rfl rfl rfl rfl rfl) rfl ?_; refine L.storeA (j := 0) rfl rfl rfl rfl rfl (Nat.zero_lt_succ _) rfl rfl ?_; refine Lpu rfl rfl ?_; refine L.nil (QE.seq (C.ret (QE.tR ?_))); refine QE.ret (js := []) (hs := []) (vs := [_, _]) rfl ⟨⟨_, _, 0, _, rfl, rfl, Src.o 0 rfl, .inl ⟨rfl, by decide, _, rfl, rfl, rfl⟩⟩, rfl, trivial⟩ (by decide) ?_
  exact ⟨rfl, rfl, rfl⟩
 ·
  replace hc15 := of_decide_eq_false hc15
  rw [if_pos rfl] at hc15; split at hc15 <;> omega

set_option maxHeartbeats 4000000 in
theorem plain_c (OA NA : Option Addr) (old new : List UInt8) (oc nc : Nat) (ho : old.length ≤ 65536) (hn : new.length ≤ 4096) (hnc : new.length ≤ nc) :
   Ctr X 24 [.slice OA old.length oc, .slice NA new.length nc] [Rd OA (U8 old), Rd NA (U8 new)] [] (fun v R' H' => ∃ (A : Option Addr) (c : Nat) (l : List Pq), v = .tuple #[.agg (List.toArray [.bool false, .int .i64 (old.length : Int), .int .i64 (new.length : Int), .slice A l.length c]), .int .i64 0] ∧ R' = [Rd A (pqV l), KidsR (pqH l) (B8 (pqD l))] ∧ H' = [] ∧ MkQ old new l (refL old new : Int)) := by
 refine Ctr.of (X := X) (fn := Tryz.f24) Tryz.func24 rfl (by kernel_rfl) rfl ?_
 intro β
 refine C.seq (C.region ?_)
 refine L.alloc rfl rfl rfl (fun A4 => ?_)
 refine Lpu rfl rfl ?_; refine L.nil (QE.seq (C.seq (C.seq (C.region ?_)))); refine Lpu rfl rfl ?_; refine Lpu rfl rfl ?_; refine Lpu rfl rfl ?_; refine Lpu rfl rfl ?_; refine Lpu rfl rfl ?_; refine Lpu rfl rfl ?_; refine L.nil (QE.seq ?_)
 refine C.condB 15 rfl (fun hc15 => ?_) (fun hc15 => ?_)
 ·
  replace hc15 := of_decide_eq_true hc15
  omega
 ·
  replace hc15 := of_decide_eq_false hc15
  refine C.skip (QE.seq (C.seq (C.region ?_))); refine Lpu rfl rfl ?_; refine Lpu rfl rfl ?_; refine Lpu rfl rfl ?_; refine Lpu rfl rfl ?_; refine L.step (Ev.build rfl rfl rfl rfl rfl rfl rfl) rfl ?_
  refine L.alloc rfl rfl rfl (fun A6 => ?_)
  refine L.storeA (j := 1) rfl rfl rfl rfl rfl (Nat.zero_lt_succ _) rfl rfl ?_; refine L.nil (QE.seq (C.seq (C.region ?_))); refine Lpu rfl rfl ?_; refine Lpu rfl rfl ?_; refine L.call (js := []) (js' := [0, 1]) (seek_c OA NA old new oc nc ho (by omega) hnc) rfl rfl rfl (by decide) (Hq [0, 1] rfl) rfl ?_
  rintro _ _ _ ⟨SA, ss, rfl, rfl, rfl, hfi⟩
  refine L.norm (H' := [_, _, _]) [0, 1, 2] ⟨rfl, rfl, rfl, trivial⟩ (by decide) ?_; refine Lpu rfl rfl ?_; refine L.nil (QE.seq (C.seq (C.seq ?_))); refine C.freeze 0 rfl [1, 2] (by decide) (by decide) ?_; refine C.norm (H' := [_, _]) [0, 1] ⟨rfl, rfl, trivial⟩ (by decide) ?_; refine C.own0 88 5 ?_; refine C.region ?_; refine Lpu rfl rfl ?_; refine Lpu rfl rfl ?_; refine Lpu rfl rfl ?_; refine L.nil (QE.seq (C.block ?_)); refine C.kids0 5 ?_; refine C.loop (fun s : Nat × List Pq × Option Addr × Nat => [(1, .slice NA new.length nc), (4, ptrOf A4 0), (6, ptrOf A6 0), (7, .slice SA (new.length + 1) (new.length + 1)), (8, .int .i64 (s.1 : Int))]) (fun s : Nat × List Pq × Option Addr × Nat => [Rd SA (ss.flatMap (spC NA nc)), Rd NA (U8 new)]) (fun s : Nat × List Pq × Option Addr × Nat => [Own 35 4 A4 1 1 [.bool false, .int .i64 0, .int .i64 0, .slice none 0 0], Own 35 4 A6 1 1 [.bool false, .int .i64 (old.length : Int), .int .i64 (new.length : Int), .slice s.2.2.1 s.2.1.length s.2.2.2], Own 88 5 s.2.2.1 s.2.1.length s.2.2.2 (pqV s.2.1), OwnKids 5 (pqH s.2.1) (B8 (pqD s.2.1))]) (fun s : Nat × List Pq × Option Addr × Nat => s.1 ≤ new.length ∧ TlOk old new (cst ss) s.1 s.2.1) (fun s : Nat × List Pq × Option Addr × Nat => s.1) (new.length, [], none, 0) ⟨Nat.le_refl _, TlOk.start _ _ _⟩ (by exact Le.mk' (rs := [0, 2]) (hs := [0, 1, 2, 3]) ⟨rfl, rfl, rfl, rfl, rfl, trivial⟩ ⟨rfl, rfl, trivial⟩ ⟨rfl, rfl, rfl, rfl, trivial⟩ (by decide)) ?_
  rintro ⟨i, os, A, c⟩ ⟨hi, htl⟩
  dsimp only at hi htl ⊢
  have hsl := hfi.len
  have hol := htl.len
  refine C.seq (C.seq (C.region ?_)); refine Lpu rfl rfl ?_; refine Lpu rfl rfl ?_; refine L.nil (QE.seq ?_)
  refine C.condB 28 rfl (fun hc28 => ?_) (fun hc28 => ?_)
  ·
   replace hc28 := of_decide_eq_true hc28
   have hst := hfi.ok i (by omega) (by omega)
   have hdl := hst.2.2.1
   have hdn : (spD new i (ss.getD i Sp.zero)).length ≤ 4096 := by unfold spD; split; rw [segN_len (by omega)]; omega; exact Nat.zero_le _
   refine C.skip (QE.seq (C.seq (C.block (C.seq (C.region ?_))))); refine Lpu rfl rfl ?_; refine Lpu rfl rfl ?_; refine L.step (Ev.idx (k := i) (m := i * 7) rfl rfl rfl rfl rfl rfl (by omega) (Src.r 0 rfl) (flat_pos (spC_len NA nc) (by decide) (k := i) (by omega)) rfl) rfl ?_; refine L.step (Ev.fieldAddr rfl rfl rfl rfl rfl rfl (Src.r 0 rfl) (flat_pos (spC_len NA nc) (by decide) (k := i) (by omega)) rfl) rfl ?_; refine L.step (Ev.loadA (vs := (spC NA nc (ss.getD i Sp.zero)).drop 2) rfl rfl rfl (Src.r 0 rfl) (sp_at (by omega)) rfl (by decide)) rfl ?_
   refine L.alloc rfl rfl rfl (fun A9 => ?_)
   refine L.storeA (j := 4) (k := 0) (vs := (spC NA nc (ss.getD i Sp.zero)).drop 2) rfl rfl rfl (sp_one2 NA nc (ss.getD i Sp.zero)) rfl (Nat.zero_lt_succ _) rfl rfl ?_; refine L.nil (QE.seq (C.seq ?_)); refine C.more (r := Rd (spA NA nc (ss.getD i Sp.zero)) (U8 (spD new i (ss.getD i Sp.zero)))) ((Has.r 1 rfl).spD hnc) ?_; refine C.region ?_; refine L.step (Ev.fieldAddr rfl rfl rfl rfl rfl rfl (Src.o 4 rfl) (Nat.zero_lt_succ _) rfl) rfl ?_; refine L.step (Ev.cast (u := .slice (spA NA nc (ss.getD i Sp.zero)) (spD new i (ss.getD i Sp.zero)).length (spK nc (ss.getD i Sp.zero))) (Ev.load rfl rfl rfl (Src.o 4 rfl) rfl) (spS_eq NA nc hst (by omega))) rfl ?_; refine L.call (js := []) (js' := [0, 1, 2, 3, 4]) (clone8_c (spA NA nc (ss.getD i Sp.zero)) (spD new i (ss.getD i Sp.zero)).length (spK nc (ss.getD i Sp.zero)) (U8 (spD new i (ss.getD i Sp.zero))) (U8_one _) (U8_len _) (by omega)) rfl rfl rfl (by decide) (Hq [0] rfl) rfl ?_
   rintro _ _ _ ⟨A41, c41, rfl, rfl, rfl⟩
   refine L.norm (H' := [_, _, _, _, _, _]) [0, 1, 2, 3, 4, 5] ⟨rfl, rfl, rfl, rfl, rfl, rfl, trivial⟩ (by decide) ?_; refine L.step (Ev.fieldAddr rfl rfl rfl rfl rfl rfl (Src.o 5 rfl) (Nat.zero_lt_succ _) rfl) rfl ?_; refine L.store (j := 5) rfl rfl rfl rfl rfl rfl rfl rfl ?_; refine L.nil (QE.seq (C.region ?_)); refine L.step (Ev.fieldAddr rfl rfl rfl rfl rfl rfl (Src.o 2 rfl) (Nat.zero_lt_succ _) rfl) rfl ?_; refine L.step (Ev.load rfl rfl rfl (Src.o 2 rfl) rfl) rfl ?_; refine L.step (Ev.loadA rfl rfl rfl (Src.o 5 rfl) rfl rfl (by decide)) rfl ?_
   refine L.lit1S (cs := (opS new i (ss.getD i Sp.zero) A41 c41).cells) rfl rfl rfl rfl (Nat.zero_lt_succ _) rfl rfl rfl (fun A46 => ?_)
   refine L.append (j := 3) rfl rfl rfl rfl (by decide) rfl rfl rfl rfl (Src.o 6 rfl) rfl (allOne rfl) (by omega) (by show _ * 56 ≤ _; omega) rfl (fun A47 cc47 => ?_)
   refine L.step (Ev.fieldAddr rfl rfl rfl rfl rfl rfl (Src.o 2 rfl) (Nat.zero_lt_succ _) rfl) rfl ?_; refine L.store (j := 2) rfl rfl rfl rfl rfl rfl rfl rfl ?_; refine L.nil ?_; refine QE.blkN ?_; refine QE.seq (C.region ?_); refine Lpu rfl rfl ?_; refine Lpu rfl rfl ?_; refine L.step (Ev.idx (k := i) (m := i * 7) rfl rfl rfl rfl rfl rfl (by omega) (Src.r 1 rfl) (flat_pos (spC_len NA nc) (by decide) (k := i) (by omega)) rfl) rfl ?_; refine L.step (Ev.fieldAddr rfl rfl rfl rfl rfl rfl (Src.r 1 rfl) (flat_pos (spC_len NA nc) (by decide) (k := i) (by omega)) rfl) rfl ?_; refine L.step (Ev.load rfl rfl rfl (Src.r 1 rfl) (sp_from (by omega))) rfl ?_; refine Lpu rfl rfl ?_; refine L.nil ?_; refine QE.absorb 4 0 rfl rfl [1, 2, 3, 5, 6] (by decide) ?_
   have hlen1 : (os ++ [opS new i (ss.getD i Sp.zero) A41 c41]).length = os.length + 1 := by rw [List.length_append]; rfl
   refine QE.round (i := (i, os, A, c)) (((ss.getD i Sp.zero).f, os ++ [(opS new i (ss.getD i Sp.zero) A41 c41)], A47, cc47)) (by exact ⟨by dsimp only; have := hst.2.1; omega, htl.step hst (by omega) A41 c41⟩) (by have := hst.2.1; exact this) (by exact Le.mk' (rs := [1, 2]) (hs := [1, 2, 3, 0]) ⟨rfl, rfl, rfl, rfl, rfl, trivial⟩ ⟨rfl, rfl, trivial⟩ ⟨rfl, (by dsimp only; rw [hlen1]; rfl), (by dsimp only; rw [hlen1, pqV_app]; rfl), (by dsimp only; rw [pqH_snoc, pqD_snoc]; rfl), trivial⟩ (by decide))
  ·
   replace hc28 := of_decide_eq_false hc28
   obtain rfl : i = 0 := by omega
   have hmk := htl.done hfi.dp.zero ho hn
   rw [dp_ref hfi.dp] at hmk
   refine C.exit ?_; refine QE.tX ?_; refine QE.tX ?_; refine QE.blk ?_; refine QE.seq (C.seq (C.region ?_)); refine L.step (Ev.fieldAddr rfl rfl rfl rfl rfl rfl (Src.o 1 rfl) (Nat.zero_lt_succ _) rfl) rfl ?_; refine L.step (Ev.load rfl rfl rfl (Src.o 1 rfl) rfl) rfl ?_; refine L.call (js := [2]) (js' := [0, 1, 3]) (reverse_c A c os (by omega)) rfl rfl rfl (by decide) trivial rfl ?_
   rintro _ _ _ ⟨rfl, rfl, rfl⟩
   refine L.norm (H' := [_, _, _, _]) [0, 1, 2, 3] ⟨rfl, rfl, rfl, rfl, trivial⟩ (by decide) ?_; refine L.nil (QE.seq (C.seq (C.seq (C.region ?_)))); refine L.step (Ev.fieldAddr rfl rfl rfl rfl rfl rfl (Src.o 2 rfl) (Nat.zero_lt_succ _) rfl) rfl ?_; refine L.step (Ev.load rfl rfl rfl (Src.o 2 rfl) rfl) rfl ?_; refine Lpu rfl rfl ?_; refine Lpu rfl rfl ?_; refine L.nil (QE.seq ?_)
   refine C.condB 55 rfl (fun hc55 => ?_) (fun hc55 => ?_)
   ·
    replace hc55 := of_decide_eq_true hc55
    omega
   ·
    replace hc55 := of_decide_eq_false hc55
    refine C.skip (QE.seq (C.seq (C.region ?_))); refine L.step (Ev.loadA rfl rfl rfl (Src.o 2 rfl) rfl rfl (by decide)) rfl ?_; refine L.storeA (j := 1) rfl rfl rfl rfl rfl (Nat.zero_lt_succ _) rfl rfl ?_; refine Lpu rfl rfl ?_; refine L.nil (QE.seq (C.ret ?_)); refine QE.freeze 0 rfl [1, 2, 3] (by decide) (by decide) ?_; refine QE.norm (H' := [_, _, _]) [0, 1, 2] ⟨rfl, rfl, rfl, trivial⟩ (by decide) ?_; refine QE.freezeKids 2 rfl [0, 1] (by decide) (by decide) ?_; refine QE.norm (H' := [_, _]) [0, 1] ⟨rfl, rfl, trivial⟩ (by decide) ?_; refine QE.more (r := KidsR (pqH os.reverse) (B8 (pqD os.reverse))) ((by rw [pqH_rev, pqD_rev]; exact Has.kidsRev (by rw [pqH_len, B8_len, pqD_len]) (Has.r 0 rfl))) ?_; refine QE.ret (js := [2, 0]) (hs := []) (vs := [_, _]) rfl ⟨⟨_, _, 0, _, rfl, rfl, Src.o 0 rfl, .inl ⟨rfl, by decide, _, rfl, rfl, rfl⟩⟩, rfl, trivial⟩ (by decide) ?_
    exact ⟨A, c, os.reverse, by rw [List.length_reverse]; rfl, rfl, rfl, hmk⟩

end Go.Proofs.YtbkmahjhhncfcaaGreat
