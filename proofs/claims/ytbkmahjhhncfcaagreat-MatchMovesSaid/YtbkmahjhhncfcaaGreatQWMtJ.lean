/-
  Code and Best, and the contract of the match laws' sanity.
-/
import Derived.Test.YtbkmahjhhncfcaaGreatQWMtI
import Derived.Test.YtbkmahjhhncfcaaGreatQWLaK
import Derived.Test.YtbkmahjhhncfcaaGreatQLah
import Derived.Test.YtbkmahjhhncfcaaGreatQWLaQ
namespace Go.Proofs.YtbkmahjhhncfcaaGreat
open Go.Sl

theorem costL_k (OA NA : Option Addr) (old new : List UInt8) (oc nc : Nat) (ho : old.length ≤ 65536) (hn : new.length ≤ 4096) (hnc : new.length ≤ nc) (r : Nat) (hx : refL old new = r) : Ctr X 10 [.slice OA old.length oc, .slice NA new.length nc] [Rd OA (U8 old), Rd NA (U8 new)] [] (fun v R' H' => v = .int .i64 (r : Int) ∧ R' = [] ∧ H' = []) := by
 subst hx
 exact costL_c OA NA old new oc nc ho hn hnc
theorem codeE_c (OB NB : Option Addr) (old new : List UInt8) (oc nc : Nat) (hoc : old.length ≤ oc) (hnc : new.length ≤ nc) (ho : old.length ≤ 65536) (hn : new.length ≤ 65536) (hE : liftE old ≠ 0 ∨ liftE new ≠ 0) :
   Ctr X 13 [.slice OB old.length oc, .slice NB new.length nc] [Rd OB (U8 old), Rd NB (U8 new)] [] (fun v R' H' => v = .tuple #[.agg (List.toArray [.bool false, .int .i64 0, .int .i64 0, .slice none 0 0]), .int .i64 30] ∧ R' = [] ∧ H' = []) := by
 refine Ctr.of (X := X) (fn := Tryz.f13) Tryz.func13 rfl (by kernel_rfl) rfl ?_
 intro β
 refine C.seq (C.region ?_)
 refine L.alloc rfl rfl rfl (fun A4 => ?_)
 refine Lpu rfl rfl ?_; refine L.nil (QE.seq (C.seq (C.region ?_))); refine Lpu rfl rfl ?_; refine L.call (js := []) (js' := [0]) (lift_c OB old oc hoc (by omega)) rfl rfl rfl (by decide) (Hq [0] rfl) rfl ?_
 rintro _ _ _ ⟨W1, M1, L1, l1, rfl, rfl, rfl⟩
 refine L.norm (H' := [_, _, _, _]) [0, 1, 2, 3] ⟨rfl, rfl, rfl, rfl, trivial⟩ (by decide) ?_; refine Lpu rfl rfl ?_; refine Lpu rfl rfl ?_; refine Lpu rfl rfl ?_
 refine L.alloc rfl rfl rfl (fun A6 => ?_)
 refine L.storeA (j := 4) rfl rfl rfl rfl rfl (Nat.zero_lt_succ _) rfl rfl ?_; refine Lpu rfl rfl ?_; refine L.nil (QE.seq (C.seq (C.region ?_))); refine Lpu rfl rfl ?_; refine L.call (js := []) (js' := [0, 1, 2, 3, 4]) (lift_c NB new nc hnc (by omega)) rfl rfl rfl (by decide) (Hq [1] rfl) rfl ?_
 rintro _ _ _ ⟨W2, M2, L2, l2, rfl, rfl, rfl⟩
 refine L.norm (H' := [_, _, _, _, _, _, _, _]) [0, 1, 2, 3, 4, 5, 6, 7] ⟨rfl, rfl, rfl, rfl, rfl, rfl, rfl, rfl, trivial⟩ (by decide) ?_; refine Lpu rfl rfl ?_; refine Lpu rfl rfl ?_; refine Lpu rfl rfl ?_
 refine L.alloc rfl rfl rfl (fun A8 => ?_)
 refine L.storeA (j := 8) rfl rfl rfl rfl rfl (Nat.zero_lt_succ _) rfl rfl ?_; refine Lpu rfl rfl ?_; refine L.nil (QE.seq (C.seq (C.seq (C.region ?_)))); refine Lpu rfl rfl ?_; refine Lpu rfl rfl ?_; refine Lpu rfl rfl ?_
 refine L.bool 23 rfl (fun hg23 => ?_) (fun hg23 => ?_)
 ·
  replace hg23 := b_ne hg23
  refine L.no rfl rfl rfl ?_; refine L.no rfl rfl rfl ?_; refine Lpu rfl rfl ?_; refine L.nil (QE.seq ?_)
  refine C.cond rfl (fun _ => ?_) (fun h => by cases h)
  refine C.seq (C.region ?_); refine L.step (Ev.build rfl rfl rfl rfl rfl rfl rfl) rfl ?_; refine L.storeA (j := 6) rfl rfl rfl rfl rfl (Nat.zero_lt_succ _) rfl rfl ?_; refine Lpu rfl rfl ?_; refine L.nil (QE.seq (C.ret (QE.tR ?_))); refine QE.ret (js := []) (hs := []) (vs := [_, _]) rfl ⟨⟨_, _, 0, _, rfl, rfl, Src.o 6 rfl, .inl ⟨rfl, by decide, _, rfl, rfl, rfl⟩⟩, rfl, trivial⟩ (by decide) ?_
  exact ⟨rfl, rfl, rfl⟩
 ·
  replace hg23 := b_eq hg23
  refine L.yes rfl ?_; refine Lpu rfl rfl ?_; refine L.yes rfl ?_; refine Lpu rfl rfl ?_; refine Lpu rfl rfl ?_; refine L.nil (QE.seq ?_)
  refine C.condB 26 rfl (fun hc26 => ?_) (fun hc26 => ?_)
  ·
   replace hc26 := b_ne hc26
   refine C.seq (C.region ?_); refine L.step (Ev.build rfl rfl rfl rfl rfl rfl rfl) rfl ?_; refine L.storeA (j := 6) rfl rfl rfl rfl rfl (Nat.zero_lt_succ _) rfl rfl ?_; refine Lpu rfl rfl ?_; refine L.nil (QE.seq (C.ret (QE.tR ?_))); refine QE.ret (js := []) (hs := []) (vs := [_, _]) rfl ⟨⟨_, _, 0, _, rfl, rfl, Src.o 6 rfl, .inl ⟨rfl, by decide, _, rfl, rfl, rfl⟩⟩, rfl, trivial⟩ (by decide) ?_
   exact ⟨rfl, rfl, rfl⟩
  ·
   replace hc26 := b_eq hc26
   omega

set_option maxHeartbeats 2000000 in
theorem codeM_c (OB NB : Option Addr) (old new : List UInt8) (oc nc : Nat) (hoc : old.length ≤ oc) (hnc : new.length ≤ nc) (ho : old.length ≤ 65536) (hn : new.length ≤ 65536) (hE : liftE old = 0 ∧ liftE new = 0) (hfo : (formF (liftR old)).length ≤ 65536) (hfn : (formF (liftR new)).length ≤ 4096) :
   Ctr X 13 [.slice OB old.length oc, .slice NB new.length nc] [Rd OB (U8 old), Rd NB (U8 new)] [] (fun v R' H' => ∃ (A : Option Addr) (c : Nat) (l : List Pq), v = .tuple #[.agg (List.toArray [.bool true, .int .i64 ((formF (liftR old)).length : Int), .int .i64 ((formF (liftR new)).length : Int), .slice A l.length c]), .int .i64 0] ∧ R' = [Rd A (pqV l), KidsR (pqH l) (B8 (pqD l))] ∧ H' = [] ∧ MkQ (formF (liftR old)) (formF (liftR new)) l (refL (formF (liftR old)) (formF (liftR new)) : Int)) := by
 refine Ctr.of (X := X) (fn := Tryz.f13) Tryz.func13 rfl (by kernel_rfl) rfl ?_
 intro β
 refine C.seq (C.region ?_)
 refine L.alloc rfl rfl rfl (fun A4 => ?_)
 refine Lpu rfl rfl ?_; refine L.nil (QE.seq (C.seq (C.region ?_))); refine Lpu rfl rfl ?_; refine L.call (js := []) (js' := [0]) (lift_c OB old oc hoc (by omega)) rfl rfl rfl (by decide) (Hq [0] rfl) rfl ?_
 rintro _ _ _ ⟨W1, M1, L1, l1, rfl, rfl, rfl⟩
 refine L.norm (H' := [_, _, _, _]) [0, 1, 2, 3] ⟨rfl, rfl, rfl, rfl, trivial⟩ (by decide) ?_; refine Lpu rfl rfl ?_; refine Lpu rfl rfl ?_; refine Lpu rfl rfl ?_
 refine L.alloc rfl rfl rfl (fun A6 => ?_)
 refine L.storeA (j := 4) rfl rfl rfl rfl rfl (Nat.zero_lt_succ _) rfl rfl ?_; refine Lpu rfl rfl ?_; refine L.nil (QE.seq (C.seq ?_)); refine C.freeze 0 rfl [1, 2, 3, 4] (by decide) (by decide) ?_; refine C.norm (H' := [_, _, _, _]) [0, 1, 2, 3] ⟨rfl, rfl, rfl, rfl, trivial⟩ (by decide) ?_; refine C.freeze 0 rfl [1, 2, 3] (by decide) (by decide) ?_; refine C.norm (H' := [_, _, _]) [0, 1, 2] ⟨rfl, rfl, rfl, trivial⟩ (by decide) ?_; refine C.freeze 0 rfl [1, 2] (by decide) (by decide) ?_; refine C.norm (H' := [_, _]) [0, 1] ⟨rfl, rfl, trivial⟩ (by decide) ?_; refine C.region ?_; refine Lpu rfl rfl ?_; refine L.call (js := []) (js' := [0, 1]) (lift_c NB new nc hnc (by omega)) rfl rfl rfl (by decide) (Hq [4] rfl) rfl ?_
 rintro _ _ _ ⟨W2, M2, L2, l2, rfl, rfl, rfl⟩
 refine L.norm (H' := [_, _, _, _, _]) [0, 1, 2, 3, 4] ⟨rfl, rfl, rfl, rfl, rfl, trivial⟩ (by decide) ?_; refine Lpu rfl rfl ?_; refine Lpu rfl rfl ?_; refine Lpu rfl rfl ?_
 refine L.alloc rfl rfl rfl (fun A8 => ?_)
 refine L.storeA (j := 5) rfl rfl rfl rfl rfl (Nat.zero_lt_succ _) rfl rfl ?_; refine Lpu rfl rfl ?_; refine L.nil (QE.seq (C.seq (C.seq ?_))); refine C.freeze 0 rfl [1, 2, 3, 4, 5] (by decide) (by decide) ?_; refine C.norm (H' := [_, _, _, _, _]) [0, 1, 2, 3, 4] ⟨rfl, rfl, rfl, rfl, rfl, trivial⟩ (by decide) ?_; refine C.freeze 0 rfl [1, 2, 3, 4] (by decide) (by decide) ?_; refine C.norm (H' := [_, _, _, _]) [0, 1, 2, 3] ⟨rfl, rfl, rfl, rfl, trivial⟩ (by decide) ?_; refine C.freeze 0 rfl [1, 2, 3] (by decide) (by decide) ?_; refine C.norm (H' := [_, _, _]) [0, 1, 2] ⟨rfl, rfl, rfl, trivial⟩ (by decide) ?_; refine C.region ?_; refine Lpu rfl rfl ?_; refine Lpu rfl rfl ?_; refine Lpu rfl rfl ?_
 refine L.bool 23 rfl (fun hg23 => ?_) (fun hg23 => ?_)
 ·
  replace hg23 := b_ne hg23
  omega
 ·
  replace hg23 := b_eq hg23
  refine L.yes rfl ?_; refine Lpu rfl rfl ?_; refine L.yes rfl ?_; refine Lpu rfl rfl ?_; refine Lpu rfl rfl ?_; refine L.nil (QE.seq ?_)
  refine C.condB 26 rfl (fun hc26 => ?_) (fun hc26 => ?_)
  ·
   replace hc26 := b_ne hc26
   omega
  ·
   replace hc26 := b_eq hc26
   refine C.skip (QE.seq (C.seq ?_)); refine C.join (fun s : Option Addr × Option Addr × Nat × List Pq => [(4, ptrOf A4 0), (7, .int .i64 0), (10, ptrOf s.1 0)]) (fun s : Option Addr × Option Addr × Nat × List Pq => [Rd s.2.1 (pqV s.2.2.2), KidsR (pqH s.2.2.2) (B8 (pqD s.2.2.2))]) (fun s : Option Addr × Option Addr × Nat × List Pq => [Own 35 4 A4 1 1 [.bool false, .int .i64 0, .int .i64 0, .slice none 0 0], Own 35 4 s.1 1 1 [.bool false, .int .i64 ((formF (liftR old)).length : Int), .int .i64 ((formF (liftR new)).length : Int), .slice s.2.1 s.2.2.2.length s.2.2.1]]) (fun s : Option Addr × Option Addr × Nat × List Pq => MkQ (formF (liftR old)) (formF (liftR new)) s.2.2.2 (refL (formF (liftR old)) (formF (liftR new)) : Int)) ?_ ?_
   ·
    refine C.regionM [Rd A6 [.slice W1 (liftR old).ws.length (liftR old).ws.length, .slice M1 (liftR old).ms.length (liftR old).ms.length, .slice L1 (liftR old).ls.length l1], Rd A8 [.slice W2 (liftR new).ws.length (liftR new).ws.length, .slice M2 (liftR new).ms.length (liftR new).ms.length, .slice L2 (liftR new).ls.length l2]] ⟨Has.o 1 rfl, Has.o 2 rfl, trivial⟩ ?_; refine LM.q 0 rfl (by kernel_rfl) (Ev.loadA (vs := [.slice W1 (liftR old).ws.length (liftR old).ws.length, .slice M1 (liftR old).ms.length (liftR old).ms.length, .slice L1 (liftR old).ls.length l1]) rfl rfl rfl (Src.r 0 rfl) rfl rfl (by decide)) rfl ⟨Has.o 1 rfl, Has.o 2 rfl, trivial⟩ ?_; refine LM.q 2 rfl (by kernel_rfl) (Ev.loadA (vs := [.slice W2 (liftR new).ws.length (liftR new).ws.length, .slice M2 (liftR new).ms.length (liftR new).ms.length, .slice L2 (liftR new).ls.length l2]) rfl rfl rfl (Src.r 1 rfl) rfl rfl (by decide)) rfl ⟨Has.o 1 rfl, Has.o 2 rfl, trivial⟩ ?_
    refine LM.alt [1, 8] (by kernel_rfl) (by decide) ⟨Has.o 1 rfl, Has.o 2 rfl, trivial⟩ ⟨⟨_, rfl, ?_⟩, ⟨_, rfl, ?_⟩, trivial⟩
    ·
     refine L.call (js := []) (js' := [0, 1, 2]) (form_c W1 M1 L1 (liftR old).ws.length (liftR old).ms.length l1 (liftR old) (by have := (liftR_lens old).1; omega) (by have := (liftR_lens old).2.1; omega) (by have := (liftR_lens old).2.2; omega) (liftR_w32 old) (Nat.le_refl _) liftR_asc) rfl rfl rfl (by decide) (Hq [5, 4, 3] rfl) rfl ?_
     rintro _ _ _ ⟨F1, f1, rfl, rfl, rfl⟩
     refine L.norm (H' := [_, _, _, _]) [0, 1, 2, 3] ⟨rfl, rfl, rfl, rfl, trivial⟩ (by decide) ?_
     refine L.nil (QE.m (by kernel_rfl) ?_)
     refine LM.alt [3, 8] (by kernel_rfl) (by decide) ⟨Has.o 2 rfl, Has.o 3 rfl, trivial⟩ ⟨⟨_, rfl, ?_⟩, ⟨_, rfl, ?_⟩, trivial⟩
     ·
      refine L.call (js := []) (js' := [0, 1, 2, 3]) (form_c W2 M2 L2 (liftR new).ws.length (liftR new).ms.length l2 (liftR new) (by have := (liftR_lens new).1; omega) (by have := (liftR_lens new).2.1; omega) (by have := (liftR_lens new).2.2; omega) (liftR_w32 new) (Nat.le_refl _) liftR_asc) rfl rfl rfl (by decide) (Hq [2, 1, 0] rfl) rfl ?_
      rintro _ _ _ ⟨F2, f2, rfl, rfl, rfl⟩
      refine L.norm (H' := [_, _, _, _, _]) [0, 1, 2, 3, 4] ⟨rfl, rfl, rfl, rfl, rfl, trivial⟩ (by decide) ?_
      refine L.nil (QE.m (by kernel_rfl) ?_)
      refine LM.alt [4, 8] (by kernel_rfl) (by decide) ⟨Has.o 3 rfl, Has.o 4 rfl, trivial⟩ ⟨⟨_, rfl, ?_⟩, ⟨_, rfl, ?_⟩, trivial⟩
      ·
       refine L.capO 0 rfl (fun hf2 => ?_)
       refine L.freeze 1 rfl [0, 2, 3, 4] (by decide) (by decide) ?_; refine L.norm (H' := [_, _, _, _]) [0, 1, 2, 3] ⟨rfl, rfl, rfl, rfl, trivial⟩ (by decide) ?_; refine L.freeze 0 rfl [1, 2, 3] (by decide) (by decide) ?_; refine L.norm (H' := [_, _, _]) [0, 1, 2] ⟨rfl, rfl, rfl, trivial⟩ (by decide) ?_; refine L.callR (js := []) (js' := [0, 1, 2]) (plain_c F1 F2 (formF (liftR old)) (formF (liftR new)) f1 f2 hfo hfn hf2) rfl rfl rfl (by decide) (Hq [1, 0] rfl) rfl ?_
       rintro _ _ _ ⟨PA, pc, pl, rfl, rfl, rfl, hmk⟩
       refine L.norm (H' := [_, _, _]) [0, 1, 2] ⟨rfl, rfl, rfl, trivial⟩ (by decide) ?_
       refine L.nil (QE.m (by kernel_rfl) ?_)
       refine LM.q 5 rfl (by kernel_rfl) (Ev.pure rfl) rfl ⟨Has.o 1 rfl, Has.o 2 rfl, trivial⟩ ?_; refine LM.q 6 rfl (by kernel_rfl) (Ev.pure rfl) rfl ⟨Has.o 1 rfl, Has.o 2 rfl, trivial⟩ ?_; refine LM.q 7 rfl (by kernel_rfl) (Ev.pure rfl) rfl ⟨Has.o 1 rfl, Has.o 2 rfl, trivial⟩ ?_; refine LM.f 8 rfl (by kernel_rfl) ⟨Has.o 1 rfl, Has.o 2 rfl, trivial⟩ ?_
       refine L.alloc rfl rfl rfl (fun A10 => ?_)
       refine L.nil (QE.m (by kernel_rfl) ?_)
       refine LM.f 9 rfl (by kernel_rfl) ⟨Has.o 1 rfl, Has.o 2 rfl, trivial⟩ ?_; refine L.storeA (j := 3) rfl rfl rfl rfl rfl (Nat.zero_lt_succ _) rfl rfl ?_
       refine L.nil (QE.m (by kernel_rfl) ?_)
       refine LM.cut [] (by kernel_rfl) ⟨Has.o 1 rfl, Has.o 2 rfl, trivial⟩ ?_; refine LM.f 10 rfl (by kernel_rfl) trivial ?_; refine Lpu rfl rfl ?_
       refine L.nil (QE.m (by kernel_rfl) ?_)
       refine LM.nil (by kernel_rfl) trivial ?_
       refine QE.joined ((A10, PA, pc, pl)) (by exact hmk) (by exact Le.mk' (rs := [0, 1]) (hs := [0, 3]) ⟨rfl, rfl, rfl, trivial⟩ ⟨rfl, rfl, trivial⟩ ⟨rfl, rfl, trivial⟩ (by decide))
      ·
       refine L.alloc rfl rfl rfl (fun A10 => ?_)
       refine L.nil (QE.m (by kernel_rfl) ?_)
       refine LM.f 4 rfl (by kernel_rfl) ⟨Has.o 3 rfl, Has.o 4 rfl, trivial⟩ ?_
       refine L.capO 0 rfl (fun hf2 => ?_)
       refine L.freeze 1 rfl [0, 2, 3, 4, 5] (by decide) (by decide) ?_; refine L.norm (H' := [_, _, _, _, _]) [0, 1, 2, 3, 4] ⟨rfl, rfl, rfl, rfl, rfl, trivial⟩ (by decide) ?_; refine L.freeze 0 rfl [1, 2, 3, 4] (by decide) (by decide) ?_; refine L.norm (H' := [_, _, _, _]) [0, 1, 2, 3] ⟨rfl, rfl, rfl, rfl, trivial⟩ (by decide) ?_; refine L.callR (js := []) (js' := [0, 1, 2, 3]) (plain_c F1 F2 (formF (liftR old)) (formF (liftR new)) f1 f2 hfo hfn hf2) rfl rfl rfl (by decide) (Hq [1, 0] rfl) rfl ?_
       rintro _ _ _ ⟨PA, pc, pl, rfl, rfl, rfl, hmk⟩
       refine L.norm (H' := [_, _, _, _]) [0, 1, 2, 3] ⟨rfl, rfl, rfl, rfl, trivial⟩ (by decide) ?_
       refine L.nil (QE.m (by kernel_rfl) ?_)
       refine LM.q 5 rfl (by kernel_rfl) (Ev.pure rfl) rfl ⟨Has.o 1 rfl, Has.o 2 rfl, trivial⟩ ?_; refine LM.q 6 rfl (by kernel_rfl) (Ev.pure rfl) rfl ⟨Has.o 1 rfl, Has.o 2 rfl, trivial⟩ ?_; refine LM.q 7 rfl (by kernel_rfl) (Ev.pure rfl) rfl ⟨Has.o 1 rfl, Has.o 2 rfl, trivial⟩ ?_; refine LM.f 9 rfl (by kernel_rfl) ⟨Has.o 1 rfl, Has.o 2 rfl, trivial⟩ ?_; refine L.storeA (j := 3) rfl rfl rfl rfl rfl (Nat.zero_lt_succ _) rfl rfl ?_
       refine L.nil (QE.m (by kernel_rfl) ?_)
       refine LM.cut [] (by kernel_rfl) ⟨Has.o 1 rfl, Has.o 2 rfl, trivial⟩ ?_; refine LM.f 10 rfl (by kernel_rfl) trivial ?_; refine Lpu rfl rfl ?_
       refine L.nil (QE.m (by kernel_rfl) ?_)
       refine LM.nil (by kernel_rfl) trivial ?_
       refine QE.joined ((A10, PA, pc, pl)) (by exact hmk) (by exact Le.mk' (rs := [0, 1]) (hs := [0, 3]) ⟨rfl, rfl, rfl, trivial⟩ ⟨rfl, rfl, trivial⟩ ⟨rfl, rfl, trivial⟩ (by decide))
     ·
      refine L.alloc rfl rfl rfl (fun A10 => ?_)
      refine L.nil (QE.m (by kernel_rfl) ?_)
      refine LM.f 3 rfl (by kernel_rfl) ⟨Has.o 2 rfl, Has.o 3 rfl, trivial⟩ ?_; refine L.call (js := []) (js' := [0, 1, 2, 3, 4]) (form_c W2 M2 L2 (liftR new).ws.length (liftR new).ms.length l2 (liftR new) (by have := (liftR_lens new).1; omega) (by have := (liftR_lens new).2.1; omega) (by have := (liftR_lens new).2.2; omega) (liftR_w32 new) (Nat.le_refl _) liftR_asc) rfl rfl rfl (by decide) (Hq [2, 1, 0] rfl) rfl ?_
      rintro _ _ _ ⟨F2, f2, rfl, rfl, rfl⟩
      refine L.norm (H' := [_, _, _, _, _, _]) [0, 1, 2, 3, 4, 5] ⟨rfl, rfl, rfl, rfl, rfl, rfl, trivial⟩ (by decide) ?_
      refine L.nil (QE.m (by kernel_rfl) ?_)
      refine LM.f 4 rfl (by kernel_rfl) ⟨Has.o 3 rfl, Has.o 4 rfl, trivial⟩ ?_
      refine L.capO 0 rfl (fun hf2 => ?_)
      refine L.freeze 1 rfl [0, 2, 3, 4, 5] (by decide) (by decide) ?_; refine L.norm (H' := [_, _, _, _, _]) [0, 1, 2, 3, 4] ⟨rfl, rfl, rfl, rfl, rfl, trivial⟩ (by decide) ?_; refine L.freeze 0 rfl [1, 2, 3, 4] (by decide) (by decide) ?_; refine L.norm (H' := [_, _, _, _]) [0, 1, 2, 3] ⟨rfl, rfl, rfl, rfl, trivial⟩ (by decide) ?_; refine L.callR (js := []) (js' := [0, 1, 2, 3]) (plain_c F1 F2 (formF (liftR old)) (formF (liftR new)) f1 f2 hfo hfn hf2) rfl rfl rfl (by decide) (Hq [1, 0] rfl) rfl ?_
      rintro _ _ _ ⟨PA, pc, pl, rfl, rfl, rfl, hmk⟩
      refine L.norm (H' := [_, _, _, _]) [0, 1, 2, 3] ⟨rfl, rfl, rfl, rfl, trivial⟩ (by decide) ?_
      refine L.nil (QE.m (by kernel_rfl) ?_)
      refine LM.q 5 rfl (by kernel_rfl) (Ev.pure rfl) rfl ⟨Has.o 1 rfl, Has.o 2 rfl, trivial⟩ ?_; refine LM.q 6 rfl (by kernel_rfl) (Ev.pure rfl) rfl ⟨Has.o 1 rfl, Has.o 2 rfl, trivial⟩ ?_; refine LM.q 7 rfl (by kernel_rfl) (Ev.pure rfl) rfl ⟨Has.o 1 rfl, Has.o 2 rfl, trivial⟩ ?_; refine LM.f 9 rfl (by kernel_rfl) ⟨Has.o 1 rfl, Has.o 2 rfl, trivial⟩ ?_; refine L.storeA (j := 3) rfl rfl rfl rfl rfl (Nat.zero_lt_succ _) rfl rfl ?_
      refine L.nil (QE.m (by kernel_rfl) ?_)
      refine LM.cut [] (by kernel_rfl) ⟨Has.o 1 rfl, Has.o 2 rfl, trivial⟩ ?_; refine LM.f 10 rfl (by kernel_rfl) trivial ?_; refine Lpu rfl rfl ?_
      refine L.nil (QE.m (by kernel_rfl) ?_)
      refine LM.nil (by kernel_rfl) trivial ?_
      refine QE.joined ((A10, PA, pc, pl)) (by exact hmk) (by exact Le.mk' (rs := [0, 1]) (hs := [0, 3]) ⟨rfl, rfl, rfl, trivial⟩ ⟨rfl, rfl, trivial⟩ ⟨rfl, rfl, trivial⟩ (by decide))
    ·
     refine L.alloc rfl rfl rfl (fun A10 => ?_)
     refine L.nil (QE.m (by kernel_rfl) ?_)
     refine LM.f 1 rfl (by kernel_rfl) ⟨Has.o 1 rfl, Has.o 2 rfl, trivial⟩ ?_; refine L.call (js := []) (js' := [0, 1, 2, 3]) (form_c W1 M1 L1 (liftR old).ws.length (liftR old).ms.length l1 (liftR old) (by have := (liftR_lens old).1; omega) (by have := (liftR_lens old).2.1; omega) (by have := (liftR_lens old).2.2; omega) (liftR_w32 old) (Nat.le_refl _) liftR_asc) rfl rfl rfl (by decide) (Hq [5, 4, 3] rfl) rfl ?_
     rintro _ _ _ ⟨F1, f1, rfl, rfl, rfl⟩
     refine L.norm (H' := [_, _, _, _, _]) [0, 1, 2, 3, 4] ⟨rfl, rfl, rfl, rfl, rfl, trivial⟩ (by decide) ?_
     refine L.nil (QE.m (by kernel_rfl) ?_)
     refine LM.f 3 rfl (by kernel_rfl) ⟨Has.o 2 rfl, Has.o 3 rfl, trivial⟩ ?_; refine L.call (js := []) (js' := [0, 1, 2, 3, 4]) (form_c W2 M2 L2 (liftR new).ws.length (liftR new).ms.length l2 (liftR new) (by have := (liftR_lens new).1; omega) (by have := (liftR_lens new).2.1; omega) (by have := (liftR_lens new).2.2; omega) (liftR_w32 new) (Nat.le_refl _) liftR_asc) rfl rfl rfl (by decide) (Hq [2, 1, 0] rfl) rfl ?_
     rintro _ _ _ ⟨F2, f2, rfl, rfl, rfl⟩
     refine L.norm (H' := [_, _, _, _, _, _]) [0, 1, 2, 3, 4, 5] ⟨rfl, rfl, rfl, rfl, rfl, rfl, trivial⟩ (by decide) ?_
     refine L.nil (QE.m (by kernel_rfl) ?_)
     refine LM.f 4 rfl (by kernel_rfl) ⟨Has.o 3 rfl, Has.o 4 rfl, trivial⟩ ?_
     refine L.capO 0 rfl (fun hf2 => ?_)
     refine L.freeze 1 rfl [0, 2, 3, 4, 5] (by decide) (by decide) ?_; refine L.norm (H' := [_, _, _, _, _]) [0, 1, 2, 3, 4] ⟨rfl, rfl, rfl, rfl, rfl, trivial⟩ (by decide) ?_; refine L.freeze 0 rfl [1, 2, 3, 4] (by decide) (by decide) ?_; refine L.norm (H' := [_, _, _, _]) [0, 1, 2, 3] ⟨rfl, rfl, rfl, rfl, trivial⟩ (by decide) ?_; refine L.callR (js := []) (js' := [0, 1, 2, 3]) (plain_c F1 F2 (formF (liftR old)) (formF (liftR new)) f1 f2 hfo hfn hf2) rfl rfl rfl (by decide) (Hq [1, 0] rfl) rfl ?_
     rintro _ _ _ ⟨PA, pc, pl, rfl, rfl, rfl, hmk⟩
     refine L.norm (H' := [_, _, _, _]) [0, 1, 2, 3] ⟨rfl, rfl, rfl, rfl, trivial⟩ (by decide) ?_
     refine L.nil (QE.m (by kernel_rfl) ?_)
     refine LM.q 5 rfl (by kernel_rfl) (Ev.pure rfl) rfl ⟨Has.o 1 rfl, Has.o 2 rfl, trivial⟩ ?_; refine LM.q 6 rfl (by kernel_rfl) (Ev.pure rfl) rfl ⟨Has.o 1 rfl, Has.o 2 rfl, trivial⟩ ?_; refine LM.q 7 rfl (by kernel_rfl) (Ev.pure rfl) rfl ⟨Has.o 1 rfl, Has.o 2 rfl, trivial⟩ ?_; refine LM.f 9 rfl (by kernel_rfl) ⟨Has.o 1 rfl, Has.o 2 rfl, trivial⟩ ?_; refine L.storeA (j := 3) rfl rfl rfl rfl rfl (Nat.zero_lt_succ _) rfl rfl ?_
     refine L.nil (QE.m (by kernel_rfl) ?_)
     refine LM.cut [] (by kernel_rfl) ⟨Has.o 1 rfl, Has.o 2 rfl, trivial⟩ ?_; refine LM.f 10 rfl (by kernel_rfl) trivial ?_; refine Lpu rfl rfl ?_
     refine L.nil (QE.m (by kernel_rfl) ?_)
     refine LM.nil (by kernel_rfl) trivial ?_
     refine QE.joined ((A10, PA, pc, pl)) (by exact hmk) (by exact Le.mk' (rs := [0, 1]) (hs := [0, 3]) ⟨rfl, rfl, rfl, trivial⟩ ⟨rfl, rfl, trivial⟩ ⟨rfl, rfl, trivial⟩ (by decide))
   ·
    rintro ⟨A10, PA, pc, pl⟩ hmk
    dsimp only at hmk ⊢
    refine QE.seq (C.seq (C.region ?_)); refine Lpu rfl rfl ?_; refine L.step (Ev.cast (u := .bool true) (Ev.pure rfl) rfl) rfl ?_; refine L.step (Ev.fieldAddr rfl rfl rfl rfl rfl rfl (Src.o 1 rfl) (Nat.zero_lt_succ _) rfl) rfl ?_; refine L.store (j := 1) rfl rfl rfl rfl rfl rfl rfl rfl ?_; refine L.nil (QE.seq (C.seq (C.region ?_))); refine L.step (Ev.loadA rfl rfl rfl (Src.o 1 rfl) rfl rfl (by decide)) rfl ?_; refine Lpu rfl rfl ?_; refine L.storeA (j := 0) rfl rfl rfl rfl rfl (Nat.zero_lt_succ _) rfl rfl ?_; refine Lpu rfl rfl ?_; refine L.nil (QE.seq (C.ret ?_)); refine QE.ret (js := [0, 1]) (hs := []) (vs := [_, _]) rfl ⟨⟨_, _, 0, _, rfl, rfl, Src.o 0 rfl, .inl ⟨rfl, by decide, _, rfl, rfl, rfl⟩⟩, rfl, trivial⟩ (by decide) ?_
    exact ⟨PA, pc, pl, rfl, rfl, rfl, hmk⟩

theorem bestE_c (A B : Option Addr) (ol nl oc nc : Nat) (ho : ol ≤ 1000000) (hn : nl ≤ 1000000) (hb : 65536 < ol ∨ 65536 < nl) :
   Ctr X 25 [.slice A ol oc, .slice B nl nc] [] [] (fun v R' H' => v = .tuple #[.agg (List.toArray [.bool false, .int .i64 0, .int .i64 0, .slice none 0 0]), .int .i64 2] ∧ R' = [] ∧ H' = []) := by
 refine Ctr.of (X := X) (fn := Tryz.f25) Tryz.func25 rfl (by kernel_rfl) rfl ?_
 intro β
 refine C.seq (C.region ?_)
 refine L.alloc rfl rfl rfl (fun A4 => ?_)
 refine Lpu rfl rfl ?_; refine L.nil (QE.seq (C.seq (C.region ?_))); refine Lpu rfl rfl ?_; refine Lpu rfl rfl ?_; refine L.call (js := []) (js' := [0]) (plainE_c A B ol nl oc nc ho hn hb) rfl rfl rfl (by decide) trivial rfl ?_
 rintro _ _ _ ⟨rfl, rfl, rfl⟩
 refine L.norm (H' := [_]) [0] ⟨rfl, trivial⟩ (by decide) ?_; refine Lpu rfl rfl ?_; refine Lpu rfl rfl ?_; refine Lpu rfl rfl ?_
 refine L.alloc rfl rfl rfl (fun A6 => ?_)
 refine L.storeA (j := 1) rfl rfl rfl rfl rfl (Nat.zero_lt_succ _) rfl rfl ?_; refine Lpu rfl rfl ?_; refine L.nil (QE.seq (C.seq (C.seq (C.region ?_)))); refine Lpu rfl rfl ?_; refine Lpu rfl rfl ?_; refine L.nil (QE.seq ?_)
 refine C.condB 17 rfl (fun hc17 => ?_) (fun hc17 => ?_)
 ·
  replace hc17 := b_ne hc17
  refine C.seq (C.region ?_); refine L.step (Ev.loadA rfl rfl rfl (Src.o 1 rfl) rfl rfl (by decide)) rfl ?_; refine Lpu rfl rfl ?_; refine L.storeA (j := 0) rfl rfl rfl rfl rfl (Nat.zero_lt_succ _) rfl rfl ?_; refine Lpu rfl rfl ?_; refine L.nil (QE.seq (C.ret (QE.tR ?_))); refine QE.ret (js := []) (hs := []) (vs := [_, _]) rfl ⟨⟨_, _, 0, _, rfl, rfl, Src.o 0 rfl, .inl ⟨rfl, by decide, _, rfl, rfl, rfl⟩⟩, rfl, trivial⟩ (by decide) ?_
  exact ⟨rfl, rfl, rfl⟩
 ·
  replace hc17 := b_eq hc17
  exact absurd hc17 (by decide)

theorem codeM_k (OB NB : Option Addr) (old new : List UInt8) (oc nc : Nat) (hoc : old.length ≤ oc) (hnc : new.length ≤ nc) (ho : old.length ≤ 65536) (hn : new.length ≤ 65536) (hE : liftE old = 0 ∧ liftE new = 0) (fo fn : List UInt8) (h1 : formF (liftR old) = fo) (h2 : formF (liftR new) = fn) (hfo : fo.length ≤ 65536) (hfn : fn.length ≤ 4096) :
   Ctr X 13 [.slice OB old.length oc, .slice NB new.length nc] [Rd OB (U8 old), Rd NB (U8 new)] [] (fun v R' H' => ∃ (A : Option Addr) (c : Nat) (l : List Pq), v = .tuple #[.agg (List.toArray [.bool true, .int .i64 (fo.length : Int), .int .i64 (fn.length : Int), .slice A l.length c]), .int .i64 0] ∧ R' = [Rd A (pqV l), KidsR (pqH l) (B8 (pqD l))] ∧ H' = [] ∧ MkQ fo fn l (refL fo fn : Int)) := by
 subst h1 h2
 exact codeM_c OB NB old new oc nc hoc hnc ho hn hE hfo hfn
set_option maxHeartbeats 2000000 in
set_option maxRecDepth 2000 in
theorem sanity07_c  :
   Ctr X 8 [] [] [] (fun v R' H' => v = .bool true ∧ R' = [] ∧ H' = []) := by
 refine Ctr.of (X := X) (fn := Tryz.f8) Tryz.func8 rfl (by kernel_rfl) rfl ?_
 intro β
 refine C.seq (C.region ?_); refine Lpu rfl rfl ?_; refine L.nil (QE.seq (C.seq (C.region ?_)))
 refine L.lit rfl rfl rfl rfl rfl (by rfl) (by rfl) (by rfl) rfl rfl (fun A13 => ?_)
 refine L.konst (j := 0) rfl rfl rfl rfl rfl rfl rfl [] (by decide) (by decide) rfl ?_; refine Lpu rfl rfl ?_; refine L.nil (QE.seq (C.seq (C.region ?_))); refine Lpu rfl rfl ?_; refine Lpu rfl rfl ?_; refine L.call (js := []) (js' := []) (costL_k A13 A13 [97, 98, 99, 100, 101, 102, 103, 104] [97, 98, 99, 100, 101, 102, 103, 104] [97, 98, 99, 100, 101, 102, 103, 104].length [97, 98, 99, 100, 101, 102, 103, 104].length (by decide) (by decide) (Nat.le_refl _) 4 (by kernel_rfl)) rfl rfl rfl (by decide) (Hq [0, 0] rfl) rfl ?_
 rintro _ _ _ ⟨rfl, rfl, rfl⟩
 refine Lpu rfl rfl ?_; refine Lpu rfl rfl ?_
 refine L.bool 19 rfl (fun hg19 => ?_) (fun hg19 => ?_)
 ·
  replace hg19 := i_eq hg19
  refine L.yes rfl ?_; refine Lpu rfl rfl ?_; refine L.yes rfl ?_
  refine L.lit rfl rfl rfl rfl rfl (by rfl) (by rfl) (by rfl) rfl rfl (fun A21 => ?_)
  refine L.yes rfl ?_; refine L.konst (j := 0) rfl rfl rfl rfl rfl rfl rfl [] (by decide) (by decide) rfl ?_; refine L.yes rfl ?_; refine L.call (js := []) (js' := []) (costL_k A13 A21 [97, 98, 99, 100, 101, 102, 103, 104] [101, 102, 103, 104, 97, 98, 99, 100] [97, 98, 99, 100, 101, 102, 103, 104].length [101, 102, 103, 104, 97, 98, 99, 100].length (by decide) (by decide) (Nat.le_refl _) 8 (by kernel_rfl)) rfl rfl rfl (by decide) (Hq [1, 0] rfl) rfl ?_
  rintro _ _ _ ⟨rfl, rfl, rfl⟩
  refine L.yes rfl ?_; refine Lpu rfl rfl ?_; refine Lpu rfl rfl ?_; refine Lpu rfl rfl ?_
  refine L.bool 26 rfl (fun hg26 => ?_) (fun hg26 => ?_)
  ·
   replace hg26 := i_eq hg26
   refine L.yes rfl ?_; refine Lpu rfl rfl ?_; refine L.yes rfl ?_
   refine L.lit rfl rfl rfl rfl rfl (by rfl) (by rfl) (by rfl) rfl rfl (fun A28 => ?_)
   refine L.yes rfl ?_; refine L.konst (j := 0) rfl rfl rfl rfl rfl rfl rfl [] (by decide) (by decide) rfl ?_; refine L.yes rfl ?_; refine L.call (js := []) (js' := []) (costL_k A13 A28 [97, 98, 99, 100, 101, 102, 103, 104] [97, 98, 99, 100, 88, 101, 102, 103, 104] [97, 98, 99, 100, 101, 102, 103, 104].length [97, 98, 99, 100, 88, 101, 102, 103, 104].length (by decide) (by decide) (Nat.le_refl _) 11 (by kernel_rfl)) rfl rfl rfl (by decide) (Hq [2, 0] rfl) rfl ?_
   rintro _ _ _ ⟨rfl, rfl, rfl⟩
   refine L.yes rfl ?_; refine Lpu rfl rfl ?_; refine Lpu rfl rfl ?_; refine Lpu rfl rfl ?_
   refine L.bool 33 rfl (fun hg33 => ?_) (fun hg33 => ?_)
   ·
    replace hg33 := i_eq hg33
    refine L.yes rfl ?_
    refine L.lit rfl rfl rfl rfl rfl (by rfl) (by rfl) (by rfl) rfl rfl (fun A34 => ?_)
    refine L.yes rfl ?_; refine L.konst (j := 0) rfl rfl rfl rfl rfl rfl rfl [] (by decide) (by decide) rfl ?_; refine L.yes rfl ?_
    refine L.make (m := 20) rfl rfl rfl rfl rfl rfl rfl rfl rfl (by decide) (by decide) rfl (fun A36 => ?_)
    refine L.yes rfl ?_; refine L.call (js := []) (js' := [0]) (costL_k A34 A36 [97, 98, 99] (List.replicate 20 0) [97, 98, 99].length (List.replicate 20 0).length (by decide) (by decide) (Nat.le_refl _) 4 (by kernel_rfl)) rfl rfl rfl (by decide) ⟨Has.r 0 rfl, Has.o 0 rfl, trivial⟩ rfl ?_
    rintro _ _ _ ⟨rfl, rfl, rfl⟩
    refine L.norm (H' := [_]) [0] ⟨rfl, trivial⟩ (by decide) ?_; refine L.yes rfl ?_; refine Lpu rfl rfl ?_; refine Lpu rfl rfl ?_; refine Lpu rfl rfl ?_
    refine L.bool 40 rfl (fun hg40 => ?_) (fun hg40 => ?_)
    ·
     replace hg40 := i_eq hg40
     refine L.yes rfl ?_; refine Lpu rfl rfl ?_; refine L.yes rfl ?_; refine L.call (js := []) (js' := [0]) (costL_k A13 none [97, 98, 99, 100, 101, 102, 103, 104] ([] : List UInt8) [97, 98, 99, 100, 101, 102, 103, 104].length ([] : List UInt8).length (by decide) (by decide) (Nat.le_refl _) 0 (by kernel_rfl)) rfl rfl rfl (by decide) ⟨Has.r 3 rfl, Has.nil, trivial⟩ rfl ?_
     rintro _ _ _ ⟨rfl, rfl, rfl⟩
     refine L.norm (H' := [_]) [0] ⟨rfl, trivial⟩ (by decide) ?_; refine L.yes rfl ?_; refine Lpu rfl rfl ?_; refine Lpu rfl rfl ?_; refine Lpu rfl rfl ?_
     refine L.bool 45 rfl (fun hg45 => ?_) (fun hg45 => ?_)
     ·
      replace hg45 := i_eq hg45
      refine L.yes rfl ?_
      refine L.lit rfl rfl rfl rfl rfl (by rfl) (by rfl) (by rfl) rfl rfl (fun A46 => ?_)
      refine L.yes rfl ?_; refine L.konst (j := 1) rfl rfl rfl rfl rfl rfl rfl [0] (by decide) (by decide) rfl ?_; refine L.norm (H' := [_]) [0] ⟨rfl, trivial⟩ (by decide) ?_; refine L.yes rfl ?_; refine L.call (js := []) (js' := [0]) (costL_k none A46 ([] : List UInt8) [97, 98] ([] : List UInt8).length [97, 98].length (by decide) (by decide) (Nat.le_refl _) 4 (by kernel_rfl)) rfl rfl rfl (by decide) ⟨Has.nil, Has.r 0 rfl, trivial⟩ rfl ?_
      rintro _ _ _ ⟨rfl, rfl, rfl⟩
      refine L.norm (H' := [_]) [0] ⟨rfl, trivial⟩ (by decide) ?_; refine L.yes rfl ?_; refine Lpu rfl rfl ?_; refine Lpu rfl rfl ?_; refine Lpu rfl rfl ?_
      refine L.bool 51 rfl (fun hg51 => ?_) (fun hg51 => ?_)
      ·
       replace hg51 := i_eq hg51
       refine L.yes rfl ?_
       refine L.lit rfl rfl rfl rfl rfl (by rfl) (by rfl) (by rfl) rfl rfl (fun A52 => ?_)
       refine L.yes rfl ?_; refine L.konst (j := 1) rfl rfl rfl rfl rfl rfl rfl [0] (by decide) (by decide) rfl ?_; refine L.norm (H' := [_]) [0] ⟨rfl, trivial⟩ (by decide) ?_; refine L.yes rfl ?_; refine L.call (js := []) (js' := [0]) (costL_k none A52 ([] : List UInt8) [97] ([] : List UInt8).length [97].length (by decide) (by decide) (Nat.le_refl _) 3 (by kernel_rfl)) rfl rfl rfl (by decide) ⟨Has.nil, Has.r 0 rfl, trivial⟩ rfl ?_
       rintro _ _ _ ⟨rfl, rfl, rfl⟩
       refine L.norm (H' := [_]) [0] ⟨rfl, trivial⟩ (by decide) ?_; refine L.yes rfl ?_; refine Lpu rfl rfl ?_; refine Lpu rfl rfl ?_; refine Lpu rfl rfl ?_; refine L.nil (QE.seq (C.seq (C.region ?_)))
       refine L.make (m := 65537) rfl rfl rfl rfl rfl rfl rfl rfl rfl (by decide) (by decide) rfl (fun A58 => ?_)
       refine L.call (js := []) (js' := [0, 1]) (plainE_c A58 none 65537 0 65537 0 (by decide) (by decide) (by decide)) rfl rfl rfl (by decide) trivial rfl ?_
       rintro _ _ _ ⟨rfl, rfl, rfl⟩
       refine L.norm (H' := [_, _]) [0, 1] ⟨rfl, rfl, trivial⟩ (by decide) ?_; refine Lpu rfl rfl ?_; refine Lpu rfl rfl ?_; refine Lpu rfl rfl ?_
       refine L.alloc rfl rfl rfl (fun A3 => ?_)
       refine L.storeA (j := 2) rfl rfl rfl rfl rfl (Nat.zero_lt_succ _) rfl rfl ?_; refine Lpu rfl rfl ?_; refine L.nil (QE.seq (C.seq (C.region ?_)))
       refine L.make (m := 65537) rfl rfl rfl rfl rfl rfl rfl rfl rfl (by decide) (by decide) rfl (fun A63 => ?_)
       refine L.call (js := []) (js' := [0, 1, 2, 3]) (plainE_c none A63 0 65537 0 65537 (by decide) (by decide) (by decide)) rfl rfl rfl (by decide) trivial rfl ?_
       rintro _ _ _ ⟨rfl, rfl, rfl⟩
       refine L.norm (H' := [_, _, _, _]) [0, 1, 2, 3] ⟨rfl, rfl, rfl, rfl, trivial⟩ (by decide) ?_; refine Lpu rfl rfl ?_; refine Lpu rfl rfl ?_; refine Lpu rfl rfl ?_
       refine L.alloc rfl rfl rfl (fun A5 => ?_)
       refine L.storeA (j := 4) rfl rfl rfl rfl rfl (Nat.zero_lt_succ _) rfl rfl ?_; refine Lpu rfl rfl ?_; refine L.nil (QE.seq (C.seq (C.region ?_)))
       refine L.lit rfl rfl rfl rfl rfl (by rfl) (by rfl) (by rfl) rfl rfl (fun A68 => ?_)
       refine L.konst (j := 5) rfl rfl rfl rfl rfl rfl rfl [0, 1, 2, 3, 4] (by decide) (by decide) rfl ?_; refine L.norm (H' := [_, _, _, _, _]) [0, 1, 2, 3, 4] ⟨rfl, rfl, rfl, rfl, rfl, trivial⟩ (by decide) ?_; refine L.call (js := []) (js' := [0, 1, 2, 3, 4]) (codeE_c A68 none [97, 98, 99] [] 3 0 (by decide) (by decide) (by decide) (by decide) (.inl (by decide))) rfl rfl rfl (by decide) ⟨Has.r 0 rfl, Has.nil, trivial⟩ rfl ?_
       rintro _ _ _ ⟨rfl, rfl, rfl⟩
       refine L.norm (H' := [_, _, _, _, _]) [0, 1, 2, 3, 4] ⟨rfl, rfl, rfl, rfl, rfl, trivial⟩ (by decide) ?_; refine Lpu rfl rfl ?_; refine Lpu rfl rfl ?_; refine Lpu rfl rfl ?_
       refine L.alloc rfl rfl rfl (fun A7 => ?_)
       refine L.storeA (j := 5) rfl rfl rfl rfl rfl (Nat.zero_lt_succ _) rfl rfl ?_; refine Lpu rfl rfl ?_; refine L.nil (QE.seq (C.seq (C.region ?_)))
       refine L.make (m := 65537) rfl rfl rfl rfl rfl rfl rfl rfl rfl (by decide) (by decide) rfl (fun A74 => ?_)
       refine L.call (js := []) (js' := [0, 1, 2, 3, 4, 5, 6]) (bestE_c none A74 0 65537 0 65537 (by decide) (by decide) (by decide)) rfl rfl rfl (by decide) trivial rfl ?_
       rintro _ _ _ ⟨rfl, rfl, rfl⟩
       refine L.norm (H' := [_, _, _, _, _, _, _]) [0, 1, 2, 3, 4, 5, 6] ⟨rfl, rfl, rfl, rfl, rfl, rfl, rfl, trivial⟩ (by decide) ?_; refine Lpu rfl rfl ?_; refine Lpu rfl rfl ?_; refine Lpu rfl rfl ?_
       refine L.alloc rfl rfl rfl (fun A9 => ?_)
       refine L.storeA (j := 7) rfl rfl rfl rfl rfl (Nat.zero_lt_succ _) rfl rfl ?_; refine Lpu rfl rfl ?_; refine L.nil (QE.seq (C.seq (C.region ?_))); refine L.callR (js := []) (js' := [0, 1, 2, 3, 4, 5, 6, 7]) (codeM_k none none [] [] 0 0 (by decide) (by decide) (by decide) (by decide) (by decide) [0, 0, 0, 0] [0, 0, 0, 0] (by kernel_rfl) (by kernel_rfl) (by decide) (by decide)) rfl rfl rfl (by decide) ⟨Has.nil, Has.nil, trivial⟩ rfl ?_
       rintro _ _ _ ⟨PA, pc, pl, rfl, rfl, rfl, -⟩
       refine L.norm (H' := [_, _, _, _, _, _, _, _]) [0, 1, 2, 3, 4, 5, 6, 7] ⟨rfl, rfl, rfl, rfl, rfl, rfl, rfl, rfl, trivial⟩ (by decide) ?_; refine Lpu rfl rfl ?_; refine Lpu rfl rfl ?_; refine Lpu rfl rfl ?_
       refine L.alloc rfl rfl rfl (fun A11 => ?_)
       refine L.storeA (j := 8) rfl rfl rfl rfl rfl (Nat.zero_lt_succ _) rfl rfl ?_; refine Lpu rfl rfl ?_; refine L.nil (QE.seq (C.seq (C.region ?_))); refine Lpu rfl rfl ?_; refine Lpu rfl rfl ?_
       refine L.bool 83 rfl (fun hg83 => ?_) (fun hg83 => ?_)
       ·
        replace hg83 := i_eq hg83
        refine L.yes rfl ?_; refine Lpu rfl rfl ?_; refine L.yes rfl ?_; refine Lpu rfl rfl ?_; refine Lpu rfl rfl ?_; refine Lpu rfl rfl ?_
        refine L.bool 87 rfl (fun hg87 => ?_) (fun hg87 => ?_)
        ·
         replace hg87 := i_eq hg87
         refine L.yes rfl ?_; refine Lpu rfl rfl ?_; refine L.yes rfl ?_; refine Lpu rfl rfl ?_; refine Lpu rfl rfl ?_; refine Lpu rfl rfl ?_
         refine L.bool 91 rfl (fun hg91 => ?_) (fun hg91 => ?_)
         ·
          replace hg91 := i_eq hg91
          refine L.yes rfl ?_; refine Lpu rfl rfl ?_; refine L.yes rfl ?_; refine Lpu rfl rfl ?_; refine Lpu rfl rfl ?_; refine Lpu rfl rfl ?_
          refine L.bool 95 rfl (fun hg95 => ?_) (fun hg95 => ?_)
          ·
           replace hg95 := i_eq hg95
           refine L.yes rfl ?_; refine Lpu rfl rfl ?_; refine L.yes rfl ?_; refine Lpu rfl rfl ?_; refine Lpu rfl rfl ?_; refine Lpu rfl rfl ?_
           refine L.bool 99 rfl (fun hg99 => ?_) (fun hg99 => ?_)
           ·
            replace hg99 := i_eq hg99
            refine L.yes rfl ?_; refine Lpu rfl rfl ?_; refine L.yes rfl ?_; refine Lpu rfl rfl ?_; refine Lpu rfl rfl ?_; refine Lpu rfl rfl ?_
            refine L.bool 103 rfl (fun hg103 => ?_) (fun hg103 => ?_)
            ·
             replace hg103 := i_eq hg103
             refine L.yes rfl ?_; refine L.step (Ev.fieldAddr rfl rfl rfl rfl rfl rfl (Src.o 8 rfl) (Nat.zero_lt_succ _) rfl) rfl ?_; refine L.yes rfl ?_; refine L.step (Ev.load rfl rfl rfl (Src.o 8 rfl) rfl) rfl ?_; refine Lpu rfl rfl ?_; refine Lpu rfl rfl ?_
             refine L.bool 107 rfl (fun hg107 => ?_) (fun hg107 => ?_)
             ·
              refine L.yes rfl ?_; refine L.step (Ev.fieldAddr rfl rfl rfl rfl rfl rfl (Src.o 8 rfl) (Nat.zero_lt_succ _) rfl) rfl ?_; refine L.yes rfl ?_; refine L.step (Ev.load rfl rfl rfl (Src.o 8 rfl) rfl) rfl ?_; refine L.yes rfl ?_; refine Lpu rfl rfl ?_; refine Lpu rfl rfl ?_; refine Lpu rfl rfl ?_
              refine L.bool 112 rfl (fun hg112 => ?_) (fun hg112 => ?_)
              ·
               replace hg112 := i_eq hg112
               refine L.yes rfl ?_; refine L.step (Ev.fieldAddr rfl rfl rfl rfl rfl rfl (Src.o 8 rfl) (Nat.zero_lt_succ _) rfl) rfl ?_; refine L.yes rfl ?_; refine L.step (Ev.load rfl rfl rfl (Src.o 8 rfl) rfl) rfl ?_; refine L.yes rfl ?_; refine Lpu rfl rfl ?_; refine Lpu rfl rfl ?_; refine Lpu rfl rfl ?_; refine L.nil (QE.seq (C.ret ?_)); refine QE.ret (js := []) (hs := []) (vs := [_]) rfl ⟨rfl, trivial⟩ (by decide) ?_
               exact ⟨rfl, rfl, rfl⟩
              ·
               replace hg112 := i_ne hg112
               exact absurd rfl hg112
             ·
              cases hg107
            ·
             replace hg103 := i_ne hg103
             exact absurd rfl hg103
           ·
            replace hg99 := i_ne hg99
            exact absurd rfl hg99
          ·
           replace hg95 := i_ne hg95
           exact absurd rfl hg95
         ·
          replace hg91 := i_ne hg91
          exact absurd rfl hg91
        ·
         replace hg87 := i_ne hg87
         exact absurd rfl hg87
       ·
        replace hg83 := i_ne hg83
        exact absurd rfl hg83
      ·
       replace hg51 := i_ne hg51
       exact absurd rfl hg51
     ·
      replace hg45 := i_ne hg45
      exact absurd rfl hg45
    ·
     replace hg40 := i_ne hg40
     exact absurd rfl hg40
   ·
    replace hg33 := i_ne hg33
    exact absurd rfl hg33
  ·
   replace hg26 := i_ne hg26
   exact absurd rfl hg26
 ·
  replace hg19 := i_ne hg19
  exact absurd rfl hg19

end Go.Proofs.YtbkmahjhhncfcaaGreat
