/-
  The contract of the law JournalSlots.
-/
import Derived.Test.YtmbjknampholjaaSWJoN
import Derived.Test.YtmbjknampholjaaSJd
namespace Go.Proofs.Ytmbjknampholjaa
open Go.Sl

theorem stR_w (A : Option Addr) (n c : Nat) (l : List UInt8) (hl : l.length = 30) (hn : n = 30) : Ctr X 27 [.slice A n c] [Rd A (U8 l)] [] (fun v R' H' => v = .tuple #[.agg (List.toArray (st9 ((stateF l).getD (List.replicate 9 0)))), .bool (stateF l).isSome] ∧ R' = [] ∧ H' = []) := by
  subst hn
  have := stR_c A c l hl
  rwa [hl] at this
theorem same_w2 (A B : Option Addr) (n c d : Nat) (xs ys : List UInt8) (hm : xs.length = n) (h1 : xs.length ≤ 9223372036854775807) (h2 : ys.length ≤ 9223372036854775807) :
    Ctr X 14 [.slice A n c, .slice B ys.length d] [Rd A (U8 xs), Rd B (U8 ys)] [] (fun v R' H' => v = .bool (xs == ys) ∧ R' = [] ∧ H' = []) := by
  subst hm
  exact same_c A B c d xs ys h1 h2

theorem jSlots_c (r qq ms : List UInt8) (M : Option Addr) (mc : Nat) (hml : ms.length ≤ 9223372036854775807) :
    Ctr X 4 [.agg (List.toArray [.int .u8 (((r).getD 0 0).toNat : Int), .int .u8 (((r).getD 1 0).toNat : Int), .int .u8 (((r).getD 2 0).toNat : Int), .int .u8 (((r).getD 3 0).toNat : Int), .int .u8 (((r).getD 4 0).toNat : Int), .int .u8 (((r).getD 5 0).toNat : Int), .int .u8 (((r).getD 6 0).toNat : Int), .int .u8 (((r).getD 7 0).toNat : Int), .int .u8 (((r).getD 8 0).toNat : Int)]), .agg (List.toArray [.int .u8 (((qq).getD 0 0).toNat : Int), .int .u8 (((qq).getD 1 0).toNat : Int), .int .u8 (((qq).getD 2 0).toNat : Int), .int .u8 (((qq).getD 3 0).toNat : Int), .int .u8 (((qq).getD 4 0).toNat : Int), .int .u8 (((qq).getD 5 0).toNat : Int), .int .u8 (((qq).getD 6 0).toNat : Int), .int .u8 (((qq).getD 7 0).toNat : Int), .int .u8 (((qq).getD 8 0).toNat : Int)]), .slice M ms.length mc] [Rd M (U8 ms)] [] (fun v R' H' => v = .bool true ∧ R' = [] ∧ H' = []) := by
  have hsl := slotF_len (made_right r)
  have hsl2 := slotF_len (made_right qq)
  refine Ctr.of (X := X) (fn := Try.f4) Try.func4 rfl (by kernel_rfl) rfl ?_
  intro β
  refine C.seq ?_
  refine C.region ?_
  refine L.boxA rfl rfl (fun A3 => ?_)
  refine L.boxA rfl rfl (fun A4 => ?_)
  refine L.step (Ev.pure rfl) rfl ?_
  refine L.nil ?_
  refine QE.seq ?_
  refine C.seq ?_
  refine C.freeze 0 rfl [1] (by decide) (by decide) ?_
  refine C.norm (H' := [_]) [0] ⟨rfl, trivial⟩ (by decide) ?_
  refine C.freeze 0 rfl [] (by decide) (by decide) ?_
  refine C.region ?_
  refine L.call (js := []) (js' := []) (sanityJ_c) rfl rfl rfl (by decide) trivial rfl ?_
  rintro _ _ _ ⟨rfl, rfl, rfl⟩
  refine L.step (Ev.pure rfl) rfl ?_
  refine L.nil ?_
  refine QE.seq ?_
  refine C.seq ?_
  refine C.join (fun q : Option Addr × Option Addr => [(2, .slice M ms.length mc), (7, .bool true), (8, ptrOf q.1 0), (9, ptrOf q.2 0)]) (fun q : Option Addr × Option Addr => [Rd A4 [.int .u8 (((qq).getD 0 0).toNat : Int), .int .u8 (((qq).getD 1 0).toNat : Int), .int .u8 (((qq).getD 2 0).toNat : Int), .int .u8 (((qq).getD 3 0).toNat : Int), .int .u8 (((qq).getD 4 0).toNat : Int), .int .u8 (((qq).getD 5 0).toNat : Int), .int .u8 (((qq).getD 6 0).toNat : Int), .int .u8 (((qq).getD 7 0).toNat : Int), .int .u8 (((qq).getD 8 0).toNat : Int)], Rd A3 [.int .u8 (((r).getD 0 0).toNat : Int), .int .u8 (((r).getD 1 0).toNat : Int), .int .u8 (((r).getD 2 0).toNat : Int), .int .u8 (((r).getD 3 0).toNat : Int), .int .u8 (((r).getD 4 0).toNat : Int), .int .u8 (((r).getD 5 0).toNat : Int), .int .u8 (((r).getD 6 0).toNat : Int), .int .u8 (((r).getD 7 0).toNat : Int), .int .u8 (((r).getD 8 0).toNat : Int)], Rd M (U8 ms)]) (fun q : Option Addr × Option Addr => [Own 29 9 q.1 1 1 (st9 (madeS r)), Own 29 9 q.2 1 1 (st9 (madeS qq))]) (fun q : Option Addr × Option Addr => True) ?_ ?_
  · skip
    refine C.regionM [Rd A4 [.int .u8 (((qq).getD 0 0).toNat : Int), .int .u8 (((qq).getD 1 0).toNat : Int), .int .u8 (((qq).getD 2 0).toNat : Int), .int .u8 (((qq).getD 3 0).toNat : Int), .int .u8 (((qq).getD 4 0).toNat : Int), .int .u8 (((qq).getD 5 0).toNat : Int), .int .u8 (((qq).getD 6 0).toNat : Int), .int .u8 (((qq).getD 7 0).toNat : Int), .int .u8 (((qq).getD 8 0).toNat : Int)], Rd A3 [.int .u8 (((r).getD 0 0).toNat : Int), .int .u8 (((r).getD 1 0).toNat : Int), .int .u8 (((r).getD 2 0).toNat : Int), .int .u8 (((r).getD 3 0).toNat : Int), .int .u8 (((r).getD 4 0).toNat : Int), .int .u8 (((r).getD 5 0).toNat : Int), .int .u8 (((r).getD 6 0).toNat : Int), .int .u8 (((r).getD 7 0).toNat : Int), .int .u8 (((r).getD 8 0).toNat : Int)], Rd M (U8 ms)] ⟨Has.r 0 rfl, Has.r 1 rfl, Has.r 2 rfl, trivial⟩ ?_
    refine LM.q 0 rfl (by kernel_rfl) (Ev.loadA rfl rfl rfl (Src.r 1 rfl) rfl rfl (by decide)) rfl ⟨Has.r 0 rfl, Has.r 1 rfl, Has.r 2 rfl, trivial⟩ ?_
    refine LM.q 2 rfl (by kernel_rfl) (Ev.loadA rfl rfl rfl (Src.r 0 rfl) rfl rfl (by decide)) rfl ⟨Has.r 0 rfl, Has.r 1 rfl, Has.r 2 rfl, trivial⟩ ?_
    refine LM.alt [1, 4, 5] (by kernel_rfl) (by decide) ⟨Has.r 0 rfl, Has.r 1 rfl, Has.r 2 rfl, trivial⟩ ⟨⟨_, rfl, ?_⟩, ⟨_, rfl, ?_⟩, ⟨_, rfl, ?_⟩, trivial⟩
    · skip
      refine L.call (js := []) (js' := []) (made_c r) rfl rfl rfl (by decide) trivial rfl ?_
      rintro _ _ _ ⟨rfl, rfl, rfl⟩
      refine L.nil (QE.m (by kernel_rfl) ?_)
      refine LM.alt [3, 4, 5] (by kernel_rfl) (by decide) ⟨Has.r 0 rfl, Has.r 1 rfl, Has.r 2 rfl, trivial⟩ ⟨⟨_, rfl, ?_⟩, ⟨_, rfl, ?_⟩, ⟨_, rfl, ?_⟩, trivial⟩
      · skip
        refine L.call (js := []) (js' := []) (made_c qq) rfl rfl rfl (by decide) trivial rfl ?_
        rintro _ _ _ ⟨rfl, rfl, rfl⟩
        refine L.nil (QE.m (by kernel_rfl) ?_)
        refine LM.alt [4, 5] (by kernel_rfl) (by decide) ⟨Has.r 0 rfl, Has.r 1 rfl, Has.r 2 rfl, trivial⟩ ⟨⟨_, rfl, ?_⟩, ⟨_, rfl, ?_⟩, trivial⟩
        · skip
          refine L.alloc rfl rfl rfl (fun A8 => ?_)
          refine L.nil (QE.m (by kernel_rfl) ?_)
          refine LM.f 5 rfl (by kernel_rfl) ⟨Has.r 0 rfl, Has.r 1 rfl, Has.r 2 rfl, trivial⟩ ?_
          refine L.alloc rfl rfl rfl (fun A9 => ?_)
          refine L.nil (QE.m (by kernel_rfl) ?_)
          refine LM.cut [] (by kernel_rfl) ⟨Has.r 0 rfl, Has.r 1 rfl, Has.r 2 rfl, trivial⟩ ?_
          refine LM.f 6 rfl (by kernel_rfl) trivial ?_
          refine L.storeA (j := 0) rfl rfl rfl rfl rfl (Nat.zero_lt_succ _) rfl rfl ?_
          refine L.nil (QE.m (by kernel_rfl) ?_)
          refine LM.f 7 rfl (by kernel_rfl) trivial ?_
          refine L.storeA (j := 1) rfl rfl rfl rfl rfl (Nat.zero_lt_succ _) rfl rfl ?_
          refine L.nil (QE.m (by kernel_rfl) ?_)
          refine LM.nil (by kernel_rfl) trivial ?_
          first | exact QE.joined ((A8, A9)) trivial (by exact Le.mk' (rs := [0, 1, 2]) (hs := [0, 1]) ⟨rfl, rfl, rfl, rfl, trivial⟩ ⟨rfl, rfl, rfl, trivial⟩ ⟨rfl, rfl, trivial⟩ (by decide)) | exact QE.joined ((A8, A9)) trivial (by exact Le.mk' (rs := [0, 1, 2]) (hs := [1, 0]) ⟨rfl, rfl, rfl, rfl, trivial⟩ ⟨rfl, rfl, rfl, trivial⟩ ⟨rfl, rfl, trivial⟩ (by decide))
        · skip
          refine L.alloc rfl rfl rfl (fun A9 => ?_)
          refine L.nil (QE.m (by kernel_rfl) ?_)
          refine LM.f 4 rfl (by kernel_rfl) ⟨Has.r 0 rfl, Has.r 1 rfl, Has.r 2 rfl, trivial⟩ ?_
          refine L.alloc rfl rfl rfl (fun A8 => ?_)
          refine L.nil (QE.m (by kernel_rfl) ?_)
          refine LM.cut [] (by kernel_rfl) ⟨Has.r 0 rfl, Has.r 1 rfl, Has.r 2 rfl, trivial⟩ ?_
          refine LM.f 6 rfl (by kernel_rfl) trivial ?_
          refine L.storeA (j := 1) rfl rfl rfl rfl rfl (Nat.zero_lt_succ _) rfl rfl ?_
          refine L.nil (QE.m (by kernel_rfl) ?_)
          refine LM.f 7 rfl (by kernel_rfl) trivial ?_
          refine L.storeA (j := 0) rfl rfl rfl rfl rfl (Nat.zero_lt_succ _) rfl rfl ?_
          refine L.nil (QE.m (by kernel_rfl) ?_)
          refine LM.nil (by kernel_rfl) trivial ?_
          first | exact QE.joined ((A8, A9)) trivial (by exact Le.mk' (rs := [0, 1, 2]) (hs := [0, 1]) ⟨rfl, rfl, rfl, rfl, trivial⟩ ⟨rfl, rfl, rfl, trivial⟩ ⟨rfl, rfl, trivial⟩ (by decide)) | exact QE.joined ((A8, A9)) trivial (by exact Le.mk' (rs := [0, 1, 2]) (hs := [1, 0]) ⟨rfl, rfl, rfl, rfl, trivial⟩ ⟨rfl, rfl, rfl, trivial⟩ ⟨rfl, rfl, trivial⟩ (by decide))
      · skip
        refine L.alloc rfl rfl rfl (fun A8 => ?_)
        refine L.nil (QE.m (by kernel_rfl) ?_)
        refine LM.alt [3, 5] (by kernel_rfl) (by decide) ⟨Has.r 0 rfl, Has.r 1 rfl, Has.r 2 rfl, trivial⟩ ⟨⟨_, rfl, ?_⟩, ⟨_, rfl, ?_⟩, trivial⟩
        · skip
          refine L.call (js := []) (js' := [0]) (made_c qq) rfl rfl rfl (by decide) trivial rfl ?_
          rintro _ _ _ ⟨rfl, rfl, rfl⟩
          refine L.norm (H' := [_]) [0] ⟨rfl, trivial⟩ (by decide) ?_
          refine L.nil (QE.m (by kernel_rfl) ?_)
          refine LM.f 5 rfl (by kernel_rfl) ⟨Has.r 0 rfl, Has.r 1 rfl, Has.r 2 rfl, trivial⟩ ?_
          refine L.alloc rfl rfl rfl (fun A9 => ?_)
          refine L.nil (QE.m (by kernel_rfl) ?_)
          refine LM.cut [] (by kernel_rfl) ⟨Has.r 0 rfl, Has.r 1 rfl, Has.r 2 rfl, trivial⟩ ?_
          refine LM.f 6 rfl (by kernel_rfl) trivial ?_
          refine L.storeA (j := 0) rfl rfl rfl rfl rfl (Nat.zero_lt_succ _) rfl rfl ?_
          refine L.nil (QE.m (by kernel_rfl) ?_)
          refine LM.f 7 rfl (by kernel_rfl) trivial ?_
          refine L.storeA (j := 1) rfl rfl rfl rfl rfl (Nat.zero_lt_succ _) rfl rfl ?_
          refine L.nil (QE.m (by kernel_rfl) ?_)
          refine LM.nil (by kernel_rfl) trivial ?_
          first | exact QE.joined ((A8, A9)) trivial (by exact Le.mk' (rs := [0, 1, 2]) (hs := [0, 1]) ⟨rfl, rfl, rfl, rfl, trivial⟩ ⟨rfl, rfl, rfl, trivial⟩ ⟨rfl, rfl, trivial⟩ (by decide)) | exact QE.joined ((A8, A9)) trivial (by exact Le.mk' (rs := [0, 1, 2]) (hs := [1, 0]) ⟨rfl, rfl, rfl, rfl, trivial⟩ ⟨rfl, rfl, rfl, trivial⟩ ⟨rfl, rfl, trivial⟩ (by decide))
        · skip
          refine L.alloc rfl rfl rfl (fun A9 => ?_)
          refine L.nil (QE.m (by kernel_rfl) ?_)
          refine LM.f 3 rfl (by kernel_rfl) ⟨Has.r 0 rfl, Has.r 1 rfl, Has.r 2 rfl, trivial⟩ ?_
          refine L.call (js := []) (js' := [0, 1]) (made_c qq) rfl rfl rfl (by decide) trivial rfl ?_
          rintro _ _ _ ⟨rfl, rfl, rfl⟩
          refine L.norm (H' := [_, _]) [0, 1] ⟨rfl, rfl, trivial⟩ (by decide) ?_
          refine L.nil (QE.m (by kernel_rfl) ?_)
          refine LM.cut [] (by kernel_rfl) ⟨Has.r 0 rfl, Has.r 1 rfl, Has.r 2 rfl, trivial⟩ ?_
          refine LM.f 6 rfl (by kernel_rfl) trivial ?_
          refine L.storeA (j := 0) rfl rfl rfl rfl rfl (Nat.zero_lt_succ _) rfl rfl ?_
          refine L.nil (QE.m (by kernel_rfl) ?_)
          refine LM.f 7 rfl (by kernel_rfl) trivial ?_
          refine L.storeA (j := 1) rfl rfl rfl rfl rfl (Nat.zero_lt_succ _) rfl rfl ?_
          refine L.nil (QE.m (by kernel_rfl) ?_)
          refine LM.nil (by kernel_rfl) trivial ?_
          first | exact QE.joined ((A8, A9)) trivial (by exact Le.mk' (rs := [0, 1, 2]) (hs := [0, 1]) ⟨rfl, rfl, rfl, rfl, trivial⟩ ⟨rfl, rfl, rfl, trivial⟩ ⟨rfl, rfl, trivial⟩ (by decide)) | exact QE.joined ((A8, A9)) trivial (by exact Le.mk' (rs := [0, 1, 2]) (hs := [1, 0]) ⟨rfl, rfl, rfl, rfl, trivial⟩ ⟨rfl, rfl, rfl, trivial⟩ ⟨rfl, rfl, trivial⟩ (by decide))
      · skip
        refine L.alloc rfl rfl rfl (fun A9 => ?_)
        refine L.nil (QE.m (by kernel_rfl) ?_)
        refine LM.alt [3, 4] (by kernel_rfl) (by decide) ⟨Has.r 0 rfl, Has.r 1 rfl, Has.r 2 rfl, trivial⟩ ⟨⟨_, rfl, ?_⟩, ⟨_, rfl, ?_⟩, trivial⟩
        · skip
          refine L.call (js := []) (js' := [0]) (made_c qq) rfl rfl rfl (by decide) trivial rfl ?_
          rintro _ _ _ ⟨rfl, rfl, rfl⟩
          refine L.norm (H' := [_]) [0] ⟨rfl, trivial⟩ (by decide) ?_
          refine L.nil (QE.m (by kernel_rfl) ?_)
          refine LM.f 4 rfl (by kernel_rfl) ⟨Has.r 0 rfl, Has.r 1 rfl, Has.r 2 rfl, trivial⟩ ?_
          refine L.alloc rfl rfl rfl (fun A8 => ?_)
          refine L.nil (QE.m (by kernel_rfl) ?_)
          refine LM.cut [] (by kernel_rfl) ⟨Has.r 0 rfl, Has.r 1 rfl, Has.r 2 rfl, trivial⟩ ?_
          refine LM.f 6 rfl (by kernel_rfl) trivial ?_
          refine L.storeA (j := 1) rfl rfl rfl rfl rfl (Nat.zero_lt_succ _) rfl rfl ?_
          refine L.nil (QE.m (by kernel_rfl) ?_)
          refine LM.f 7 rfl (by kernel_rfl) trivial ?_
          refine L.storeA (j := 0) rfl rfl rfl rfl rfl (Nat.zero_lt_succ _) rfl rfl ?_
          refine L.nil (QE.m (by kernel_rfl) ?_)
          refine LM.nil (by kernel_rfl) trivial ?_
          first | exact QE.joined ((A8, A9)) trivial (by exact Le.mk' (rs := [0, 1, 2]) (hs := [0, 1]) ⟨rfl, rfl, rfl, rfl, trivial⟩ ⟨rfl, rfl, rfl, trivial⟩ ⟨rfl, rfl, trivial⟩ (by decide)) | exact QE.joined ((A8, A9)) trivial (by exact Le.mk' (rs := [0, 1, 2]) (hs := [1, 0]) ⟨rfl, rfl, rfl, rfl, trivial⟩ ⟨rfl, rfl, rfl, trivial⟩ ⟨rfl, rfl, trivial⟩ (by decide))
        · skip
          refine L.alloc rfl rfl rfl (fun A8 => ?_)
          refine L.nil (QE.m (by kernel_rfl) ?_)
          refine LM.f 3 rfl (by kernel_rfl) ⟨Has.r 0 rfl, Has.r 1 rfl, Has.r 2 rfl, trivial⟩ ?_
          refine L.call (js := []) (js' := [0, 1]) (made_c qq) rfl rfl rfl (by decide) trivial rfl ?_
          rintro _ _ _ ⟨rfl, rfl, rfl⟩
          refine L.norm (H' := [_, _]) [0, 1] ⟨rfl, rfl, trivial⟩ (by decide) ?_
          refine L.nil (QE.m (by kernel_rfl) ?_)
          refine LM.cut [] (by kernel_rfl) ⟨Has.r 0 rfl, Has.r 1 rfl, Has.r 2 rfl, trivial⟩ ?_
          refine LM.f 6 rfl (by kernel_rfl) trivial ?_
          refine L.storeA (j := 1) rfl rfl rfl rfl rfl (Nat.zero_lt_succ _) rfl rfl ?_
          refine L.nil (QE.m (by kernel_rfl) ?_)
          refine LM.f 7 rfl (by kernel_rfl) trivial ?_
          refine L.storeA (j := 0) rfl rfl rfl rfl rfl (Nat.zero_lt_succ _) rfl rfl ?_
          refine L.nil (QE.m (by kernel_rfl) ?_)
          refine LM.nil (by kernel_rfl) trivial ?_
          first | exact QE.joined ((A8, A9)) trivial (by exact Le.mk' (rs := [0, 1, 2]) (hs := [0, 1]) ⟨rfl, rfl, rfl, rfl, trivial⟩ ⟨rfl, rfl, rfl, trivial⟩ ⟨rfl, rfl, trivial⟩ (by decide)) | exact QE.joined ((A8, A9)) trivial (by exact Le.mk' (rs := [0, 1, 2]) (hs := [1, 0]) ⟨rfl, rfl, rfl, rfl, trivial⟩ ⟨rfl, rfl, rfl, trivial⟩ ⟨rfl, rfl, trivial⟩ (by decide))
    · skip
      refine L.alloc rfl rfl rfl (fun A8 => ?_)
      refine L.nil (QE.m (by kernel_rfl) ?_)
      refine LM.alt [1, 5] (by kernel_rfl) (by decide) ⟨Has.r 0 rfl, Has.r 1 rfl, Has.r 2 rfl, trivial⟩ ⟨⟨_, rfl, ?_⟩, ⟨_, rfl, ?_⟩, trivial⟩
      · skip
        refine L.call (js := []) (js' := [0]) (made_c r) rfl rfl rfl (by decide) trivial rfl ?_
        rintro _ _ _ ⟨rfl, rfl, rfl⟩
        refine L.norm (H' := [_]) [0] ⟨rfl, trivial⟩ (by decide) ?_
        refine L.nil (QE.m (by kernel_rfl) ?_)
        refine LM.alt [3, 5] (by kernel_rfl) (by decide) ⟨Has.r 0 rfl, Has.r 1 rfl, Has.r 2 rfl, trivial⟩ ⟨⟨_, rfl, ?_⟩, ⟨_, rfl, ?_⟩, trivial⟩
        · skip
          refine L.call (js := []) (js' := [0]) (made_c qq) rfl rfl rfl (by decide) trivial rfl ?_
          rintro _ _ _ ⟨rfl, rfl, rfl⟩
          refine L.norm (H' := [_]) [0] ⟨rfl, trivial⟩ (by decide) ?_
          refine L.nil (QE.m (by kernel_rfl) ?_)
          refine LM.f 5 rfl (by kernel_rfl) ⟨Has.r 0 rfl, Has.r 1 rfl, Has.r 2 rfl, trivial⟩ ?_
          refine L.alloc rfl rfl rfl (fun A9 => ?_)
          refine L.nil (QE.m (by kernel_rfl) ?_)
          refine LM.cut [] (by kernel_rfl) ⟨Has.r 0 rfl, Has.r 1 rfl, Has.r 2 rfl, trivial⟩ ?_
          refine LM.f 6 rfl (by kernel_rfl) trivial ?_
          refine L.storeA (j := 0) rfl rfl rfl rfl rfl (Nat.zero_lt_succ _) rfl rfl ?_
          refine L.nil (QE.m (by kernel_rfl) ?_)
          refine LM.f 7 rfl (by kernel_rfl) trivial ?_
          refine L.storeA (j := 1) rfl rfl rfl rfl rfl (Nat.zero_lt_succ _) rfl rfl ?_
          refine L.nil (QE.m (by kernel_rfl) ?_)
          refine LM.nil (by kernel_rfl) trivial ?_
          first | exact QE.joined ((A8, A9)) trivial (by exact Le.mk' (rs := [0, 1, 2]) (hs := [0, 1]) ⟨rfl, rfl, rfl, rfl, trivial⟩ ⟨rfl, rfl, rfl, trivial⟩ ⟨rfl, rfl, trivial⟩ (by decide)) | exact QE.joined ((A8, A9)) trivial (by exact Le.mk' (rs := [0, 1, 2]) (hs := [1, 0]) ⟨rfl, rfl, rfl, rfl, trivial⟩ ⟨rfl, rfl, rfl, trivial⟩ ⟨rfl, rfl, trivial⟩ (by decide))
        · skip
          refine L.alloc rfl rfl rfl (fun A9 => ?_)
          refine L.nil (QE.m (by kernel_rfl) ?_)
          refine LM.f 3 rfl (by kernel_rfl) ⟨Has.r 0 rfl, Has.r 1 rfl, Has.r 2 rfl, trivial⟩ ?_
          refine L.call (js := []) (js' := [0, 1]) (made_c qq) rfl rfl rfl (by decide) trivial rfl ?_
          rintro _ _ _ ⟨rfl, rfl, rfl⟩
          refine L.norm (H' := [_, _]) [0, 1] ⟨rfl, rfl, trivial⟩ (by decide) ?_
          refine L.nil (QE.m (by kernel_rfl) ?_)
          refine LM.cut [] (by kernel_rfl) ⟨Has.r 0 rfl, Has.r 1 rfl, Has.r 2 rfl, trivial⟩ ?_
          refine LM.f 6 rfl (by kernel_rfl) trivial ?_
          refine L.storeA (j := 0) rfl rfl rfl rfl rfl (Nat.zero_lt_succ _) rfl rfl ?_
          refine L.nil (QE.m (by kernel_rfl) ?_)
          refine LM.f 7 rfl (by kernel_rfl) trivial ?_
          refine L.storeA (j := 1) rfl rfl rfl rfl rfl (Nat.zero_lt_succ _) rfl rfl ?_
          refine L.nil (QE.m (by kernel_rfl) ?_)
          refine LM.nil (by kernel_rfl) trivial ?_
          first | exact QE.joined ((A8, A9)) trivial (by exact Le.mk' (rs := [0, 1, 2]) (hs := [0, 1]) ⟨rfl, rfl, rfl, rfl, trivial⟩ ⟨rfl, rfl, rfl, trivial⟩ ⟨rfl, rfl, trivial⟩ (by decide)) | exact QE.joined ((A8, A9)) trivial (by exact Le.mk' (rs := [0, 1, 2]) (hs := [1, 0]) ⟨rfl, rfl, rfl, rfl, trivial⟩ ⟨rfl, rfl, rfl, trivial⟩ ⟨rfl, rfl, trivial⟩ (by decide))
      · skip
        refine L.alloc rfl rfl rfl (fun A9 => ?_)
        refine L.nil (QE.m (by kernel_rfl) ?_)
        refine LM.f 1 rfl (by kernel_rfl) ⟨Has.r 0 rfl, Has.r 1 rfl, Has.r 2 rfl, trivial⟩ ?_
        refine L.call (js := []) (js' := [0, 1]) (made_c r) rfl rfl rfl (by decide) trivial rfl ?_
        rintro _ _ _ ⟨rfl, rfl, rfl⟩
        refine L.norm (H' := [_, _]) [0, 1] ⟨rfl, rfl, trivial⟩ (by decide) ?_
        refine L.nil (QE.m (by kernel_rfl) ?_)
        refine LM.f 3 rfl (by kernel_rfl) ⟨Has.r 0 rfl, Has.r 1 rfl, Has.r 2 rfl, trivial⟩ ?_
        refine L.call (js := []) (js' := [0, 1]) (made_c qq) rfl rfl rfl (by decide) trivial rfl ?_
        rintro _ _ _ ⟨rfl, rfl, rfl⟩
        refine L.norm (H' := [_, _]) [0, 1] ⟨rfl, rfl, trivial⟩ (by decide) ?_
        refine L.nil (QE.m (by kernel_rfl) ?_)
        refine LM.cut [] (by kernel_rfl) ⟨Has.r 0 rfl, Has.r 1 rfl, Has.r 2 rfl, trivial⟩ ?_
        refine LM.f 6 rfl (by kernel_rfl) trivial ?_
        refine L.storeA (j := 0) rfl rfl rfl rfl rfl (Nat.zero_lt_succ _) rfl rfl ?_
        refine L.nil (QE.m (by kernel_rfl) ?_)
        refine LM.f 7 rfl (by kernel_rfl) trivial ?_
        refine L.storeA (j := 1) rfl rfl rfl rfl rfl (Nat.zero_lt_succ _) rfl rfl ?_
        refine L.nil (QE.m (by kernel_rfl) ?_)
        refine LM.nil (by kernel_rfl) trivial ?_
        first | exact QE.joined ((A8, A9)) trivial (by exact Le.mk' (rs := [0, 1, 2]) (hs := [0, 1]) ⟨rfl, rfl, rfl, rfl, trivial⟩ ⟨rfl, rfl, rfl, trivial⟩ ⟨rfl, rfl, trivial⟩ (by decide)) | exact QE.joined ((A8, A9)) trivial (by exact Le.mk' (rs := [0, 1, 2]) (hs := [1, 0]) ⟨rfl, rfl, rfl, rfl, trivial⟩ ⟨rfl, rfl, rfl, trivial⟩ ⟨rfl, rfl, trivial⟩ (by decide))
    · skip
      refine L.alloc rfl rfl rfl (fun A9 => ?_)
      refine L.nil (QE.m (by kernel_rfl) ?_)
      refine LM.alt [1, 4] (by kernel_rfl) (by decide) ⟨Has.r 0 rfl, Has.r 1 rfl, Has.r 2 rfl, trivial⟩ ⟨⟨_, rfl, ?_⟩, ⟨_, rfl, ?_⟩, trivial⟩
      · skip
        refine L.call (js := []) (js' := [0]) (made_c r) rfl rfl rfl (by decide) trivial rfl ?_
        rintro _ _ _ ⟨rfl, rfl, rfl⟩
        refine L.norm (H' := [_]) [0] ⟨rfl, trivial⟩ (by decide) ?_
        refine L.nil (QE.m (by kernel_rfl) ?_)
        refine LM.alt [3, 4] (by kernel_rfl) (by decide) ⟨Has.r 0 rfl, Has.r 1 rfl, Has.r 2 rfl, trivial⟩ ⟨⟨_, rfl, ?_⟩, ⟨_, rfl, ?_⟩, trivial⟩
        · skip
          refine L.call (js := []) (js' := [0]) (made_c qq) rfl rfl rfl (by decide) trivial rfl ?_
          rintro _ _ _ ⟨rfl, rfl, rfl⟩
          refine L.norm (H' := [_]) [0] ⟨rfl, trivial⟩ (by decide) ?_
          refine L.nil (QE.m (by kernel_rfl) ?_)
          refine LM.f 4 rfl (by kernel_rfl) ⟨Has.r 0 rfl, Has.r 1 rfl, Has.r 2 rfl, trivial⟩ ?_
          refine L.alloc rfl rfl rfl (fun A8 => ?_)
          refine L.nil (QE.m (by kernel_rfl) ?_)
          refine LM.cut [] (by kernel_rfl) ⟨Has.r 0 rfl, Has.r 1 rfl, Has.r 2 rfl, trivial⟩ ?_
          refine LM.f 6 rfl (by kernel_rfl) trivial ?_
          refine L.storeA (j := 1) rfl rfl rfl rfl rfl (Nat.zero_lt_succ _) rfl rfl ?_
          refine L.nil (QE.m (by kernel_rfl) ?_)
          refine LM.f 7 rfl (by kernel_rfl) trivial ?_
          refine L.storeA (j := 0) rfl rfl rfl rfl rfl (Nat.zero_lt_succ _) rfl rfl ?_
          refine L.nil (QE.m (by kernel_rfl) ?_)
          refine LM.nil (by kernel_rfl) trivial ?_
          first | exact QE.joined ((A8, A9)) trivial (by exact Le.mk' (rs := [0, 1, 2]) (hs := [0, 1]) ⟨rfl, rfl, rfl, rfl, trivial⟩ ⟨rfl, rfl, rfl, trivial⟩ ⟨rfl, rfl, trivial⟩ (by decide)) | exact QE.joined ((A8, A9)) trivial (by exact Le.mk' (rs := [0, 1, 2]) (hs := [1, 0]) ⟨rfl, rfl, rfl, rfl, trivial⟩ ⟨rfl, rfl, rfl, trivial⟩ ⟨rfl, rfl, trivial⟩ (by decide))
        · skip
          refine L.alloc rfl rfl rfl (fun A8 => ?_)
          refine L.nil (QE.m (by kernel_rfl) ?_)
          refine LM.f 3 rfl (by kernel_rfl) ⟨Has.r 0 rfl, Has.r 1 rfl, Has.r 2 rfl, trivial⟩ ?_
          refine L.call (js := []) (js' := [0, 1]) (made_c qq) rfl rfl rfl (by decide) trivial rfl ?_
          rintro _ _ _ ⟨rfl, rfl, rfl⟩
          refine L.norm (H' := [_, _]) [0, 1] ⟨rfl, rfl, trivial⟩ (by decide) ?_
          refine L.nil (QE.m (by kernel_rfl) ?_)
          refine LM.cut [] (by kernel_rfl) ⟨Has.r 0 rfl, Has.r 1 rfl, Has.r 2 rfl, trivial⟩ ?_
          refine LM.f 6 rfl (by kernel_rfl) trivial ?_
          refine L.storeA (j := 1) rfl rfl rfl rfl rfl (Nat.zero_lt_succ _) rfl rfl ?_
          refine L.nil (QE.m (by kernel_rfl) ?_)
          refine LM.f 7 rfl (by kernel_rfl) trivial ?_
          refine L.storeA (j := 0) rfl rfl rfl rfl rfl (Nat.zero_lt_succ _) rfl rfl ?_
          refine L.nil (QE.m (by kernel_rfl) ?_)
          refine LM.nil (by kernel_rfl) trivial ?_
          first | exact QE.joined ((A8, A9)) trivial (by exact Le.mk' (rs := [0, 1, 2]) (hs := [0, 1]) ⟨rfl, rfl, rfl, rfl, trivial⟩ ⟨rfl, rfl, rfl, trivial⟩ ⟨rfl, rfl, trivial⟩ (by decide)) | exact QE.joined ((A8, A9)) trivial (by exact Le.mk' (rs := [0, 1, 2]) (hs := [1, 0]) ⟨rfl, rfl, rfl, rfl, trivial⟩ ⟨rfl, rfl, rfl, trivial⟩ ⟨rfl, rfl, trivial⟩ (by decide))
      · skip
        refine L.alloc rfl rfl rfl (fun A8 => ?_)
        refine L.nil (QE.m (by kernel_rfl) ?_)
        refine LM.f 1 rfl (by kernel_rfl) ⟨Has.r 0 rfl, Has.r 1 rfl, Has.r 2 rfl, trivial⟩ ?_
        refine L.call (js := []) (js' := [0, 1]) (made_c r) rfl rfl rfl (by decide) trivial rfl ?_
        rintro _ _ _ ⟨rfl, rfl, rfl⟩
        refine L.norm (H' := [_, _]) [0, 1] ⟨rfl, rfl, trivial⟩ (by decide) ?_
        refine L.nil (QE.m (by kernel_rfl) ?_)
        refine LM.f 3 rfl (by kernel_rfl) ⟨Has.r 0 rfl, Has.r 1 rfl, Has.r 2 rfl, trivial⟩ ?_
        refine L.call (js := []) (js' := [0, 1]) (made_c qq) rfl rfl rfl (by decide) trivial rfl ?_
        rintro _ _ _ ⟨rfl, rfl, rfl⟩
        refine L.norm (H' := [_, _]) [0, 1] ⟨rfl, rfl, trivial⟩ (by decide) ?_
        refine L.nil (QE.m (by kernel_rfl) ?_)
        refine LM.cut [] (by kernel_rfl) ⟨Has.r 0 rfl, Has.r 1 rfl, Has.r 2 rfl, trivial⟩ ?_
        refine LM.f 6 rfl (by kernel_rfl) trivial ?_
        refine L.storeA (j := 1) rfl rfl rfl rfl rfl (Nat.zero_lt_succ _) rfl rfl ?_
        refine L.nil (QE.m (by kernel_rfl) ?_)
        refine LM.f 7 rfl (by kernel_rfl) trivial ?_
        refine L.storeA (j := 0) rfl rfl rfl rfl rfl (Nat.zero_lt_succ _) rfl rfl ?_
        refine L.nil (QE.m (by kernel_rfl) ?_)
        refine LM.nil (by kernel_rfl) trivial ?_
        first | exact QE.joined ((A8, A9)) trivial (by exact Le.mk' (rs := [0, 1, 2]) (hs := [0, 1]) ⟨rfl, rfl, rfl, rfl, trivial⟩ ⟨rfl, rfl, rfl, trivial⟩ ⟨rfl, rfl, trivial⟩ (by decide)) | exact QE.joined ((A8, A9)) trivial (by exact Le.mk' (rs := [0, 1, 2]) (hs := [1, 0]) ⟨rfl, rfl, rfl, rfl, trivial⟩ ⟨rfl, rfl, rfl, trivial⟩ ⟨rfl, rfl, trivial⟩ (by decide))
  · skip
    rintro ⟨A8, A9⟩ _
    dsimp only
    refine QE.seq ?_
    refine C.seq ?_
    refine C.freeze 0 rfl [1] (by decide) (by decide) ?_
    refine C.norm (H' := [_]) [0] ⟨rfl, trivial⟩ (by decide) ?_
    refine C.freeze 0 rfl [] (by decide) (by decide) ?_
    refine C.region ?_
    refine L.step (Ev.loadA rfl rfl rfl (Src.r 1 rfl) rfl rfl (by decide)) rfl ?_
    refine L.call (js := []) (js' := []) (slotP_c (madeS r) rfl) rfl rfl rfl (by decide) trivial rfl ?_
    rintro _ _ _ ⟨SO, sc, rfl, hso, rfl, rfl⟩
    refine L.norm (H' := [_]) [0] ⟨rfl, trivial⟩ (by decide) ?_
    refine L.step (Ev.pure rfl) rfl ?_
    refine L.nil ?_
    refine QE.seq ?_
    refine C.seq ?_
    refine C.seq ?_
    refine C.regionM [Rd M (U8 ms), Rd A8 (st9 (madeS r)), Rd A9 (st9 (madeS qq))] ⟨Has.r 4 rfl, Has.r 1 rfl, Has.r 0 rfl, trivial⟩ ?_
    refine LM.q 0 rfl (by kernel_rfl) (Ev.pure rfl) rfl ⟨Has.r 4 rfl, Has.r 1 rfl, Has.r 0 rfl, trivial⟩ ?_
    refine LM.q 1 rfl (by kernel_rfl) (Ev.pure rfl) rfl ⟨Has.r 4 rfl, Has.r 1 rfl, Has.r 0 rfl, trivial⟩ ?_
    refine LM.q 2 rfl (by kernel_rfl) (Ev.pure rfl) rfl ⟨Has.r 4 rfl, Has.r 1 rfl, Has.r 0 rfl, trivial⟩ ?_
    refine LM.q 3 rfl (by kernel_rfl) (Ev.pure rfl) rfl ⟨Has.r 4 rfl, Has.r 1 rfl, Has.r 0 rfl, trivial⟩ ?_
    refine LM.bool 25 rfl (fun hg25 => ?_) (fun hg25 => ?_)
    · skip
      replace hg25 := b_ne hg25
      exact absurd (show ((slotF (madeS r)).length : Int) = 30 by omega) hg25
    · skip
      replace hg25 := b_eq hg25
      refine LM.qy 4 rfl (by kernel_rfl) rfl (Ev.pure rfl) rfl ⟨Has.r 4 rfl, Has.r 1 rfl, Has.r 0 rfl, trivial⟩ ?_
      refine LM.qy 5 rfl (by kernel_rfl) rfl (Ev.loadA rfl rfl rfl (Src.r 2 rfl) rfl rfl (by decide)) rfl ⟨Has.r 4 rfl, Has.r 1 rfl, Has.r 0 rfl, trivial⟩ ?_
      refine LM.qy 8 rfl (by kernel_rfl) rfl (Ev.loadA rfl rfl rfl (Src.r 1 rfl) rfl rfl (by decide)) rfl ⟨Has.r 4 rfl, Has.r 1 rfl, Has.r 0 rfl, trivial⟩ ?_
      refine LM.qy 9 rfl (by kernel_rfl) rfl (Ev.loadA rfl rfl rfl (Src.r 2 rfl) rfl rfl (by decide)) rfl ⟨Has.r 4 rfl, Has.r 1 rfl, Has.r 0 rfl, trivial⟩ ?_
      refine LM.qy 10 rfl (by kernel_rfl) rfl (Ev.eqS9 (xs := madeS r) (ys := madeS qq) rfl rfl (by kernel_rfl) (by kernel_rfl) rfl rfl rfl rfl rfl rfl) rfl ⟨Has.r 4 rfl, Has.r 1 rfl, Has.r 0 rfl, trivial⟩ ?_
      refine LM.f 6 rfl (by kernel_rfl) ⟨Has.r 4 rfl, Has.r 1 rfl, Has.r 0 rfl, trivial⟩ ?_
      refine L.yes rfl ?_
      refine L.call (js := []) (js' := [0]) (slotP_c (madeS qq) rfl) rfl rfl rfl (by decide) trivial rfl ?_
      rintro _ _ _ ⟨TO, tc, rfl, hto, rfl, rfl⟩
      refine L.norm (H' := [_, _]) [0, 1] ⟨rfl, rfl, trivial⟩ (by decide) ?_
      refine L.nil (QE.m (by kernel_rfl) ?_)
      refine LM.f 7 rfl (by kernel_rfl) ⟨Has.r 4 rfl, Has.r 1 rfl, Has.r 0 rfl, trivial⟩ ?_
      refine L.yes rfl ?_
      refine L.call (js := []) (js' := [0, 1]) (same_c SO TO sc tc (slotF (madeS r)) (slotF (madeS qq)) (by omega) (by omega)) rfl rfl rfl (by decide) ⟨(Has.o 1 rfl), (Has.o 0 rfl), trivial⟩ rfl ?_
      rintro _ _ _ ⟨rfl, rfl, rfl⟩
      refine L.norm (H' := [_, _]) [0, 1] ⟨rfl, rfl, trivial⟩ (by decide) ?_
      refine L.nil (QE.m (by kernel_rfl) ?_)
      refine LM.cut [] (by kernel_rfl) ⟨Has.r 4 rfl, Has.r 1 rfl, Has.r 0 rfl, trivial⟩ ?_
      refine LM.f 11 rfl (by kernel_rfl) trivial ?_
      refine L.yes rfl ?_
      refine L.step (Ev.neBool rfl rfl rfl rfl) rfl ?_
      refine L.nil (QE.m (by kernel_rfl) ?_)
      refine LM.f 12 rfl (by kernel_rfl) trivial ?_
      refine L.step (Ev.pure rfl) rfl ?_
      refine L.nil (QE.m (by kernel_rfl) ?_)
      refine LM.nil (by kernel_rfl) trivial ?_
      refine QE.seq ?_
      refine C.condB 34 rfl (fun hc34 => ?_) (fun hc34 => ?_)
      · skip
        rw [slots_same] at hc34; simp at hc34
      · skip
        refine C.skip ?_
        refine QE.seq ?_
        refine C.seq ?_
        refine C.freeze 1 rfl [0] (by decide) (by decide) ?_
        refine C.norm (H' := [_]) [0] ⟨rfl, trivial⟩ (by decide) ?_
        refine C.region ?_
        refine L.call (js := []) (js' := [0]) (blank_c 30 (by decide)) rfl rfl rfl (by decide) trivial rfl ?_
        rintro _ _ _ ⟨A35, rfl, rfl, rfl⟩
        refine L.norm (H' := [_, _]) [0, 1] ⟨rfl, rfl, trivial⟩ (by decide) ?_
        refine L.step (Ev.pure rfl) rfl ?_
        refine L.nil ?_
        refine QE.seq ?_
        refine C.seq ?_
        refine C.seq ?_
        refine C.region ?_
        refine L.step (Ev.pure rfl) rfl ?_
        refine L.nil ?_
        refine QE.seq ?_
        refine C.block ?_
        refine C.loop (fun k : Nat => [(2, .slice M ms.length mc), (7, .bool true), (10, .slice SO (slotF (madeS r)).length sc), (11, .slice A35 30 30), (12, .int .i64 (k : Int))]) (fun k : Nat => [Rd M (U8 ms), Rd SO (U8 (slotF (madeS r)))]) (fun k : Nat => [Own 5 1 A35 30 30 (U8 (partP (slotF (madeS r)) ms k))]) (fun k : Nat => k ≤ 30) (fun k : Nat => 30 - k) 0 (by decide) (by exact Le.mk' (rs := [5, 0]) (hs := [0]) ⟨rfl, rfl, rfl, rfl, rfl, trivial⟩ ⟨rfl, rfl, trivial⟩ ⟨(by rw [partP_zero]; rfl), trivial⟩ (by decide)) ?_
        intro k hk
        refine C.seq ?_
        refine C.seq ?_
        refine C.region ?_
        refine L.step (Ev.pure rfl) rfl ?_
        refine L.step (Ev.pure rfl) rfl ?_
        refine L.step (Ev.pure rfl) rfl ?_
        refine L.bool 38 rfl (fun hg38 => ?_) (fun hg38 => ?_)
        · skip
          replace hg38 := of_decide_eq_true hg38
          refine L.yes rfl ?_
          refine L.step (Ev.pure rfl) rfl ?_
          refine L.yes rfl ?_
          refine L.step (Ev.pure rfl) rfl ?_
          refine L.yes rfl ?_
          refine L.step (Ev.pure rfl) rfl ?_
          refine L.yes rfl ?_
          refine L.step (Ev.pure rfl) rfl ?_
          refine L.step (Ev.pure rfl) rfl ?_
          refine L.nil ?_
          refine QE.seq ?_
          refine C.condB 43 rfl (fun hc43 => ?_) (fun hc43 => ?_)
          · skip
            replace hc43 := of_decide_eq_true hc43
            refine C.skip ?_
            refine QE.seq ?_
            refine C.seq ?_
            refine C.block ?_
            refine C.regionM [Rd M (U8 ms), Rd SO (U8 (slotF (madeS r))), Rd A35 (U8 (partP (slotF (madeS r)) ms k))] ⟨Has.r 0 rfl, Has.r 1 rfl, Has.o 0 rfl, trivial⟩ ?_
            refine LM.q 0 rfl (by kernel_rfl) (Ev.pure rfl) rfl ⟨Has.r 0 rfl, Has.r 1 rfl, Has.o 0 rfl, trivial⟩ ?_
            refine LM.q 1 rfl (by kernel_rfl) (Ev.pure rfl) rfl ⟨Has.r 0 rfl, Has.r 1 rfl, Has.o 0 rfl, trivial⟩ ?_
            refine LM.q 2 rfl (by kernel_rfl) (Ev.pure rfl) rfl ⟨Has.r 0 rfl, Has.r 1 rfl, Has.o 0 rfl, trivial⟩ ?_
            refine LM.q 3 rfl (by kernel_rfl) (Ev.pure rfl) rfl ⟨Has.r 0 rfl, Has.r 1 rfl, Has.o 0 rfl, trivial⟩ ?_
            refine LM.q 4 rfl (by kernel_rfl) (Ev.idx1 (k := k) rfl rfl rfl rfl rfl rfl rfl (by omega) (Src.r 1 rfl) (by rw [U8_len]; omega)) rfl ⟨Has.r 0 rfl, Has.r 1 rfl, Has.o 0 rfl, trivial⟩ ?_
            refine LM.q 5 rfl (by kernel_rfl) (Ev.load rfl rfl rfl (Src.r 1 rfl) (U8_get (by omega))) rfl ⟨Has.r 0 rfl, Has.r 1 rfl, Has.o 0 rfl, trivial⟩ ?_
            refine LM.q 6 rfl (by kernel_rfl) (Ev.pure rfl) rfl ⟨Has.r 0 rfl, Has.r 1 rfl, Has.o 0 rfl, trivial⟩ ?_
            refine LM.f 7 rfl (by kernel_rfl) ⟨Has.r 0 rfl, Has.r 1 rfl, Has.o 0 rfl, trivial⟩ ?_
            refine L.step (Ev.pure rfl) rfl ?_
            refine L.nil (QE.m (by kernel_rfl) ?_)
            refine LM.f 8 rfl (by kernel_rfl) ⟨Has.r 0 rfl, Has.r 1 rfl, Has.o 0 rfl, trivial⟩ ?_
            refine L.step (Ev.idx1 (k := k) rfl rfl rfl rfl rfl rfl rfl (by omega) (Src.r 0 rfl) (by rw [U8_len]; omega)) rfl ?_
            refine L.nil (QE.m (by kernel_rfl) ?_)
            refine LM.f 9 rfl (by kernel_rfl) ⟨Has.r 0 rfl, Has.r 1 rfl, Has.o 0 rfl, trivial⟩ ?_
            refine L.step (Ev.load rfl rfl rfl (Src.r 0 rfl) (U8_get (by omega))) rfl ?_
            refine L.nil (QE.m (by kernel_rfl) ?_)
            refine LM.f 10 rfl (by kernel_rfl) ⟨Has.r 0 rfl, Has.r 1 rfl, Has.o 0 rfl, trivial⟩ ?_
            refine L.step (Ev.com8 rfl) rfl ?_
            refine L.nil (QE.m (by kernel_rfl) ?_)
            refine LM.f 11 rfl (by kernel_rfl) ⟨Has.r 0 rfl, Has.r 1 rfl, Has.o 0 rfl, trivial⟩ ?_
            refine L.step (Ev.or8 rfl rfl) rfl ?_
            refine L.nil (QE.m (by kernel_rfl) ?_)
            refine LM.cut [] (by kernel_rfl) ⟨Has.r 0 rfl, Has.r 1 rfl, Has.o 0 rfl, trivial⟩ ?_
            refine LM.f 12 rfl (by kernel_rfl) trivial ?_
            refine L.step (Ev.idx1 (k := k) rfl rfl rfl rfl rfl rfl rfl (by omega) (Src.o 0 rfl) (by rw [U8_len, partP_len]; omega)) rfl ?_
            refine L.nil (QE.m (by kernel_rfl) ?_)
            refine LM.f 13 rfl (by kernel_rfl) trivial ?_
            refine L.store (j := 0) rfl rfl rfl rfl rfl rfl rfl (by exact U8_get (by rw [partP_len]; omega)) ?_
            refine L.nil (QE.m (by kernel_rfl) ?_)
            refine LM.nil (by kernel_rfl) trivial ?_
            refine QE.blkN ?_
            refine QE.seq ?_
            refine C.region ?_
            refine L.step (Ev.pure rfl) rfl ?_
            refine L.step (Ev.add rfl rfl (by omega) (by omega)) rfl ?_
            refine L.step (Ev.pure rfl) rfl ?_
            refine L.nil ?_
            refine QE.round (k + 1) (by omega) (by omega) (by exact Le.mk' (rs := [0, 1]) (hs := [0]) ⟨rfl, rfl, rfl, rfl, rfl, trivial⟩ ⟨rfl, rfl, trivial⟩ ⟨(by rw [← partP_set (by omega), ← U8_set]; rfl), trivial⟩ (by decide))
          · skip
            replace hc43 := of_decide_eq_false hc43
            refine C.exit ?_
            refine QE.tX ?_
            refine QE.tX ?_
            refine QE.blk ?_
            refine QE.seq ?_
            refine C.seq ?_
            refine C.region ?_
            refine L.step (Ev.pure rfl) rfl ?_
            refine L.freeze 0 rfl [] (by decide) (by decide) ?_
            refine L.call (js := []) (js' := []) (stR_w A35 30 30 (partP (slotF (madeS r)) ms k) (partP_len ..) rfl) rfl rfl rfl (by decide) ⟨(Has.r 0 rfl), trivial⟩ rfl ?_
            rintro _ _ _ ⟨rfl, rfl, rfl⟩
            refine L.step (Ev.pure rfl) rfl ?_
            refine L.step (Ev.pure rfl) rfl ?_
            refine L.step (Ev.pure rfl) rfl ?_
            refine L.alloc rfl rfl rfl (fun A13 => ?_)
            refine L.storeA (j := 0) rfl rfl rfl rfl rfl (Nat.zero_lt_succ _) rfl rfl ?_
            refine L.step (Ev.pure rfl) rfl ?_
            refine L.nil ?_
            refine QE.seq ?_
            refine C.seq ?_
            refine C.region ?_
            refine L.step (Ev.pure rfl) rfl ?_
            refine L.step (Ev.pure rfl) rfl ?_
            refine L.step (Ev.pure rfl) rfl ?_
            refine L.call (js := []) (js' := [0]) (same_w2 A35 SO 30 30 sc (partP (slotF (madeS r)) ms k) (slotF (madeS r)) (partP_len ..) (by rw [partP_len]; decide) (by omega)) rfl rfl rfl (by decide) ⟨(Has.r 0 rfl), (Has.r 2 rfl), trivial⟩ rfl ?_
            rintro _ _ _ ⟨rfl, rfl, rfl⟩
            refine L.norm (H' := [_]) [0] ⟨rfl, trivial⟩ (by decide) ?_
            refine L.step (Ev.eqBool rfl rfl rfl rfl) rfl ?_
            refine L.step (Ev.pure rfl) rfl ?_
            refine L.bool 69 rfl (fun hg69 => ?_) (fun hg69 => ?_)
            · skip
              refine L.yes rfl ?_
              refine L.step (Ev.pure rfl) rfl ?_
              refine L.step (Ev.pure rfl) rfl ?_
              refine L.step (Ev.pure rfl) rfl ?_
              refine L.nil ?_
              refine QE.seq ?_
              refine C.ret ?_
              refine QE.ret (js := []) (hs := []) (vs := [_]) rfl ⟨rfl, trivial⟩ (by decide) ?_
              refine ⟨congrArg Value.bool ?_, rfl, rfl⟩
              first | rfl | (rw [slots_part] at *; simp_all)
            · skip
              refine L.no rfl rfl rfl ?_
              refine L.step (Ev.pure rfl) rfl ?_
              refine L.step (Ev.pure rfl) rfl ?_
              refine L.nil ?_
              refine QE.seq ?_
              refine C.ret ?_
              refine QE.ret (js := []) (hs := []) (vs := [_]) rfl ⟨rfl, trivial⟩ (by decide) ?_
              refine ⟨congrArg Value.bool ?_, rfl, rfl⟩
              first | rfl | (rw [slots_part] at *; simp_all)
        · skip
          replace hg38 := of_decide_eq_false hg38
          refine L.no rfl rfl rfl ?_
          refine L.no rfl rfl rfl ?_
          refine L.no rfl rfl rfl ?_
          refine L.no rfl rfl rfl ?_
          refine L.step (Ev.pure rfl) rfl ?_
          refine L.nil ?_
          refine QE.seq ?_
          refine C.cond rfl (fun h => by cases h) (fun _ => ?_)
          refine C.exit ?_
          refine QE.tX ?_
          refine QE.tX ?_
          refine QE.blk ?_
          refine QE.seq ?_
          refine C.seq ?_
          refine C.region ?_
          refine L.step (Ev.pure rfl) rfl ?_
          refine L.freeze 0 rfl [] (by decide) (by decide) ?_
          refine L.call (js := []) (js' := []) (stR_w A35 30 30 (partP (slotF (madeS r)) ms k) (partP_len ..) rfl) rfl rfl rfl (by decide) ⟨(Has.r 0 rfl), trivial⟩ rfl ?_
          rintro _ _ _ ⟨rfl, rfl, rfl⟩
          refine L.step (Ev.pure rfl) rfl ?_
          refine L.step (Ev.pure rfl) rfl ?_
          refine L.step (Ev.pure rfl) rfl ?_
          refine L.alloc rfl rfl rfl (fun A13 => ?_)
          refine L.storeA (j := 0) rfl rfl rfl rfl rfl (Nat.zero_lt_succ _) rfl rfl ?_
          refine L.step (Ev.pure rfl) rfl ?_
          refine L.nil ?_
          refine QE.seq ?_
          refine C.seq ?_
          refine C.region ?_
          refine L.step (Ev.pure rfl) rfl ?_
          refine L.step (Ev.pure rfl) rfl ?_
          refine L.step (Ev.pure rfl) rfl ?_
          refine L.call (js := []) (js' := [0]) (same_w2 A35 SO 30 30 sc (partP (slotF (madeS r)) ms k) (slotF (madeS r)) (partP_len ..) (by rw [partP_len]; decide) (by omega)) rfl rfl rfl (by decide) ⟨(Has.r 0 rfl), (Has.r 2 rfl), trivial⟩ rfl ?_
          rintro _ _ _ ⟨rfl, rfl, rfl⟩
          refine L.norm (H' := [_]) [0] ⟨rfl, trivial⟩ (by decide) ?_
          refine L.step (Ev.eqBool rfl rfl rfl rfl) rfl ?_
          refine L.step (Ev.pure rfl) rfl ?_
          refine L.bool 69 rfl (fun hg69 => ?_) (fun hg69 => ?_)
          · skip
            refine L.yes rfl ?_
            refine L.step (Ev.pure rfl) rfl ?_
            refine L.step (Ev.pure rfl) rfl ?_
            refine L.step (Ev.pure rfl) rfl ?_
            refine L.nil ?_
            refine QE.seq ?_
            refine C.ret ?_
            refine QE.ret (js := []) (hs := []) (vs := [_]) rfl ⟨rfl, trivial⟩ (by decide) ?_
            refine ⟨congrArg Value.bool ?_, rfl, rfl⟩
            first | rfl | (rw [slots_part] at *; simp_all)
          · skip
            refine L.no rfl rfl rfl ?_
            refine L.step (Ev.pure rfl) rfl ?_
            refine L.step (Ev.pure rfl) rfl ?_
            refine L.nil ?_
            refine QE.seq ?_
            refine C.ret ?_
            refine QE.ret (js := []) (hs := []) (vs := [_]) rfl ⟨rfl, trivial⟩ (by decide) ?_
            refine ⟨congrArg Value.bool ?_, rfl, rfl⟩
            first | rfl | (rw [slots_part] at *; simp_all)

end Go.Proofs.Ytmbjknampholjaa
