/-
  The contract of the law JournalSteps.
-/
import Derived.Test.YtmbjknampholjaaRWJoP
import Derived.Test.YtmbjknampholjaaRJg
import Derived.Test.YtmbjknampholjaaRJl
namespace Go.Proofs.Ytmbjknampholjaa
open Go.Sl

set_option maxHeartbeats 4000000 in
theorem jSteps_c (z p qq : UInt8) (r : List UInt8) (l : List (List UInt8)) (LA : Option Addr) (lc : Nat) (hll : l.length ≤ 9223372036854775807) (r2 : List UInt8) :
   Ctr X 5 [.agg (List.toArray [.int .u8 (z.toNat : Int), .int .u8 (p.toNat : Int), .int .u8 (qq.toNat : Int), .int .u8 (((r).getD 0 0).toNat : Int), .int .u8 (((r).getD 1 0).toNat : Int), .int .u8 (((r).getD 2 0).toNat : Int), .int .u8 (((r).getD 3 0).toNat : Int), .int .u8 (((r).getD 4 0).toNat : Int), .int .u8 (((r).getD 5 0).toNat : Int), .int .u8 (((r).getD 6 0).toNat : Int), .int .u8 (((r).getD 7 0).toNat : Int), .int .u8 (((r).getD 8 0).toNat : Int)]), .slice LA l.length lc, .agg (List.toArray [.int .u8 (((r2).getD 0 0).toNat : Int), .int .u8 (((r2).getD 1 0).toNat : Int), .int .u8 (((r2).getD 2 0).toNat : Int), .int .u8 (((r2).getD 3 0).toNat : Int), .int .u8 (((r2).getD 4 0).toNat : Int), .int .u8 (((r2).getD 5 0).toNat : Int), .int .u8 (((r2).getD 6 0).toNat : Int), .int .u8 (((r2).getD 7 0).toNat : Int), .int .u8 (((r2).getD 8 0).toNat : Int)])] [Rd LA (nnV l)] [] (fun v R' H' => v = .bool true ∧ R' = [] ∧ H' = []) := by
 refine Ctr.of (X := X) (fn := Try.f5) Try.func5 rfl (by kernel_rfl) rfl ?_
 intro β
 refine C.seq (C.region ?_)
 refine L.boxA rfl rfl (fun A3 => ?_)
 refine L.boxA rfl rfl (fun A5 => ?_)
 refine Lpu rfl rfl ?_; refine L.nil (QE.seq (C.seq ?_)); refine C.freeze 0 rfl [1] (by decide) (by decide) ?_; refine C.norm (H' := [_]) [0] ⟨rfl, trivial⟩ (by decide) ?_; refine C.freeze 0 rfl [] (by decide) (by decide) ?_; refine C.region ?_; refine L.call (js := []) (js' := []) (sanityJ_c) rfl rfl rfl (by decide) trivial rfl ?_
 rintro _ _ _ ⟨rfl, rfl, rfl⟩
 refine Lpu rfl rfl ?_; refine L.nil (QE.seq (C.seq ?_)); refine C.join (fun q : Fa × Option Addr × Option Addr × Option Addr => [(1, .slice LA l.length lc), (3, ptrOf A3 0), (5, ptrOf A5 0), (7, .bool true), (8, ptrOf q.2.1 0), (9, ptrOf q.2.2.1 0), (10, ptrOf q.2.2.2 0)]) (fun q : Fa × Option Addr × Option Addr × Option Addr => [Rd q.1.D (rowsV q.1.hs (B8 (flJ z p qq r).data)), KidsR q.1.hs (B8 (flJ z p qq r).data), Rd q.1.W (I64 (flJ z p qq r).wear), Rd q.1.E (Bs (flJ z p qq r).dead), Rd A3 [.int .u8 (z.toNat : Int), .int .u8 (p.toNat : Int), .int .u8 (qq.toNat : Int), .int .u8 (((r).getD 0 0).toNat : Int), .int .u8 (((r).getD 1 0).toNat : Int), .int .u8 (((r).getD 2 0).toNat : Int), .int .u8 (((r).getD 3 0).toNat : Int), .int .u8 (((r).getD 4 0).toNat : Int), .int .u8 (((r).getD 5 0).toNat : Int), .int .u8 (((r).getD 6 0).toNat : Int), .int .u8 (((r).getD 7 0).toNat : Int), .int .u8 (((r).getD 8 0).toNat : Int)], Rd A5 (u9 r2), Rd LA (nnV l)]) (fun q : Fa × Option Addr × Option Addr × Option Addr => [Own 35 5 q.2.1 1 1 (flL (flJ z p qq r) q.1), Own 39 8 q.2.2.1 1 1 [.int .i64 0, .int .i64 (laA p), .int .i64 (laB p qq), .int .i64 0, .int .i64 0, .slice none 0 0, .slice none 0 0, .slice none 0 0], Own 29 9 q.2.2.2 1 1 (st9 (madeS r2))]) (fun q : Fa × Option Addr × Option Addr × Option Addr => q.1.hs.length = (flJ z p qq r).data.length ∧ Caps (flJ z p qq r) q.1) ?_ ?_
 · skip
   refine C.regionM [Rd A5 (u9 r2), Rd A3 [.int .u8 (z.toNat : Int), .int .u8 (p.toNat : Int), .int .u8 (qq.toNat : Int), .int .u8 (((r).getD 0 0).toNat : Int), .int .u8 (((r).getD 1 0).toNat : Int), .int .u8 (((r).getD 2 0).toNat : Int), .int .u8 (((r).getD 3 0).toNat : Int), .int .u8 (((r).getD 4 0).toNat : Int), .int .u8 (((r).getD 5 0).toNat : Int), .int .u8 (((r).getD 6 0).toNat : Int), .int .u8 (((r).getD 7 0).toNat : Int), .int .u8 (((r).getD 8 0).toNat : Int)], Rd LA (nnV l)] ⟨Has.r 0 rfl, Has.r 1 rfl, Has.r 2 rfl, trivial⟩ ?_; refine LM.q 0 rfl (by kernel_rfl) (Ev.loadA rfl rfl rfl (Src.r 1 rfl) rfl rfl (by decide)) rfl ⟨Has.r 0 rfl, Has.r 1 rfl, Has.r 2 rfl, trivial⟩ ?_; refine LM.q 2 rfl (by kernel_rfl) (Ev.loadA rfl rfl rfl (Src.r 1 rfl) rfl rfl (by decide)) rfl ⟨Has.r 0 rfl, Has.r 1 rfl, Has.r 2 rfl, trivial⟩ ?_; refine LM.q 4 rfl (by kernel_rfl) (Ev.loadA rfl rfl rfl (Src.r 0 rfl) rfl rfl (by decide)) rfl ⟨Has.r 0 rfl, Has.r 1 rfl, Has.r 2 rfl, trivial⟩ ?_; refine LM.a4 1 6 7 8 (by kernel_rfl) ⟨Has.r 0 rfl, Has.r 1 rfl, Has.r 2 rfl, trivial⟩ rfl rfl rfl rfl ?_ ?_ ?_ ?_; refine L.callR (js := []) (js' := []) (flash_c z p qq r) rfl rfl rfl (by decide) trivial rfl ?_
   rintro _ _ _ ⟨a, hb, hc, rfl, rfl, rfl⟩
   refine L.nm (by kernel_rfl) ?_; refine LM.a4 3 6 7 8 (by kernel_rfl) ⟨Has.r 4 rfl, Has.r 5 rfl, Has.r 6 rfl, trivial⟩ rfl rfl rfl rfl ?_ ?_ ?_ ?_; refine L.call (js := []) (js' := []) (layout_c z p qq r) rfl rfl rfl (by decide) trivial rfl ?_
   rintro _ _ _ ⟨rfl, rfl, rfl⟩
   refine L.nm (by kernel_rfl) ?_; refine LM.a4 5 6 7 8 (by kernel_rfl) ⟨Has.r 4 rfl, Has.r 5 rfl, Has.r 6 rfl, trivial⟩ rfl rfl rfl rfl ?_ ?_ ?_ ?_; refine L.call (js := []) (js' := []) (made_c r2) rfl rfl rfl (by decide) trivial rfl ?_
   rintro _ _ _ ⟨rfl, rfl, rfl⟩
   refine L.nm (by kernel_rfl) ?_; refine LM.a3 6 7 8 (by kernel_rfl) ⟨Has.r 4 rfl, Has.r 5 rfl, Has.r 6 rfl, trivial⟩ rfl rfl rfl ?_ ?_ ?_
   refine L.alloc rfl rfl rfl (fun A8 => ?_)
   refine L.nm (by kernel_rfl) ?_; refine LM.a2 7 8 (by kernel_rfl) ⟨Has.r 4 rfl, Has.r 5 rfl, Has.r 6 rfl, trivial⟩ rfl rfl ?_ ?_
   refine L.alloc rfl rfl rfl (fun A9 => ?_)
   refine L.nm (by kernel_rfl) ?_; refine LM.f 8 rfl (by kernel_rfl) ⟨Has.r 4 rfl, Has.r 5 rfl, Has.r 6 rfl, trivial⟩ ?_
   refine L.alloc rfl rfl rfl (fun A10 => ?_)
   refine L.norm (H' := [_, _, _]) [0, 1, 2] ⟨rfl, rfl, rfl, trivial⟩ (by decide) ?_; refine L.nm (by kernel_rfl) ?_
   rotate_left
   refine L.alloc rfl rfl rfl (fun A10 => ?_)
   refine L.nm (by kernel_rfl) ?_; refine LM.f 7 rfl (by kernel_rfl) ⟨Has.r 4 rfl, Has.r 5 rfl, Has.r 6 rfl, trivial⟩ ?_
   refine L.alloc rfl rfl rfl (fun A9 => ?_)
   refine L.norm (H' := [_, _, _]) [0, 2, 1] ⟨rfl, rfl, rfl, trivial⟩ (by decide) ?_; refine L.nm (by kernel_rfl) ?_
   rotate_left
   refine L.alloc rfl rfl rfl (fun A9 => ?_)
   refine L.nm (by kernel_rfl) ?_; refine LM.a2 6 8 (by kernel_rfl) ⟨Has.r 4 rfl, Has.r 5 rfl, Has.r 6 rfl, trivial⟩ rfl rfl ?_ ?_
   refine L.alloc rfl rfl rfl (fun A8 => ?_)
   refine L.nm (by kernel_rfl) ?_; refine LM.f 8 rfl (by kernel_rfl) ⟨Has.r 4 rfl, Has.r 5 rfl, Has.r 6 rfl, trivial⟩ ?_
   refine L.alloc rfl rfl rfl (fun A10 => ?_)
   refine L.norm (H' := [_, _, _]) [1, 0, 2] ⟨rfl, rfl, rfl, trivial⟩ (by decide) ?_; refine L.nm (by kernel_rfl) ?_
   rotate_left
   refine L.alloc rfl rfl rfl (fun A10 => ?_)
   refine L.nm (by kernel_rfl) ?_; refine LM.f 6 rfl (by kernel_rfl) ⟨Has.r 4 rfl, Has.r 5 rfl, Has.r 6 rfl, trivial⟩ ?_
   refine L.alloc rfl rfl rfl (fun A8 => ?_)
   refine L.norm (H' := [_, _, _]) [2, 0, 1] ⟨rfl, rfl, rfl, trivial⟩ (by decide) ?_; refine L.nm (by kernel_rfl) ?_
   rotate_left
   refine L.alloc rfl rfl rfl (fun A10 => ?_)
   refine L.nm (by kernel_rfl) ?_; refine LM.a2 6 7 (by kernel_rfl) ⟨Has.r 4 rfl, Has.r 5 rfl, Has.r 6 rfl, trivial⟩ rfl rfl ?_ ?_
   refine L.alloc rfl rfl rfl (fun A8 => ?_)
   refine L.nm (by kernel_rfl) ?_; refine LM.f 7 rfl (by kernel_rfl) ⟨Has.r 4 rfl, Has.r 5 rfl, Has.r 6 rfl, trivial⟩ ?_
   refine L.alloc rfl rfl rfl (fun A9 => ?_)
   refine L.norm (H' := [_, _, _]) [1, 2, 0] ⟨rfl, rfl, rfl, trivial⟩ (by decide) ?_; refine L.nm (by kernel_rfl) ?_
   rotate_left
   refine L.alloc rfl rfl rfl (fun A9 => ?_)
   refine L.nm (by kernel_rfl) ?_; refine LM.f 6 rfl (by kernel_rfl) ⟨Has.r 4 rfl, Has.r 5 rfl, Has.r 6 rfl, trivial⟩ ?_
   refine L.alloc rfl rfl rfl (fun A8 => ?_)
   refine L.norm (H' := [_, _, _]) [2, 1, 0] ⟨rfl, rfl, rfl, trivial⟩ (by decide) ?_; refine L.nm (by kernel_rfl) ?_
   rotate_left
   refine L.alloc rfl rfl rfl (fun A8 => ?_)
   refine L.nm (by kernel_rfl) ?_; refine LM.a3 5 7 8 (by kernel_rfl) ⟨Has.r 4 rfl, Has.r 5 rfl, Has.r 6 rfl, trivial⟩ rfl rfl rfl ?_ ?_ ?_; refine L.call (js := []) (js' := [0]) (made_c r2) rfl rfl rfl (by decide) trivial rfl ?_
   rintro _ _ _ ⟨rfl, rfl, rfl⟩
   refine L.nm (by kernel_rfl) ?_; refine LM.a2 7 8 (by kernel_rfl) ⟨Has.r 4 rfl, Has.r 5 rfl, Has.r 6 rfl, trivial⟩ rfl rfl ?_ ?_
   refine L.alloc rfl rfl rfl (fun A9 => ?_)
   refine L.nm (by kernel_rfl) ?_; refine LM.f 8 rfl (by kernel_rfl) ⟨Has.r 4 rfl, Has.r 5 rfl, Has.r 6 rfl, trivial⟩ ?_
   refine L.alloc rfl rfl rfl (fun A10 => ?_)
   refine L.norm (H' := [_, _, _]) [0, 1, 2] ⟨rfl, rfl, rfl, trivial⟩ (by decide) ?_; refine L.nm (by kernel_rfl) ?_
   rotate_left
   refine L.alloc rfl rfl rfl (fun A10 => ?_)
   refine L.nm (by kernel_rfl) ?_; refine LM.f 7 rfl (by kernel_rfl) ⟨Has.r 4 rfl, Has.r 5 rfl, Has.r 6 rfl, trivial⟩ ?_
   refine L.alloc rfl rfl rfl (fun A9 => ?_)
   refine L.norm (H' := [_, _, _]) [0, 2, 1] ⟨rfl, rfl, rfl, trivial⟩ (by decide) ?_; refine L.nm (by kernel_rfl) ?_
   rotate_left
   refine L.alloc rfl rfl rfl (fun A9 => ?_)
   refine L.nm (by kernel_rfl) ?_; refine LM.a2 5 8 (by kernel_rfl) ⟨Has.r 4 rfl, Has.r 5 rfl, Has.r 6 rfl, trivial⟩ rfl rfl ?_ ?_; refine L.call (js := []) (js' := [0, 1]) (made_c r2) rfl rfl rfl (by decide) trivial rfl ?_
   rintro _ _ _ ⟨rfl, rfl, rfl⟩
   refine L.nm (by kernel_rfl) ?_; refine LM.f 8 rfl (by kernel_rfl) ⟨Has.r 4 rfl, Has.r 5 rfl, Has.r 6 rfl, trivial⟩ ?_
   refine L.alloc rfl rfl rfl (fun A10 => ?_)
   refine L.norm (H' := [_, _, _]) [0, 1, 2] ⟨rfl, rfl, rfl, trivial⟩ (by decide) ?_; refine L.nm (by kernel_rfl) ?_
   rotate_left
   refine L.alloc rfl rfl rfl (fun A10 => ?_)
   refine L.nm (by kernel_rfl) ?_; refine LM.f 5 rfl (by kernel_rfl) ⟨Has.r 4 rfl, Has.r 5 rfl, Has.r 6 rfl, trivial⟩ ?_; refine L.call (js := []) (js' := [0, 1, 2]) (made_c r2) rfl rfl rfl (by decide) trivial rfl ?_
   rintro _ _ _ ⟨rfl, rfl, rfl⟩
   refine L.norm (H' := [_, _, _]) [0, 1, 2] ⟨rfl, rfl, rfl, trivial⟩ (by decide) ?_; refine L.nm (by kernel_rfl) ?_
   rotate_left
   refine L.alloc rfl rfl rfl (fun A10 => ?_)
   refine L.nm (by kernel_rfl) ?_; refine LM.a2 5 7 (by kernel_rfl) ⟨Has.r 4 rfl, Has.r 5 rfl, Has.r 6 rfl, trivial⟩ rfl rfl ?_ ?_; refine L.call (js := []) (js' := [0, 1]) (made_c r2) rfl rfl rfl (by decide) trivial rfl ?_
   rintro _ _ _ ⟨rfl, rfl, rfl⟩
   refine L.nm (by kernel_rfl) ?_; refine LM.f 7 rfl (by kernel_rfl) ⟨Has.r 4 rfl, Has.r 5 rfl, Has.r 6 rfl, trivial⟩ ?_
   refine L.alloc rfl rfl rfl (fun A9 => ?_)
   refine L.norm (H' := [_, _, _]) [0, 2, 1] ⟨rfl, rfl, rfl, trivial⟩ (by decide) ?_; refine L.nm (by kernel_rfl) ?_
   rotate_left
   refine L.alloc rfl rfl rfl (fun A9 => ?_)
   refine L.nm (by kernel_rfl) ?_; refine LM.f 5 rfl (by kernel_rfl) ⟨Has.r 4 rfl, Has.r 5 rfl, Has.r 6 rfl, trivial⟩ ?_; refine L.call (js := []) (js' := [0, 1, 2]) (made_c r2) rfl rfl rfl (by decide) trivial rfl ?_
   rintro _ _ _ ⟨rfl, rfl, rfl⟩
   refine L.norm (H' := [_, _, _]) [0, 2, 1] ⟨rfl, rfl, rfl, trivial⟩ (by decide) ?_; refine L.nm (by kernel_rfl) ?_
   rotate_left
   refine L.alloc rfl rfl rfl (fun A9 => ?_)
   refine L.nm (by kernel_rfl) ?_; refine LM.a3 5 6 8 (by kernel_rfl) ⟨Has.r 4 rfl, Has.r 5 rfl, Has.r 6 rfl, trivial⟩ rfl rfl rfl ?_ ?_ ?_; refine L.call (js := []) (js' := [0]) (made_c r2) rfl rfl rfl (by decide) trivial rfl ?_
   rintro _ _ _ ⟨rfl, rfl, rfl⟩
   refine L.nm (by kernel_rfl) ?_; refine LM.a2 6 8 (by kernel_rfl) ⟨Has.r 4 rfl, Has.r 5 rfl, Has.r 6 rfl, trivial⟩ rfl rfl ?_ ?_
   refine L.alloc rfl rfl rfl (fun A8 => ?_)
   refine L.nm (by kernel_rfl) ?_; refine LM.f 8 rfl (by kernel_rfl) ⟨Has.r 4 rfl, Has.r 5 rfl, Has.r 6 rfl, trivial⟩ ?_
   refine L.alloc rfl rfl rfl (fun A10 => ?_)
   refine L.norm (H' := [_, _, _]) [1, 0, 2] ⟨rfl, rfl, rfl, trivial⟩ (by decide) ?_; refine L.nm (by kernel_rfl) ?_
   rotate_left
   refine L.alloc rfl rfl rfl (fun A10 => ?_)
   refine L.nm (by kernel_rfl) ?_; refine LM.f 6 rfl (by kernel_rfl) ⟨Has.r 4 rfl, Has.r 5 rfl, Has.r 6 rfl, trivial⟩ ?_
   refine L.alloc rfl rfl rfl (fun A8 => ?_)
   refine L.norm (H' := [_, _, _]) [2, 0, 1] ⟨rfl, rfl, rfl, trivial⟩ (by decide) ?_; refine L.nm (by kernel_rfl) ?_
   rotate_left
   refine L.alloc rfl rfl rfl (fun A8 => ?_)
   refine L.nm (by kernel_rfl) ?_; refine LM.a2 5 8 (by kernel_rfl) ⟨Has.r 4 rfl, Has.r 5 rfl, Has.r 6 rfl, trivial⟩ rfl rfl ?_ ?_; refine L.call (js := []) (js' := [0, 1]) (made_c r2) rfl rfl rfl (by decide) trivial rfl ?_
   rintro _ _ _ ⟨rfl, rfl, rfl⟩
   refine L.nm (by kernel_rfl) ?_; refine LM.f 8 rfl (by kernel_rfl) ⟨Has.r 4 rfl, Has.r 5 rfl, Has.r 6 rfl, trivial⟩ ?_
   refine L.alloc rfl rfl rfl (fun A10 => ?_)
   refine L.norm (H' := [_, _, _]) [1, 0, 2] ⟨rfl, rfl, rfl, trivial⟩ (by decide) ?_; refine L.nm (by kernel_rfl) ?_
   rotate_left
   refine L.alloc rfl rfl rfl (fun A10 => ?_)
   refine L.nm (by kernel_rfl) ?_; refine LM.f 5 rfl (by kernel_rfl) ⟨Has.r 4 rfl, Has.r 5 rfl, Has.r 6 rfl, trivial⟩ ?_; refine L.call (js := []) (js' := [0, 1, 2]) (made_c r2) rfl rfl rfl (by decide) trivial rfl ?_
   rintro _ _ _ ⟨rfl, rfl, rfl⟩
   refine L.norm (H' := [_, _, _]) [1, 0, 2] ⟨rfl, rfl, rfl, trivial⟩ (by decide) ?_; refine L.nm (by kernel_rfl) ?_
   rotate_left
   refine L.alloc rfl rfl rfl (fun A10 => ?_)
   refine L.nm (by kernel_rfl) ?_; refine LM.a2 5 6 (by kernel_rfl) ⟨Has.r 4 rfl, Has.r 5 rfl, Has.r 6 rfl, trivial⟩ rfl rfl ?_ ?_; refine L.call (js := []) (js' := [0, 1]) (made_c r2) rfl rfl rfl (by decide) trivial rfl ?_
   rintro _ _ _ ⟨rfl, rfl, rfl⟩
   refine L.nm (by kernel_rfl) ?_; refine LM.f 6 rfl (by kernel_rfl) ⟨Has.r 4 rfl, Has.r 5 rfl, Has.r 6 rfl, trivial⟩ ?_
   refine L.alloc rfl rfl rfl (fun A8 => ?_)
   refine L.norm (H' := [_, _, _]) [2, 0, 1] ⟨rfl, rfl, rfl, trivial⟩ (by decide) ?_; refine L.nm (by kernel_rfl) ?_
   rotate_left
   refine L.alloc rfl rfl rfl (fun A8 => ?_)
   refine L.nm (by kernel_rfl) ?_; refine LM.f 5 rfl (by kernel_rfl) ⟨Has.r 4 rfl, Has.r 5 rfl, Has.r 6 rfl, trivial⟩ ?_; refine L.call (js := []) (js' := [0, 1, 2]) (made_c r2) rfl rfl rfl (by decide) trivial rfl ?_
   rintro _ _ _ ⟨rfl, rfl, rfl⟩
   refine L.norm (H' := [_, _, _]) [2, 0, 1] ⟨rfl, rfl, rfl, trivial⟩ (by decide) ?_; refine L.nm (by kernel_rfl) ?_
   rotate_left
   refine L.alloc rfl rfl rfl (fun A10 => ?_)
   refine L.nm (by kernel_rfl) ?_; refine LM.a3 5 6 7 (by kernel_rfl) ⟨Has.r 4 rfl, Has.r 5 rfl, Has.r 6 rfl, trivial⟩ rfl rfl rfl ?_ ?_ ?_; refine L.call (js := []) (js' := [0]) (made_c r2) rfl rfl rfl (by decide) trivial rfl ?_
   rintro _ _ _ ⟨rfl, rfl, rfl⟩
   refine L.nm (by kernel_rfl) ?_; refine LM.a2 6 7 (by kernel_rfl) ⟨Has.r 4 rfl, Has.r 5 rfl, Has.r 6 rfl, trivial⟩ rfl rfl ?_ ?_
   refine L.alloc rfl rfl rfl (fun A8 => ?_)
   refine L.nm (by kernel_rfl) ?_; refine LM.f 7 rfl (by kernel_rfl) ⟨Has.r 4 rfl, Has.r 5 rfl, Has.r 6 rfl, trivial⟩ ?_
   refine L.alloc rfl rfl rfl (fun A9 => ?_)
   refine L.norm (H' := [_, _, _]) [1, 2, 0] ⟨rfl, rfl, rfl, trivial⟩ (by decide) ?_; refine L.nm (by kernel_rfl) ?_
   rotate_left
   refine L.alloc rfl rfl rfl (fun A9 => ?_)
   refine L.nm (by kernel_rfl) ?_; refine LM.f 6 rfl (by kernel_rfl) ⟨Has.r 4 rfl, Has.r 5 rfl, Has.r 6 rfl, trivial⟩ ?_
   refine L.alloc rfl rfl rfl (fun A8 => ?_)
   refine L.norm (H' := [_, _, _]) [2, 1, 0] ⟨rfl, rfl, rfl, trivial⟩ (by decide) ?_; refine L.nm (by kernel_rfl) ?_
   rotate_left
   refine L.alloc rfl rfl rfl (fun A8 => ?_)
   refine L.nm (by kernel_rfl) ?_; refine LM.a2 5 7 (by kernel_rfl) ⟨Has.r 4 rfl, Has.r 5 rfl, Has.r 6 rfl, trivial⟩ rfl rfl ?_ ?_; refine L.call (js := []) (js' := [0, 1]) (made_c r2) rfl rfl rfl (by decide) trivial rfl ?_
   rintro _ _ _ ⟨rfl, rfl, rfl⟩
   refine L.nm (by kernel_rfl) ?_; refine LM.f 7 rfl (by kernel_rfl) ⟨Has.r 4 rfl, Has.r 5 rfl, Has.r 6 rfl, trivial⟩ ?_
   refine L.alloc rfl rfl rfl (fun A9 => ?_)
   refine L.norm (H' := [_, _, _]) [1, 2, 0] ⟨rfl, rfl, rfl, trivial⟩ (by decide) ?_; refine L.nm (by kernel_rfl) ?_
   rotate_left
   refine L.alloc rfl rfl rfl (fun A9 => ?_)
   refine L.nm (by kernel_rfl) ?_; refine LM.f 5 rfl (by kernel_rfl) ⟨Has.r 4 rfl, Has.r 5 rfl, Has.r 6 rfl, trivial⟩ ?_; refine L.call (js := []) (js' := [0, 1, 2]) (made_c r2) rfl rfl rfl (by decide) trivial rfl ?_
   rintro _ _ _ ⟨rfl, rfl, rfl⟩
   refine L.norm (H' := [_, _, _]) [1, 2, 0] ⟨rfl, rfl, rfl, trivial⟩ (by decide) ?_; refine L.nm (by kernel_rfl) ?_
   rotate_left
   refine L.alloc rfl rfl rfl (fun A9 => ?_)
   refine L.nm (by kernel_rfl) ?_; refine LM.a2 5 6 (by kernel_rfl) ⟨Has.r 4 rfl, Has.r 5 rfl, Has.r 6 rfl, trivial⟩ rfl rfl ?_ ?_; refine L.call (js := []) (js' := [0, 1]) (made_c r2) rfl rfl rfl (by decide) trivial rfl ?_
   rintro _ _ _ ⟨rfl, rfl, rfl⟩
   refine L.nm (by kernel_rfl) ?_; refine LM.f 6 rfl (by kernel_rfl) ⟨Has.r 4 rfl, Has.r 5 rfl, Has.r 6 rfl, trivial⟩ ?_
   refine L.alloc rfl rfl rfl (fun A8 => ?_)
   refine L.norm (H' := [_, _, _]) [2, 1, 0] ⟨rfl, rfl, rfl, trivial⟩ (by decide) ?_; refine L.nm (by kernel_rfl) ?_
   rotate_left
   refine L.alloc rfl rfl rfl (fun A8 => ?_)
   refine L.nm (by kernel_rfl) ?_; refine LM.f 5 rfl (by kernel_rfl) ⟨Has.r 4 rfl, Has.r 5 rfl, Has.r 6 rfl, trivial⟩ ?_; refine L.call (js := []) (js' := [0, 1, 2]) (made_c r2) rfl rfl rfl (by decide) trivial rfl ?_
   rintro _ _ _ ⟨rfl, rfl, rfl⟩
   refine L.norm (H' := [_, _, _]) [2, 1, 0] ⟨rfl, rfl, rfl, trivial⟩ (by decide) ?_; refine L.nm (by kernel_rfl) ?_
   rotate_left
   refine L.alloc rfl rfl rfl (fun A8 => ?_)
   refine L.nm (by kernel_rfl) ?_; refine LM.a3 3 7 8 (by kernel_rfl) ⟨Has.r 4 rfl, Has.r 5 rfl, Has.r 6 rfl, trivial⟩ rfl rfl rfl ?_ ?_ ?_; refine L.call (js := []) (js' := [0]) (layout_c z p qq r) rfl rfl rfl (by decide) trivial rfl ?_
   rintro _ _ _ ⟨rfl, rfl, rfl⟩
   refine L.nm (by kernel_rfl) ?_; refine LM.a3 5 7 8 (by kernel_rfl) ⟨Has.r 4 rfl, Has.r 5 rfl, Has.r 6 rfl, trivial⟩ rfl rfl rfl ?_ ?_ ?_; refine L.call (js := []) (js' := [0]) (made_c r2) rfl rfl rfl (by decide) trivial rfl ?_
   rintro _ _ _ ⟨rfl, rfl, rfl⟩
   refine L.nm (by kernel_rfl) ?_; refine LM.a2 7 8 (by kernel_rfl) ⟨Has.r 4 rfl, Has.r 5 rfl, Has.r 6 rfl, trivial⟩ rfl rfl ?_ ?_
   refine L.alloc rfl rfl rfl (fun A9 => ?_)
   refine L.nm (by kernel_rfl) ?_; refine LM.f 8 rfl (by kernel_rfl) ⟨Has.r 4 rfl, Has.r 5 rfl, Has.r 6 rfl, trivial⟩ ?_
   refine L.alloc rfl rfl rfl (fun A10 => ?_)
   refine L.norm (H' := [_, _, _]) [0, 1, 2] ⟨rfl, rfl, rfl, trivial⟩ (by decide) ?_; refine L.nm (by kernel_rfl) ?_
   rotate_left
   refine L.alloc rfl rfl rfl (fun A10 => ?_)
   refine L.nm (by kernel_rfl) ?_; refine LM.f 7 rfl (by kernel_rfl) ⟨Has.r 4 rfl, Has.r 5 rfl, Has.r 6 rfl, trivial⟩ ?_
   refine L.alloc rfl rfl rfl (fun A9 => ?_)
   refine L.norm (H' := [_, _, _]) [0, 2, 1] ⟨rfl, rfl, rfl, trivial⟩ (by decide) ?_; refine L.nm (by kernel_rfl) ?_
   rotate_left
   refine L.alloc rfl rfl rfl (fun A9 => ?_)
   refine L.nm (by kernel_rfl) ?_; refine LM.a2 5 8 (by kernel_rfl) ⟨Has.r 4 rfl, Has.r 5 rfl, Has.r 6 rfl, trivial⟩ rfl rfl ?_ ?_; refine L.call (js := []) (js' := [0, 1]) (made_c r2) rfl rfl rfl (by decide) trivial rfl ?_
   rintro _ _ _ ⟨rfl, rfl, rfl⟩
   refine L.nm (by kernel_rfl) ?_; refine LM.f 8 rfl (by kernel_rfl) ⟨Has.r 4 rfl, Has.r 5 rfl, Has.r 6 rfl, trivial⟩ ?_
   refine L.alloc rfl rfl rfl (fun A10 => ?_)
   refine L.norm (H' := [_, _, _]) [0, 1, 2] ⟨rfl, rfl, rfl, trivial⟩ (by decide) ?_; refine L.nm (by kernel_rfl) ?_
   rotate_left
   refine L.alloc rfl rfl rfl (fun A10 => ?_)
   refine L.nm (by kernel_rfl) ?_; refine LM.f 5 rfl (by kernel_rfl) ⟨Has.r 4 rfl, Has.r 5 rfl, Has.r 6 rfl, trivial⟩ ?_; refine L.call (js := []) (js' := [0, 1, 2]) (made_c r2) rfl rfl rfl (by decide) trivial rfl ?_
   rintro _ _ _ ⟨rfl, rfl, rfl⟩
   refine L.norm (H' := [_, _, _]) [0, 1, 2] ⟨rfl, rfl, rfl, trivial⟩ (by decide) ?_; refine L.nm (by kernel_rfl) ?_
   rotate_left
   refine L.alloc rfl rfl rfl (fun A10 => ?_)
   refine L.nm (by kernel_rfl) ?_; refine LM.a2 5 7 (by kernel_rfl) ⟨Has.r 4 rfl, Has.r 5 rfl, Has.r 6 rfl, trivial⟩ rfl rfl ?_ ?_; refine L.call (js := []) (js' := [0, 1]) (made_c r2) rfl rfl rfl (by decide) trivial rfl ?_
   rintro _ _ _ ⟨rfl, rfl, rfl⟩
   refine L.nm (by kernel_rfl) ?_; refine LM.f 7 rfl (by kernel_rfl) ⟨Has.r 4 rfl, Has.r 5 rfl, Has.r 6 rfl, trivial⟩ ?_
   refine L.alloc rfl rfl rfl (fun A9 => ?_)
   refine L.norm (H' := [_, _, _]) [0, 2, 1] ⟨rfl, rfl, rfl, trivial⟩ (by decide) ?_; refine L.nm (by kernel_rfl) ?_
   rotate_left
   refine L.alloc rfl rfl rfl (fun A9 => ?_)
   refine L.nm (by kernel_rfl) ?_; refine LM.f 5 rfl (by kernel_rfl) ⟨Has.r 4 rfl, Has.r 5 rfl, Has.r 6 rfl, trivial⟩ ?_; refine L.call (js := []) (js' := [0, 1, 2]) (made_c r2) rfl rfl rfl (by decide) trivial rfl ?_
   rintro _ _ _ ⟨rfl, rfl, rfl⟩
   refine L.norm (H' := [_, _, _]) [0, 2, 1] ⟨rfl, rfl, rfl, trivial⟩ (by decide) ?_; refine L.nm (by kernel_rfl) ?_
   rotate_left
   refine L.alloc rfl rfl rfl (fun A9 => ?_)
   refine L.nm (by kernel_rfl) ?_; refine LM.a2 3 8 (by kernel_rfl) ⟨Has.r 4 rfl, Has.r 5 rfl, Has.r 6 rfl, trivial⟩ rfl rfl ?_ ?_; refine L.call (js := []) (js' := [0, 1]) (layout_c z p qq r) rfl rfl rfl (by decide) trivial rfl ?_
   rintro _ _ _ ⟨rfl, rfl, rfl⟩
   refine L.nm (by kernel_rfl) ?_; refine LM.a2 5 8 (by kernel_rfl) ⟨Has.r 4 rfl, Has.r 5 rfl, Has.r 6 rfl, trivial⟩ rfl rfl ?_ ?_; refine L.call (js := []) (js' := [0, 1]) (made_c r2) rfl rfl rfl (by decide) trivial rfl ?_
   rintro _ _ _ ⟨rfl, rfl, rfl⟩
   refine L.nm (by kernel_rfl) ?_; refine LM.f 8 rfl (by kernel_rfl) ⟨Has.r 4 rfl, Has.r 5 rfl, Has.r 6 rfl, trivial⟩ ?_
   refine L.alloc rfl rfl rfl (fun A10 => ?_)
   refine L.norm (H' := [_, _, _]) [0, 1, 2] ⟨rfl, rfl, rfl, trivial⟩ (by decide) ?_; refine L.nm (by kernel_rfl) ?_
   rotate_left
   refine L.alloc rfl rfl rfl (fun A10 => ?_)
   refine L.nm (by kernel_rfl) ?_; refine LM.f 5 rfl (by kernel_rfl) ⟨Has.r 4 rfl, Has.r 5 rfl, Has.r 6 rfl, trivial⟩ ?_; refine L.call (js := []) (js' := [0, 1, 2]) (made_c r2) rfl rfl rfl (by decide) trivial rfl ?_
   rintro _ _ _ ⟨rfl, rfl, rfl⟩
   refine L.norm (H' := [_, _, _]) [0, 1, 2] ⟨rfl, rfl, rfl, trivial⟩ (by decide) ?_; refine L.nm (by kernel_rfl) ?_
   rotate_left
   refine L.alloc rfl rfl rfl (fun A10 => ?_)
   refine L.nm (by kernel_rfl) ?_; refine LM.f 3 rfl (by kernel_rfl) ⟨Has.r 4 rfl, Has.r 5 rfl, Has.r 6 rfl, trivial⟩ ?_; refine L.call (js := []) (js' := [0, 1, 2]) (layout_c z p qq r) rfl rfl rfl (by decide) trivial rfl ?_
   rintro _ _ _ ⟨rfl, rfl, rfl⟩
   refine L.nm (by kernel_rfl) ?_; refine LM.f 5 rfl (by kernel_rfl) ⟨Has.r 4 rfl, Has.r 5 rfl, Has.r 6 rfl, trivial⟩ ?_; refine L.call (js := []) (js' := [0, 1, 2]) (made_c r2) rfl rfl rfl (by decide) trivial rfl ?_
   rintro _ _ _ ⟨rfl, rfl, rfl⟩
   refine L.norm (H' := [_, _, _]) [0, 1, 2] ⟨rfl, rfl, rfl, trivial⟩ (by decide) ?_; refine L.nm (by kernel_rfl) ?_
   rotate_left
   refine L.alloc rfl rfl rfl (fun A10 => ?_)
   refine L.nm (by kernel_rfl) ?_; refine LM.a2 3 7 (by kernel_rfl) ⟨Has.r 4 rfl, Has.r 5 rfl, Has.r 6 rfl, trivial⟩ rfl rfl ?_ ?_; refine L.call (js := []) (js' := [0, 1]) (layout_c z p qq r) rfl rfl rfl (by decide) trivial rfl ?_
   rintro _ _ _ ⟨rfl, rfl, rfl⟩
   refine L.nm (by kernel_rfl) ?_; refine LM.a2 5 7 (by kernel_rfl) ⟨Has.r 4 rfl, Has.r 5 rfl, Has.r 6 rfl, trivial⟩ rfl rfl ?_ ?_; refine L.call (js := []) (js' := [0, 1]) (made_c r2) rfl rfl rfl (by decide) trivial rfl ?_
   rintro _ _ _ ⟨rfl, rfl, rfl⟩
   refine L.nm (by kernel_rfl) ?_; refine LM.f 7 rfl (by kernel_rfl) ⟨Has.r 4 rfl, Has.r 5 rfl, Has.r 6 rfl, trivial⟩ ?_
   refine L.alloc rfl rfl rfl (fun A9 => ?_)
   refine L.norm (H' := [_, _, _]) [0, 2, 1] ⟨rfl, rfl, rfl, trivial⟩ (by decide) ?_; refine L.nm (by kernel_rfl) ?_
   rotate_left
   refine L.alloc rfl rfl rfl (fun A9 => ?_)
   refine L.nm (by kernel_rfl) ?_; refine LM.f 5 rfl (by kernel_rfl) ⟨Has.r 4 rfl, Has.r 5 rfl, Has.r 6 rfl, trivial⟩ ?_; refine L.call (js := []) (js' := [0, 1, 2]) (made_c r2) rfl rfl rfl (by decide) trivial rfl ?_
   rintro _ _ _ ⟨rfl, rfl, rfl⟩
   refine L.norm (H' := [_, _, _]) [0, 2, 1] ⟨rfl, rfl, rfl, trivial⟩ (by decide) ?_; refine L.nm (by kernel_rfl) ?_
   rotate_left
   refine L.alloc rfl rfl rfl (fun A9 => ?_)
   refine L.nm (by kernel_rfl) ?_; refine LM.f 3 rfl (by kernel_rfl) ⟨Has.r 4 rfl, Has.r 5 rfl, Has.r 6 rfl, trivial⟩ ?_; refine L.call (js := []) (js' := [0, 1, 2]) (layout_c z p qq r) rfl rfl rfl (by decide) trivial rfl ?_
   rintro _ _ _ ⟨rfl, rfl, rfl⟩
   refine L.nm (by kernel_rfl) ?_; refine LM.f 5 rfl (by kernel_rfl) ⟨Has.r 4 rfl, Has.r 5 rfl, Has.r 6 rfl, trivial⟩ ?_; refine L.call (js := []) (js' := [0, 1, 2]) (made_c r2) rfl rfl rfl (by decide) trivial rfl ?_
   rintro _ _ _ ⟨rfl, rfl, rfl⟩
   refine L.norm (H' := [_, _, _]) [0, 2, 1] ⟨rfl, rfl, rfl, trivial⟩ (by decide) ?_; refine L.nm (by kernel_rfl) ?_
   rotate_left
   refine L.alloc rfl rfl rfl (fun A9 => ?_)
   refine L.nm (by kernel_rfl) ?_; refine LM.a3 3 6 8 (by kernel_rfl) ⟨Has.r 4 rfl, Has.r 5 rfl, Has.r 6 rfl, trivial⟩ rfl rfl rfl ?_ ?_ ?_; refine L.call (js := []) (js' := [0]) (layout_c z p qq r) rfl rfl rfl (by decide) trivial rfl ?_
   rintro _ _ _ ⟨rfl, rfl, rfl⟩
   refine L.nm (by kernel_rfl) ?_; refine LM.a3 5 6 8 (by kernel_rfl) ⟨Has.r 4 rfl, Has.r 5 rfl, Has.r 6 rfl, trivial⟩ rfl rfl rfl ?_ ?_ ?_; refine L.call (js := []) (js' := [0]) (made_c r2) rfl rfl rfl (by decide) trivial rfl ?_
   rintro _ _ _ ⟨rfl, rfl, rfl⟩
   refine L.nm (by kernel_rfl) ?_; refine LM.a2 6 8 (by kernel_rfl) ⟨Has.r 4 rfl, Has.r 5 rfl, Has.r 6 rfl, trivial⟩ rfl rfl ?_ ?_
   refine L.alloc rfl rfl rfl (fun A8 => ?_)
   refine L.nm (by kernel_rfl) ?_; refine LM.f 8 rfl (by kernel_rfl) ⟨Has.r 4 rfl, Has.r 5 rfl, Has.r 6 rfl, trivial⟩ ?_
   refine L.alloc rfl rfl rfl (fun A10 => ?_)
   refine L.norm (H' := [_, _, _]) [1, 0, 2] ⟨rfl, rfl, rfl, trivial⟩ (by decide) ?_; refine L.nm (by kernel_rfl) ?_
   rotate_left
   refine L.alloc rfl rfl rfl (fun A10 => ?_)
   refine L.nm (by kernel_rfl) ?_; refine LM.f 6 rfl (by kernel_rfl) ⟨Has.r 4 rfl, Has.r 5 rfl, Has.r 6 rfl, trivial⟩ ?_
   refine L.alloc rfl rfl rfl (fun A8 => ?_)
   refine L.norm (H' := [_, _, _]) [2, 0, 1] ⟨rfl, rfl, rfl, trivial⟩ (by decide) ?_; refine L.nm (by kernel_rfl) ?_
   rotate_left
   refine L.alloc rfl rfl rfl (fun A8 => ?_)
   refine L.nm (by kernel_rfl) ?_; refine LM.a2 5 8 (by kernel_rfl) ⟨Has.r 4 rfl, Has.r 5 rfl, Has.r 6 rfl, trivial⟩ rfl rfl ?_ ?_; refine L.call (js := []) (js' := [0, 1]) (made_c r2) rfl rfl rfl (by decide) trivial rfl ?_
   rintro _ _ _ ⟨rfl, rfl, rfl⟩
   refine L.nm (by kernel_rfl) ?_; refine LM.f 8 rfl (by kernel_rfl) ⟨Has.r 4 rfl, Has.r 5 rfl, Has.r 6 rfl, trivial⟩ ?_
   refine L.alloc rfl rfl rfl (fun A10 => ?_)
   refine L.norm (H' := [_, _, _]) [1, 0, 2] ⟨rfl, rfl, rfl, trivial⟩ (by decide) ?_; refine L.nm (by kernel_rfl) ?_
   rotate_left
   refine L.alloc rfl rfl rfl (fun A10 => ?_)
   refine L.nm (by kernel_rfl) ?_; refine LM.f 5 rfl (by kernel_rfl) ⟨Has.r 4 rfl, Has.r 5 rfl, Has.r 6 rfl, trivial⟩ ?_; refine L.call (js := []) (js' := [0, 1, 2]) (made_c r2) rfl rfl rfl (by decide) trivial rfl ?_
   rintro _ _ _ ⟨rfl, rfl, rfl⟩
   refine L.norm (H' := [_, _, _]) [1, 0, 2] ⟨rfl, rfl, rfl, trivial⟩ (by decide) ?_; refine L.nm (by kernel_rfl) ?_
   rotate_left
   refine L.alloc rfl rfl rfl (fun A10 => ?_)
   refine L.nm (by kernel_rfl) ?_; refine LM.a2 5 6 (by kernel_rfl) ⟨Has.r 4 rfl, Has.r 5 rfl, Has.r 6 rfl, trivial⟩ rfl rfl ?_ ?_; refine L.call (js := []) (js' := [0, 1]) (made_c r2) rfl rfl rfl (by decide) trivial rfl ?_
   rintro _ _ _ ⟨rfl, rfl, rfl⟩
   refine L.nm (by kernel_rfl) ?_; refine LM.f 6 rfl (by kernel_rfl) ⟨Has.r 4 rfl, Has.r 5 rfl, Has.r 6 rfl, trivial⟩ ?_
   refine L.alloc rfl rfl rfl (fun A8 => ?_)
   refine L.norm (H' := [_, _, _]) [2, 0, 1] ⟨rfl, rfl, rfl, trivial⟩ (by decide) ?_; refine L.nm (by kernel_rfl) ?_
   rotate_left
   refine L.alloc rfl rfl rfl (fun A8 => ?_)
   refine L.nm (by kernel_rfl) ?_; refine LM.f 5 rfl (by kernel_rfl) ⟨Has.r 4 rfl, Has.r 5 rfl, Has.r 6 rfl, trivial⟩ ?_; refine L.call (js := []) (js' := [0, 1, 2]) (made_c r2) rfl rfl rfl (by decide) trivial rfl ?_
   rintro _ _ _ ⟨rfl, rfl, rfl⟩
   refine L.norm (H' := [_, _, _]) [2, 0, 1] ⟨rfl, rfl, rfl, trivial⟩ (by decide) ?_; refine L.nm (by kernel_rfl) ?_
   rotate_left
   refine L.alloc rfl rfl rfl (fun A8 => ?_)
   refine L.nm (by kernel_rfl) ?_; refine LM.a2 3 8 (by kernel_rfl) ⟨Has.r 4 rfl, Has.r 5 rfl, Has.r 6 rfl, trivial⟩ rfl rfl ?_ ?_; refine L.call (js := []) (js' := [0, 1]) (layout_c z p qq r) rfl rfl rfl (by decide) trivial rfl ?_
   rintro _ _ _ ⟨rfl, rfl, rfl⟩
   refine L.nm (by kernel_rfl) ?_; refine LM.a2 5 8 (by kernel_rfl) ⟨Has.r 4 rfl, Has.r 5 rfl, Has.r 6 rfl, trivial⟩ rfl rfl ?_ ?_; refine L.call (js := []) (js' := [0, 1]) (made_c r2) rfl rfl rfl (by decide) trivial rfl ?_
   rintro _ _ _ ⟨rfl, rfl, rfl⟩
   refine L.nm (by kernel_rfl) ?_; refine LM.f 8 rfl (by kernel_rfl) ⟨Has.r 4 rfl, Has.r 5 rfl, Has.r 6 rfl, trivial⟩ ?_
   refine L.alloc rfl rfl rfl (fun A10 => ?_)
   refine L.norm (H' := [_, _, _]) [1, 0, 2] ⟨rfl, rfl, rfl, trivial⟩ (by decide) ?_; refine L.nm (by kernel_rfl) ?_
   rotate_left
   refine L.alloc rfl rfl rfl (fun A10 => ?_)
   refine L.nm (by kernel_rfl) ?_; refine LM.f 5 rfl (by kernel_rfl) ⟨Has.r 4 rfl, Has.r 5 rfl, Has.r 6 rfl, trivial⟩ ?_; refine L.call (js := []) (js' := [0, 1, 2]) (made_c r2) rfl rfl rfl (by decide) trivial rfl ?_
   rintro _ _ _ ⟨rfl, rfl, rfl⟩
   refine L.norm (H' := [_, _, _]) [1, 0, 2] ⟨rfl, rfl, rfl, trivial⟩ (by decide) ?_; refine L.nm (by kernel_rfl) ?_
   rotate_left
   refine L.alloc rfl rfl rfl (fun A10 => ?_)
   refine L.nm (by kernel_rfl) ?_; refine LM.f 3 rfl (by kernel_rfl) ⟨Has.r 4 rfl, Has.r 5 rfl, Has.r 6 rfl, trivial⟩ ?_; refine L.call (js := []) (js' := [0, 1, 2]) (layout_c z p qq r) rfl rfl rfl (by decide) trivial rfl ?_
   rintro _ _ _ ⟨rfl, rfl, rfl⟩
   refine L.nm (by kernel_rfl) ?_; refine LM.f 5 rfl (by kernel_rfl) ⟨Has.r 4 rfl, Has.r 5 rfl, Has.r 6 rfl, trivial⟩ ?_; refine L.call (js := []) (js' := [0, 1, 2]) (made_c r2) rfl rfl rfl (by decide) trivial rfl ?_
   rintro _ _ _ ⟨rfl, rfl, rfl⟩
   refine L.norm (H' := [_, _, _]) [1, 0, 2] ⟨rfl, rfl, rfl, trivial⟩ (by decide) ?_; refine L.nm (by kernel_rfl) ?_
   rotate_left
   refine L.alloc rfl rfl rfl (fun A10 => ?_)
   refine L.nm (by kernel_rfl) ?_; refine LM.a2 3 6 (by kernel_rfl) ⟨Has.r 4 rfl, Has.r 5 rfl, Has.r 6 rfl, trivial⟩ rfl rfl ?_ ?_; refine L.call (js := []) (js' := [0, 1]) (layout_c z p qq r) rfl rfl rfl (by decide) trivial rfl ?_
   rintro _ _ _ ⟨rfl, rfl, rfl⟩
   refine L.nm (by kernel_rfl) ?_; refine LM.a2 5 6 (by kernel_rfl) ⟨Has.r 4 rfl, Has.r 5 rfl, Has.r 6 rfl, trivial⟩ rfl rfl ?_ ?_; refine L.call (js := []) (js' := [0, 1]) (made_c r2) rfl rfl rfl (by decide) trivial rfl ?_
   rintro _ _ _ ⟨rfl, rfl, rfl⟩
   refine L.nm (by kernel_rfl) ?_; refine LM.f 6 rfl (by kernel_rfl) ⟨Has.r 4 rfl, Has.r 5 rfl, Has.r 6 rfl, trivial⟩ ?_
   refine L.alloc rfl rfl rfl (fun A8 => ?_)
   refine L.norm (H' := [_, _, _]) [2, 0, 1] ⟨rfl, rfl, rfl, trivial⟩ (by decide) ?_; refine L.nm (by kernel_rfl) ?_
   rotate_left
   refine L.alloc rfl rfl rfl (fun A8 => ?_)
   refine L.nm (by kernel_rfl) ?_; refine LM.f 5 rfl (by kernel_rfl) ⟨Has.r 4 rfl, Has.r 5 rfl, Has.r 6 rfl, trivial⟩ ?_; refine L.call (js := []) (js' := [0, 1, 2]) (made_c r2) rfl rfl rfl (by decide) trivial rfl ?_
   rintro _ _ _ ⟨rfl, rfl, rfl⟩
   refine L.norm (H' := [_, _, _]) [2, 0, 1] ⟨rfl, rfl, rfl, trivial⟩ (by decide) ?_; refine L.nm (by kernel_rfl) ?_
   rotate_left
   refine L.alloc rfl rfl rfl (fun A8 => ?_)
   refine L.nm (by kernel_rfl) ?_; refine LM.f 3 rfl (by kernel_rfl) ⟨Has.r 4 rfl, Has.r 5 rfl, Has.r 6 rfl, trivial⟩ ?_; refine L.call (js := []) (js' := [0, 1, 2]) (layout_c z p qq r) rfl rfl rfl (by decide) trivial rfl ?_
   rintro _ _ _ ⟨rfl, rfl, rfl⟩
   refine L.nm (by kernel_rfl) ?_; refine LM.f 5 rfl (by kernel_rfl) ⟨Has.r 4 rfl, Has.r 5 rfl, Has.r 6 rfl, trivial⟩ ?_; refine L.call (js := []) (js' := [0, 1, 2]) (made_c r2) rfl rfl rfl (by decide) trivial rfl ?_
   rintro _ _ _ ⟨rfl, rfl, rfl⟩
   refine L.norm (H' := [_, _, _]) [2, 0, 1] ⟨rfl, rfl, rfl, trivial⟩ (by decide) ?_; refine L.nm (by kernel_rfl) ?_
   rotate_left
   refine L.alloc rfl rfl rfl (fun A10 => ?_)
   refine L.nm (by kernel_rfl) ?_; refine LM.a3 3 6 7 (by kernel_rfl) ⟨Has.r 4 rfl, Has.r 5 rfl, Has.r 6 rfl, trivial⟩ rfl rfl rfl ?_ ?_ ?_; refine L.call (js := []) (js' := [0]) (layout_c z p qq r) rfl rfl rfl (by decide) trivial rfl ?_
   rintro _ _ _ ⟨rfl, rfl, rfl⟩
   refine L.nm (by kernel_rfl) ?_; refine LM.a3 5 6 7 (by kernel_rfl) ⟨Has.r 4 rfl, Has.r 5 rfl, Has.r 6 rfl, trivial⟩ rfl rfl rfl ?_ ?_ ?_; refine L.call (js := []) (js' := [0]) (made_c r2) rfl rfl rfl (by decide) trivial rfl ?_
   rintro _ _ _ ⟨rfl, rfl, rfl⟩
   refine L.nm (by kernel_rfl) ?_; refine LM.a2 6 7 (by kernel_rfl) ⟨Has.r 4 rfl, Has.r 5 rfl, Has.r 6 rfl, trivial⟩ rfl rfl ?_ ?_
   refine L.alloc rfl rfl rfl (fun A8 => ?_)
   refine L.nm (by kernel_rfl) ?_; refine LM.f 7 rfl (by kernel_rfl) ⟨Has.r 4 rfl, Has.r 5 rfl, Has.r 6 rfl, trivial⟩ ?_
   refine L.alloc rfl rfl rfl (fun A9 => ?_)
   refine L.norm (H' := [_, _, _]) [1, 2, 0] ⟨rfl, rfl, rfl, trivial⟩ (by decide) ?_; refine L.nm (by kernel_rfl) ?_
   rotate_left
   refine L.alloc rfl rfl rfl (fun A9 => ?_)
   refine L.nm (by kernel_rfl) ?_; refine LM.f 6 rfl (by kernel_rfl) ⟨Has.r 4 rfl, Has.r 5 rfl, Has.r 6 rfl, trivial⟩ ?_
   refine L.alloc rfl rfl rfl (fun A8 => ?_)
   refine L.norm (H' := [_, _, _]) [2, 1, 0] ⟨rfl, rfl, rfl, trivial⟩ (by decide) ?_; refine L.nm (by kernel_rfl) ?_
   rotate_left
   refine L.alloc rfl rfl rfl (fun A8 => ?_)
   refine L.nm (by kernel_rfl) ?_; refine LM.a2 5 7 (by kernel_rfl) ⟨Has.r 4 rfl, Has.r 5 rfl, Has.r 6 rfl, trivial⟩ rfl rfl ?_ ?_; refine L.call (js := []) (js' := [0, 1]) (made_c r2) rfl rfl rfl (by decide) trivial rfl ?_
   rintro _ _ _ ⟨rfl, rfl, rfl⟩
   refine L.nm (by kernel_rfl) ?_; refine LM.f 7 rfl (by kernel_rfl) ⟨Has.r 4 rfl, Has.r 5 rfl, Has.r 6 rfl, trivial⟩ ?_
   refine L.alloc rfl rfl rfl (fun A9 => ?_)
   refine L.norm (H' := [_, _, _]) [1, 2, 0] ⟨rfl, rfl, rfl, trivial⟩ (by decide) ?_; refine L.nm (by kernel_rfl) ?_
   rotate_left
   refine L.alloc rfl rfl rfl (fun A9 => ?_)
   refine L.nm (by kernel_rfl) ?_; refine LM.f 5 rfl (by kernel_rfl) ⟨Has.r 4 rfl, Has.r 5 rfl, Has.r 6 rfl, trivial⟩ ?_; refine L.call (js := []) (js' := [0, 1, 2]) (made_c r2) rfl rfl rfl (by decide) trivial rfl ?_
   rintro _ _ _ ⟨rfl, rfl, rfl⟩
   refine L.norm (H' := [_, _, _]) [1, 2, 0] ⟨rfl, rfl, rfl, trivial⟩ (by decide) ?_; refine L.nm (by kernel_rfl) ?_
   rotate_left
   refine L.alloc rfl rfl rfl (fun A9 => ?_)
   refine L.nm (by kernel_rfl) ?_; refine LM.a2 5 6 (by kernel_rfl) ⟨Has.r 4 rfl, Has.r 5 rfl, Has.r 6 rfl, trivial⟩ rfl rfl ?_ ?_; refine L.call (js := []) (js' := [0, 1]) (made_c r2) rfl rfl rfl (by decide) trivial rfl ?_
   rintro _ _ _ ⟨rfl, rfl, rfl⟩
   refine L.nm (by kernel_rfl) ?_; refine LM.f 6 rfl (by kernel_rfl) ⟨Has.r 4 rfl, Has.r 5 rfl, Has.r 6 rfl, trivial⟩ ?_
   refine L.alloc rfl rfl rfl (fun A8 => ?_)
   refine L.norm (H' := [_, _, _]) [2, 1, 0] ⟨rfl, rfl, rfl, trivial⟩ (by decide) ?_; refine L.nm (by kernel_rfl) ?_
   rotate_left
   refine L.alloc rfl rfl rfl (fun A8 => ?_)
   refine L.nm (by kernel_rfl) ?_; refine LM.f 5 rfl (by kernel_rfl) ⟨Has.r 4 rfl, Has.r 5 rfl, Has.r 6 rfl, trivial⟩ ?_; refine L.call (js := []) (js' := [0, 1, 2]) (made_c r2) rfl rfl rfl (by decide) trivial rfl ?_
   rintro _ _ _ ⟨rfl, rfl, rfl⟩
   refine L.norm (H' := [_, _, _]) [2, 1, 0] ⟨rfl, rfl, rfl, trivial⟩ (by decide) ?_; refine L.nm (by kernel_rfl) ?_
   rotate_left
   refine L.alloc rfl rfl rfl (fun A8 => ?_)
   refine L.nm (by kernel_rfl) ?_; refine LM.a2 3 7 (by kernel_rfl) ⟨Has.r 4 rfl, Has.r 5 rfl, Has.r 6 rfl, trivial⟩ rfl rfl ?_ ?_; refine L.call (js := []) (js' := [0, 1]) (layout_c z p qq r) rfl rfl rfl (by decide) trivial rfl ?_
   rintro _ _ _ ⟨rfl, rfl, rfl⟩
   refine L.nm (by kernel_rfl) ?_; refine LM.a2 5 7 (by kernel_rfl) ⟨Has.r 4 rfl, Has.r 5 rfl, Has.r 6 rfl, trivial⟩ rfl rfl ?_ ?_; refine L.call (js := []) (js' := [0, 1]) (made_c r2) rfl rfl rfl (by decide) trivial rfl ?_
   rintro _ _ _ ⟨rfl, rfl, rfl⟩
   refine L.nm (by kernel_rfl) ?_; refine LM.f 7 rfl (by kernel_rfl) ⟨Has.r 4 rfl, Has.r 5 rfl, Has.r 6 rfl, trivial⟩ ?_
   refine L.alloc rfl rfl rfl (fun A9 => ?_)
   refine L.norm (H' := [_, _, _]) [1, 2, 0] ⟨rfl, rfl, rfl, trivial⟩ (by decide) ?_; refine L.nm (by kernel_rfl) ?_
   rotate_left
   refine L.alloc rfl rfl rfl (fun A9 => ?_)
   refine L.nm (by kernel_rfl) ?_; refine LM.f 5 rfl (by kernel_rfl) ⟨Has.r 4 rfl, Has.r 5 rfl, Has.r 6 rfl, trivial⟩ ?_; refine L.call (js := []) (js' := [0, 1, 2]) (made_c r2) rfl rfl rfl (by decide) trivial rfl ?_
   rintro _ _ _ ⟨rfl, rfl, rfl⟩
   refine L.norm (H' := [_, _, _]) [1, 2, 0] ⟨rfl, rfl, rfl, trivial⟩ (by decide) ?_; refine L.nm (by kernel_rfl) ?_
   rotate_left
   refine L.alloc rfl rfl rfl (fun A9 => ?_)
   refine L.nm (by kernel_rfl) ?_; refine LM.f 3 rfl (by kernel_rfl) ⟨Has.r 4 rfl, Has.r 5 rfl, Has.r 6 rfl, trivial⟩ ?_; refine L.call (js := []) (js' := [0, 1, 2]) (layout_c z p qq r) rfl rfl rfl (by decide) trivial rfl ?_
   rintro _ _ _ ⟨rfl, rfl, rfl⟩
   refine L.nm (by kernel_rfl) ?_; refine LM.f 5 rfl (by kernel_rfl) ⟨Has.r 4 rfl, Has.r 5 rfl, Has.r 6 rfl, trivial⟩ ?_; refine L.call (js := []) (js' := [0, 1, 2]) (made_c r2) rfl rfl rfl (by decide) trivial rfl ?_
   rintro _ _ _ ⟨rfl, rfl, rfl⟩
   refine L.norm (H' := [_, _, _]) [1, 2, 0] ⟨rfl, rfl, rfl, trivial⟩ (by decide) ?_; refine L.nm (by kernel_rfl) ?_
   rotate_left
   refine L.alloc rfl rfl rfl (fun A9 => ?_)
   refine L.nm (by kernel_rfl) ?_; refine LM.a2 3 6 (by kernel_rfl) ⟨Has.r 4 rfl, Has.r 5 rfl, Has.r 6 rfl, trivial⟩ rfl rfl ?_ ?_; refine L.call (js := []) (js' := [0, 1]) (layout_c z p qq r) rfl rfl rfl (by decide) trivial rfl ?_
   rintro _ _ _ ⟨rfl, rfl, rfl⟩
   refine L.nm (by kernel_rfl) ?_; refine LM.a2 5 6 (by kernel_rfl) ⟨Has.r 4 rfl, Has.r 5 rfl, Has.r 6 rfl, trivial⟩ rfl rfl ?_ ?_; refine L.call (js := []) (js' := [0, 1]) (made_c r2) rfl rfl rfl (by decide) trivial rfl ?_
   rintro _ _ _ ⟨rfl, rfl, rfl⟩
   refine L.nm (by kernel_rfl) ?_; refine LM.f 6 rfl (by kernel_rfl) ⟨Has.r 4 rfl, Has.r 5 rfl, Has.r 6 rfl, trivial⟩ ?_
   refine L.alloc rfl rfl rfl (fun A8 => ?_)
   refine L.norm (H' := [_, _, _]) [2, 1, 0] ⟨rfl, rfl, rfl, trivial⟩ (by decide) ?_; refine L.nm (by kernel_rfl) ?_
   rotate_left
   refine L.alloc rfl rfl rfl (fun A8 => ?_)
   refine L.nm (by kernel_rfl) ?_; refine LM.f 5 rfl (by kernel_rfl) ⟨Has.r 4 rfl, Has.r 5 rfl, Has.r 6 rfl, trivial⟩ ?_; refine L.call (js := []) (js' := [0, 1, 2]) (made_c r2) rfl rfl rfl (by decide) trivial rfl ?_
   rintro _ _ _ ⟨rfl, rfl, rfl⟩
   refine L.norm (H' := [_, _, _]) [2, 1, 0] ⟨rfl, rfl, rfl, trivial⟩ (by decide) ?_; refine L.nm (by kernel_rfl) ?_
   rotate_left
   refine L.alloc rfl rfl rfl (fun A8 => ?_)
   refine L.nm (by kernel_rfl) ?_; refine LM.f 3 rfl (by kernel_rfl) ⟨Has.r 4 rfl, Has.r 5 rfl, Has.r 6 rfl, trivial⟩ ?_; refine L.call (js := []) (js' := [0, 1, 2]) (layout_c z p qq r) rfl rfl rfl (by decide) trivial rfl ?_
   rintro _ _ _ ⟨rfl, rfl, rfl⟩
   refine L.nm (by kernel_rfl) ?_; refine LM.f 5 rfl (by kernel_rfl) ⟨Has.r 4 rfl, Has.r 5 rfl, Has.r 6 rfl, trivial⟩ ?_; refine L.call (js := []) (js' := [0, 1, 2]) (made_c r2) rfl rfl rfl (by decide) trivial rfl ?_
   rintro _ _ _ ⟨rfl, rfl, rfl⟩
   refine L.norm (H' := [_, _, _]) [2, 1, 0] ⟨rfl, rfl, rfl, trivial⟩ (by decide) ?_; refine L.nm (by kernel_rfl) ?_
   rotate_left
   refine L.alloc rfl rfl rfl (fun A8 => ?_)
   refine L.nm (by kernel_rfl) ?_; refine LM.a3 1 7 8 (by kernel_rfl) ⟨Has.r 0 rfl, Has.r 1 rfl, Has.r 2 rfl, trivial⟩ rfl rfl rfl ?_ ?_ ?_; refine L.callR (js := []) (js' := [0]) (flash_c z p qq r) rfl rfl rfl (by decide) trivial rfl ?_
   rintro _ _ _ ⟨a, hb, hc, rfl, rfl, rfl⟩
   refine L.nm (by kernel_rfl) ?_; refine LM.a3 3 7 8 (by kernel_rfl) ⟨Has.r 4 rfl, Has.r 5 rfl, Has.r 6 rfl, trivial⟩ rfl rfl rfl ?_ ?_ ?_; refine L.call (js := []) (js' := [0]) (layout_c z p qq r) rfl rfl rfl (by decide) trivial rfl ?_
   rintro _ _ _ ⟨rfl, rfl, rfl⟩
   refine L.nm (by kernel_rfl) ?_; refine LM.a3 5 7 8 (by kernel_rfl) ⟨Has.r 4 rfl, Has.r 5 rfl, Has.r 6 rfl, trivial⟩ rfl rfl rfl ?_ ?_ ?_; refine L.call (js := []) (js' := [0]) (made_c r2) rfl rfl rfl (by decide) trivial rfl ?_
   rintro _ _ _ ⟨rfl, rfl, rfl⟩
   refine L.nm (by kernel_rfl) ?_; refine LM.a2 7 8 (by kernel_rfl) ⟨Has.r 4 rfl, Has.r 5 rfl, Has.r 6 rfl, trivial⟩ rfl rfl ?_ ?_
   refine L.alloc rfl rfl rfl (fun A9 => ?_)
   refine L.nm (by kernel_rfl) ?_; refine LM.f 8 rfl (by kernel_rfl) ⟨Has.r 4 rfl, Has.r 5 rfl, Has.r 6 rfl, trivial⟩ ?_
   refine L.alloc rfl rfl rfl (fun A10 => ?_)
   refine L.norm (H' := [_, _, _]) [0, 1, 2] ⟨rfl, rfl, rfl, trivial⟩ (by decide) ?_; refine L.nm (by kernel_rfl) ?_
   rotate_left
   refine L.alloc rfl rfl rfl (fun A10 => ?_)
   refine L.nm (by kernel_rfl) ?_; refine LM.f 7 rfl (by kernel_rfl) ⟨Has.r 4 rfl, Has.r 5 rfl, Has.r 6 rfl, trivial⟩ ?_
   refine L.alloc rfl rfl rfl (fun A9 => ?_)
   refine L.norm (H' := [_, _, _]) [0, 2, 1] ⟨rfl, rfl, rfl, trivial⟩ (by decide) ?_; refine L.nm (by kernel_rfl) ?_
   rotate_left
   refine L.alloc rfl rfl rfl (fun A9 => ?_)
   refine L.nm (by kernel_rfl) ?_; refine LM.a2 5 8 (by kernel_rfl) ⟨Has.r 4 rfl, Has.r 5 rfl, Has.r 6 rfl, trivial⟩ rfl rfl ?_ ?_; refine L.call (js := []) (js' := [0, 1]) (made_c r2) rfl rfl rfl (by decide) trivial rfl ?_
   rintro _ _ _ ⟨rfl, rfl, rfl⟩
   refine L.nm (by kernel_rfl) ?_; refine LM.f 8 rfl (by kernel_rfl) ⟨Has.r 4 rfl, Has.r 5 rfl, Has.r 6 rfl, trivial⟩ ?_
   refine L.alloc rfl rfl rfl (fun A10 => ?_)
   refine L.norm (H' := [_, _, _]) [0, 1, 2] ⟨rfl, rfl, rfl, trivial⟩ (by decide) ?_; refine L.nm (by kernel_rfl) ?_
   rotate_left
   refine L.alloc rfl rfl rfl (fun A10 => ?_)
   refine L.nm (by kernel_rfl) ?_; refine LM.f 5 rfl (by kernel_rfl) ⟨Has.r 4 rfl, Has.r 5 rfl, Has.r 6 rfl, trivial⟩ ?_; refine L.call (js := []) (js' := [0, 1, 2]) (made_c r2) rfl rfl rfl (by decide) trivial rfl ?_
   rintro _ _ _ ⟨rfl, rfl, rfl⟩
   refine L.norm (H' := [_, _, _]) [0, 1, 2] ⟨rfl, rfl, rfl, trivial⟩ (by decide) ?_; refine L.nm (by kernel_rfl) ?_
   rotate_left
   refine L.alloc rfl rfl rfl (fun A10 => ?_)
   refine L.nm (by kernel_rfl) ?_; refine LM.a2 5 7 (by kernel_rfl) ⟨Has.r 4 rfl, Has.r 5 rfl, Has.r 6 rfl, trivial⟩ rfl rfl ?_ ?_; refine L.call (js := []) (js' := [0, 1]) (made_c r2) rfl rfl rfl (by decide) trivial rfl ?_
   rintro _ _ _ ⟨rfl, rfl, rfl⟩
   refine L.nm (by kernel_rfl) ?_; refine LM.f 7 rfl (by kernel_rfl) ⟨Has.r 4 rfl, Has.r 5 rfl, Has.r 6 rfl, trivial⟩ ?_
   refine L.alloc rfl rfl rfl (fun A9 => ?_)
   refine L.norm (H' := [_, _, _]) [0, 2, 1] ⟨rfl, rfl, rfl, trivial⟩ (by decide) ?_; refine L.nm (by kernel_rfl) ?_
   rotate_left
   refine L.alloc rfl rfl rfl (fun A9 => ?_)
   refine L.nm (by kernel_rfl) ?_; refine LM.f 5 rfl (by kernel_rfl) ⟨Has.r 4 rfl, Has.r 5 rfl, Has.r 6 rfl, trivial⟩ ?_; refine L.call (js := []) (js' := [0, 1, 2]) (made_c r2) rfl rfl rfl (by decide) trivial rfl ?_
   rintro _ _ _ ⟨rfl, rfl, rfl⟩
   refine L.norm (H' := [_, _, _]) [0, 2, 1] ⟨rfl, rfl, rfl, trivial⟩ (by decide) ?_; refine L.nm (by kernel_rfl) ?_
   rotate_left
   refine L.alloc rfl rfl rfl (fun A9 => ?_)
   refine L.nm (by kernel_rfl) ?_; refine LM.a2 3 8 (by kernel_rfl) ⟨Has.r 4 rfl, Has.r 5 rfl, Has.r 6 rfl, trivial⟩ rfl rfl ?_ ?_; refine L.call (js := []) (js' := [0, 1]) (layout_c z p qq r) rfl rfl rfl (by decide) trivial rfl ?_
   rintro _ _ _ ⟨rfl, rfl, rfl⟩
   refine L.nm (by kernel_rfl) ?_; refine LM.a2 5 8 (by kernel_rfl) ⟨Has.r 4 rfl, Has.r 5 rfl, Has.r 6 rfl, trivial⟩ rfl rfl ?_ ?_; refine L.call (js := []) (js' := [0, 1]) (made_c r2) rfl rfl rfl (by decide) trivial rfl ?_
   rintro _ _ _ ⟨rfl, rfl, rfl⟩
   refine L.nm (by kernel_rfl) ?_; refine LM.f 8 rfl (by kernel_rfl) ⟨Has.r 4 rfl, Has.r 5 rfl, Has.r 6 rfl, trivial⟩ ?_
   refine L.alloc rfl rfl rfl (fun A10 => ?_)
   refine L.norm (H' := [_, _, _]) [0, 1, 2] ⟨rfl, rfl, rfl, trivial⟩ (by decide) ?_; refine L.nm (by kernel_rfl) ?_
   rotate_left
   refine L.alloc rfl rfl rfl (fun A10 => ?_)
   refine L.nm (by kernel_rfl) ?_; refine LM.f 5 rfl (by kernel_rfl) ⟨Has.r 4 rfl, Has.r 5 rfl, Has.r 6 rfl, trivial⟩ ?_; refine L.call (js := []) (js' := [0, 1, 2]) (made_c r2) rfl rfl rfl (by decide) trivial rfl ?_
   rintro _ _ _ ⟨rfl, rfl, rfl⟩
   refine L.norm (H' := [_, _, _]) [0, 1, 2] ⟨rfl, rfl, rfl, trivial⟩ (by decide) ?_; refine L.nm (by kernel_rfl) ?_
   rotate_left
   refine L.alloc rfl rfl rfl (fun A10 => ?_)
   refine L.nm (by kernel_rfl) ?_; refine LM.f 3 rfl (by kernel_rfl) ⟨Has.r 4 rfl, Has.r 5 rfl, Has.r 6 rfl, trivial⟩ ?_; refine L.call (js := []) (js' := [0, 1, 2]) (layout_c z p qq r) rfl rfl rfl (by decide) trivial rfl ?_
   rintro _ _ _ ⟨rfl, rfl, rfl⟩
   refine L.nm (by kernel_rfl) ?_; refine LM.f 5 rfl (by kernel_rfl) ⟨Has.r 4 rfl, Has.r 5 rfl, Has.r 6 rfl, trivial⟩ ?_; refine L.call (js := []) (js' := [0, 1, 2]) (made_c r2) rfl rfl rfl (by decide) trivial rfl ?_
   rintro _ _ _ ⟨rfl, rfl, rfl⟩
   refine L.norm (H' := [_, _, _]) [0, 1, 2] ⟨rfl, rfl, rfl, trivial⟩ (by decide) ?_; refine L.nm (by kernel_rfl) ?_
   rotate_left
   refine L.alloc rfl rfl rfl (fun A10 => ?_)
   refine L.nm (by kernel_rfl) ?_; refine LM.a2 3 7 (by kernel_rfl) ⟨Has.r 4 rfl, Has.r 5 rfl, Has.r 6 rfl, trivial⟩ rfl rfl ?_ ?_; refine L.call (js := []) (js' := [0, 1]) (layout_c z p qq r) rfl rfl rfl (by decide) trivial rfl ?_
   rintro _ _ _ ⟨rfl, rfl, rfl⟩
   refine L.nm (by kernel_rfl) ?_; refine LM.a2 5 7 (by kernel_rfl) ⟨Has.r 4 rfl, Has.r 5 rfl, Has.r 6 rfl, trivial⟩ rfl rfl ?_ ?_; refine L.call (js := []) (js' := [0, 1]) (made_c r2) rfl rfl rfl (by decide) trivial rfl ?_
   rintro _ _ _ ⟨rfl, rfl, rfl⟩
   refine L.nm (by kernel_rfl) ?_; refine LM.f 7 rfl (by kernel_rfl) ⟨Has.r 4 rfl, Has.r 5 rfl, Has.r 6 rfl, trivial⟩ ?_
   refine L.alloc rfl rfl rfl (fun A9 => ?_)
   refine L.norm (H' := [_, _, _]) [0, 2, 1] ⟨rfl, rfl, rfl, trivial⟩ (by decide) ?_; refine L.nm (by kernel_rfl) ?_
   rotate_left
   refine L.alloc rfl rfl rfl (fun A9 => ?_)
   refine L.nm (by kernel_rfl) ?_; refine LM.f 5 rfl (by kernel_rfl) ⟨Has.r 4 rfl, Has.r 5 rfl, Has.r 6 rfl, trivial⟩ ?_; refine L.call (js := []) (js' := [0, 1, 2]) (made_c r2) rfl rfl rfl (by decide) trivial rfl ?_
   rintro _ _ _ ⟨rfl, rfl, rfl⟩
   refine L.norm (H' := [_, _, _]) [0, 2, 1] ⟨rfl, rfl, rfl, trivial⟩ (by decide) ?_; refine L.nm (by kernel_rfl) ?_
   rotate_left
   refine L.alloc rfl rfl rfl (fun A9 => ?_)
   refine L.nm (by kernel_rfl) ?_; refine LM.f 3 rfl (by kernel_rfl) ⟨Has.r 4 rfl, Has.r 5 rfl, Has.r 6 rfl, trivial⟩ ?_; refine L.call (js := []) (js' := [0, 1, 2]) (layout_c z p qq r) rfl rfl rfl (by decide) trivial rfl ?_
   rintro _ _ _ ⟨rfl, rfl, rfl⟩
   refine L.nm (by kernel_rfl) ?_; refine LM.f 5 rfl (by kernel_rfl) ⟨Has.r 4 rfl, Has.r 5 rfl, Has.r 6 rfl, trivial⟩ ?_; refine L.call (js := []) (js' := [0, 1, 2]) (made_c r2) rfl rfl rfl (by decide) trivial rfl ?_
   rintro _ _ _ ⟨rfl, rfl, rfl⟩
   refine L.norm (H' := [_, _, _]) [0, 2, 1] ⟨rfl, rfl, rfl, trivial⟩ (by decide) ?_; refine L.nm (by kernel_rfl) ?_
   rotate_left
   refine L.alloc rfl rfl rfl (fun A9 => ?_)
   refine L.nm (by kernel_rfl) ?_; refine LM.a2 1 8 (by kernel_rfl) ⟨Has.r 0 rfl, Has.r 1 rfl, Has.r 2 rfl, trivial⟩ rfl rfl ?_ ?_; refine L.callR (js := []) (js' := [0, 1]) (flash_c z p qq r) rfl rfl rfl (by decide) trivial rfl ?_
   rintro _ _ _ ⟨a, hb, hc, rfl, rfl, rfl⟩
   refine L.nm (by kernel_rfl) ?_; refine LM.a2 3 8 (by kernel_rfl) ⟨Has.r 4 rfl, Has.r 5 rfl, Has.r 6 rfl, trivial⟩ rfl rfl ?_ ?_; refine L.call (js := []) (js' := [0, 1]) (layout_c z p qq r) rfl rfl rfl (by decide) trivial rfl ?_
   rintro _ _ _ ⟨rfl, rfl, rfl⟩
   refine L.nm (by kernel_rfl) ?_; refine LM.a2 5 8 (by kernel_rfl) ⟨Has.r 4 rfl, Has.r 5 rfl, Has.r 6 rfl, trivial⟩ rfl rfl ?_ ?_; refine L.call (js := []) (js' := [0, 1]) (made_c r2) rfl rfl rfl (by decide) trivial rfl ?_
   rintro _ _ _ ⟨rfl, rfl, rfl⟩
   refine L.nm (by kernel_rfl) ?_; refine LM.f 8 rfl (by kernel_rfl) ⟨Has.r 4 rfl, Has.r 5 rfl, Has.r 6 rfl, trivial⟩ ?_
   refine L.alloc rfl rfl rfl (fun A10 => ?_)
   refine L.norm (H' := [_, _, _]) [0, 1, 2] ⟨rfl, rfl, rfl, trivial⟩ (by decide) ?_; refine L.nm (by kernel_rfl) ?_
   rotate_left
   refine L.alloc rfl rfl rfl (fun A10 => ?_)
   refine L.nm (by kernel_rfl) ?_; refine LM.f 5 rfl (by kernel_rfl) ⟨Has.r 4 rfl, Has.r 5 rfl, Has.r 6 rfl, trivial⟩ ?_; refine L.call (js := []) (js' := [0, 1, 2]) (made_c r2) rfl rfl rfl (by decide) trivial rfl ?_
   rintro _ _ _ ⟨rfl, rfl, rfl⟩
   refine L.norm (H' := [_, _, _]) [0, 1, 2] ⟨rfl, rfl, rfl, trivial⟩ (by decide) ?_; refine L.nm (by kernel_rfl) ?_
   rotate_left
   refine L.alloc rfl rfl rfl (fun A10 => ?_)
   refine L.nm (by kernel_rfl) ?_; refine LM.f 3 rfl (by kernel_rfl) ⟨Has.r 4 rfl, Has.r 5 rfl, Has.r 6 rfl, trivial⟩ ?_; refine L.call (js := []) (js' := [0, 1, 2]) (layout_c z p qq r) rfl rfl rfl (by decide) trivial rfl ?_
   rintro _ _ _ ⟨rfl, rfl, rfl⟩
   refine L.nm (by kernel_rfl) ?_; refine LM.f 5 rfl (by kernel_rfl) ⟨Has.r 4 rfl, Has.r 5 rfl, Has.r 6 rfl, trivial⟩ ?_; refine L.call (js := []) (js' := [0, 1, 2]) (made_c r2) rfl rfl rfl (by decide) trivial rfl ?_
   rintro _ _ _ ⟨rfl, rfl, rfl⟩
   refine L.norm (H' := [_, _, _]) [0, 1, 2] ⟨rfl, rfl, rfl, trivial⟩ (by decide) ?_; refine L.nm (by kernel_rfl) ?_
   rotate_left
   refine L.alloc rfl rfl rfl (fun A10 => ?_)
   refine L.nm (by kernel_rfl) ?_; refine LM.f 1 rfl (by kernel_rfl) ⟨Has.r 0 rfl, Has.r 1 rfl, Has.r 2 rfl, trivial⟩ ?_; refine L.callR (js := []) (js' := [0, 1, 2]) (flash_c z p qq r) rfl rfl rfl (by decide) trivial rfl ?_
   rintro _ _ _ ⟨a, hb, hc, rfl, rfl, rfl⟩
   refine L.nm (by kernel_rfl) ?_; refine LM.f 3 rfl (by kernel_rfl) ⟨Has.r 4 rfl, Has.r 5 rfl, Has.r 6 rfl, trivial⟩ ?_; refine L.call (js := []) (js' := [0, 1, 2]) (layout_c z p qq r) rfl rfl rfl (by decide) trivial rfl ?_
   rintro _ _ _ ⟨rfl, rfl, rfl⟩
   refine L.nm (by kernel_rfl) ?_; refine LM.f 5 rfl (by kernel_rfl) ⟨Has.r 4 rfl, Has.r 5 rfl, Has.r 6 rfl, trivial⟩ ?_; refine L.call (js := []) (js' := [0, 1, 2]) (made_c r2) rfl rfl rfl (by decide) trivial rfl ?_
   rintro _ _ _ ⟨rfl, rfl, rfl⟩
   refine L.norm (H' := [_, _, _]) [0, 1, 2] ⟨rfl, rfl, rfl, trivial⟩ (by decide) ?_; refine L.nm (by kernel_rfl) ?_
   rotate_left
   refine L.alloc rfl rfl rfl (fun A10 => ?_)
   refine L.nm (by kernel_rfl) ?_; refine LM.a2 1 7 (by kernel_rfl) ⟨Has.r 0 rfl, Has.r 1 rfl, Has.r 2 rfl, trivial⟩ rfl rfl ?_ ?_; refine L.callR (js := []) (js' := [0, 1]) (flash_c z p qq r) rfl rfl rfl (by decide) trivial rfl ?_
   rintro _ _ _ ⟨a, hb, hc, rfl, rfl, rfl⟩
   refine L.nm (by kernel_rfl) ?_; refine LM.a2 3 7 (by kernel_rfl) ⟨Has.r 4 rfl, Has.r 5 rfl, Has.r 6 rfl, trivial⟩ rfl rfl ?_ ?_; refine L.call (js := []) (js' := [0, 1]) (layout_c z p qq r) rfl rfl rfl (by decide) trivial rfl ?_
   rintro _ _ _ ⟨rfl, rfl, rfl⟩
   refine L.nm (by kernel_rfl) ?_; refine LM.a2 5 7 (by kernel_rfl) ⟨Has.r 4 rfl, Has.r 5 rfl, Has.r 6 rfl, trivial⟩ rfl rfl ?_ ?_; refine L.call (js := []) (js' := [0, 1]) (made_c r2) rfl rfl rfl (by decide) trivial rfl ?_
   rintro _ _ _ ⟨rfl, rfl, rfl⟩
   refine L.nm (by kernel_rfl) ?_; refine LM.f 7 rfl (by kernel_rfl) ⟨Has.r 4 rfl, Has.r 5 rfl, Has.r 6 rfl, trivial⟩ ?_
   refine L.alloc rfl rfl rfl (fun A9 => ?_)
   refine L.norm (H' := [_, _, _]) [0, 2, 1] ⟨rfl, rfl, rfl, trivial⟩ (by decide) ?_; refine L.nm (by kernel_rfl) ?_
   rotate_left
   refine L.alloc rfl rfl rfl (fun A9 => ?_)
   refine L.nm (by kernel_rfl) ?_; refine LM.f 5 rfl (by kernel_rfl) ⟨Has.r 4 rfl, Has.r 5 rfl, Has.r 6 rfl, trivial⟩ ?_; refine L.call (js := []) (js' := [0, 1, 2]) (made_c r2) rfl rfl rfl (by decide) trivial rfl ?_
   rintro _ _ _ ⟨rfl, rfl, rfl⟩
   refine L.norm (H' := [_, _, _]) [0, 2, 1] ⟨rfl, rfl, rfl, trivial⟩ (by decide) ?_; refine L.nm (by kernel_rfl) ?_
   rotate_left
   refine L.alloc rfl rfl rfl (fun A9 => ?_)
   refine L.nm (by kernel_rfl) ?_; refine LM.f 3 rfl (by kernel_rfl) ⟨Has.r 4 rfl, Has.r 5 rfl, Has.r 6 rfl, trivial⟩ ?_; refine L.call (js := []) (js' := [0, 1, 2]) (layout_c z p qq r) rfl rfl rfl (by decide) trivial rfl ?_
   rintro _ _ _ ⟨rfl, rfl, rfl⟩
   refine L.nm (by kernel_rfl) ?_; refine LM.f 5 rfl (by kernel_rfl) ⟨Has.r 4 rfl, Has.r 5 rfl, Has.r 6 rfl, trivial⟩ ?_; refine L.call (js := []) (js' := [0, 1, 2]) (made_c r2) rfl rfl rfl (by decide) trivial rfl ?_
   rintro _ _ _ ⟨rfl, rfl, rfl⟩
   refine L.norm (H' := [_, _, _]) [0, 2, 1] ⟨rfl, rfl, rfl, trivial⟩ (by decide) ?_; refine L.nm (by kernel_rfl) ?_
   rotate_left
   refine L.alloc rfl rfl rfl (fun A9 => ?_)
   refine L.nm (by kernel_rfl) ?_; refine LM.f 1 rfl (by kernel_rfl) ⟨Has.r 0 rfl, Has.r 1 rfl, Has.r 2 rfl, trivial⟩ ?_; refine L.callR (js := []) (js' := [0, 1, 2]) (flash_c z p qq r) rfl rfl rfl (by decide) trivial rfl ?_
   rintro _ _ _ ⟨a, hb, hc, rfl, rfl, rfl⟩
   refine L.nm (by kernel_rfl) ?_; refine LM.f 3 rfl (by kernel_rfl) ⟨Has.r 4 rfl, Has.r 5 rfl, Has.r 6 rfl, trivial⟩ ?_; refine L.call (js := []) (js' := [0, 1, 2]) (layout_c z p qq r) rfl rfl rfl (by decide) trivial rfl ?_
   rintro _ _ _ ⟨rfl, rfl, rfl⟩
   refine L.nm (by kernel_rfl) ?_; refine LM.f 5 rfl (by kernel_rfl) ⟨Has.r 4 rfl, Has.r 5 rfl, Has.r 6 rfl, trivial⟩ ?_; refine L.call (js := []) (js' := [0, 1, 2]) (made_c r2) rfl rfl rfl (by decide) trivial rfl ?_
   rintro _ _ _ ⟨rfl, rfl, rfl⟩
   refine L.norm (H' := [_, _, _]) [0, 2, 1] ⟨rfl, rfl, rfl, trivial⟩ (by decide) ?_; refine L.nm (by kernel_rfl) ?_
   rotate_left
   refine L.alloc rfl rfl rfl (fun A9 => ?_)
   refine L.nm (by kernel_rfl) ?_; refine LM.a3 1 6 8 (by kernel_rfl) ⟨Has.r 0 rfl, Has.r 1 rfl, Has.r 2 rfl, trivial⟩ rfl rfl rfl ?_ ?_ ?_; refine L.callR (js := []) (js' := [0]) (flash_c z p qq r) rfl rfl rfl (by decide) trivial rfl ?_
   rintro _ _ _ ⟨a, hb, hc, rfl, rfl, rfl⟩
   refine L.nm (by kernel_rfl) ?_; refine LM.a3 3 6 8 (by kernel_rfl) ⟨Has.r 4 rfl, Has.r 5 rfl, Has.r 6 rfl, trivial⟩ rfl rfl rfl ?_ ?_ ?_; refine L.call (js := []) (js' := [0]) (layout_c z p qq r) rfl rfl rfl (by decide) trivial rfl ?_
   rintro _ _ _ ⟨rfl, rfl, rfl⟩
   refine L.nm (by kernel_rfl) ?_; refine LM.a3 5 6 8 (by kernel_rfl) ⟨Has.r 4 rfl, Has.r 5 rfl, Has.r 6 rfl, trivial⟩ rfl rfl rfl ?_ ?_ ?_; refine L.call (js := []) (js' := [0]) (made_c r2) rfl rfl rfl (by decide) trivial rfl ?_
   rintro _ _ _ ⟨rfl, rfl, rfl⟩
   refine L.nm (by kernel_rfl) ?_; refine LM.a2 6 8 (by kernel_rfl) ⟨Has.r 4 rfl, Has.r 5 rfl, Has.r 6 rfl, trivial⟩ rfl rfl ?_ ?_
   refine L.alloc rfl rfl rfl (fun A8 => ?_)
   refine L.nm (by kernel_rfl) ?_; refine LM.f 8 rfl (by kernel_rfl) ⟨Has.r 4 rfl, Has.r 5 rfl, Has.r 6 rfl, trivial⟩ ?_
   refine L.alloc rfl rfl rfl (fun A10 => ?_)
   refine L.norm (H' := [_, _, _]) [1, 0, 2] ⟨rfl, rfl, rfl, trivial⟩ (by decide) ?_; refine L.nm (by kernel_rfl) ?_
   rotate_left
   refine L.alloc rfl rfl rfl (fun A10 => ?_)
   refine L.nm (by kernel_rfl) ?_; refine LM.f 6 rfl (by kernel_rfl) ⟨Has.r 4 rfl, Has.r 5 rfl, Has.r 6 rfl, trivial⟩ ?_
   refine L.alloc rfl rfl rfl (fun A8 => ?_)
   refine L.norm (H' := [_, _, _]) [2, 0, 1] ⟨rfl, rfl, rfl, trivial⟩ (by decide) ?_; refine L.nm (by kernel_rfl) ?_
   rotate_left
   refine L.alloc rfl rfl rfl (fun A8 => ?_)
   refine L.nm (by kernel_rfl) ?_; refine LM.a2 5 8 (by kernel_rfl) ⟨Has.r 4 rfl, Has.r 5 rfl, Has.r 6 rfl, trivial⟩ rfl rfl ?_ ?_; refine L.call (js := []) (js' := [0, 1]) (made_c r2) rfl rfl rfl (by decide) trivial rfl ?_
   rintro _ _ _ ⟨rfl, rfl, rfl⟩
   refine L.nm (by kernel_rfl) ?_; refine LM.f 8 rfl (by kernel_rfl) ⟨Has.r 4 rfl, Has.r 5 rfl, Has.r 6 rfl, trivial⟩ ?_
   refine L.alloc rfl rfl rfl (fun A10 => ?_)
   refine L.norm (H' := [_, _, _]) [1, 0, 2] ⟨rfl, rfl, rfl, trivial⟩ (by decide) ?_; refine L.nm (by kernel_rfl) ?_
   rotate_left
   refine L.alloc rfl rfl rfl (fun A10 => ?_)
   refine L.nm (by kernel_rfl) ?_; refine LM.f 5 rfl (by kernel_rfl) ⟨Has.r 4 rfl, Has.r 5 rfl, Has.r 6 rfl, trivial⟩ ?_; refine L.call (js := []) (js' := [0, 1, 2]) (made_c r2) rfl rfl rfl (by decide) trivial rfl ?_
   rintro _ _ _ ⟨rfl, rfl, rfl⟩
   refine L.norm (H' := [_, _, _]) [1, 0, 2] ⟨rfl, rfl, rfl, trivial⟩ (by decide) ?_; refine L.nm (by kernel_rfl) ?_
   rotate_left
   refine L.alloc rfl rfl rfl (fun A10 => ?_)
   refine L.nm (by kernel_rfl) ?_; refine LM.a2 5 6 (by kernel_rfl) ⟨Has.r 4 rfl, Has.r 5 rfl, Has.r 6 rfl, trivial⟩ rfl rfl ?_ ?_; refine L.call (js := []) (js' := [0, 1]) (made_c r2) rfl rfl rfl (by decide) trivial rfl ?_
   rintro _ _ _ ⟨rfl, rfl, rfl⟩
   refine L.nm (by kernel_rfl) ?_; refine LM.f 6 rfl (by kernel_rfl) ⟨Has.r 4 rfl, Has.r 5 rfl, Has.r 6 rfl, trivial⟩ ?_
   refine L.alloc rfl rfl rfl (fun A8 => ?_)
   refine L.norm (H' := [_, _, _]) [2, 0, 1] ⟨rfl, rfl, rfl, trivial⟩ (by decide) ?_; refine L.nm (by kernel_rfl) ?_
   rotate_left
   refine L.alloc rfl rfl rfl (fun A8 => ?_)
   refine L.nm (by kernel_rfl) ?_; refine LM.f 5 rfl (by kernel_rfl) ⟨Has.r 4 rfl, Has.r 5 rfl, Has.r 6 rfl, trivial⟩ ?_; refine L.call (js := []) (js' := [0, 1, 2]) (made_c r2) rfl rfl rfl (by decide) trivial rfl ?_
   rintro _ _ _ ⟨rfl, rfl, rfl⟩
   refine L.norm (H' := [_, _, _]) [2, 0, 1] ⟨rfl, rfl, rfl, trivial⟩ (by decide) ?_; refine L.nm (by kernel_rfl) ?_
   rotate_left
   refine L.alloc rfl rfl rfl (fun A8 => ?_)
   refine L.nm (by kernel_rfl) ?_; refine LM.a2 3 8 (by kernel_rfl) ⟨Has.r 4 rfl, Has.r 5 rfl, Has.r 6 rfl, trivial⟩ rfl rfl ?_ ?_; refine L.call (js := []) (js' := [0, 1]) (layout_c z p qq r) rfl rfl rfl (by decide) trivial rfl ?_
   rintro _ _ _ ⟨rfl, rfl, rfl⟩
   refine L.nm (by kernel_rfl) ?_; refine LM.a2 5 8 (by kernel_rfl) ⟨Has.r 4 rfl, Has.r 5 rfl, Has.r 6 rfl, trivial⟩ rfl rfl ?_ ?_; refine L.call (js := []) (js' := [0, 1]) (made_c r2) rfl rfl rfl (by decide) trivial rfl ?_
   rintro _ _ _ ⟨rfl, rfl, rfl⟩
   refine L.nm (by kernel_rfl) ?_; refine LM.f 8 rfl (by kernel_rfl) ⟨Has.r 4 rfl, Has.r 5 rfl, Has.r 6 rfl, trivial⟩ ?_
   refine L.alloc rfl rfl rfl (fun A10 => ?_)
   refine L.norm (H' := [_, _, _]) [1, 0, 2] ⟨rfl, rfl, rfl, trivial⟩ (by decide) ?_; refine L.nm (by kernel_rfl) ?_
   rotate_left
   refine L.alloc rfl rfl rfl (fun A10 => ?_)
   refine L.nm (by kernel_rfl) ?_; refine LM.f 5 rfl (by kernel_rfl) ⟨Has.r 4 rfl, Has.r 5 rfl, Has.r 6 rfl, trivial⟩ ?_; refine L.call (js := []) (js' := [0, 1, 2]) (made_c r2) rfl rfl rfl (by decide) trivial rfl ?_
   rintro _ _ _ ⟨rfl, rfl, rfl⟩
   refine L.norm (H' := [_, _, _]) [1, 0, 2] ⟨rfl, rfl, rfl, trivial⟩ (by decide) ?_; refine L.nm (by kernel_rfl) ?_
   rotate_left
   refine L.alloc rfl rfl rfl (fun A10 => ?_)
   refine L.nm (by kernel_rfl) ?_; refine LM.f 3 rfl (by kernel_rfl) ⟨Has.r 4 rfl, Has.r 5 rfl, Has.r 6 rfl, trivial⟩ ?_; refine L.call (js := []) (js' := [0, 1, 2]) (layout_c z p qq r) rfl rfl rfl (by decide) trivial rfl ?_
   rintro _ _ _ ⟨rfl, rfl, rfl⟩
   refine L.nm (by kernel_rfl) ?_; refine LM.f 5 rfl (by kernel_rfl) ⟨Has.r 4 rfl, Has.r 5 rfl, Has.r 6 rfl, trivial⟩ ?_; refine L.call (js := []) (js' := [0, 1, 2]) (made_c r2) rfl rfl rfl (by decide) trivial rfl ?_
   rintro _ _ _ ⟨rfl, rfl, rfl⟩
   refine L.norm (H' := [_, _, _]) [1, 0, 2] ⟨rfl, rfl, rfl, trivial⟩ (by decide) ?_; refine L.nm (by kernel_rfl) ?_
   rotate_left
   refine L.alloc rfl rfl rfl (fun A10 => ?_)
   refine L.nm (by kernel_rfl) ?_; refine LM.a2 3 6 (by kernel_rfl) ⟨Has.r 4 rfl, Has.r 5 rfl, Has.r 6 rfl, trivial⟩ rfl rfl ?_ ?_; refine L.call (js := []) (js' := [0, 1]) (layout_c z p qq r) rfl rfl rfl (by decide) trivial rfl ?_
   rintro _ _ _ ⟨rfl, rfl, rfl⟩
   refine L.nm (by kernel_rfl) ?_; refine LM.a2 5 6 (by kernel_rfl) ⟨Has.r 4 rfl, Has.r 5 rfl, Has.r 6 rfl, trivial⟩ rfl rfl ?_ ?_; refine L.call (js := []) (js' := [0, 1]) (made_c r2) rfl rfl rfl (by decide) trivial rfl ?_
   rintro _ _ _ ⟨rfl, rfl, rfl⟩
   refine L.nm (by kernel_rfl) ?_; refine LM.f 6 rfl (by kernel_rfl) ⟨Has.r 4 rfl, Has.r 5 rfl, Has.r 6 rfl, trivial⟩ ?_
   refine L.alloc rfl rfl rfl (fun A8 => ?_)
   refine L.norm (H' := [_, _, _]) [2, 0, 1] ⟨rfl, rfl, rfl, trivial⟩ (by decide) ?_; refine L.nm (by kernel_rfl) ?_
   rotate_left
   refine L.alloc rfl rfl rfl (fun A8 => ?_)
   refine L.nm (by kernel_rfl) ?_; refine LM.f 5 rfl (by kernel_rfl) ⟨Has.r 4 rfl, Has.r 5 rfl, Has.r 6 rfl, trivial⟩ ?_; refine L.call (js := []) (js' := [0, 1, 2]) (made_c r2) rfl rfl rfl (by decide) trivial rfl ?_
   rintro _ _ _ ⟨rfl, rfl, rfl⟩
   refine L.norm (H' := [_, _, _]) [2, 0, 1] ⟨rfl, rfl, rfl, trivial⟩ (by decide) ?_; refine L.nm (by kernel_rfl) ?_
   rotate_left
   refine L.alloc rfl rfl rfl (fun A8 => ?_)
   refine L.nm (by kernel_rfl) ?_; refine LM.f 3 rfl (by kernel_rfl) ⟨Has.r 4 rfl, Has.r 5 rfl, Has.r 6 rfl, trivial⟩ ?_; refine L.call (js := []) (js' := [0, 1, 2]) (layout_c z p qq r) rfl rfl rfl (by decide) trivial rfl ?_
   rintro _ _ _ ⟨rfl, rfl, rfl⟩
   refine L.nm (by kernel_rfl) ?_; refine LM.f 5 rfl (by kernel_rfl) ⟨Has.r 4 rfl, Has.r 5 rfl, Has.r 6 rfl, trivial⟩ ?_; refine L.call (js := []) (js' := [0, 1, 2]) (made_c r2) rfl rfl rfl (by decide) trivial rfl ?_
   rintro _ _ _ ⟨rfl, rfl, rfl⟩
   refine L.norm (H' := [_, _, _]) [2, 0, 1] ⟨rfl, rfl, rfl, trivial⟩ (by decide) ?_; refine L.nm (by kernel_rfl) ?_
   rotate_left
   refine L.alloc rfl rfl rfl (fun A8 => ?_)
   refine L.nm (by kernel_rfl) ?_; refine LM.a2 1 8 (by kernel_rfl) ⟨Has.r 0 rfl, Has.r 1 rfl, Has.r 2 rfl, trivial⟩ rfl rfl ?_ ?_; refine L.callR (js := []) (js' := [0, 1]) (flash_c z p qq r) rfl rfl rfl (by decide) trivial rfl ?_
   rintro _ _ _ ⟨a, hb, hc, rfl, rfl, rfl⟩
   refine L.nm (by kernel_rfl) ?_; refine LM.a2 3 8 (by kernel_rfl) ⟨Has.r 4 rfl, Has.r 5 rfl, Has.r 6 rfl, trivial⟩ rfl rfl ?_ ?_; refine L.call (js := []) (js' := [0, 1]) (layout_c z p qq r) rfl rfl rfl (by decide) trivial rfl ?_
   rintro _ _ _ ⟨rfl, rfl, rfl⟩
   refine L.nm (by kernel_rfl) ?_; refine LM.a2 5 8 (by kernel_rfl) ⟨Has.r 4 rfl, Has.r 5 rfl, Has.r 6 rfl, trivial⟩ rfl rfl ?_ ?_; refine L.call (js := []) (js' := [0, 1]) (made_c r2) rfl rfl rfl (by decide) trivial rfl ?_
   rintro _ _ _ ⟨rfl, rfl, rfl⟩
   refine L.nm (by kernel_rfl) ?_; refine LM.f 8 rfl (by kernel_rfl) ⟨Has.r 4 rfl, Has.r 5 rfl, Has.r 6 rfl, trivial⟩ ?_
   refine L.alloc rfl rfl rfl (fun A10 => ?_)
   refine L.norm (H' := [_, _, _]) [1, 0, 2] ⟨rfl, rfl, rfl, trivial⟩ (by decide) ?_; refine L.nm (by kernel_rfl) ?_
   rotate_left
   refine L.alloc rfl rfl rfl (fun A10 => ?_)
   refine L.nm (by kernel_rfl) ?_; refine LM.f 5 rfl (by kernel_rfl) ⟨Has.r 4 rfl, Has.r 5 rfl, Has.r 6 rfl, trivial⟩ ?_; refine L.call (js := []) (js' := [0, 1, 2]) (made_c r2) rfl rfl rfl (by decide) trivial rfl ?_
   rintro _ _ _ ⟨rfl, rfl, rfl⟩
   refine L.norm (H' := [_, _, _]) [1, 0, 2] ⟨rfl, rfl, rfl, trivial⟩ (by decide) ?_; refine L.nm (by kernel_rfl) ?_
   rotate_left
   refine L.alloc rfl rfl rfl (fun A10 => ?_)
   refine L.nm (by kernel_rfl) ?_; refine LM.f 3 rfl (by kernel_rfl) ⟨Has.r 4 rfl, Has.r 5 rfl, Has.r 6 rfl, trivial⟩ ?_; refine L.call (js := []) (js' := [0, 1, 2]) (layout_c z p qq r) rfl rfl rfl (by decide) trivial rfl ?_
   rintro _ _ _ ⟨rfl, rfl, rfl⟩
   refine L.nm (by kernel_rfl) ?_; refine LM.f 5 rfl (by kernel_rfl) ⟨Has.r 4 rfl, Has.r 5 rfl, Has.r 6 rfl, trivial⟩ ?_; refine L.call (js := []) (js' := [0, 1, 2]) (made_c r2) rfl rfl rfl (by decide) trivial rfl ?_
   rintro _ _ _ ⟨rfl, rfl, rfl⟩
   refine L.norm (H' := [_, _, _]) [1, 0, 2] ⟨rfl, rfl, rfl, trivial⟩ (by decide) ?_; refine L.nm (by kernel_rfl) ?_
   rotate_left
   refine L.alloc rfl rfl rfl (fun A10 => ?_)
   refine L.nm (by kernel_rfl) ?_; refine LM.f 1 rfl (by kernel_rfl) ⟨Has.r 0 rfl, Has.r 1 rfl, Has.r 2 rfl, trivial⟩ ?_; refine L.callR (js := []) (js' := [0, 1, 2]) (flash_c z p qq r) rfl rfl rfl (by decide) trivial rfl ?_
   rintro _ _ _ ⟨a, hb, hc, rfl, rfl, rfl⟩
   refine L.nm (by kernel_rfl) ?_; refine LM.f 3 rfl (by kernel_rfl) ⟨Has.r 4 rfl, Has.r 5 rfl, Has.r 6 rfl, trivial⟩ ?_; refine L.call (js := []) (js' := [0, 1, 2]) (layout_c z p qq r) rfl rfl rfl (by decide) trivial rfl ?_
   rintro _ _ _ ⟨rfl, rfl, rfl⟩
   refine L.nm (by kernel_rfl) ?_; refine LM.f 5 rfl (by kernel_rfl) ⟨Has.r 4 rfl, Has.r 5 rfl, Has.r 6 rfl, trivial⟩ ?_; refine L.call (js := []) (js' := [0, 1, 2]) (made_c r2) rfl rfl rfl (by decide) trivial rfl ?_
   rintro _ _ _ ⟨rfl, rfl, rfl⟩
   refine L.norm (H' := [_, _, _]) [1, 0, 2] ⟨rfl, rfl, rfl, trivial⟩ (by decide) ?_; refine L.nm (by kernel_rfl) ?_
   rotate_left
   refine L.alloc rfl rfl rfl (fun A10 => ?_)
   refine L.nm (by kernel_rfl) ?_; refine LM.a2 1 6 (by kernel_rfl) ⟨Has.r 0 rfl, Has.r 1 rfl, Has.r 2 rfl, trivial⟩ rfl rfl ?_ ?_; refine L.callR (js := []) (js' := [0, 1]) (flash_c z p qq r) rfl rfl rfl (by decide) trivial rfl ?_
   rintro _ _ _ ⟨a, hb, hc, rfl, rfl, rfl⟩
   refine L.nm (by kernel_rfl) ?_; refine LM.a2 3 6 (by kernel_rfl) ⟨Has.r 4 rfl, Has.r 5 rfl, Has.r 6 rfl, trivial⟩ rfl rfl ?_ ?_; refine L.call (js := []) (js' := [0, 1]) (layout_c z p qq r) rfl rfl rfl (by decide) trivial rfl ?_
   rintro _ _ _ ⟨rfl, rfl, rfl⟩
   refine L.nm (by kernel_rfl) ?_; refine LM.a2 5 6 (by kernel_rfl) ⟨Has.r 4 rfl, Has.r 5 rfl, Has.r 6 rfl, trivial⟩ rfl rfl ?_ ?_; refine L.call (js := []) (js' := [0, 1]) (made_c r2) rfl rfl rfl (by decide) trivial rfl ?_
   rintro _ _ _ ⟨rfl, rfl, rfl⟩
   refine L.nm (by kernel_rfl) ?_; refine LM.f 6 rfl (by kernel_rfl) ⟨Has.r 4 rfl, Has.r 5 rfl, Has.r 6 rfl, trivial⟩ ?_
   refine L.alloc rfl rfl rfl (fun A8 => ?_)
   refine L.norm (H' := [_, _, _]) [2, 0, 1] ⟨rfl, rfl, rfl, trivial⟩ (by decide) ?_; refine L.nm (by kernel_rfl) ?_
   rotate_left
   refine L.alloc rfl rfl rfl (fun A8 => ?_)
   refine L.nm (by kernel_rfl) ?_; refine LM.f 5 rfl (by kernel_rfl) ⟨Has.r 4 rfl, Has.r 5 rfl, Has.r 6 rfl, trivial⟩ ?_; refine L.call (js := []) (js' := [0, 1, 2]) (made_c r2) rfl rfl rfl (by decide) trivial rfl ?_
   rintro _ _ _ ⟨rfl, rfl, rfl⟩
   refine L.norm (H' := [_, _, _]) [2, 0, 1] ⟨rfl, rfl, rfl, trivial⟩ (by decide) ?_; refine L.nm (by kernel_rfl) ?_
   rotate_left
   refine L.alloc rfl rfl rfl (fun A8 => ?_)
   refine L.nm (by kernel_rfl) ?_; refine LM.f 3 rfl (by kernel_rfl) ⟨Has.r 4 rfl, Has.r 5 rfl, Has.r 6 rfl, trivial⟩ ?_; refine L.call (js := []) (js' := [0, 1, 2]) (layout_c z p qq r) rfl rfl rfl (by decide) trivial rfl ?_
   rintro _ _ _ ⟨rfl, rfl, rfl⟩
   refine L.nm (by kernel_rfl) ?_; refine LM.f 5 rfl (by kernel_rfl) ⟨Has.r 4 rfl, Has.r 5 rfl, Has.r 6 rfl, trivial⟩ ?_; refine L.call (js := []) (js' := [0, 1, 2]) (made_c r2) rfl rfl rfl (by decide) trivial rfl ?_
   rintro _ _ _ ⟨rfl, rfl, rfl⟩
   refine L.norm (H' := [_, _, _]) [2, 0, 1] ⟨rfl, rfl, rfl, trivial⟩ (by decide) ?_; refine L.nm (by kernel_rfl) ?_
   rotate_left
   refine L.alloc rfl rfl rfl (fun A8 => ?_)
   refine L.nm (by kernel_rfl) ?_; refine LM.f 1 rfl (by kernel_rfl) ⟨Has.r 0 rfl, Has.r 1 rfl, Has.r 2 rfl, trivial⟩ ?_; refine L.callR (js := []) (js' := [0, 1, 2]) (flash_c z p qq r) rfl rfl rfl (by decide) trivial rfl ?_
   rintro _ _ _ ⟨a, hb, hc, rfl, rfl, rfl⟩
   refine L.nm (by kernel_rfl) ?_; refine LM.f 3 rfl (by kernel_rfl) ⟨Has.r 4 rfl, Has.r 5 rfl, Has.r 6 rfl, trivial⟩ ?_; refine L.call (js := []) (js' := [0, 1, 2]) (layout_c z p qq r) rfl rfl rfl (by decide) trivial rfl ?_
   rintro _ _ _ ⟨rfl, rfl, rfl⟩
   refine L.nm (by kernel_rfl) ?_; refine LM.f 5 rfl (by kernel_rfl) ⟨Has.r 4 rfl, Has.r 5 rfl, Has.r 6 rfl, trivial⟩ ?_; refine L.call (js := []) (js' := [0, 1, 2]) (made_c r2) rfl rfl rfl (by decide) trivial rfl ?_
   rintro _ _ _ ⟨rfl, rfl, rfl⟩
   refine L.norm (H' := [_, _, _]) [2, 0, 1] ⟨rfl, rfl, rfl, trivial⟩ (by decide) ?_; refine L.nm (by kernel_rfl) ?_
   rotate_left
   refine L.alloc rfl rfl rfl (fun A10 => ?_)
   refine L.nm (by kernel_rfl) ?_; refine LM.a3 1 6 7 (by kernel_rfl) ⟨Has.r 0 rfl, Has.r 1 rfl, Has.r 2 rfl, trivial⟩ rfl rfl rfl ?_ ?_ ?_; refine L.callR (js := []) (js' := [0]) (flash_c z p qq r) rfl rfl rfl (by decide) trivial rfl ?_
   rintro _ _ _ ⟨a, hb, hc, rfl, rfl, rfl⟩
   refine L.nm (by kernel_rfl) ?_; refine LM.a3 3 6 7 (by kernel_rfl) ⟨Has.r 4 rfl, Has.r 5 rfl, Has.r 6 rfl, trivial⟩ rfl rfl rfl ?_ ?_ ?_; refine L.call (js := []) (js' := [0]) (layout_c z p qq r) rfl rfl rfl (by decide) trivial rfl ?_
   rintro _ _ _ ⟨rfl, rfl, rfl⟩
   refine L.nm (by kernel_rfl) ?_; refine LM.a3 5 6 7 (by kernel_rfl) ⟨Has.r 4 rfl, Has.r 5 rfl, Has.r 6 rfl, trivial⟩ rfl rfl rfl ?_ ?_ ?_; refine L.call (js := []) (js' := [0]) (made_c r2) rfl rfl rfl (by decide) trivial rfl ?_
   rintro _ _ _ ⟨rfl, rfl, rfl⟩
   refine L.nm (by kernel_rfl) ?_; refine LM.a2 6 7 (by kernel_rfl) ⟨Has.r 4 rfl, Has.r 5 rfl, Has.r 6 rfl, trivial⟩ rfl rfl ?_ ?_
   refine L.alloc rfl rfl rfl (fun A8 => ?_)
   refine L.nm (by kernel_rfl) ?_; refine LM.f 7 rfl (by kernel_rfl) ⟨Has.r 4 rfl, Has.r 5 rfl, Has.r 6 rfl, trivial⟩ ?_
   refine L.alloc rfl rfl rfl (fun A9 => ?_)
   refine L.norm (H' := [_, _, _]) [1, 2, 0] ⟨rfl, rfl, rfl, trivial⟩ (by decide) ?_; refine L.nm (by kernel_rfl) ?_
   rotate_left
   refine L.alloc rfl rfl rfl (fun A9 => ?_)
   refine L.nm (by kernel_rfl) ?_; refine LM.f 6 rfl (by kernel_rfl) ⟨Has.r 4 rfl, Has.r 5 rfl, Has.r 6 rfl, trivial⟩ ?_
   refine L.alloc rfl rfl rfl (fun A8 => ?_)
   refine L.norm (H' := [_, _, _]) [2, 1, 0] ⟨rfl, rfl, rfl, trivial⟩ (by decide) ?_; refine L.nm (by kernel_rfl) ?_
   rotate_left
   refine L.alloc rfl rfl rfl (fun A8 => ?_)
   refine L.nm (by kernel_rfl) ?_; refine LM.a2 5 7 (by kernel_rfl) ⟨Has.r 4 rfl, Has.r 5 rfl, Has.r 6 rfl, trivial⟩ rfl rfl ?_ ?_; refine L.call (js := []) (js' := [0, 1]) (made_c r2) rfl rfl rfl (by decide) trivial rfl ?_
   rintro _ _ _ ⟨rfl, rfl, rfl⟩
   refine L.nm (by kernel_rfl) ?_; refine LM.f 7 rfl (by kernel_rfl) ⟨Has.r 4 rfl, Has.r 5 rfl, Has.r 6 rfl, trivial⟩ ?_
   refine L.alloc rfl rfl rfl (fun A9 => ?_)
   refine L.norm (H' := [_, _, _]) [1, 2, 0] ⟨rfl, rfl, rfl, trivial⟩ (by decide) ?_; refine L.nm (by kernel_rfl) ?_
   rotate_left
   refine L.alloc rfl rfl rfl (fun A9 => ?_)
   refine L.nm (by kernel_rfl) ?_; refine LM.f 5 rfl (by kernel_rfl) ⟨Has.r 4 rfl, Has.r 5 rfl, Has.r 6 rfl, trivial⟩ ?_; refine L.call (js := []) (js' := [0, 1, 2]) (made_c r2) rfl rfl rfl (by decide) trivial rfl ?_
   rintro _ _ _ ⟨rfl, rfl, rfl⟩
   refine L.norm (H' := [_, _, _]) [1, 2, 0] ⟨rfl, rfl, rfl, trivial⟩ (by decide) ?_; refine L.nm (by kernel_rfl) ?_
   rotate_left
   refine L.alloc rfl rfl rfl (fun A9 => ?_)
   refine L.nm (by kernel_rfl) ?_; refine LM.a2 5 6 (by kernel_rfl) ⟨Has.r 4 rfl, Has.r 5 rfl, Has.r 6 rfl, trivial⟩ rfl rfl ?_ ?_; refine L.call (js := []) (js' := [0, 1]) (made_c r2) rfl rfl rfl (by decide) trivial rfl ?_
   rintro _ _ _ ⟨rfl, rfl, rfl⟩
   refine L.nm (by kernel_rfl) ?_; refine LM.f 6 rfl (by kernel_rfl) ⟨Has.r 4 rfl, Has.r 5 rfl, Has.r 6 rfl, trivial⟩ ?_
   refine L.alloc rfl rfl rfl (fun A8 => ?_)
   refine L.norm (H' := [_, _, _]) [2, 1, 0] ⟨rfl, rfl, rfl, trivial⟩ (by decide) ?_; refine L.nm (by kernel_rfl) ?_
   rotate_left
   refine L.alloc rfl rfl rfl (fun A8 => ?_)
   refine L.nm (by kernel_rfl) ?_; refine LM.f 5 rfl (by kernel_rfl) ⟨Has.r 4 rfl, Has.r 5 rfl, Has.r 6 rfl, trivial⟩ ?_; refine L.call (js := []) (js' := [0, 1, 2]) (made_c r2) rfl rfl rfl (by decide) trivial rfl ?_
   rintro _ _ _ ⟨rfl, rfl, rfl⟩
   refine L.norm (H' := [_, _, _]) [2, 1, 0] ⟨rfl, rfl, rfl, trivial⟩ (by decide) ?_; refine L.nm (by kernel_rfl) ?_
   rotate_left
   refine L.alloc rfl rfl rfl (fun A8 => ?_)
   refine L.nm (by kernel_rfl) ?_; refine LM.a2 3 7 (by kernel_rfl) ⟨Has.r 4 rfl, Has.r 5 rfl, Has.r 6 rfl, trivial⟩ rfl rfl ?_ ?_; refine L.call (js := []) (js' := [0, 1]) (layout_c z p qq r) rfl rfl rfl (by decide) trivial rfl ?_
   rintro _ _ _ ⟨rfl, rfl, rfl⟩
   refine L.nm (by kernel_rfl) ?_; refine LM.a2 5 7 (by kernel_rfl) ⟨Has.r 4 rfl, Has.r 5 rfl, Has.r 6 rfl, trivial⟩ rfl rfl ?_ ?_; refine L.call (js := []) (js' := [0, 1]) (made_c r2) rfl rfl rfl (by decide) trivial rfl ?_
   rintro _ _ _ ⟨rfl, rfl, rfl⟩
   refine L.nm (by kernel_rfl) ?_; refine LM.f 7 rfl (by kernel_rfl) ⟨Has.r 4 rfl, Has.r 5 rfl, Has.r 6 rfl, trivial⟩ ?_
   refine L.alloc rfl rfl rfl (fun A9 => ?_)
   refine L.norm (H' := [_, _, _]) [1, 2, 0] ⟨rfl, rfl, rfl, trivial⟩ (by decide) ?_; refine L.nm (by kernel_rfl) ?_
   rotate_left
   refine L.alloc rfl rfl rfl (fun A9 => ?_)
   refine L.nm (by kernel_rfl) ?_; refine LM.f 5 rfl (by kernel_rfl) ⟨Has.r 4 rfl, Has.r 5 rfl, Has.r 6 rfl, trivial⟩ ?_; refine L.call (js := []) (js' := [0, 1, 2]) (made_c r2) rfl rfl rfl (by decide) trivial rfl ?_
   rintro _ _ _ ⟨rfl, rfl, rfl⟩
   refine L.norm (H' := [_, _, _]) [1, 2, 0] ⟨rfl, rfl, rfl, trivial⟩ (by decide) ?_; refine L.nm (by kernel_rfl) ?_
   rotate_left
   refine L.alloc rfl rfl rfl (fun A9 => ?_)
   refine L.nm (by kernel_rfl) ?_; refine LM.f 3 rfl (by kernel_rfl) ⟨Has.r 4 rfl, Has.r 5 rfl, Has.r 6 rfl, trivial⟩ ?_; refine L.call (js := []) (js' := [0, 1, 2]) (layout_c z p qq r) rfl rfl rfl (by decide) trivial rfl ?_
   rintro _ _ _ ⟨rfl, rfl, rfl⟩
   refine L.nm (by kernel_rfl) ?_; refine LM.f 5 rfl (by kernel_rfl) ⟨Has.r 4 rfl, Has.r 5 rfl, Has.r 6 rfl, trivial⟩ ?_; refine L.call (js := []) (js' := [0, 1, 2]) (made_c r2) rfl rfl rfl (by decide) trivial rfl ?_
   rintro _ _ _ ⟨rfl, rfl, rfl⟩
   refine L.norm (H' := [_, _, _]) [1, 2, 0] ⟨rfl, rfl, rfl, trivial⟩ (by decide) ?_; refine L.nm (by kernel_rfl) ?_
   rotate_left
   refine L.alloc rfl rfl rfl (fun A9 => ?_)
   refine L.nm (by kernel_rfl) ?_; refine LM.a2 3 6 (by kernel_rfl) ⟨Has.r 4 rfl, Has.r 5 rfl, Has.r 6 rfl, trivial⟩ rfl rfl ?_ ?_; refine L.call (js := []) (js' := [0, 1]) (layout_c z p qq r) rfl rfl rfl (by decide) trivial rfl ?_
   rintro _ _ _ ⟨rfl, rfl, rfl⟩
   refine L.nm (by kernel_rfl) ?_; refine LM.a2 5 6 (by kernel_rfl) ⟨Has.r 4 rfl, Has.r 5 rfl, Has.r 6 rfl, trivial⟩ rfl rfl ?_ ?_; refine L.call (js := []) (js' := [0, 1]) (made_c r2) rfl rfl rfl (by decide) trivial rfl ?_
   rintro _ _ _ ⟨rfl, rfl, rfl⟩
   refine L.nm (by kernel_rfl) ?_; refine LM.f 6 rfl (by kernel_rfl) ⟨Has.r 4 rfl, Has.r 5 rfl, Has.r 6 rfl, trivial⟩ ?_
   refine L.alloc rfl rfl rfl (fun A8 => ?_)
   refine L.norm (H' := [_, _, _]) [2, 1, 0] ⟨rfl, rfl, rfl, trivial⟩ (by decide) ?_; refine L.nm (by kernel_rfl) ?_
   rotate_left
   refine L.alloc rfl rfl rfl (fun A8 => ?_)
   refine L.nm (by kernel_rfl) ?_; refine LM.f 5 rfl (by kernel_rfl) ⟨Has.r 4 rfl, Has.r 5 rfl, Has.r 6 rfl, trivial⟩ ?_; refine L.call (js := []) (js' := [0, 1, 2]) (made_c r2) rfl rfl rfl (by decide) trivial rfl ?_
   rintro _ _ _ ⟨rfl, rfl, rfl⟩
   refine L.norm (H' := [_, _, _]) [2, 1, 0] ⟨rfl, rfl, rfl, trivial⟩ (by decide) ?_; refine L.nm (by kernel_rfl) ?_
   rotate_left
   refine L.alloc rfl rfl rfl (fun A8 => ?_)
   refine L.nm (by kernel_rfl) ?_; refine LM.f 3 rfl (by kernel_rfl) ⟨Has.r 4 rfl, Has.r 5 rfl, Has.r 6 rfl, trivial⟩ ?_; refine L.call (js := []) (js' := [0, 1, 2]) (layout_c z p qq r) rfl rfl rfl (by decide) trivial rfl ?_
   rintro _ _ _ ⟨rfl, rfl, rfl⟩
   refine L.nm (by kernel_rfl) ?_; refine LM.f 5 rfl (by kernel_rfl) ⟨Has.r 4 rfl, Has.r 5 rfl, Has.r 6 rfl, trivial⟩ ?_; refine L.call (js := []) (js' := [0, 1, 2]) (made_c r2) rfl rfl rfl (by decide) trivial rfl ?_
   rintro _ _ _ ⟨rfl, rfl, rfl⟩
   refine L.norm (H' := [_, _, _]) [2, 1, 0] ⟨rfl, rfl, rfl, trivial⟩ (by decide) ?_; refine L.nm (by kernel_rfl) ?_
   rotate_left
   refine L.alloc rfl rfl rfl (fun A8 => ?_)
   refine L.nm (by kernel_rfl) ?_; refine LM.a2 1 7 (by kernel_rfl) ⟨Has.r 0 rfl, Has.r 1 rfl, Has.r 2 rfl, trivial⟩ rfl rfl ?_ ?_; refine L.callR (js := []) (js' := [0, 1]) (flash_c z p qq r) rfl rfl rfl (by decide) trivial rfl ?_
   rintro _ _ _ ⟨a, hb, hc, rfl, rfl, rfl⟩
   refine L.nm (by kernel_rfl) ?_; refine LM.a2 3 7 (by kernel_rfl) ⟨Has.r 4 rfl, Has.r 5 rfl, Has.r 6 rfl, trivial⟩ rfl rfl ?_ ?_; refine L.call (js := []) (js' := [0, 1]) (layout_c z p qq r) rfl rfl rfl (by decide) trivial rfl ?_
   rintro _ _ _ ⟨rfl, rfl, rfl⟩
   refine L.nm (by kernel_rfl) ?_; refine LM.a2 5 7 (by kernel_rfl) ⟨Has.r 4 rfl, Has.r 5 rfl, Has.r 6 rfl, trivial⟩ rfl rfl ?_ ?_; refine L.call (js := []) (js' := [0, 1]) (made_c r2) rfl rfl rfl (by decide) trivial rfl ?_
   rintro _ _ _ ⟨rfl, rfl, rfl⟩
   refine L.nm (by kernel_rfl) ?_; refine LM.f 7 rfl (by kernel_rfl) ⟨Has.r 4 rfl, Has.r 5 rfl, Has.r 6 rfl, trivial⟩ ?_
   refine L.alloc rfl rfl rfl (fun A9 => ?_)
   refine L.norm (H' := [_, _, _]) [1, 2, 0] ⟨rfl, rfl, rfl, trivial⟩ (by decide) ?_; refine L.nm (by kernel_rfl) ?_
   rotate_left
   refine L.alloc rfl rfl rfl (fun A9 => ?_)
   refine L.nm (by kernel_rfl) ?_; refine LM.f 5 rfl (by kernel_rfl) ⟨Has.r 4 rfl, Has.r 5 rfl, Has.r 6 rfl, trivial⟩ ?_; refine L.call (js := []) (js' := [0, 1, 2]) (made_c r2) rfl rfl rfl (by decide) trivial rfl ?_
   rintro _ _ _ ⟨rfl, rfl, rfl⟩
   refine L.norm (H' := [_, _, _]) [1, 2, 0] ⟨rfl, rfl, rfl, trivial⟩ (by decide) ?_; refine L.nm (by kernel_rfl) ?_
   rotate_left
   refine L.alloc rfl rfl rfl (fun A9 => ?_)
   refine L.nm (by kernel_rfl) ?_; refine LM.f 3 rfl (by kernel_rfl) ⟨Has.r 4 rfl, Has.r 5 rfl, Has.r 6 rfl, trivial⟩ ?_; refine L.call (js := []) (js' := [0, 1, 2]) (layout_c z p qq r) rfl rfl rfl (by decide) trivial rfl ?_
   rintro _ _ _ ⟨rfl, rfl, rfl⟩
   refine L.nm (by kernel_rfl) ?_; refine LM.f 5 rfl (by kernel_rfl) ⟨Has.r 4 rfl, Has.r 5 rfl, Has.r 6 rfl, trivial⟩ ?_; refine L.call (js := []) (js' := [0, 1, 2]) (made_c r2) rfl rfl rfl (by decide) trivial rfl ?_
   rintro _ _ _ ⟨rfl, rfl, rfl⟩
   refine L.norm (H' := [_, _, _]) [1, 2, 0] ⟨rfl, rfl, rfl, trivial⟩ (by decide) ?_; refine L.nm (by kernel_rfl) ?_
   rotate_left
   refine L.alloc rfl rfl rfl (fun A9 => ?_)
   refine L.nm (by kernel_rfl) ?_; refine LM.f 1 rfl (by kernel_rfl) ⟨Has.r 0 rfl, Has.r 1 rfl, Has.r 2 rfl, trivial⟩ ?_; refine L.callR (js := []) (js' := [0, 1, 2]) (flash_c z p qq r) rfl rfl rfl (by decide) trivial rfl ?_
   rintro _ _ _ ⟨a, hb, hc, rfl, rfl, rfl⟩
   refine L.nm (by kernel_rfl) ?_; refine LM.f 3 rfl (by kernel_rfl) ⟨Has.r 4 rfl, Has.r 5 rfl, Has.r 6 rfl, trivial⟩ ?_; refine L.call (js := []) (js' := [0, 1, 2]) (layout_c z p qq r) rfl rfl rfl (by decide) trivial rfl ?_
   rintro _ _ _ ⟨rfl, rfl, rfl⟩
   refine L.nm (by kernel_rfl) ?_; refine LM.f 5 rfl (by kernel_rfl) ⟨Has.r 4 rfl, Has.r 5 rfl, Has.r 6 rfl, trivial⟩ ?_; refine L.call (js := []) (js' := [0, 1, 2]) (made_c r2) rfl rfl rfl (by decide) trivial rfl ?_
   rintro _ _ _ ⟨rfl, rfl, rfl⟩
   refine L.norm (H' := [_, _, _]) [1, 2, 0] ⟨rfl, rfl, rfl, trivial⟩ (by decide) ?_; refine L.nm (by kernel_rfl) ?_
   rotate_left
   refine L.alloc rfl rfl rfl (fun A9 => ?_)
   refine L.nm (by kernel_rfl) ?_; refine LM.a2 1 6 (by kernel_rfl) ⟨Has.r 0 rfl, Has.r 1 rfl, Has.r 2 rfl, trivial⟩ rfl rfl ?_ ?_; refine L.callR (js := []) (js' := [0, 1]) (flash_c z p qq r) rfl rfl rfl (by decide) trivial rfl ?_
   rintro _ _ _ ⟨a, hb, hc, rfl, rfl, rfl⟩
   refine L.nm (by kernel_rfl) ?_; refine LM.a2 3 6 (by kernel_rfl) ⟨Has.r 4 rfl, Has.r 5 rfl, Has.r 6 rfl, trivial⟩ rfl rfl ?_ ?_; refine L.call (js := []) (js' := [0, 1]) (layout_c z p qq r) rfl rfl rfl (by decide) trivial rfl ?_
   rintro _ _ _ ⟨rfl, rfl, rfl⟩
   refine L.nm (by kernel_rfl) ?_; refine LM.a2 5 6 (by kernel_rfl) ⟨Has.r 4 rfl, Has.r 5 rfl, Has.r 6 rfl, trivial⟩ rfl rfl ?_ ?_; refine L.call (js := []) (js' := [0, 1]) (made_c r2) rfl rfl rfl (by decide) trivial rfl ?_
   rintro _ _ _ ⟨rfl, rfl, rfl⟩
   refine L.nm (by kernel_rfl) ?_; refine LM.f 6 rfl (by kernel_rfl) ⟨Has.r 4 rfl, Has.r 5 rfl, Has.r 6 rfl, trivial⟩ ?_
   refine L.alloc rfl rfl rfl (fun A8 => ?_)
   refine L.norm (H' := [_, _, _]) [2, 1, 0] ⟨rfl, rfl, rfl, trivial⟩ (by decide) ?_; refine L.nm (by kernel_rfl) ?_
   rotate_left
   refine L.alloc rfl rfl rfl (fun A8 => ?_)
   refine L.nm (by kernel_rfl) ?_; refine LM.f 5 rfl (by kernel_rfl) ⟨Has.r 4 rfl, Has.r 5 rfl, Has.r 6 rfl, trivial⟩ ?_; refine L.call (js := []) (js' := [0, 1, 2]) (made_c r2) rfl rfl rfl (by decide) trivial rfl ?_
   rintro _ _ _ ⟨rfl, rfl, rfl⟩
   refine L.norm (H' := [_, _, _]) [2, 1, 0] ⟨rfl, rfl, rfl, trivial⟩ (by decide) ?_; refine L.nm (by kernel_rfl) ?_
   rotate_left
   refine L.alloc rfl rfl rfl (fun A8 => ?_)
   refine L.nm (by kernel_rfl) ?_; refine LM.f 3 rfl (by kernel_rfl) ⟨Has.r 4 rfl, Has.r 5 rfl, Has.r 6 rfl, trivial⟩ ?_; refine L.call (js := []) (js' := [0, 1, 2]) (layout_c z p qq r) rfl rfl rfl (by decide) trivial rfl ?_
   rintro _ _ _ ⟨rfl, rfl, rfl⟩
   refine L.nm (by kernel_rfl) ?_; refine LM.f 5 rfl (by kernel_rfl) ⟨Has.r 4 rfl, Has.r 5 rfl, Has.r 6 rfl, trivial⟩ ?_; refine L.call (js := []) (js' := [0, 1, 2]) (made_c r2) rfl rfl rfl (by decide) trivial rfl ?_
   rintro _ _ _ ⟨rfl, rfl, rfl⟩
   refine L.norm (H' := [_, _, _]) [2, 1, 0] ⟨rfl, rfl, rfl, trivial⟩ (by decide) ?_; refine L.nm (by kernel_rfl) ?_
   rotate_left
   refine L.alloc rfl rfl rfl (fun A8 => ?_)
   refine L.nm (by kernel_rfl) ?_; refine LM.f 1 rfl (by kernel_rfl) ⟨Has.r 0 rfl, Has.r 1 rfl, Has.r 2 rfl, trivial⟩ ?_; refine L.callR (js := []) (js' := [0, 1, 2]) (flash_c z p qq r) rfl rfl rfl (by decide) trivial rfl ?_
   rintro _ _ _ ⟨a, hb, hc, rfl, rfl, rfl⟩
   refine L.nm (by kernel_rfl) ?_; refine LM.f 3 rfl (by kernel_rfl) ⟨Has.r 4 rfl, Has.r 5 rfl, Has.r 6 rfl, trivial⟩ ?_; refine L.call (js := []) (js' := [0, 1, 2]) (layout_c z p qq r) rfl rfl rfl (by decide) trivial rfl ?_
   rintro _ _ _ ⟨rfl, rfl, rfl⟩
   refine L.nm (by kernel_rfl) ?_; refine LM.f 5 rfl (by kernel_rfl) ⟨Has.r 4 rfl, Has.r 5 rfl, Has.r 6 rfl, trivial⟩ ?_; refine L.call (js := []) (js' := [0, 1, 2]) (made_c r2) rfl rfl rfl (by decide) trivial rfl ?_
   rintro _ _ _ ⟨rfl, rfl, rfl⟩
   refine L.norm (H' := [_, _, _]) [2, 1, 0] ⟨rfl, rfl, rfl, trivial⟩ (by decide) ?_; refine L.nm (by kernel_rfl) ?_
   rotate_left
   all_goals (
     refine LM.cut [] (by kernel_rfl) ⟨Has.r 4 rfl, Has.r 5 rfl, Has.r 6 rfl, trivial⟩ ?_; refine LM.f 9 rfl (by kernel_rfl) trivial ?_; refine L.storeA (j := 0) rfl rfl rfl rfl rfl (Nat.zero_lt_succ _) rfl rfl ?_
     refine L.nil (QE.m (by kernel_rfl) ?_)
     refine LM.f 10 rfl (by kernel_rfl) trivial ?_; refine L.storeA (j := 1) rfl rfl rfl rfl rfl (Nat.zero_lt_succ _) rfl rfl ?_
     refine L.nil (QE.m (by kernel_rfl) ?_)
     refine LM.f 11 rfl (by kernel_rfl) trivial ?_; refine L.storeA (j := 2) rfl rfl rfl rfl rfl (Nat.zero_lt_succ _) rfl rfl ?_
     refine L.nil (QE.m (by kernel_rfl) ?_)
     refine LM.nil (by kernel_rfl) trivial ?_
     refine QE.joined ((a, A8, A9, A10)) (by exact ⟨hb, hc⟩) (by exact Le.mk' (rs := [0, 1, 2, 3, 5, 4, 6]) (hs := [0, 1, 2]) ⟨rfl, rfl, rfl, rfl, rfl, rfl, rfl, trivial⟩ ⟨rfl, rfl, rfl, rfl, rfl, rfl, rfl, trivial⟩ ⟨rfl, rfl, rfl, trivial⟩ (by decide)))
 · skip
   rintro ⟨a, A8, A9, A10⟩ ⟨hb, hc⟩
   dsimp only at hb hc ⊢
   refine QE.seq ?_; refine C.seqJ (fun q : Nat × Fa => [(7, .bool true), (8, ptrOf A8 0), (9, ptrOf A9 0), (10, ptrOf A10 0)]) (fun q : Nat × Fa => [Rd q.2.D (rowsV q.2.hs (B8 (stepsN (flJ z p qq r) (laA p) (laB p qq) l q.1).data)), KidsR q.2.hs (B8 (stepsN (flJ z p qq r) (laA p) (laB p qq) l q.1).data), Rd q.2.W (I64 (stepsN (flJ z p qq r) (laA p) (laB p qq) l q.1).wear), Rd q.2.E (Bs (stepsN (flJ z p qq r) (laA p) (laB p qq) l q.1).dead)]) (fun q : Nat × Fa => [Own 35 5 A8 1 1 (flL (stepsN (flJ z p qq r) (laA p) (laB p qq) l q.1) q.2), Own 39 8 A9 1 1 [.int .i64 0, .int .i64 (laA p), .int .i64 (laB p qq), .int .i64 0, .int .i64 0, .slice none 0 0, .slice none 0 0, .slice none 0 0], Own 29 9 A10 1 1 (st9 (madeS r2))]) (fun q : Nat × Fa => q.1 ≤ 6 ∧ q.2.hs.length = (stepsN (flJ z p qq r) (laA p) (laB p qq) l q.1).data.length ∧ Caps (stepsN (flJ z p qq r) (laA p) (laB p qq) l q.1) q.2) ?_ ?_
   · skip
     refine C.seq (C.region ?_); refine Lpu rfl rfl ?_; refine L.nil (QE.seq (C.block ?_)); refine C.loop (fun q : Nat × Fa => [(1, .slice LA l.length lc), (3, ptrOf A3 0), (5, ptrOf A5 0), (7, .bool true), (8, ptrOf A8 0), (9, ptrOf A9 0), (10, ptrOf A10 0), (11, .int .i64 (q.1 : Int))]) (fun q : Nat × Fa => [Rd q.2.D (rowsV q.2.hs (B8 (stepsN (flJ z p qq r) (laA p) (laB p qq) l q.1).data)), KidsR q.2.hs (B8 (stepsN (flJ z p qq r) (laA p) (laB p qq) l q.1).data), Rd q.2.W (I64 (stepsN (flJ z p qq r) (laA p) (laB p qq) l q.1).wear), Rd q.2.E (Bs (stepsN (flJ z p qq r) (laA p) (laB p qq) l q.1).dead), Rd A3 [.int .u8 (z.toNat : Int), .int .u8 (p.toNat : Int), .int .u8 (qq.toNat : Int), .int .u8 (((r).getD 0 0).toNat : Int), .int .u8 (((r).getD 1 0).toNat : Int), .int .u8 (((r).getD 2 0).toNat : Int), .int .u8 (((r).getD 3 0).toNat : Int), .int .u8 (((r).getD 4 0).toNat : Int), .int .u8 (((r).getD 5 0).toNat : Int), .int .u8 (((r).getD 6 0).toNat : Int), .int .u8 (((r).getD 7 0).toNat : Int), .int .u8 (((r).getD 8 0).toNat : Int)], Rd A5 (u9 r2), Rd LA (nnV l)]) (fun q : Nat × Fa => [Own 35 5 A8 1 1 (flL (stepsN (flJ z p qq r) (laA p) (laB p qq) l q.1) q.2), Own 39 8 A9 1 1 [.int .i64 0, .int .i64 (laA p), .int .i64 (laB p qq), .int .i64 0, .int .i64 0, .slice none 0 0, .slice none 0 0, .slice none 0 0], Own 29 9 A10 1 1 (st9 (madeS r2))]) (fun q : Nat × Fa => q.1 ≤ 6 ∧ q.1 ≤ l.length ∧ q.2.hs.length = (stepsN (flJ z p qq r) (laA p) (laB p qq) l q.1).data.length ∧ Caps (stepsN (flJ z p qq r) (laA p) (laB p qq) l q.1) q.2) (fun q : Nat × Fa => 6 - q.1) (0, a) ⟨Nat.zero_le _, Nat.zero_le _, hb, hc⟩ (by exact Le.mk' (rs := [0, 1, 2, 3, 4, 5, 6]) (hs := [0, 1, 2]) ⟨rfl, rfl, rfl, rfl, rfl, rfl, rfl, rfl, trivial⟩ ⟨rfl, rfl, rfl, rfl, rfl, rfl, rfl, trivial⟩ ⟨rfl, rfl, rfl, trivial⟩ (by decide)) ?_
     rintro ⟨k, a⟩ ⟨hk6, hkl0, hb, hc⟩
     dsimp only at hk6 hkl0 hb hc ⊢
     have hok := (stepsN_ok (flJ_ok z p qq r).1 (laA p) (laB p qq) l k).1
     refine C.seq (C.seq (C.region ?_)); refine Lpu rfl rfl ?_; refine Lpu rfl rfl ?_; refine Lpu rfl rfl ?_; refine Lpu rfl rfl ?_; refine Lpu rfl rfl ?_
     refine L.bool 30 rfl (fun hg30 => ?_) (fun hg30 => ?_)
     · skip
       replace hg30 := of_decide_eq_true hg30
       have hkl : k < l.length := by omega
       refine L.yes rfl ?_; refine Lpu rfl rfl ?_; refine L.yes rfl ?_; refine Lpu rfl rfl ?_; refine Lpu rfl rfl ?_; refine L.nil (QE.seq ?_)
       refine C.condB 33 rfl (fun hc33 => ?_) (fun hc33 => ?_)
       · skip
         replace hc33 := of_decide_eq_true hc33
         refine C.skip (QE.seq (C.seq (C.block ?_))); refine C.regionM [Rd a.D (rowsV a.hs (B8 (stepsN (flJ z p qq r) (laA p) (laB p qq) l k).data)), KidsR a.hs (B8 (stepsN (flJ z p qq r) (laA p) (laB p qq) l k).data), Rd a.W (I64 (stepsN (flJ z p qq r) (laA p) (laB p qq) l k).wear), Rd a.E (Bs (stepsN (flJ z p qq r) (laA p) (laB p qq) l k).dead), Rd A3 [.int .u8 (z.toNat : Int), .int .u8 (p.toNat : Int), .int .u8 (qq.toNat : Int), .int .u8 (((r).getD 0 0).toNat : Int), .int .u8 (((r).getD 1 0).toNat : Int), .int .u8 (((r).getD 2 0).toNat : Int), .int .u8 (((r).getD 3 0).toNat : Int), .int .u8 (((r).getD 4 0).toNat : Int), .int .u8 (((r).getD 5 0).toNat : Int), .int .u8 (((r).getD 6 0).toNat : Int), .int .u8 (((r).getD 7 0).toNat : Int), .int .u8 (((r).getD 8 0).toNat : Int)], Rd A5 (u9 r2), Rd LA (nnV l), Rd A8 (flL (stepsN (flJ z p qq r) (laA p) (laB p qq) l k) a), Rd A9 [.int .i64 0, .int .i64 (laA p), .int .i64 (laB p qq), .int .i64 0, .int .i64 0, .slice none 0 0, .slice none 0 0, .slice none 0 0]] ⟨Has.r 0 rfl, Has.r 1 rfl, Has.r 2 rfl, Has.r 3 rfl, Has.r 4 rfl, Has.r 5 rfl, Has.r 6 rfl, Has.o 0 rfl, Has.o 1 rfl, trivial⟩ ?_; refine LM.q 0 rfl (by kernel_rfl) (Ev.loadA rfl rfl rfl (Src.r 7 rfl) rfl rfl (by decide)) rfl ⟨Has.r 0 rfl, Has.r 1 rfl, Has.r 2 rfl, Has.r 3 rfl, Has.r 4 rfl, Has.r 5 rfl, Has.r 6 rfl, Has.o 0 rfl, Has.o 1 rfl, trivial⟩ ?_; refine LM.q 1 rfl (by kernel_rfl) (Ev.loadA rfl rfl rfl (Src.r 8 rfl) rfl rfl (by decide)) rfl ⟨Has.r 0 rfl, Has.r 1 rfl, Has.r 2 rfl, Has.r 3 rfl, Has.r 4 rfl, Has.r 5 rfl, Has.r 6 rfl, Has.o 0 rfl, Has.o 1 rfl, trivial⟩ ?_; refine LM.q 2 rfl (by kernel_rfl) (Ev.pure rfl) rfl ⟨Has.r 0 rfl, Has.r 1 rfl, Has.r 2 rfl, Has.r 3 rfl, Has.r 4 rfl, Has.r 5 rfl, Has.r 6 rfl, Has.o 0 rfl, Has.o 1 rfl, trivial⟩ ?_; refine LM.f 3 rfl (by kernel_rfl) ⟨Has.r 0 rfl, Has.r 1 rfl, Has.r 2 rfl, Has.r 3 rfl, Has.r 4 rfl, Has.r 5 rfl, Has.r 6 rfl, Has.o 0 rfl, Has.o 1 rfl, trivial⟩ ?_; refine Lpu rfl rfl ?_
         refine L.nil (QE.m (by kernel_rfl) ?_)
         refine LM.f 4 rfl (by kernel_rfl) ⟨Has.r 0 rfl, Has.r 1 rfl, Has.r 2 rfl, Has.r 3 rfl, Has.r 4 rfl, Has.r 5 rfl, Has.r 6 rfl, Has.o 0 rfl, Has.o 1 rfl, trivial⟩ ?_; refine L.step (Ev.idx (k := k) (m := k * 9) rfl rfl rfl rfl rfl rfl hkl (Src.r 6 rfl) (by rw [nnV_len]; omega) rfl) rfl ?_
         refine L.nil (QE.m (by kernel_rfl) ?_)
         refine LM.f 5 rfl (by kernel_rfl) ⟨Has.r 0 rfl, Has.r 1 rfl, Has.r 2 rfl, Has.r 3 rfl, Has.r 4 rfl, Has.r 5 rfl, Has.r 6 rfl, Has.o 0 rfl, Has.o 1 rfl, trivial⟩ ?_; refine L.step (Ev.loadA (k := k * 9) rfl rfl rfl (Src.r 6 rfl) (nnV_at l k hkl) rfl (by decide)) rfl ?_
         refine L.nil (QE.m (by kernel_rfl) ?_)
         refine LM.f 6 rfl (by kernel_rfl) ⟨Has.r 0 rfl, Has.r 1 rfl, Has.r 2 rfl, Has.r 3 rfl, Has.r 4 rfl, Has.r 5 rfl, Has.r 6 rfl, Has.o 0 rfl, Has.o 1 rfl, trivial⟩ ?_; refine L.step (Ev.build rfl rfl rfl rfl rfl rfl rfl) rfl ?_
         refine L.nil (QE.m (by kernel_rfl) ?_)
         refine LM.cut [] (by kernel_rfl) ⟨Has.r 0 rfl, Has.r 1 rfl, Has.r 2 rfl, Has.r 3 rfl, Has.r 4 rfl, Has.r 5 rfl, Has.r 6 rfl, Has.o 0 rfl, Has.o 1 rfl, trivial⟩ ?_; refine LM.f 7 rfl (by kernel_rfl) trivial ?_; refine L.callR (js := []) (js' := [0, 1, 2]) (step_c (stepsN (flJ z p qq r) (laA p) (laB p qq) l k) a hok hb (yJ p qq) hc (l.getD k []) [] none 0 [] rfl (Nat.zero_le _) (fun i => Nat.zero_le _)) rfl rfl rfl (by decide) ⟨(Has.r 0 rfl), (Has.r 1 rfl), (Has.r 2 rfl), (Has.r 3 rfl), Has.nil, Has.kids0, trivial⟩ rfl ?_
         rintro _ _ _ ⟨b', hb', hc', rfl, rfl, rfl⟩
         refine L.norm (H' := [_, _, _]) [0, 1, 2] ⟨rfl, rfl, rfl, trivial⟩ (by decide) ?_
         refine L.nil (QE.m (by kernel_rfl) ?_)
         refine LM.f 8 rfl (by kernel_rfl) trivial ?_; refine L.storeA (j := 0) rfl rfl rfl rfl rfl (Nat.zero_lt_succ _) rfl rfl ?_
         refine L.nil (QE.m (by kernel_rfl) ?_)
         refine LM.nil (by kernel_rfl) trivial ?_; refine QE.blkN ?_; refine QE.seq (C.region ?_); refine Lpu rfl rfl ?_; refine L.step (Ev.add rfl rfl (by omega) (by omega)) rfl ?_; refine Lpu rfl rfl ?_; refine L.nil ?_
         refine QE.round (i := (k, a)) ((k + 1, b')) (by exact ⟨by dsimp only; omega, by dsimp only; omega, hb', hc'⟩) (by dsimp only; omega) (by exact Le.mk' (rs := [0, 1, 2, 3, 8, 9, 10]) (hs := [0, 1, 2]) ⟨rfl, rfl, rfl, rfl, rfl, rfl, rfl, rfl, trivial⟩ ⟨rfl, rfl, rfl, rfl, rfl, rfl, rfl, trivial⟩ ⟨rfl, rfl, rfl, trivial⟩ (by decide))
       · skip
         replace hc33 := of_decide_eq_false hc33
         refine C.exit ?_; refine QE.tX ?_; refine QE.tX ?_; refine QE.blk ?_
         refine QE.join ((k, a)) (by exact ⟨hk6, hb, hc⟩) (by exact Le.mk' (rs := [0, 1, 2, 3]) (hs := [0, 1, 2]) ⟨rfl, rfl, rfl, rfl, trivial⟩ ⟨rfl, rfl, rfl, rfl, trivial⟩ ⟨rfl, rfl, rfl, trivial⟩ (by decide))
     · skip
       replace hg30 := of_decide_eq_false hg30
       refine L.no rfl rfl rfl ?_; refine L.no rfl rfl rfl ?_; refine Lpu rfl rfl ?_; refine L.nil (QE.seq ?_)
       refine C.cond rfl (fun h => by cases h) (fun _ => ?_)
       refine C.exit ?_; refine QE.tX ?_; refine QE.tX ?_; refine QE.blk ?_
       refine QE.join ((k, a)) (by exact ⟨hk6, hb, hc⟩) (by exact Le.mk' (rs := [0, 1, 2, 3]) (hs := [0, 1, 2]) ⟨rfl, rfl, rfl, rfl, trivial⟩ ⟨rfl, rfl, rfl, rfl, trivial⟩ ⟨rfl, rfl, rfl, trivial⟩ (by decide))
   · skip
     rintro ⟨k, a⟩ ⟨hk6, hb, hc⟩
     dsimp only at hk6 hb hc ⊢
     refine C.seq ?_
     obtain ⟨s0, t, G, B, hG, hB3, hB1, hW⟩ := stepsN_way z p qq r l (madeS r2) hk6
     have hok := (stepsN_ok (flJ_ok z p qq r).1 (laA p) (laB p qq) l k).1
     have h38 : 38 ≤ (stepsN (flJ z p qq r) (laA p) (laB p qq) l k).size := by rw [hW.s]; exact (szJ_le z).1
     refine C.region ?_; refine L.step (Ev.loadA rfl rfl rfl (Src.o 0 rfl) rfl rfl (by decide)) rfl ?_; refine L.step (Ev.loadA rfl rfl rfl (Src.o 1 rfl) rfl rfl (by decide)) rfl ?_; refine L.call (js := []) (js' := [0, 1, 2]) (findR_c (stepsN (flJ z p qq r) (laA p) (laB p qq) l k) a hok hb (yJ p qq) hc) rfl rfl rfl (by decide) ⟨(Has.r 0 rfl), (Has.r 1 rfl), (Has.r 2 rfl), (Has.r 3 rfl), trivial⟩ rfl ?_
     rintro _ _ _ ⟨rfl, rfl, rfl⟩
     refine L.norm (H' := [_, _, _]) [0, 1, 2] ⟨rfl, rfl, rfl, trivial⟩ (by decide) ?_
     refine L.alloc rfl rfl rfl (fun A12 => ?_)
     refine L.storeA (j := 3) rfl rfl rfl rfl rfl (Nat.zero_lt_succ _) rfl rfl ?_; refine L.nil (QE.seq (C.seq ?_)); refine C.regionM [Rd a.D (rowsV a.hs (B8 (stepsN (flJ z p qq r) (laA p) (laB p qq) l k).data)), KidsR a.hs (B8 (stepsN (flJ z p qq r) (laA p) (laB p qq) l k).data), Rd a.W (I64 (stepsN (flJ z p qq r) (laA p) (laB p qq) l k).wear), Rd a.E (Bs (stepsN (flJ z p qq r) (laA p) (laB p qq) l k).dead), Rd A12 [.int .i64 (findF (stepsN (flJ z p qq r) (laA p) (laB p qq) l k) (yJ p qq).a (yJ p qq).b).sec, .int .i64 (findF (stepsN (flJ z p qq r) (laA p) (laB p qq) l k) (yJ p qq).a (yJ p qq).b).oth, .int .i64 (findF (stepsN (flJ z p qq r) (laA p) (laB p qq) l k) (yJ p qq).a (yJ p qq).b).gen, .int .i64 ((findF (stepsN (flJ z p qq r) (laA p) (laB p qq) l k) (yJ p qq).a (yJ p qq).b).s.getD 0 0), .int .i64 ((findF (stepsN (flJ z p qq r) (laA p) (laB p qq) l k) (yJ p qq).a (yJ p qq).b).s.getD 1 0), .int .i64 ((findF (stepsN (flJ z p qq r) (laA p) (laB p qq) l k) (yJ p qq).a (yJ p qq).b).s.getD 2 0), .int .i64 ((findF (stepsN (flJ z p qq r) (laA p) (laB p qq) l k) (yJ p qq).a (yJ p qq).b).s.getD 3 0), .int .i64 ((findF (stepsN (flJ z p qq r) (laA p) (laB p qq) l k) (yJ p qq).a (yJ p qq).b).s.getD 4 0), .int .i64 ((findF (stepsN (flJ z p qq r) (laA p) (laB p qq) l k) (yJ p qq).a (yJ p qq).b).s.getD 5 0), .int .i64 ((findF (stepsN (flJ z p qq r) (laA p) (laB p qq) l k) (yJ p qq).a (yJ p qq).b).s.getD 6 0), .int .i64 ((findF (stepsN (flJ z p qq r) (laA p) (laB p qq) l k) (yJ p qq).a (yJ p qq).b).s.getD 7 0), .int .i64 ((findF (stepsN (flJ z p qq r) (laA p) (laB p qq) l k) (yJ p qq).a (yJ p qq).b).s.getD 8 0), .int .i64 ((findF (stepsN (flJ z p qq r) (laA p) (laB p qq) l k) (yJ p qq).a (yJ p qq).b).free : Int), .int .i64 ((findF (stepsN (flJ z p qq r) (laA p) (laB p qq) l k) (yJ p qq).a (yJ p qq).b).torn : Int), .bool (findF (stepsN (flJ z p qq r) (laA p) (laB p qq) l k) (yJ p qq).a (yJ p qq).b).found], Rd A8 (flL (stepsN (flJ z p qq r) (laA p) (laB p qq) l k) a)] ⟨Has.r 0 rfl, Has.r 1 rfl, Has.r 2 rfl, Has.r 3 rfl, Has.o 3 rfl, Has.o 0 rfl, trivial⟩ ?_; refine LM.q 0 rfl (by kernel_rfl) (Ev.fieldAddr rfl rfl rfl rfl rfl rfl (Src.r 4 rfl) (Nat.zero_lt_succ _) rfl) rfl ⟨Has.r 0 rfl, Has.r 1 rfl, Has.r 2 rfl, Has.r 3 rfl, Has.o 3 rfl, Has.o 0 rfl, trivial⟩ ?_; refine LM.q 1 rfl (by kernel_rfl) (Ev.load rfl rfl rfl (Src.r 4 rfl) rfl) rfl ⟨Has.r 0 rfl, Has.r 1 rfl, Has.r 2 rfl, Has.r 3 rfl, Has.o 3 rfl, Has.o 0 rfl, trivial⟩ ?_; refine LM.f 2 rfl (by kernel_rfl) ⟨Has.r 0 rfl, Has.r 1 rfl, Has.r 2 rfl, Has.r 3 rfl, Has.o 3 rfl, Has.o 0 rfl, trivial⟩ ?_; refine L.step (Ev.loadA rfl rfl rfl (Src.o 0 rfl) rfl rfl (by decide)) rfl ?_
     refine L.nil (QE.m (by kernel_rfl) ?_)
     refine LM.f 3 rfl (by kernel_rfl) ⟨Has.r 0 rfl, Has.r 1 rfl, Has.r 2 rfl, Has.r 3 rfl, Has.o 3 rfl, Has.o 0 rfl, trivial⟩ ?_; refine L.call (js := []) (js' := [0, 1, 2, 3]) (placesR_c (stepsN (flJ z p qq r) (laA p) (laB p qq) l k) a hok hb h38) rfl rfl rfl (by decide) ⟨(Has.r 0 rfl), (Has.r 1 rfl), (Has.r 2 rfl), (Has.r 3 rfl), trivial⟩ rfl ?_
     rintro _ _ _ ⟨rfl, rfl, rfl⟩
     refine L.norm (H' := [_, _, _, _]) [0, 1, 2, 3] ⟨rfl, rfl, rfl, rfl, trivial⟩ (by decide) ?_
     refine L.nil (QE.m (by kernel_rfl) ?_)
     refine LM.cut [] (by kernel_rfl) ⟨Has.r 0 rfl, Has.r 1 rfl, Has.r 2 rfl, Has.r 3 rfl, Has.o 3 rfl, Has.o 0 rfl, trivial⟩ ?_; refine LM.f 4 rfl (by kernel_rfl) trivial ?_; refine Lpu rfl rfl ?_
     refine L.nil (QE.m (by kernel_rfl) ?_)
     refine LM.f 5 rfl (by kernel_rfl) trivial ?_; refine Lpu rfl rfl ?_
     refine L.nil (QE.m (by kernel_rfl) ?_)
     refine LM.nil (by kernel_rfl) trivial ?_; refine QE.seq (C.seq (C.region ?_)); refine Lpu rfl rfl ?_; refine Lpu rfl rfl ?_; refine L.nil (QE.seq (C.seq (C.block ?_))); refine C.loop (fun q : Nat × Nat × Fl × Fa => [(7, .bool true), (8, ptrOf A8 0), (9, ptrOf A9 0), (10, ptrOf A10 0), (13, .bool (decide (((findF (stepsN (flJ z p qq r) (laA p) (laB p qq) l k) (yJ p qq).a (yJ p qq).b).free : Int) < (plcs (stepsN (flJ z p qq r) (laA p) (laB p qq) l k) : Int)))), (14, .int .i64 (q.1 : Int)), (15, .int .i64 (q.2.1 : Int))]) (fun q : Nat × Nat × Fl × Fa => [Rd q.2.2.2.D (rowsV q.2.2.2.hs (B8 q.2.2.1.data)), KidsR q.2.2.2.hs (B8 q.2.2.1.data), Rd q.2.2.2.W (I64 q.2.2.1.wear), Rd q.2.2.2.E (Bs q.2.2.1.dead)]) (fun q : Nat × Nat × Fl × Fa => [Own 35 5 A8 1 1 (flL q.2.2.1 q.2.2.2), Own 39 8 A9 1 1 [.int .i64 0, .int .i64 (laA p), .int .i64 (laB p qq), .int .i64 0, .int .i64 0, .slice none 0 0, .slice none 0 0, .slice none 0 0], Own 29 9 A10 1 1 (st9 (madeS r2))]) (fun q : Nat × Nat × Fl × Fa => q.1 ≤ B ∧ (q.2.1 = 0 ∨ q.2.1 = 1 ∧ B - q.1 ≤ 2) ∧ Wy (fl1 z) q.2.2.1 (yJ p qq).a (yJ p qq).b s0 (madeS r2) t G (B - q.1) (43 + (q.1 : Int)) ∧ q.2.2.2.hs.length = q.2.2.1.data.length ∧ Caps q.2.2.1 q.2.2.2) (fun q : Nat × Nat × Fl × Fa => 4 - q.1) (0, 0, (stepsN (flJ z p qq r) (laA p) (laB p qq) l k), a) ⟨Nat.zero_le _, .inl rfl, hW, hb, hc⟩ (by exact Le.mk' (rs := [0, 1, 2, 3]) (hs := [0, 1, 2]) ⟨rfl, rfl, rfl, rfl, rfl, rfl, rfl, trivial⟩ ⟨rfl, rfl, rfl, rfl, trivial⟩ ⟨rfl, rfl, rfl, trivial⟩ (by decide)) ?_
     rintro ⟨o, er, g, b⟩ ⟨ho, her, hW, hb, hc⟩
     dsimp only at ho her hW hb hc ⊢
     have hok := hW.ok
     refine C.seq (C.seq (C.region ?_)); refine Lpu rfl rfl ?_; refine Lpu rfl rfl ?_; refine L.nil (QE.seq ?_)
     refine C.condB 53 rfl (fun hc53 => ?_) (fun hc53 => ?_)
     · skip
       replace hc53 := of_decide_eq_true hc53
       refine C.skip (QE.seq (C.block (C.seq (C.region ?_)))); refine L.step (Ev.loadA rfl rfl rfl (Src.o 0 rfl) rfl rfl (by decide)) rfl ?_; refine L.step (Ev.loadA rfl rfl rfl (Src.o 1 rfl) rfl rfl (by decide)) rfl ?_; refine L.step (Ev.loadA rfl rfl rfl (Src.o 2 rfl) rfl rfl (by decide)) rfl ?_; refine L.callR (js := []) (js' := [0, 1, 2]) (lnext_c g b hok hb (yJ p qq) hc (madeS r2) rfl) rfl rfl rfl (by decide) ⟨(Has.r 0 rfl), (Has.r 1 rfl), (Has.r 2 rfl), (Has.r 3 rfl), trivial⟩ rfl ?_
       rintro _ _ _ ⟨O1, c1, rfl, rfl, rfl⟩
       refine L.norm (H' := [_, _, _]) [0, 1, 2] ⟨rfl, rfl, rfl, trivial⟩ (by decide) ?_
       refine L.alloc rfl rfl rfl (fun A16 => ?_)
       refine L.storeA (j := 3) rfl rfl rfl rfl rfl (Nat.zero_lt_succ _) rfl rfl ?_; refine L.nil (QE.seq (C.seq (C.seq (C.region ?_)))); refine L.step (Ev.fieldAddr rfl rfl rfl rfl rfl rfl (Src.o 3 rfl) (Nat.zero_lt_succ _) rfl) rfl ?_; refine L.step (Ev.load rfl rfl rfl (Src.o 3 rfl) rfl) rfl ?_; refine Lpu rfl rfl ?_; refine L.nil (QE.seq ?_)
       refine C.condB 60 rfl (fun hc60 => ?_) (fun hc60 => ?_)
       · skip
         replace hc60 := b_ne hc60
         exact absurd (hW.e hG rfl (made_right _) (by show _ < (60 : Int); omega)) hc60
       · skip
         replace hc60 := b_eq hc60
         refine C.skip (QE.seq (C.seq (C.seq (C.region ?_)))); refine L.step (Ev.fieldAddr rfl rfl rfl rfl rfl rfl (Src.o 3 rfl) (Nat.zero_lt_succ _) rfl) rfl ?_; refine L.step (Ev.load rfl rfl rfl (Src.o 3 rfl) rfl) rfl ?_; refine L.nil (QE.seq ?_)
         refine C.condB 62 rfl (fun hc62 => ?_) (fun hc62 => ?_)
         · skip
           refine C.exit ?_; refine QE.tX ?_; refine QE.blkX rfl ?_; refine QE.tX ?_; refine QE.blk ?_; refine QE.seq (C.seq ?_)
           have hJ := hW.done hG rfl (made_right _) (by show _ < (60 : Int); omega) hc62
           have hrd := hJ.read (by omega)
           have hrf : readF g (yJ p qq).a (yJ p qq).b = ((madeS r2), (findF g (yJ p qq).a (yJ p qq).b).torn, 0) := Prod.ext hrd.2.1 (Prod.ext hrd.2.2.2 hrd.1)
           refine C.regionM [Rd b.D (rowsV b.hs (B8 g.data)), KidsR b.hs (B8 g.data), Rd b.W (I64 g.wear), Rd b.E (Bs g.dead), Rd A8 (flL g b), Rd A9 [.int .i64 0, .int .i64 (laA p), .int .i64 (laB p qq), .int .i64 0, .int .i64 0, .slice none 0 0, .slice none 0 0, .slice none 0 0], Rd A10 (st9 (madeS r2))] ⟨Has.r 1 rfl, Has.r 2 rfl, Has.r 3 rfl, Has.r 4 rfl, Has.o 0 rfl, Has.o 1 rfl, Has.o 2 rfl, trivial⟩ ?_; refine LM.q 0 rfl (by kernel_rfl) (Ev.pure rfl) rfl ⟨Has.r 1 rfl, Has.r 2 rfl, Has.r 3 rfl, Has.r 4 rfl, Has.o 0 rfl, Has.o 1 rfl, Has.o 2 rfl, trivial⟩ ?_; refine LM.q 1 rfl (by kernel_rfl) (Ev.pure rfl) rfl ⟨Has.r 1 rfl, Has.r 2 rfl, Has.r 3 rfl, Has.r 4 rfl, Has.o 0 rfl, Has.o 1 rfl, Has.o 2 rfl, trivial⟩ ?_; refine LM.q 2 rfl (by kernel_rfl) (Ev.pure rfl) rfl ⟨Has.r 1 rfl, Has.r 2 rfl, Has.r 3 rfl, Has.r 4 rfl, Has.o 0 rfl, Has.o 1 rfl, Has.o 2 rfl, trivial⟩ ?_
           refine LM.bool 101 rfl (fun hg101 => ?_) (fun hg101 => ?_)
           · skip
             replace hg101 := of_decide_eq_true hg101
             refine LM.qy 3 rfl (by kernel_rfl) rfl (Ev.pure rfl) rfl ⟨Has.r 1 rfl, Has.r 2 rfl, Has.r 3 rfl, Has.r 4 rfl, Has.o 0 rfl, Has.o 1 rfl, Has.o 2 rfl, trivial⟩ ?_; refine LM.qy 4 rfl (by kernel_rfl) rfl (Ev.pure rfl) rfl ⟨Has.r 1 rfl, Has.r 2 rfl, Has.r 3 rfl, Has.r 4 rfl, Has.o 0 rfl, Has.o 1 rfl, Has.o 2 rfl, trivial⟩ ?_; refine LM.q 5 rfl (by kernel_rfl) (Ev.pure rfl) rfl ⟨Has.r 1 rfl, Has.r 2 rfl, Has.r 3 rfl, Has.r 4 rfl, Has.o 0 rfl, Has.o 1 rfl, Has.o 2 rfl, trivial⟩ ?_; refine LM.q 6 rfl (by kernel_rfl) (Ev.pure rfl) rfl ⟨Has.r 1 rfl, Has.r 2 rfl, Has.r 3 rfl, Has.r 4 rfl, Has.o 0 rfl, Has.o 1 rfl, Has.o 2 rfl, trivial⟩ ?_
             refine LM.bool 105 rfl (fun hg105 => ?_) (fun hg105 => ?_)
             · skip
               replace hg105 := of_decide_eq_true hg105
               refine LM.qy 7 rfl (by kernel_rfl) rfl (Ev.pure rfl) rfl ⟨Has.r 1 rfl, Has.r 2 rfl, Has.r 3 rfl, Has.r 4 rfl, Has.o 0 rfl, Has.o 1 rfl, Has.o 2 rfl, trivial⟩ ?_; refine LM.qy 8 rfl (by kernel_rfl) rfl (Ev.pure rfl) rfl ⟨Has.r 1 rfl, Has.r 2 rfl, Has.r 3 rfl, Has.r 4 rfl, Has.o 0 rfl, Has.o 1 rfl, Has.o 2 rfl, trivial⟩ ?_; refine LM.qy 9 rfl (by kernel_rfl) rfl (Ev.pure rfl) rfl ⟨Has.r 1 rfl, Has.r 2 rfl, Has.r 3 rfl, Has.r 4 rfl, Has.o 0 rfl, Has.o 1 rfl, Has.o 2 rfl, trivial⟩ ?_
               refine LM.bool 108 rfl (fun hg108 => ?_) (fun hg108 => ?_)
               · skip
                 replace hg108 := (Bool.not_eq_true' _).mp hg108
                 replace hg108 := of_decide_eq_false hg108
                 refine LM.no 10 rfl (by kernel_rfl) rfl rfl rfl ⟨Has.r 1 rfl, Has.r 2 rfl, Has.r 3 rfl, Has.r 4 rfl, Has.o 0 rfl, Has.o 1 rfl, Has.o 2 rfl, trivial⟩ ?_; refine LM.no 11 rfl (by kernel_rfl) rfl rfl rfl ⟨Has.r 1 rfl, Has.r 2 rfl, Has.r 3 rfl, Has.r 4 rfl, Has.o 0 rfl, Has.o 1 rfl, Has.o 2 rfl, trivial⟩ ?_; refine LM.qy 12 rfl (by kernel_rfl) rfl (Ev.pure rfl) rfl ⟨Has.r 1 rfl, Has.r 2 rfl, Has.r 3 rfl, Has.r 4 rfl, Has.o 0 rfl, Has.o 1 rfl, Has.o 2 rfl, trivial⟩ ?_; refine LM.q 13 rfl (by kernel_rfl) (Ev.pure rfl) rfl ⟨Has.r 1 rfl, Has.r 2 rfl, Has.r 3 rfl, Has.r 4 rfl, Has.o 0 rfl, Has.o 1 rfl, Has.o 2 rfl, trivial⟩ ?_; refine LM.q 14 rfl (by kernel_rfl) (Ev.pure rfl) rfl ⟨Has.r 1 rfl, Has.r 2 rfl, Has.r 3 rfl, Has.r 4 rfl, Has.o 0 rfl, Has.o 1 rfl, Has.o 2 rfl, trivial⟩ ?_; refine LM.qy 15 rfl (by kernel_rfl) rfl (Ev.loadA rfl rfl rfl (Src.r 4 rfl) rfl rfl (by decide)) rfl ⟨Has.r 1 rfl, Has.r 2 rfl, Has.r 3 rfl, Has.r 4 rfl, Has.o 0 rfl, Has.o 1 rfl, Has.o 2 rfl, trivial⟩ ?_; refine LM.qy 16 rfl (by kernel_rfl) rfl (Ev.loadA rfl rfl rfl (Src.r 5 rfl) rfl rfl (by decide)) rfl ⟨Has.r 1 rfl, Has.r 2 rfl, Has.r 3 rfl, Has.r 4 rfl, Has.o 0 rfl, Has.o 1 rfl, Has.o 2 rfl, trivial⟩ ?_; refine LM.qy 18 rfl (by kernel_rfl) rfl (Ev.loadA rfl rfl rfl (Src.r 6 rfl) rfl rfl (by decide)) rfl ⟨Has.r 1 rfl, Has.r 2 rfl, Has.r 3 rfl, Has.r 4 rfl, Has.o 0 rfl, Has.o 1 rfl, Has.o 2 rfl, trivial⟩ ?_; refine LM.qy 19 rfl (by kernel_rfl) rfl (Ev.loadA rfl rfl rfl (Src.r 4 rfl) rfl rfl (by decide)) rfl ⟨Has.r 1 rfl, Has.r 2 rfl, Has.r 3 rfl, Has.r 4 rfl, Has.o 0 rfl, Has.o 1 rfl, Has.o 2 rfl, trivial⟩ ?_; refine LM.qy 20 rfl (by kernel_rfl) rfl (Ev.loadA rfl rfl rfl (Src.r 5 rfl) rfl rfl (by decide)) rfl ⟨Has.r 1 rfl, Has.r 2 rfl, Has.r 3 rfl, Has.r 4 rfl, Has.o 0 rfl, Has.o 1 rfl, Has.o 2 rfl, trivial⟩ ?_; refine LM.f 17 rfl (by kernel_rfl) ⟨Has.r 1 rfl, Has.r 2 rfl, Has.r 3 rfl, Has.r 4 rfl, Has.o 0 rfl, Has.o 1 rfl, Has.o 2 rfl, trivial⟩ ?_; refine L.yes rfl ?_; refine L.call (js := []) (js' := [0, 1, 2, 3]) (lread_c g b hok hb (yJ p qq) hc) rfl rfl rfl (by decide) ⟨(Has.r 1 rfl), (Has.r 2 rfl), (Has.r 3 rfl), (Has.r 4 rfl), trivial⟩ rfl ?_
                 rintro _ _ _ ⟨rfl, rfl, rfl⟩
                 refine L.norm (H' := [_, _, _, _]) [0, 1, 2, 3] ⟨rfl, rfl, rfl, rfl, trivial⟩ (by decide) ?_
                 refine L.nil (QE.m (by kernel_rfl) ?_)
                 refine LM.f 21 rfl (by kernel_rfl) ⟨Has.r 1 rfl, Has.r 2 rfl, Has.r 3 rfl, Has.r 4 rfl, Has.o 0 rfl, Has.o 1 rfl, Has.o 2 rfl, trivial⟩ ?_; refine L.yes rfl ?_; refine L.call (js := []) (js' := [0, 1, 2, 3]) (findR_c g b hok hb (yJ p qq) hc) rfl rfl rfl (by decide) ⟨(Has.r 1 rfl), (Has.r 2 rfl), (Has.r 3 rfl), (Has.r 4 rfl), trivial⟩ rfl ?_
                 rintro _ _ _ ⟨rfl, rfl, rfl⟩
                 refine L.norm (H' := [_, _, _, _]) [0, 1, 2, 3] ⟨rfl, rfl, rfl, rfl, trivial⟩ (by decide) ?_
                 refine L.nil (QE.m (by kernel_rfl) ?_)
                 refine LM.f 22 rfl (by kernel_rfl) ⟨Has.r 1 rfl, Has.r 2 rfl, Has.r 3 rfl, Has.r 4 rfl, Has.o 0 rfl, Has.o 1 rfl, Has.o 2 rfl, trivial⟩ ?_; refine L.yes rfl ?_; refine Lpu rfl rfl ?_
                 refine L.nil (QE.m (by kernel_rfl) ?_)
                 refine LM.cut [] (by kernel_rfl) ⟨Has.r 1 rfl, Has.r 2 rfl, Has.r 3 rfl, Has.r 4 rfl, Has.o 0 rfl, Has.o 1 rfl, Has.o 2 rfl, trivial⟩ ?_; refine LM.f 23 rfl (by kernel_rfl) trivial ?_; refine L.yes rfl ?_; refine L.step (Ev.build rfl rfl rfl rfl rfl rfl rfl) rfl ?_
                 refine L.nil (QE.m (by kernel_rfl) ?_)
                 refine LM.f 24 rfl (by kernel_rfl) trivial ?_; refine L.yes rfl ?_; refine L.step (Ev.eqS2 (xs := rs11 (readF g (yJ p qq).a (yJ p qq).b)) (ys := rs11 ((madeS r2), (findF g (yJ p qq).a (yJ p qq).b).torn, 0)) rfl rfl (by kernel_rfl) (by kernel_rfl) rfl rfl rfl rfl rfl (by kernel_rfl) rfl rfl rfl rfl rfl rfl) rfl ?_
                 refine L.nil (QE.m (by kernel_rfl) ?_)
                 refine LM.f 25 rfl (by kernel_rfl) trivial ?_; refine Lpu rfl rfl ?_
                 refine L.nil (QE.m (by kernel_rfl) ?_)
                 refine LM.f 26 rfl (by kernel_rfl) trivial ?_; refine Lpu rfl rfl ?_
                 refine L.nil (QE.m (by kernel_rfl) ?_)
                 refine LM.bool 125 rfl (fun hg125 => ?_) (fun hg125 => ?_)
                 · skip
                   refine LM.f 27 rfl (by kernel_rfl) trivial ?_; refine L.yes rfl ?_; refine Lpu rfl rfl ?_
                   refine L.nil (QE.m (by kernel_rfl) ?_)
                   refine LM.f 28 rfl (by kernel_rfl) trivial ?_; refine Lpu rfl rfl ?_
                   refine L.nil (QE.m (by kernel_rfl) ?_)
                   refine LM.f 29 rfl (by kernel_rfl) trivial ?_; refine Lpu rfl rfl ?_
                   refine L.nil (QE.m (by kernel_rfl) ?_)
                   refine LM.nil (by kernel_rfl) trivial ?_; refine QE.seq (C.ret ?_); refine QE.ret (js := []) (hs := []) (vs := [_]) rfl ⟨rfl, trivial⟩ (by decide) ?_
                   exact ⟨rfl, rfl, rfl⟩
                 · skip
                   rw [hrf] at hg125; simp at hg125
               · skip
                 replace hg108 := (Bool.not_eq_false' _).mp hg108
                 replace hg108 := of_decide_eq_true hg108
                 refine LM.qy 10 rfl (by kernel_rfl) rfl (Ev.pure rfl) rfl ⟨Has.r 1 rfl, Has.r 2 rfl, Has.r 3 rfl, Has.r 4 rfl, Has.o 0 rfl, Has.o 1 rfl, Has.o 2 rfl, trivial⟩ ?_; refine LM.qy 11 rfl (by kernel_rfl) rfl (Ev.pure rfl) rfl ⟨Has.r 1 rfl, Has.r 2 rfl, Has.r 3 rfl, Has.r 4 rfl, Has.o 0 rfl, Has.o 1 rfl, Has.o 2 rfl, trivial⟩ ?_; refine LM.qy 12 rfl (by kernel_rfl) rfl (Ev.pure rfl) rfl ⟨Has.r 1 rfl, Has.r 2 rfl, Has.r 3 rfl, Has.r 4 rfl, Has.o 0 rfl, Has.o 1 rfl, Has.o 2 rfl, trivial⟩ ?_; refine LM.q 13 rfl (by kernel_rfl) (Ev.pure rfl) rfl ⟨Has.r 1 rfl, Has.r 2 rfl, Has.r 3 rfl, Has.r 4 rfl, Has.o 0 rfl, Has.o 1 rfl, Has.o 2 rfl, trivial⟩ ?_; refine LM.q 14 rfl (by kernel_rfl) (Ev.pure rfl) rfl ⟨Has.r 1 rfl, Has.r 2 rfl, Has.r 3 rfl, Has.r 4 rfl, Has.o 0 rfl, Has.o 1 rfl, Has.o 2 rfl, trivial⟩ ?_
                 refine LM.bool 113 rfl (fun hg113 => ?_) (fun hg113 => ?_)
                 · skip
                   replace hg113 := of_decide_eq_true hg113
                   refine LM.qy 15 rfl (by kernel_rfl) rfl (Ev.loadA rfl rfl rfl (Src.r 4 rfl) rfl rfl (by decide)) rfl ⟨Has.r 1 rfl, Has.r 2 rfl, Has.r 3 rfl, Has.r 4 rfl, Has.o 0 rfl, Has.o 1 rfl, Has.o 2 rfl, trivial⟩ ?_; refine LM.qy 16 rfl (by kernel_rfl) rfl (Ev.loadA rfl rfl rfl (Src.r 5 rfl) rfl rfl (by decide)) rfl ⟨Has.r 1 rfl, Has.r 2 rfl, Has.r 3 rfl, Has.r 4 rfl, Has.o 0 rfl, Has.o 1 rfl, Has.o 2 rfl, trivial⟩ ?_; refine LM.qy 18 rfl (by kernel_rfl) rfl (Ev.loadA rfl rfl rfl (Src.r 6 rfl) rfl rfl (by decide)) rfl ⟨Has.r 1 rfl, Has.r 2 rfl, Has.r 3 rfl, Has.r 4 rfl, Has.o 0 rfl, Has.o 1 rfl, Has.o 2 rfl, trivial⟩ ?_; refine LM.qy 19 rfl (by kernel_rfl) rfl (Ev.loadA rfl rfl rfl (Src.r 4 rfl) rfl rfl (by decide)) rfl ⟨Has.r 1 rfl, Has.r 2 rfl, Has.r 3 rfl, Has.r 4 rfl, Has.o 0 rfl, Has.o 1 rfl, Has.o 2 rfl, trivial⟩ ?_; refine LM.qy 20 rfl (by kernel_rfl) rfl (Ev.loadA rfl rfl rfl (Src.r 5 rfl) rfl rfl (by decide)) rfl ⟨Has.r 1 rfl, Has.r 2 rfl, Has.r 3 rfl, Has.r 4 rfl, Has.o 0 rfl, Has.o 1 rfl, Has.o 2 rfl, trivial⟩ ?_; refine LM.f 17 rfl (by kernel_rfl) ⟨Has.r 1 rfl, Has.r 2 rfl, Has.r 3 rfl, Has.r 4 rfl, Has.o 0 rfl, Has.o 1 rfl, Has.o 2 rfl, trivial⟩ ?_; refine L.yes rfl ?_; refine L.call (js := []) (js' := [0, 1, 2, 3]) (lread_c g b hok hb (yJ p qq) hc) rfl rfl rfl (by decide) ⟨(Has.r 1 rfl), (Has.r 2 rfl), (Has.r 3 rfl), (Has.r 4 rfl), trivial⟩ rfl ?_
                   rintro _ _ _ ⟨rfl, rfl, rfl⟩
                   refine L.norm (H' := [_, _, _, _]) [0, 1, 2, 3] ⟨rfl, rfl, rfl, rfl, trivial⟩ (by decide) ?_
                   refine L.nil (QE.m (by kernel_rfl) ?_)
                   refine LM.f 21 rfl (by kernel_rfl) ⟨Has.r 1 rfl, Has.r 2 rfl, Has.r 3 rfl, Has.r 4 rfl, Has.o 0 rfl, Has.o 1 rfl, Has.o 2 rfl, trivial⟩ ?_; refine L.yes rfl ?_; refine L.call (js := []) (js' := [0, 1, 2, 3]) (findR_c g b hok hb (yJ p qq) hc) rfl rfl rfl (by decide) ⟨(Has.r 1 rfl), (Has.r 2 rfl), (Has.r 3 rfl), (Has.r 4 rfl), trivial⟩ rfl ?_
                   rintro _ _ _ ⟨rfl, rfl, rfl⟩
                   refine L.norm (H' := [_, _, _, _]) [0, 1, 2, 3] ⟨rfl, rfl, rfl, rfl, trivial⟩ (by decide) ?_
                   refine L.nil (QE.m (by kernel_rfl) ?_)
                   refine LM.f 22 rfl (by kernel_rfl) ⟨Has.r 1 rfl, Has.r 2 rfl, Has.r 3 rfl, Has.r 4 rfl, Has.o 0 rfl, Has.o 1 rfl, Has.o 2 rfl, trivial⟩ ?_; refine L.yes rfl ?_; refine Lpu rfl rfl ?_
                   refine L.nil (QE.m (by kernel_rfl) ?_)
                   refine LM.cut [] (by kernel_rfl) ⟨Has.r 1 rfl, Has.r 2 rfl, Has.r 3 rfl, Has.r 4 rfl, Has.o 0 rfl, Has.o 1 rfl, Has.o 2 rfl, trivial⟩ ?_; refine LM.f 23 rfl (by kernel_rfl) trivial ?_; refine L.yes rfl ?_; refine L.step (Ev.build rfl rfl rfl rfl rfl rfl rfl) rfl ?_
                   refine L.nil (QE.m (by kernel_rfl) ?_)
                   refine LM.f 24 rfl (by kernel_rfl) trivial ?_; refine L.yes rfl ?_; refine L.step (Ev.eqS2 (xs := rs11 (readF g (yJ p qq).a (yJ p qq).b)) (ys := rs11 ((madeS r2), (findF g (yJ p qq).a (yJ p qq).b).torn, 0)) rfl rfl (by kernel_rfl) (by kernel_rfl) rfl rfl rfl rfl rfl (by kernel_rfl) rfl rfl rfl rfl rfl rfl) rfl ?_
                   refine L.nil (QE.m (by kernel_rfl) ?_)
                   refine LM.f 25 rfl (by kernel_rfl) trivial ?_; refine Lpu rfl rfl ?_
                   refine L.nil (QE.m (by kernel_rfl) ?_)
                   refine LM.f 26 rfl (by kernel_rfl) trivial ?_; refine Lpu rfl rfl ?_
                   refine L.nil (QE.m (by kernel_rfl) ?_)
                   refine LM.bool 125 rfl (fun hg125 => ?_) (fun hg125 => ?_)
                   · skip
                     refine LM.f 27 rfl (by kernel_rfl) trivial ?_; refine L.yes rfl ?_; refine Lpu rfl rfl ?_
                     refine L.nil (QE.m (by kernel_rfl) ?_)
                     refine LM.f 28 rfl (by kernel_rfl) trivial ?_; refine Lpu rfl rfl ?_
                     refine L.nil (QE.m (by kernel_rfl) ?_)
                     refine LM.f 29 rfl (by kernel_rfl) trivial ?_; refine Lpu rfl rfl ?_
                     refine L.nil (QE.m (by kernel_rfl) ?_)
                     refine LM.nil (by kernel_rfl) trivial ?_; refine QE.seq (C.ret ?_); refine QE.ret (js := []) (hs := []) (vs := [_]) rfl ⟨rfl, trivial⟩ (by decide) ?_
                     exact ⟨rfl, rfl, rfl⟩
                   · skip
                     rw [hrf] at hg125; simp at hg125
                 · skip
                   replace hg113 := of_decide_eq_false hg113
                   have := hB1 (Int.ofNat_lt.1 hg108); omega
             · skip
               replace hg105 := of_decide_eq_false hg105
               rcases her with h | h <;> omega
           · skip
             replace hg101 := of_decide_eq_false hg101
             omega
         · skip
           obtain ⟨hE, hsec, hkind, hm1, hgo⟩ := hW.go hG rfl (made_right _) (by show _ < (60 : Int); omega) hc62
           have hW1 := (hgo (fun _ => 255)).2 (fun _ => rfl)
           have hnl := Nat.le_trans (nextF_len hok (yJ p qq).a (yJ p qq).b (madeS r2)) (show 5000 ≤ 9223372036854775807 by decide)
           refine C.skip (QE.seq (C.seq (C.seq (C.region ?_)))); refine L.step (Ev.fieldAddr rfl rfl rfl rfl rfl rfl (Src.o 3 rfl) (Nat.zero_lt_succ _) rfl) rfl ?_; refine L.step (Ev.fieldAddr rfl rfl rfl rfl rfl rfl (Src.o 3 rfl) (Nat.zero_lt_succ _) rfl) rfl ?_; refine L.step (Ev.load rfl rfl rfl (Src.o 3 rfl) rfl) rfl ?_; refine Lpu rfl rfl ?_; refine L.nil (QE.seq ?_)
           refine C.condB 66 rfl (fun hc66 => ?_) (fun hc66 => ?_)
           · skip
             replace hc66 := i_eq hc66
             refine C.region ?_; refine Lpu rfl rfl ?_; refine L.step (Ev.add rfl rfl (by omega) (by omega)) rfl ?_; refine Lpu rfl rfl ?_; refine L.nil (QE.seq (C.seq (C.region ?_))); refine L.step (Ev.loadA rfl rfl rfl (Src.o 0 rfl) rfl rfl (by decide)) rfl ?_; refine L.step (Ev.fieldAddr rfl rfl rfl rfl rfl rfl (Src.o 3 rfl) (Nat.zero_lt_succ _) rfl) rfl ?_; refine L.step (Ev.loadA rfl rfl rfl (Src.o 3 rfl) rfl rfl (by decide)) rfl ?_; refine L.callR (js := []) (js' := [0, 1, 2, 3]) (do2_c g b hok hb (nextF g (yJ p qq).a (yJ p qq).b (madeS r2)).x O1 c1 hnl hc) rfl rfl rfl (by decide) ⟨(Has.r 1 rfl), (Has.r 2 rfl), (Has.r 3 rfl), (Has.r 4 rfl), (Has.r 0 rfl), trivial⟩ rfl ?_
             rintro _ _ _ ⟨b1, hb1, rfl, rfl, rfl⟩
             refine L.norm (H' := [_, _, _, _]) [0, 1, 2, 3] ⟨rfl, rfl, rfl, rfl, trivial⟩ (by decide) ?_; refine Lpu rfl rfl ?_; refine Lpu rfl rfl ?_; refine Lpu rfl rfl ?_
             refine L.alloc rfl rfl rfl (fun A17 => ?_)
             refine L.storeA (j := 4) rfl rfl rfl rfl rfl (Nat.zero_lt_succ _) rfl rfl ?_; refine Lpu rfl rfl ?_; refine L.nil (QE.seq (C.seq (C.seq (C.region ?_)))); refine Lpu rfl rfl ?_; refine Lpu rfl rfl ?_; refine Lpu rfl rfl ?_
             refine L.bool 78 rfl (fun hg78 => ?_) (fun hg78 => ?_)
             · skip
               replace hg78 := b_ne hg78
               exact absurd hE hg78
             · skip
               replace hg78 := b_eq hg78
               refine L.yes rfl ?_; refine L.step (Ev.loadA rfl rfl rfl (Src.o 4 rfl) rfl rfl (by decide)) rfl ?_; refine L.yes rfl ?_; refine L.call (js := []) (js' := [0, 1, 2, 3, 4]) (Ctr.tbJ true (valid17_c ((cutR g (nextF g (yJ p qq).a (yJ p qq).b (madeS r2)).x (fun _ => 255)).size : Int) (cutR g (nextF g (yJ p qq).a (yJ p qq).b (madeS r2)).x (fun _ => 255)) b1 hb1.1 (by rw [hW1.n]; show 4 ≤ 9223372036854775807; decide)) (okB_okJ hW1.ok)) rfl rfl rfl (by decide) ⟨(Has.r 0 rfl), (Has.r 1 rfl), (Has.r 2 rfl), (Has.r 3 rfl), trivial⟩ rfl ?_
               rintro _ _ _ ⟨rfl, rfl, rfl⟩
               refine L.norm (H' := [_, _, _, _, _]) [0, 1, 2, 3, 4] ⟨rfl, rfl, rfl, rfl, rfl, trivial⟩ (by decide) ?_; refine L.yes rfl ?_; refine Lpu rfl rfl ?_; refine Lpu rfl rfl ?_; refine Lpu rfl rfl ?_; refine L.yes rfl ?_; refine L.step (Ev.fieldAddr rfl rfl rfl rfl rfl rfl (Src.o 4 rfl) (Nat.zero_lt_succ _) rfl) rfl ?_; refine L.yes rfl ?_; refine L.step (Ev.load rfl rfl rfl (Src.o 4 rfl) rfl) rfl ?_; refine L.yes rfl ?_; refine Lpu rfl rfl ?_; refine L.yes rfl ?_; refine Lpu rfl rfl ?_; refine Lpu rfl rfl ?_; refine Lpu rfl rfl ?_
               refine L.bool 89 rfl (fun hg89 => ?_) (fun hg89 => ?_)
               · skip
                 replace hg89 := b_ne hg89
                 exact absurd (by rw [hW1.n]; rfl) hg89
               · skip
                 replace hg89 := b_eq hg89
                 refine L.yes rfl ?_; refine L.step (Ev.fieldAddr rfl rfl rfl rfl rfl rfl (Src.o 4 rfl) (Nat.zero_lt_succ _) rfl) rfl ?_; refine L.yes rfl ?_; refine L.step (Ev.load rfl rfl rfl (Src.o 4 rfl) rfl) rfl ?_; refine L.yes rfl ?_; refine L.step (Ev.fieldAddr rfl rfl rfl rfl rfl rfl (Src.o 0 rfl) (Nat.zero_lt_succ _) rfl) rfl ?_; refine L.yes rfl ?_; refine L.step (Ev.load rfl rfl rfl (Src.o 0 rfl) rfl) rfl ?_; refine L.yes rfl ?_; refine Lpu rfl rfl ?_; refine Lpu rfl rfl ?_; refine L.nil (QE.seq ?_)
                 refine C.condB 95 rfl (fun hc95 => ?_) (fun hc95 => ?_)
                 · skip
                   replace hc95 := b_ne hc95
                   exact absurd (by rw [hW1.s, hW.s]) hc95
                 · skip
                   replace hc95 := b_eq hc95
                   refine C.skip (QE.seq (C.seq (C.region ?_))); refine L.step (Ev.loadA rfl rfl rfl (Src.o 4 rfl) rfl rfl (by decide)) rfl ?_; refine L.storeA (j := 0) rfl rfl rfl rfl rfl (Nat.zero_lt_succ _) rfl rfl ?_; refine L.nil (QE.seq (C.region ?_)); refine Lpu rfl rfl ?_; refine L.step (Ev.add rfl rfl (by omega) (by omega)) rfl ?_; refine Lpu rfl rfl ?_; refine L.nil ?_; refine QE.blkN ?_
                   refine QE.round (i := (o, er, g, b)) ((o + 1, er + 1, (cutR g (nextF g (yJ p qq).a (yJ p qq).b (madeS r2)).x (fun _ => 255)), b1)) (by exact ⟨by dsimp only; omega, by dsimp only; have := hkind hc66; omega, by dsimp only; rw [show B - (o + 1) = B - o - 1 by omega, show 43 + ((o + 1 : Nat) : Int) = 43 + (o : Int) + 1 by omega]; exact hW1, hb1.1, hb1.2⟩) (by dsimp only; omega) (by exact Le.mk' (rs := [0, 1, 2, 3]) (hs := [0, 1, 2]) ⟨rfl, rfl, rfl, rfl, rfl, rfl, rfl, trivial⟩ ⟨rfl, rfl, rfl, rfl, trivial⟩ ⟨rfl, rfl, rfl, trivial⟩ (by decide))
           · skip
             replace hc66 := i_ne hc66
             refine C.skip (QE.seq (C.seq (C.region ?_))); refine L.step (Ev.loadA rfl rfl rfl (Src.o 0 rfl) rfl rfl (by decide)) rfl ?_; refine L.step (Ev.fieldAddr rfl rfl rfl rfl rfl rfl (Src.o 3 rfl) (Nat.zero_lt_succ _) rfl) rfl ?_; refine L.step (Ev.loadA rfl rfl rfl (Src.o 3 rfl) rfl rfl (by decide)) rfl ?_; refine L.callR (js := []) (js' := [0, 1, 2, 3]) (do2_c g b hok hb (nextF g (yJ p qq).a (yJ p qq).b (madeS r2)).x O1 c1 hnl hc) rfl rfl rfl (by decide) ⟨(Has.r 1 rfl), (Has.r 2 rfl), (Has.r 3 rfl), (Has.r 4 rfl), (Has.r 0 rfl), trivial⟩ rfl ?_
             rintro _ _ _ ⟨b1, hb1, rfl, rfl, rfl⟩
             refine L.norm (H' := [_, _, _, _]) [0, 1, 2, 3] ⟨rfl, rfl, rfl, rfl, trivial⟩ (by decide) ?_; refine Lpu rfl rfl ?_; refine Lpu rfl rfl ?_; refine Lpu rfl rfl ?_
             refine L.alloc rfl rfl rfl (fun A17 => ?_)
             refine L.storeA (j := 4) rfl rfl rfl rfl rfl (Nat.zero_lt_succ _) rfl rfl ?_; refine Lpu rfl rfl ?_; refine L.nil (QE.seq (C.seq (C.seq (C.region ?_)))); refine Lpu rfl rfl ?_; refine Lpu rfl rfl ?_; refine Lpu rfl rfl ?_
             refine L.bool 78 rfl (fun hg78 => ?_) (fun hg78 => ?_)
             · skip
               replace hg78 := b_ne hg78
               exact absurd hE hg78
             · skip
               replace hg78 := b_eq hg78
               refine L.yes rfl ?_; refine L.step (Ev.loadA rfl rfl rfl (Src.o 4 rfl) rfl rfl (by decide)) rfl ?_; refine L.yes rfl ?_; refine L.call (js := []) (js' := [0, 1, 2, 3, 4]) (Ctr.tbJ true (valid17_c ((cutR g (nextF g (yJ p qq).a (yJ p qq).b (madeS r2)).x (fun _ => 255)).size : Int) (cutR g (nextF g (yJ p qq).a (yJ p qq).b (madeS r2)).x (fun _ => 255)) b1 hb1.1 (by rw [hW1.n]; show 4 ≤ 9223372036854775807; decide)) (okB_okJ hW1.ok)) rfl rfl rfl (by decide) ⟨(Has.r 0 rfl), (Has.r 1 rfl), (Has.r 2 rfl), (Has.r 3 rfl), trivial⟩ rfl ?_
               rintro _ _ _ ⟨rfl, rfl, rfl⟩
               refine L.norm (H' := [_, _, _, _, _]) [0, 1, 2, 3, 4] ⟨rfl, rfl, rfl, rfl, rfl, trivial⟩ (by decide) ?_; refine L.yes rfl ?_; refine Lpu rfl rfl ?_; refine Lpu rfl rfl ?_; refine Lpu rfl rfl ?_; refine L.yes rfl ?_; refine L.step (Ev.fieldAddr rfl rfl rfl rfl rfl rfl (Src.o 4 rfl) (Nat.zero_lt_succ _) rfl) rfl ?_; refine L.yes rfl ?_; refine L.step (Ev.load rfl rfl rfl (Src.o 4 rfl) rfl) rfl ?_; refine L.yes rfl ?_; refine Lpu rfl rfl ?_; refine L.yes rfl ?_; refine Lpu rfl rfl ?_; refine Lpu rfl rfl ?_; refine Lpu rfl rfl ?_
               refine L.bool 89 rfl (fun hg89 => ?_) (fun hg89 => ?_)
               · skip
                 replace hg89 := b_ne hg89
                 exact absurd (by rw [hW1.n]; rfl) hg89
               · skip
                 replace hg89 := b_eq hg89
                 refine L.yes rfl ?_; refine L.step (Ev.fieldAddr rfl rfl rfl rfl rfl rfl (Src.o 4 rfl) (Nat.zero_lt_succ _) rfl) rfl ?_; refine L.yes rfl ?_; refine L.step (Ev.load rfl rfl rfl (Src.o 4 rfl) rfl) rfl ?_; refine L.yes rfl ?_; refine L.step (Ev.fieldAddr rfl rfl rfl rfl rfl rfl (Src.o 0 rfl) (Nat.zero_lt_succ _) rfl) rfl ?_; refine L.yes rfl ?_; refine L.step (Ev.load rfl rfl rfl (Src.o 0 rfl) rfl) rfl ?_; refine L.yes rfl ?_; refine Lpu rfl rfl ?_; refine Lpu rfl rfl ?_; refine L.nil (QE.seq ?_)
                 refine C.condB 95 rfl (fun hc95 => ?_) (fun hc95 => ?_)
                 · skip
                   replace hc95 := b_ne hc95
                   exact absurd (by rw [hW1.s, hW.s]) hc95
                 · skip
                   replace hc95 := b_eq hc95
                   refine C.skip (QE.seq (C.seq (C.region ?_))); refine L.step (Ev.loadA rfl rfl rfl (Src.o 4 rfl) rfl rfl (by decide)) rfl ?_; refine L.storeA (j := 0) rfl rfl rfl rfl rfl (Nat.zero_lt_succ _) rfl rfl ?_; refine L.nil (QE.seq (C.region ?_)); refine Lpu rfl rfl ?_; refine L.step (Ev.add rfl rfl (by omega) (by omega)) rfl ?_; refine Lpu rfl rfl ?_; refine L.nil ?_; refine QE.blkN ?_
                   refine QE.round (i := (o, er, g, b)) ((o + 1, er, (cutR g (nextF g (yJ p qq).a (yJ p qq).b (madeS r2)).x (fun _ => 255)), b1)) (by exact ⟨by dsimp only; omega, by dsimp only; omega, by dsimp only; rw [show B - (o + 1) = B - o - 1 by omega, show 43 + ((o + 1 : Nat) : Int) = 43 + (o : Int) + 1 by omega]; exact hW1, hb1.1, hb1.2⟩) (by dsimp only; omega) (by exact Le.mk' (rs := [0, 1, 2, 3]) (hs := [0, 1, 2]) ⟨rfl, rfl, rfl, rfl, rfl, rfl, rfl, trivial⟩ ⟨rfl, rfl, rfl, rfl, trivial⟩ ⟨rfl, rfl, rfl, trivial⟩ (by decide))
     · skip
       replace hc53 := of_decide_eq_false hc53
       omega

end Go.Proofs.Ytmbjknampholjaa
