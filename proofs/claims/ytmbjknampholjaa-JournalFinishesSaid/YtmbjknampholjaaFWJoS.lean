/-
  The contract of the law JournalFinishes.
-/
import Derived.Test.YtmbjknampholjaaFJg
import Derived.Test.YtmbjknampholjaaFJl
namespace Go.Proofs.Ytmbjknampholjaa
open Go.Sl

set_option maxHeartbeats 4000000 in
theorem jFinishes_c (z p qq : UInt8) (r : List UInt8) (l : List Wr) (LA : Option Addr) (lc : Nat) (hll : l.length ≤ 9223372036854775807) (hlo : ∀ k, WrOk (l.getD k Wr.zero)) (r2 : List UInt8) (ts : List (List UInt8)) (T : Option Addr) (tc : Nat) (ths : List Hd) (hth : ths.length = ts.length) (htl : ts.length ≤ 9223372036854775807) (htr : ∀ i, (ts.getD i []).length ≤ 9223372036854775807) :
   Ctr X 6 [.agg (List.toArray [.int .u8 (z.toNat : Int), .int .u8 (p.toNat : Int), .int .u8 (qq.toNat : Int), .int .u8 (((r).getD 0 0).toNat : Int), .int .u8 (((r).getD 1 0).toNat : Int), .int .u8 (((r).getD 2 0).toNat : Int), .int .u8 (((r).getD 3 0).toNat : Int), .int .u8 (((r).getD 4 0).toNat : Int), .int .u8 (((r).getD 5 0).toNat : Int), .int .u8 (((r).getD 6 0).toNat : Int), .int .u8 (((r).getD 7 0).toNat : Int), .int .u8 (((r).getD 8 0).toNat : Int)]), .slice LA l.length lc, .agg (List.toArray [.int .u8 (((r2).getD 0 0).toNat : Int), .int .u8 (((r2).getD 1 0).toNat : Int), .int .u8 (((r2).getD 2 0).toNat : Int), .int .u8 (((r2).getD 3 0).toNat : Int), .int .u8 (((r2).getD 4 0).toNat : Int), .int .u8 (((r2).getD 5 0).toNat : Int), .int .u8 (((r2).getD 6 0).toNat : Int), .int .u8 (((r2).getD 7 0).toNat : Int), .int .u8 (((r2).getD 8 0).toNat : Int), .slice T ts.length tc])] [Rd LA (wrV l), KidsR (wrT l) (wrR l), KidsA (wrA l) (wrB l), Rd T (rowsV ths (B8 ts)), KidsR ths (B8 ts)] [] (fun v R' H' => v = .bool true ∧ R' = [] ∧ H' = []) := by
 refine Ctr.of (X := X) (fn := Try.f6) Try.func6 rfl (by kernel_rfl) rfl ?_
 intro β
 refine C.seq (C.region ?_)
 refine L.boxA rfl rfl (fun A3 => ?_)
 refine L.boxA rfl rfl (fun A5 => ?_)
 refine Lpu rfl rfl ?_; refine L.nil (QE.seq (C.seq ?_)); refine C.freeze 0 rfl [1] (by decide) (by decide) ?_; refine C.norm (H' := [_]) [0] ⟨rfl, trivial⟩ (by decide) ?_; refine C.freeze 0 rfl [] (by decide) (by decide) ?_; refine C.region ?_; refine L.call (js := []) (js' := []) (sanityJ_c) rfl rfl rfl (by decide) trivial rfl ?_
 rintro _ _ _ ⟨rfl, rfl, rfl⟩
 refine Lpu rfl rfl ?_; refine L.nil (QE.seq (C.seq ?_)); refine C.join (fun q : Fa × Option Addr × Option Addr × Option Addr => [(1, .slice LA l.length lc), (3, ptrOf A3 0), (5, ptrOf A5 0), (7, .bool true), (8, ptrOf q.2.1 0), (9, ptrOf q.2.2.1 0), (10, ptrOf q.2.2.2 0)]) (fun q : Fa × Option Addr × Option Addr × Option Addr => [Rd q.1.D (rowsV q.1.hs (B8 (flJ z p qq r).data)), KidsR q.1.hs (B8 (flJ z p qq r).data), Rd q.1.W (I64 (flJ z p qq r).wear), Rd q.1.E (Bs (flJ z p qq r).dead), Rd A3 [.int .u8 (z.toNat : Int), .int .u8 (p.toNat : Int), .int .u8 (qq.toNat : Int), .int .u8 (((r).getD 0 0).toNat : Int), .int .u8 (((r).getD 1 0).toNat : Int), .int .u8 (((r).getD 2 0).toNat : Int), .int .u8 (((r).getD 3 0).toNat : Int), .int .u8 (((r).getD 4 0).toNat : Int), .int .u8 (((r).getD 5 0).toNat : Int), .int .u8 (((r).getD 6 0).toNat : Int), .int .u8 (((r).getD 7 0).toNat : Int), .int .u8 (((r).getD 8 0).toNat : Int)], Rd A5 [.int .u8 (((r2).getD 0 0).toNat : Int), .int .u8 (((r2).getD 1 0).toNat : Int), .int .u8 (((r2).getD 2 0).toNat : Int), .int .u8 (((r2).getD 3 0).toNat : Int), .int .u8 (((r2).getD 4 0).toNat : Int), .int .u8 (((r2).getD 5 0).toNat : Int), .int .u8 (((r2).getD 6 0).toNat : Int), .int .u8 (((r2).getD 7 0).toNat : Int), .int .u8 (((r2).getD 8 0).toNat : Int), .slice T ts.length tc], Rd LA (wrV l), KidsR (wrT l) (wrR l), KidsA (wrA l) (wrB l), Rd T (rowsV ths (B8 ts)), KidsR ths (B8 ts)]) (fun q : Fa × Option Addr × Option Addr × Option Addr => [Own 35 5 q.2.1 1 1 (flL (flJ z p qq r) q.1), Own 39 8 q.2.2.1 1 1 [.int .i64 0, .int .i64 (laA p), .int .i64 (laB p qq), .int .i64 0, .int .i64 0, .slice none 0 0, .slice none 0 0, .slice none 0 0], Own 29 9 q.2.2.2 1 1 (st9 (madeS r2))]) (fun q : Fa × Option Addr × Option Addr × Option Addr => q.1.hs.length = (flJ z p qq r).data.length ∧ Caps (flJ z p qq r) q.1) ?_ ?_
 ·
  refine C.regionM [Rd A5 [.int .u8 (((r2).getD 0 0).toNat : Int), .int .u8 (((r2).getD 1 0).toNat : Int), .int .u8 (((r2).getD 2 0).toNat : Int), .int .u8 (((r2).getD 3 0).toNat : Int), .int .u8 (((r2).getD 4 0).toNat : Int), .int .u8 (((r2).getD 5 0).toNat : Int), .int .u8 (((r2).getD 6 0).toNat : Int), .int .u8 (((r2).getD 7 0).toNat : Int), .int .u8 (((r2).getD 8 0).toNat : Int), .slice T ts.length tc], Rd A3 [.int .u8 (z.toNat : Int), .int .u8 (p.toNat : Int), .int .u8 (qq.toNat : Int), .int .u8 (((r).getD 0 0).toNat : Int), .int .u8 (((r).getD 1 0).toNat : Int), .int .u8 (((r).getD 2 0).toNat : Int), .int .u8 (((r).getD 3 0).toNat : Int), .int .u8 (((r).getD 4 0).toNat : Int), .int .u8 (((r).getD 5 0).toNat : Int), .int .u8 (((r).getD 6 0).toNat : Int), .int .u8 (((r).getD 7 0).toNat : Int), .int .u8 (((r).getD 8 0).toNat : Int)], Rd LA (wrV l), KidsR (wrT l) (wrR l), KidsA (wrA l) (wrB l), Rd T (rowsV ths (B8 ts)), KidsR ths (B8 ts)] (Hq [0, 1, 2, 3, 4, 5, 6] rfl) ?_; refine LM.q 0 rfl (by kernel_rfl) (Ev.loadA rfl rfl rfl (Src.r 1 rfl) rfl rfl (by decide)) rfl (Hq [0, 1, 2, 3, 4, 5, 6] rfl) ?_; refine LM.q 2 rfl (by kernel_rfl) (Ev.loadA rfl rfl rfl (Src.r 1 rfl) rfl rfl (by decide)) rfl (Hq [0, 1, 2, 3, 4, 5, 6] rfl) ?_; refine LM.q 4 rfl (by kernel_rfl) (Ev.fieldAddr rfl rfl rfl rfl rfl rfl (Src.r 0 rfl) (Nat.zero_lt_succ _) rfl) rfl (Hq [0, 1, 2, 3, 4, 5, 6] rfl) ?_; refine LM.q 5 rfl (by kernel_rfl) (Ev.loadA rfl rfl rfl (Src.r 0 rfl) (show _ = u9 r2 from rfl) rfl (by decide)) rfl (Hq [0, 1, 2, 3, 4, 5, 6] rfl) ?_; refine LM.a4 1 7 8 9 (by kernel_rfl) (Hq [0, 1, 2, 3, 4, 5, 6] rfl) rfl rfl rfl rfl ?_ ?_ ?_ ?_; refine L.callR (js := []) (js' := []) (flash_c z p qq r) rfl rfl rfl (by decide) trivial rfl ?_
  rintro _ _ _ ⟨a, hb, hc, rfl, rfl, rfl⟩
  refine L.nm (by kernel_rfl) ?_; refine LM.a4 3 7 8 9 (by kernel_rfl) (Hq [4, 5, 6, 7, 8, 9, 10] rfl) rfl rfl rfl rfl ?_ ?_ ?_ ?_; refine L.call (js := []) (js' := []) (layout_c z p qq r) rfl rfl rfl (by decide) trivial rfl ?_
  rintro _ _ _ ⟨rfl, rfl, rfl⟩
  refine L.nm (by kernel_rfl) ?_; refine LM.a4 6 7 8 9 (by kernel_rfl) (Hq [4, 5, 6, 7, 8, 9, 10] rfl) rfl rfl rfl rfl ?_ ?_ ?_ ?_; refine L.call (js := []) (js' := []) (made_c r2) rfl rfl rfl (by decide) trivial rfl ?_
  rintro _ _ _ ⟨rfl, rfl, rfl⟩
  refine L.nm (by kernel_rfl) ?_; refine LM.a3 7 8 9 (by kernel_rfl) (Hq [4, 5, 6, 7, 8, 9, 10] rfl) rfl rfl rfl ?_ ?_ ?_
  refine L.alloc rfl rfl rfl (fun A8 => ?_)
  refine L.nm (by kernel_rfl) ?_; refine LM.a2 8 9 (by kernel_rfl) (Hq [4, 5, 6, 7, 8, 9, 10] rfl) rfl rfl ?_ ?_
  refine L.alloc rfl rfl rfl (fun A9 => ?_)
  refine L.nm (by kernel_rfl) ?_; refine LM.f 9 rfl (by kernel_rfl) (Hq [4, 5, 6, 7, 8, 9, 10] rfl) ?_
  refine L.alloc rfl rfl rfl (fun A10 => ?_)
  refine L.norm (H' := [_, _, _]) [0, 1, 2] ⟨rfl, rfl, rfl, trivial⟩ (by decide) ?_; refine L.nm (by kernel_rfl) ?_
  rotate_left
  refine L.alloc rfl rfl rfl (fun A10 => ?_)
  refine L.nm (by kernel_rfl) ?_; refine LM.f 8 rfl (by kernel_rfl) (Hq [4, 5, 6, 7, 8, 9, 10] rfl) ?_
  refine L.alloc rfl rfl rfl (fun A9 => ?_)
  refine L.norm (H' := [_, _, _]) [0, 2, 1] ⟨rfl, rfl, rfl, trivial⟩ (by decide) ?_; refine L.nm (by kernel_rfl) ?_
  rotate_left
  refine L.alloc rfl rfl rfl (fun A9 => ?_)
  refine L.nm (by kernel_rfl) ?_; refine LM.a2 7 9 (by kernel_rfl) (Hq [4, 5, 6, 7, 8, 9, 10] rfl) rfl rfl ?_ ?_
  refine L.alloc rfl rfl rfl (fun A8 => ?_)
  refine L.nm (by kernel_rfl) ?_; refine LM.f 9 rfl (by kernel_rfl) (Hq [4, 5, 6, 7, 8, 9, 10] rfl) ?_
  refine L.alloc rfl rfl rfl (fun A10 => ?_)
  refine L.norm (H' := [_, _, _]) [1, 0, 2] ⟨rfl, rfl, rfl, trivial⟩ (by decide) ?_; refine L.nm (by kernel_rfl) ?_
  rotate_left
  refine L.alloc rfl rfl rfl (fun A10 => ?_)
  refine L.nm (by kernel_rfl) ?_; refine LM.f 7 rfl (by kernel_rfl) (Hq [4, 5, 6, 7, 8, 9, 10] rfl) ?_
  refine L.alloc rfl rfl rfl (fun A8 => ?_)
  refine L.norm (H' := [_, _, _]) [2, 0, 1] ⟨rfl, rfl, rfl, trivial⟩ (by decide) ?_; refine L.nm (by kernel_rfl) ?_
  rotate_left
  refine L.alloc rfl rfl rfl (fun A10 => ?_)
  refine L.nm (by kernel_rfl) ?_; refine LM.a2 7 8 (by kernel_rfl) (Hq [4, 5, 6, 7, 8, 9, 10] rfl) rfl rfl ?_ ?_
  refine L.alloc rfl rfl rfl (fun A8 => ?_)
  refine L.nm (by kernel_rfl) ?_; refine LM.f 8 rfl (by kernel_rfl) (Hq [4, 5, 6, 7, 8, 9, 10] rfl) ?_
  refine L.alloc rfl rfl rfl (fun A9 => ?_)
  refine L.norm (H' := [_, _, _]) [1, 2, 0] ⟨rfl, rfl, rfl, trivial⟩ (by decide) ?_; refine L.nm (by kernel_rfl) ?_
  rotate_left
  refine L.alloc rfl rfl rfl (fun A9 => ?_)
  refine L.nm (by kernel_rfl) ?_; refine LM.f 7 rfl (by kernel_rfl) (Hq [4, 5, 6, 7, 8, 9, 10] rfl) ?_
  refine L.alloc rfl rfl rfl (fun A8 => ?_)
  refine L.norm (H' := [_, _, _]) [2, 1, 0] ⟨rfl, rfl, rfl, trivial⟩ (by decide) ?_; refine L.nm (by kernel_rfl) ?_
  rotate_left
  refine L.alloc rfl rfl rfl (fun A8 => ?_)
  refine L.nm (by kernel_rfl) ?_; refine LM.a3 6 8 9 (by kernel_rfl) (Hq [4, 5, 6, 7, 8, 9, 10] rfl) rfl rfl rfl ?_ ?_ ?_; refine L.call (js := []) (js' := [0]) (made_c r2) rfl rfl rfl (by decide) trivial rfl ?_
  rintro _ _ _ ⟨rfl, rfl, rfl⟩
  refine L.nm (by kernel_rfl) ?_; refine LM.a2 8 9 (by kernel_rfl) (Hq [4, 5, 6, 7, 8, 9, 10] rfl) rfl rfl ?_ ?_
  refine L.alloc rfl rfl rfl (fun A9 => ?_)
  refine L.nm (by kernel_rfl) ?_; refine LM.f 9 rfl (by kernel_rfl) (Hq [4, 5, 6, 7, 8, 9, 10] rfl) ?_
  refine L.alloc rfl rfl rfl (fun A10 => ?_)
  refine L.norm (H' := [_, _, _]) [0, 1, 2] ⟨rfl, rfl, rfl, trivial⟩ (by decide) ?_; refine L.nm (by kernel_rfl) ?_
  rotate_left
  refine L.alloc rfl rfl rfl (fun A10 => ?_)
  refine L.nm (by kernel_rfl) ?_; refine LM.f 8 rfl (by kernel_rfl) (Hq [4, 5, 6, 7, 8, 9, 10] rfl) ?_
  refine L.alloc rfl rfl rfl (fun A9 => ?_)
  refine L.norm (H' := [_, _, _]) [0, 2, 1] ⟨rfl, rfl, rfl, trivial⟩ (by decide) ?_; refine L.nm (by kernel_rfl) ?_
  rotate_left
  refine L.alloc rfl rfl rfl (fun A9 => ?_)
  refine L.nm (by kernel_rfl) ?_; refine LM.a2 6 9 (by kernel_rfl) (Hq [4, 5, 6, 7, 8, 9, 10] rfl) rfl rfl ?_ ?_; refine L.call (js := []) (js' := [0, 1]) (made_c r2) rfl rfl rfl (by decide) trivial rfl ?_
  rintro _ _ _ ⟨rfl, rfl, rfl⟩
  refine L.nm (by kernel_rfl) ?_; refine LM.f 9 rfl (by kernel_rfl) (Hq [4, 5, 6, 7, 8, 9, 10] rfl) ?_
  refine L.alloc rfl rfl rfl (fun A10 => ?_)
  refine L.norm (H' := [_, _, _]) [0, 1, 2] ⟨rfl, rfl, rfl, trivial⟩ (by decide) ?_; refine L.nm (by kernel_rfl) ?_
  rotate_left
  refine L.alloc rfl rfl rfl (fun A10 => ?_)
  refine L.nm (by kernel_rfl) ?_; refine LM.f 6 rfl (by kernel_rfl) (Hq [4, 5, 6, 7, 8, 9, 10] rfl) ?_; refine L.call (js := []) (js' := [0, 1, 2]) (made_c r2) rfl rfl rfl (by decide) trivial rfl ?_
  rintro _ _ _ ⟨rfl, rfl, rfl⟩
  refine L.norm (H' := [_, _, _]) [0, 1, 2] ⟨rfl, rfl, rfl, trivial⟩ (by decide) ?_; refine L.nm (by kernel_rfl) ?_
  rotate_left
  refine L.alloc rfl rfl rfl (fun A10 => ?_)
  refine L.nm (by kernel_rfl) ?_; refine LM.a2 6 8 (by kernel_rfl) (Hq [4, 5, 6, 7, 8, 9, 10] rfl) rfl rfl ?_ ?_; refine L.call (js := []) (js' := [0, 1]) (made_c r2) rfl rfl rfl (by decide) trivial rfl ?_
  rintro _ _ _ ⟨rfl, rfl, rfl⟩
  refine L.nm (by kernel_rfl) ?_; refine LM.f 8 rfl (by kernel_rfl) (Hq [4, 5, 6, 7, 8, 9, 10] rfl) ?_
  refine L.alloc rfl rfl rfl (fun A9 => ?_)
  refine L.norm (H' := [_, _, _]) [0, 2, 1] ⟨rfl, rfl, rfl, trivial⟩ (by decide) ?_; refine L.nm (by kernel_rfl) ?_
  rotate_left
  refine L.alloc rfl rfl rfl (fun A9 => ?_)
  refine L.nm (by kernel_rfl) ?_; refine LM.f 6 rfl (by kernel_rfl) (Hq [4, 5, 6, 7, 8, 9, 10] rfl) ?_; refine L.call (js := []) (js' := [0, 1, 2]) (made_c r2) rfl rfl rfl (by decide) trivial rfl ?_
  rintro _ _ _ ⟨rfl, rfl, rfl⟩
  refine L.norm (H' := [_, _, _]) [0, 2, 1] ⟨rfl, rfl, rfl, trivial⟩ (by decide) ?_; refine L.nm (by kernel_rfl) ?_
  rotate_left
  refine L.alloc rfl rfl rfl (fun A9 => ?_)
  refine L.nm (by kernel_rfl) ?_; refine LM.a3 6 7 9 (by kernel_rfl) (Hq [4, 5, 6, 7, 8, 9, 10] rfl) rfl rfl rfl ?_ ?_ ?_; refine L.call (js := []) (js' := [0]) (made_c r2) rfl rfl rfl (by decide) trivial rfl ?_
  rintro _ _ _ ⟨rfl, rfl, rfl⟩
  refine L.nm (by kernel_rfl) ?_; refine LM.a2 7 9 (by kernel_rfl) (Hq [4, 5, 6, 7, 8, 9, 10] rfl) rfl rfl ?_ ?_
  refine L.alloc rfl rfl rfl (fun A8 => ?_)
  refine L.nm (by kernel_rfl) ?_; refine LM.f 9 rfl (by kernel_rfl) (Hq [4, 5, 6, 7, 8, 9, 10] rfl) ?_
  refine L.alloc rfl rfl rfl (fun A10 => ?_)
  refine L.norm (H' := [_, _, _]) [1, 0, 2] ⟨rfl, rfl, rfl, trivial⟩ (by decide) ?_; refine L.nm (by kernel_rfl) ?_
  rotate_left
  refine L.alloc rfl rfl rfl (fun A10 => ?_)
  refine L.nm (by kernel_rfl) ?_; refine LM.f 7 rfl (by kernel_rfl) (Hq [4, 5, 6, 7, 8, 9, 10] rfl) ?_
  refine L.alloc rfl rfl rfl (fun A8 => ?_)
  refine L.norm (H' := [_, _, _]) [2, 0, 1] ⟨rfl, rfl, rfl, trivial⟩ (by decide) ?_; refine L.nm (by kernel_rfl) ?_
  rotate_left
  refine L.alloc rfl rfl rfl (fun A8 => ?_)
  refine L.nm (by kernel_rfl) ?_; refine LM.a2 6 9 (by kernel_rfl) (Hq [4, 5, 6, 7, 8, 9, 10] rfl) rfl rfl ?_ ?_; refine L.call (js := []) (js' := [0, 1]) (made_c r2) rfl rfl rfl (by decide) trivial rfl ?_
  rintro _ _ _ ⟨rfl, rfl, rfl⟩
  refine L.nm (by kernel_rfl) ?_; refine LM.f 9 rfl (by kernel_rfl) (Hq [4, 5, 6, 7, 8, 9, 10] rfl) ?_
  refine L.alloc rfl rfl rfl (fun A10 => ?_)
  refine L.norm (H' := [_, _, _]) [1, 0, 2] ⟨rfl, rfl, rfl, trivial⟩ (by decide) ?_; refine L.nm (by kernel_rfl) ?_
  rotate_left
  refine L.alloc rfl rfl rfl (fun A10 => ?_)
  refine L.nm (by kernel_rfl) ?_; refine LM.f 6 rfl (by kernel_rfl) (Hq [4, 5, 6, 7, 8, 9, 10] rfl) ?_; refine L.call (js := []) (js' := [0, 1, 2]) (made_c r2) rfl rfl rfl (by decide) trivial rfl ?_
  rintro _ _ _ ⟨rfl, rfl, rfl⟩
  refine L.norm (H' := [_, _, _]) [1, 0, 2] ⟨rfl, rfl, rfl, trivial⟩ (by decide) ?_; refine L.nm (by kernel_rfl) ?_
  rotate_left
  refine L.alloc rfl rfl rfl (fun A10 => ?_)
  refine L.nm (by kernel_rfl) ?_; refine LM.a2 6 7 (by kernel_rfl) (Hq [4, 5, 6, 7, 8, 9, 10] rfl) rfl rfl ?_ ?_; refine L.call (js := []) (js' := [0, 1]) (made_c r2) rfl rfl rfl (by decide) trivial rfl ?_
  rintro _ _ _ ⟨rfl, rfl, rfl⟩
  refine L.nm (by kernel_rfl) ?_; refine LM.f 7 rfl (by kernel_rfl) (Hq [4, 5, 6, 7, 8, 9, 10] rfl) ?_
  refine L.alloc rfl rfl rfl (fun A8 => ?_)
  refine L.norm (H' := [_, _, _]) [2, 0, 1] ⟨rfl, rfl, rfl, trivial⟩ (by decide) ?_; refine L.nm (by kernel_rfl) ?_
  rotate_left
  refine L.alloc rfl rfl rfl (fun A8 => ?_)
  refine L.nm (by kernel_rfl) ?_; refine LM.f 6 rfl (by kernel_rfl) (Hq [4, 5, 6, 7, 8, 9, 10] rfl) ?_; refine L.call (js := []) (js' := [0, 1, 2]) (made_c r2) rfl rfl rfl (by decide) trivial rfl ?_
  rintro _ _ _ ⟨rfl, rfl, rfl⟩
  refine L.norm (H' := [_, _, _]) [2, 0, 1] ⟨rfl, rfl, rfl, trivial⟩ (by decide) ?_; refine L.nm (by kernel_rfl) ?_
  rotate_left
  refine L.alloc rfl rfl rfl (fun A10 => ?_)
  refine L.nm (by kernel_rfl) ?_; refine LM.a3 6 7 8 (by kernel_rfl) (Hq [4, 5, 6, 7, 8, 9, 10] rfl) rfl rfl rfl ?_ ?_ ?_; refine L.call (js := []) (js' := [0]) (made_c r2) rfl rfl rfl (by decide) trivial rfl ?_
  rintro _ _ _ ⟨rfl, rfl, rfl⟩
  refine L.nm (by kernel_rfl) ?_; refine LM.a2 7 8 (by kernel_rfl) (Hq [4, 5, 6, 7, 8, 9, 10] rfl) rfl rfl ?_ ?_
  refine L.alloc rfl rfl rfl (fun A8 => ?_)
  refine L.nm (by kernel_rfl) ?_; refine LM.f 8 rfl (by kernel_rfl) (Hq [4, 5, 6, 7, 8, 9, 10] rfl) ?_
  refine L.alloc rfl rfl rfl (fun A9 => ?_)
  refine L.norm (H' := [_, _, _]) [1, 2, 0] ⟨rfl, rfl, rfl, trivial⟩ (by decide) ?_; refine L.nm (by kernel_rfl) ?_
  rotate_left
  refine L.alloc rfl rfl rfl (fun A9 => ?_)
  refine L.nm (by kernel_rfl) ?_; refine LM.f 7 rfl (by kernel_rfl) (Hq [4, 5, 6, 7, 8, 9, 10] rfl) ?_
  refine L.alloc rfl rfl rfl (fun A8 => ?_)
  refine L.norm (H' := [_, _, _]) [2, 1, 0] ⟨rfl, rfl, rfl, trivial⟩ (by decide) ?_; refine L.nm (by kernel_rfl) ?_
  rotate_left
  refine L.alloc rfl rfl rfl (fun A8 => ?_)
  refine L.nm (by kernel_rfl) ?_; refine LM.a2 6 8 (by kernel_rfl) (Hq [4, 5, 6, 7, 8, 9, 10] rfl) rfl rfl ?_ ?_; refine L.call (js := []) (js' := [0, 1]) (made_c r2) rfl rfl rfl (by decide) trivial rfl ?_
  rintro _ _ _ ⟨rfl, rfl, rfl⟩
  refine L.nm (by kernel_rfl) ?_; refine LM.f 8 rfl (by kernel_rfl) (Hq [4, 5, 6, 7, 8, 9, 10] rfl) ?_
  refine L.alloc rfl rfl rfl (fun A9 => ?_)
  refine L.norm (H' := [_, _, _]) [1, 2, 0] ⟨rfl, rfl, rfl, trivial⟩ (by decide) ?_; refine L.nm (by kernel_rfl) ?_
  rotate_left
  refine L.alloc rfl rfl rfl (fun A9 => ?_)
  refine L.nm (by kernel_rfl) ?_; refine LM.f 6 rfl (by kernel_rfl) (Hq [4, 5, 6, 7, 8, 9, 10] rfl) ?_; refine L.call (js := []) (js' := [0, 1, 2]) (made_c r2) rfl rfl rfl (by decide) trivial rfl ?_
  rintro _ _ _ ⟨rfl, rfl, rfl⟩
  refine L.norm (H' := [_, _, _]) [1, 2, 0] ⟨rfl, rfl, rfl, trivial⟩ (by decide) ?_; refine L.nm (by kernel_rfl) ?_
  rotate_left
  refine L.alloc rfl rfl rfl (fun A9 => ?_)
  refine L.nm (by kernel_rfl) ?_; refine LM.a2 6 7 (by kernel_rfl) (Hq [4, 5, 6, 7, 8, 9, 10] rfl) rfl rfl ?_ ?_; refine L.call (js := []) (js' := [0, 1]) (made_c r2) rfl rfl rfl (by decide) trivial rfl ?_
  rintro _ _ _ ⟨rfl, rfl, rfl⟩
  refine L.nm (by kernel_rfl) ?_; refine LM.f 7 rfl (by kernel_rfl) (Hq [4, 5, 6, 7, 8, 9, 10] rfl) ?_
  refine L.alloc rfl rfl rfl (fun A8 => ?_)
  refine L.norm (H' := [_, _, _]) [2, 1, 0] ⟨rfl, rfl, rfl, trivial⟩ (by decide) ?_; refine L.nm (by kernel_rfl) ?_
  rotate_left
  refine L.alloc rfl rfl rfl (fun A8 => ?_)
  refine L.nm (by kernel_rfl) ?_; refine LM.f 6 rfl (by kernel_rfl) (Hq [4, 5, 6, 7, 8, 9, 10] rfl) ?_; refine L.call (js := []) (js' := [0, 1, 2]) (made_c r2) rfl rfl rfl (by decide) trivial rfl ?_
  rintro _ _ _ ⟨rfl, rfl, rfl⟩
  refine L.norm (H' := [_, _, _]) [2, 1, 0] ⟨rfl, rfl, rfl, trivial⟩ (by decide) ?_; refine L.nm (by kernel_rfl) ?_
  rotate_left
  refine L.alloc rfl rfl rfl (fun A8 => ?_)
  refine L.nm (by kernel_rfl) ?_; refine LM.a3 3 8 9 (by kernel_rfl) (Hq [4, 5, 6, 7, 8, 9, 10] rfl) rfl rfl rfl ?_ ?_ ?_; refine L.call (js := []) (js' := [0]) (layout_c z p qq r) rfl rfl rfl (by decide) trivial rfl ?_
  rintro _ _ _ ⟨rfl, rfl, rfl⟩
  refine L.nm (by kernel_rfl) ?_; refine LM.a3 6 8 9 (by kernel_rfl) (Hq [4, 5, 6, 7, 8, 9, 10] rfl) rfl rfl rfl ?_ ?_ ?_; refine L.call (js := []) (js' := [0]) (made_c r2) rfl rfl rfl (by decide) trivial rfl ?_
  rintro _ _ _ ⟨rfl, rfl, rfl⟩
  refine L.nm (by kernel_rfl) ?_; refine LM.a2 8 9 (by kernel_rfl) (Hq [4, 5, 6, 7, 8, 9, 10] rfl) rfl rfl ?_ ?_
  refine L.alloc rfl rfl rfl (fun A9 => ?_)
  refine L.nm (by kernel_rfl) ?_; refine LM.f 9 rfl (by kernel_rfl) (Hq [4, 5, 6, 7, 8, 9, 10] rfl) ?_
  refine L.alloc rfl rfl rfl (fun A10 => ?_)
  refine L.norm (H' := [_, _, _]) [0, 1, 2] ⟨rfl, rfl, rfl, trivial⟩ (by decide) ?_; refine L.nm (by kernel_rfl) ?_
  rotate_left
  refine L.alloc rfl rfl rfl (fun A10 => ?_)
  refine L.nm (by kernel_rfl) ?_; refine LM.f 8 rfl (by kernel_rfl) (Hq [4, 5, 6, 7, 8, 9, 10] rfl) ?_
  refine L.alloc rfl rfl rfl (fun A9 => ?_)
  refine L.norm (H' := [_, _, _]) [0, 2, 1] ⟨rfl, rfl, rfl, trivial⟩ (by decide) ?_; refine L.nm (by kernel_rfl) ?_
  rotate_left
  refine L.alloc rfl rfl rfl (fun A9 => ?_)
  refine L.nm (by kernel_rfl) ?_; refine LM.a2 6 9 (by kernel_rfl) (Hq [4, 5, 6, 7, 8, 9, 10] rfl) rfl rfl ?_ ?_; refine L.call (js := []) (js' := [0, 1]) (made_c r2) rfl rfl rfl (by decide) trivial rfl ?_
  rintro _ _ _ ⟨rfl, rfl, rfl⟩
  refine L.nm (by kernel_rfl) ?_; refine LM.f 9 rfl (by kernel_rfl) (Hq [4, 5, 6, 7, 8, 9, 10] rfl) ?_
  refine L.alloc rfl rfl rfl (fun A10 => ?_)
  refine L.norm (H' := [_, _, _]) [0, 1, 2] ⟨rfl, rfl, rfl, trivial⟩ (by decide) ?_; refine L.nm (by kernel_rfl) ?_
  rotate_left
  refine L.alloc rfl rfl rfl (fun A10 => ?_)
  refine L.nm (by kernel_rfl) ?_; refine LM.f 6 rfl (by kernel_rfl) (Hq [4, 5, 6, 7, 8, 9, 10] rfl) ?_; refine L.call (js := []) (js' := [0, 1, 2]) (made_c r2) rfl rfl rfl (by decide) trivial rfl ?_
  rintro _ _ _ ⟨rfl, rfl, rfl⟩
  refine L.norm (H' := [_, _, _]) [0, 1, 2] ⟨rfl, rfl, rfl, trivial⟩ (by decide) ?_; refine L.nm (by kernel_rfl) ?_
  rotate_left
  refine L.alloc rfl rfl rfl (fun A10 => ?_)
  refine L.nm (by kernel_rfl) ?_; refine LM.a2 6 8 (by kernel_rfl) (Hq [4, 5, 6, 7, 8, 9, 10] rfl) rfl rfl ?_ ?_; refine L.call (js := []) (js' := [0, 1]) (made_c r2) rfl rfl rfl (by decide) trivial rfl ?_
  rintro _ _ _ ⟨rfl, rfl, rfl⟩
  refine L.nm (by kernel_rfl) ?_; refine LM.f 8 rfl (by kernel_rfl) (Hq [4, 5, 6, 7, 8, 9, 10] rfl) ?_
  refine L.alloc rfl rfl rfl (fun A9 => ?_)
  refine L.norm (H' := [_, _, _]) [0, 2, 1] ⟨rfl, rfl, rfl, trivial⟩ (by decide) ?_; refine L.nm (by kernel_rfl) ?_
  rotate_left
  refine L.alloc rfl rfl rfl (fun A9 => ?_)
  refine L.nm (by kernel_rfl) ?_; refine LM.f 6 rfl (by kernel_rfl) (Hq [4, 5, 6, 7, 8, 9, 10] rfl) ?_; refine L.call (js := []) (js' := [0, 1, 2]) (made_c r2) rfl rfl rfl (by decide) trivial rfl ?_
  rintro _ _ _ ⟨rfl, rfl, rfl⟩
  refine L.norm (H' := [_, _, _]) [0, 2, 1] ⟨rfl, rfl, rfl, trivial⟩ (by decide) ?_; refine L.nm (by kernel_rfl) ?_
  rotate_left
  refine L.alloc rfl rfl rfl (fun A9 => ?_)
  refine L.nm (by kernel_rfl) ?_; refine LM.a2 3 9 (by kernel_rfl) (Hq [4, 5, 6, 7, 8, 9, 10] rfl) rfl rfl ?_ ?_; refine L.call (js := []) (js' := [0, 1]) (layout_c z p qq r) rfl rfl rfl (by decide) trivial rfl ?_
  rintro _ _ _ ⟨rfl, rfl, rfl⟩
  refine L.nm (by kernel_rfl) ?_; refine LM.a2 6 9 (by kernel_rfl) (Hq [4, 5, 6, 7, 8, 9, 10] rfl) rfl rfl ?_ ?_; refine L.call (js := []) (js' := [0, 1]) (made_c r2) rfl rfl rfl (by decide) trivial rfl ?_
  rintro _ _ _ ⟨rfl, rfl, rfl⟩
  refine L.nm (by kernel_rfl) ?_; refine LM.f 9 rfl (by kernel_rfl) (Hq [4, 5, 6, 7, 8, 9, 10] rfl) ?_
  refine L.alloc rfl rfl rfl (fun A10 => ?_)
  refine L.norm (H' := [_, _, _]) [0, 1, 2] ⟨rfl, rfl, rfl, trivial⟩ (by decide) ?_; refine L.nm (by kernel_rfl) ?_
  rotate_left
  refine L.alloc rfl rfl rfl (fun A10 => ?_)
  refine L.nm (by kernel_rfl) ?_; refine LM.f 6 rfl (by kernel_rfl) (Hq [4, 5, 6, 7, 8, 9, 10] rfl) ?_; refine L.call (js := []) (js' := [0, 1, 2]) (made_c r2) rfl rfl rfl (by decide) trivial rfl ?_
  rintro _ _ _ ⟨rfl, rfl, rfl⟩
  refine L.norm (H' := [_, _, _]) [0, 1, 2] ⟨rfl, rfl, rfl, trivial⟩ (by decide) ?_; refine L.nm (by kernel_rfl) ?_
  rotate_left
  refine L.alloc rfl rfl rfl (fun A10 => ?_)
  refine L.nm (by kernel_rfl) ?_; refine LM.f 3 rfl (by kernel_rfl) (Hq [4, 5, 6, 7, 8, 9, 10] rfl) ?_; refine L.call (js := []) (js' := [0, 1, 2]) (layout_c z p qq r) rfl rfl rfl (by decide) trivial rfl ?_
  rintro _ _ _ ⟨rfl, rfl, rfl⟩
  refine L.nm (by kernel_rfl) ?_; refine LM.f 6 rfl (by kernel_rfl) (Hq [4, 5, 6, 7, 8, 9, 10] rfl) ?_; refine L.call (js := []) (js' := [0, 1, 2]) (made_c r2) rfl rfl rfl (by decide) trivial rfl ?_
  rintro _ _ _ ⟨rfl, rfl, rfl⟩
  refine L.norm (H' := [_, _, _]) [0, 1, 2] ⟨rfl, rfl, rfl, trivial⟩ (by decide) ?_; refine L.nm (by kernel_rfl) ?_
  rotate_left
  refine L.alloc rfl rfl rfl (fun A10 => ?_)
  refine L.nm (by kernel_rfl) ?_; refine LM.a2 3 8 (by kernel_rfl) (Hq [4, 5, 6, 7, 8, 9, 10] rfl) rfl rfl ?_ ?_; refine L.call (js := []) (js' := [0, 1]) (layout_c z p qq r) rfl rfl rfl (by decide) trivial rfl ?_
  rintro _ _ _ ⟨rfl, rfl, rfl⟩
  refine L.nm (by kernel_rfl) ?_; refine LM.a2 6 8 (by kernel_rfl) (Hq [4, 5, 6, 7, 8, 9, 10] rfl) rfl rfl ?_ ?_; refine L.call (js := []) (js' := [0, 1]) (made_c r2) rfl rfl rfl (by decide) trivial rfl ?_
  rintro _ _ _ ⟨rfl, rfl, rfl⟩
  refine L.nm (by kernel_rfl) ?_; refine LM.f 8 rfl (by kernel_rfl) (Hq [4, 5, 6, 7, 8, 9, 10] rfl) ?_
  refine L.alloc rfl rfl rfl (fun A9 => ?_)
  refine L.norm (H' := [_, _, _]) [0, 2, 1] ⟨rfl, rfl, rfl, trivial⟩ (by decide) ?_; refine L.nm (by kernel_rfl) ?_
  rotate_left
  refine L.alloc rfl rfl rfl (fun A9 => ?_)
  refine L.nm (by kernel_rfl) ?_; refine LM.f 6 rfl (by kernel_rfl) (Hq [4, 5, 6, 7, 8, 9, 10] rfl) ?_; refine L.call (js := []) (js' := [0, 1, 2]) (made_c r2) rfl rfl rfl (by decide) trivial rfl ?_
  rintro _ _ _ ⟨rfl, rfl, rfl⟩
  refine L.norm (H' := [_, _, _]) [0, 2, 1] ⟨rfl, rfl, rfl, trivial⟩ (by decide) ?_; refine L.nm (by kernel_rfl) ?_
  rotate_left
  refine L.alloc rfl rfl rfl (fun A9 => ?_)
  refine L.nm (by kernel_rfl) ?_; refine LM.f 3 rfl (by kernel_rfl) (Hq [4, 5, 6, 7, 8, 9, 10] rfl) ?_; refine L.call (js := []) (js' := [0, 1, 2]) (layout_c z p qq r) rfl rfl rfl (by decide) trivial rfl ?_
  rintro _ _ _ ⟨rfl, rfl, rfl⟩
  refine L.nm (by kernel_rfl) ?_; refine LM.f 6 rfl (by kernel_rfl) (Hq [4, 5, 6, 7, 8, 9, 10] rfl) ?_; refine L.call (js := []) (js' := [0, 1, 2]) (made_c r2) rfl rfl rfl (by decide) trivial rfl ?_
  rintro _ _ _ ⟨rfl, rfl, rfl⟩
  refine L.norm (H' := [_, _, _]) [0, 2, 1] ⟨rfl, rfl, rfl, trivial⟩ (by decide) ?_; refine L.nm (by kernel_rfl) ?_
  rotate_left
  refine L.alloc rfl rfl rfl (fun A9 => ?_)
  refine L.nm (by kernel_rfl) ?_; refine LM.a3 3 7 9 (by kernel_rfl) (Hq [4, 5, 6, 7, 8, 9, 10] rfl) rfl rfl rfl ?_ ?_ ?_; refine L.call (js := []) (js' := [0]) (layout_c z p qq r) rfl rfl rfl (by decide) trivial rfl ?_
  rintro _ _ _ ⟨rfl, rfl, rfl⟩
  refine L.nm (by kernel_rfl) ?_; refine LM.a3 6 7 9 (by kernel_rfl) (Hq [4, 5, 6, 7, 8, 9, 10] rfl) rfl rfl rfl ?_ ?_ ?_; refine L.call (js := []) (js' := [0]) (made_c r2) rfl rfl rfl (by decide) trivial rfl ?_
  rintro _ _ _ ⟨rfl, rfl, rfl⟩
  refine L.nm (by kernel_rfl) ?_; refine LM.a2 7 9 (by kernel_rfl) (Hq [4, 5, 6, 7, 8, 9, 10] rfl) rfl rfl ?_ ?_
  refine L.alloc rfl rfl rfl (fun A8 => ?_)
  refine L.nm (by kernel_rfl) ?_; refine LM.f 9 rfl (by kernel_rfl) (Hq [4, 5, 6, 7, 8, 9, 10] rfl) ?_
  refine L.alloc rfl rfl rfl (fun A10 => ?_)
  refine L.norm (H' := [_, _, _]) [1, 0, 2] ⟨rfl, rfl, rfl, trivial⟩ (by decide) ?_; refine L.nm (by kernel_rfl) ?_
  rotate_left
  refine L.alloc rfl rfl rfl (fun A10 => ?_)
  refine L.nm (by kernel_rfl) ?_; refine LM.f 7 rfl (by kernel_rfl) (Hq [4, 5, 6, 7, 8, 9, 10] rfl) ?_
  refine L.alloc rfl rfl rfl (fun A8 => ?_)
  refine L.norm (H' := [_, _, _]) [2, 0, 1] ⟨rfl, rfl, rfl, trivial⟩ (by decide) ?_; refine L.nm (by kernel_rfl) ?_
  rotate_left
  refine L.alloc rfl rfl rfl (fun A8 => ?_)
  refine L.nm (by kernel_rfl) ?_; refine LM.a2 6 9 (by kernel_rfl) (Hq [4, 5, 6, 7, 8, 9, 10] rfl) rfl rfl ?_ ?_; refine L.call (js := []) (js' := [0, 1]) (made_c r2) rfl rfl rfl (by decide) trivial rfl ?_
  rintro _ _ _ ⟨rfl, rfl, rfl⟩
  refine L.nm (by kernel_rfl) ?_; refine LM.f 9 rfl (by kernel_rfl) (Hq [4, 5, 6, 7, 8, 9, 10] rfl) ?_
  refine L.alloc rfl rfl rfl (fun A10 => ?_)
  refine L.norm (H' := [_, _, _]) [1, 0, 2] ⟨rfl, rfl, rfl, trivial⟩ (by decide) ?_; refine L.nm (by kernel_rfl) ?_
  rotate_left
  refine L.alloc rfl rfl rfl (fun A10 => ?_)
  refine L.nm (by kernel_rfl) ?_; refine LM.f 6 rfl (by kernel_rfl) (Hq [4, 5, 6, 7, 8, 9, 10] rfl) ?_; refine L.call (js := []) (js' := [0, 1, 2]) (made_c r2) rfl rfl rfl (by decide) trivial rfl ?_
  rintro _ _ _ ⟨rfl, rfl, rfl⟩
  refine L.norm (H' := [_, _, _]) [1, 0, 2] ⟨rfl, rfl, rfl, trivial⟩ (by decide) ?_; refine L.nm (by kernel_rfl) ?_
  rotate_left
  refine L.alloc rfl rfl rfl (fun A10 => ?_)
  refine L.nm (by kernel_rfl) ?_; refine LM.a2 6 7 (by kernel_rfl) (Hq [4, 5, 6, 7, 8, 9, 10] rfl) rfl rfl ?_ ?_; refine L.call (js := []) (js' := [0, 1]) (made_c r2) rfl rfl rfl (by decide) trivial rfl ?_
  rintro _ _ _ ⟨rfl, rfl, rfl⟩
  refine L.nm (by kernel_rfl) ?_; refine LM.f 7 rfl (by kernel_rfl) (Hq [4, 5, 6, 7, 8, 9, 10] rfl) ?_
  refine L.alloc rfl rfl rfl (fun A8 => ?_)
  refine L.norm (H' := [_, _, _]) [2, 0, 1] ⟨rfl, rfl, rfl, trivial⟩ (by decide) ?_; refine L.nm (by kernel_rfl) ?_
  rotate_left
  refine L.alloc rfl rfl rfl (fun A8 => ?_)
  refine L.nm (by kernel_rfl) ?_; refine LM.f 6 rfl (by kernel_rfl) (Hq [4, 5, 6, 7, 8, 9, 10] rfl) ?_; refine L.call (js := []) (js' := [0, 1, 2]) (made_c r2) rfl rfl rfl (by decide) trivial rfl ?_
  rintro _ _ _ ⟨rfl, rfl, rfl⟩
  refine L.norm (H' := [_, _, _]) [2, 0, 1] ⟨rfl, rfl, rfl, trivial⟩ (by decide) ?_; refine L.nm (by kernel_rfl) ?_
  rotate_left
  refine L.alloc rfl rfl rfl (fun A8 => ?_)
  refine L.nm (by kernel_rfl) ?_; refine LM.a2 3 9 (by kernel_rfl) (Hq [4, 5, 6, 7, 8, 9, 10] rfl) rfl rfl ?_ ?_; refine L.call (js := []) (js' := [0, 1]) (layout_c z p qq r) rfl rfl rfl (by decide) trivial rfl ?_
  rintro _ _ _ ⟨rfl, rfl, rfl⟩
  refine L.nm (by kernel_rfl) ?_; refine LM.a2 6 9 (by kernel_rfl) (Hq [4, 5, 6, 7, 8, 9, 10] rfl) rfl rfl ?_ ?_; refine L.call (js := []) (js' := [0, 1]) (made_c r2) rfl rfl rfl (by decide) trivial rfl ?_
  rintro _ _ _ ⟨rfl, rfl, rfl⟩
  refine L.nm (by kernel_rfl) ?_; refine LM.f 9 rfl (by kernel_rfl) (Hq [4, 5, 6, 7, 8, 9, 10] rfl) ?_
  refine L.alloc rfl rfl rfl (fun A10 => ?_)
  refine L.norm (H' := [_, _, _]) [1, 0, 2] ⟨rfl, rfl, rfl, trivial⟩ (by decide) ?_; refine L.nm (by kernel_rfl) ?_
  rotate_left
  refine L.alloc rfl rfl rfl (fun A10 => ?_)
  refine L.nm (by kernel_rfl) ?_; refine LM.f 6 rfl (by kernel_rfl) (Hq [4, 5, 6, 7, 8, 9, 10] rfl) ?_; refine L.call (js := []) (js' := [0, 1, 2]) (made_c r2) rfl rfl rfl (by decide) trivial rfl ?_
  rintro _ _ _ ⟨rfl, rfl, rfl⟩
  refine L.norm (H' := [_, _, _]) [1, 0, 2] ⟨rfl, rfl, rfl, trivial⟩ (by decide) ?_; refine L.nm (by kernel_rfl) ?_
  rotate_left
  refine L.alloc rfl rfl rfl (fun A10 => ?_)
  refine L.nm (by kernel_rfl) ?_; refine LM.f 3 rfl (by kernel_rfl) (Hq [4, 5, 6, 7, 8, 9, 10] rfl) ?_; refine L.call (js := []) (js' := [0, 1, 2]) (layout_c z p qq r) rfl rfl rfl (by decide) trivial rfl ?_
  rintro _ _ _ ⟨rfl, rfl, rfl⟩
  refine L.nm (by kernel_rfl) ?_; refine LM.f 6 rfl (by kernel_rfl) (Hq [4, 5, 6, 7, 8, 9, 10] rfl) ?_; refine L.call (js := []) (js' := [0, 1, 2]) (made_c r2) rfl rfl rfl (by decide) trivial rfl ?_
  rintro _ _ _ ⟨rfl, rfl, rfl⟩
  refine L.norm (H' := [_, _, _]) [1, 0, 2] ⟨rfl, rfl, rfl, trivial⟩ (by decide) ?_; refine L.nm (by kernel_rfl) ?_
  rotate_left
  refine L.alloc rfl rfl rfl (fun A10 => ?_)
  refine L.nm (by kernel_rfl) ?_; refine LM.a2 3 7 (by kernel_rfl) (Hq [4, 5, 6, 7, 8, 9, 10] rfl) rfl rfl ?_ ?_; refine L.call (js := []) (js' := [0, 1]) (layout_c z p qq r) rfl rfl rfl (by decide) trivial rfl ?_
  rintro _ _ _ ⟨rfl, rfl, rfl⟩
  refine L.nm (by kernel_rfl) ?_; refine LM.a2 6 7 (by kernel_rfl) (Hq [4, 5, 6, 7, 8, 9, 10] rfl) rfl rfl ?_ ?_; refine L.call (js := []) (js' := [0, 1]) (made_c r2) rfl rfl rfl (by decide) trivial rfl ?_
  rintro _ _ _ ⟨rfl, rfl, rfl⟩
  refine L.nm (by kernel_rfl) ?_; refine LM.f 7 rfl (by kernel_rfl) (Hq [4, 5, 6, 7, 8, 9, 10] rfl) ?_
  refine L.alloc rfl rfl rfl (fun A8 => ?_)
  refine L.norm (H' := [_, _, _]) [2, 0, 1] ⟨rfl, rfl, rfl, trivial⟩ (by decide) ?_; refine L.nm (by kernel_rfl) ?_
  rotate_left
  refine L.alloc rfl rfl rfl (fun A8 => ?_)
  refine L.nm (by kernel_rfl) ?_; refine LM.f 6 rfl (by kernel_rfl) (Hq [4, 5, 6, 7, 8, 9, 10] rfl) ?_; refine L.call (js := []) (js' := [0, 1, 2]) (made_c r2) rfl rfl rfl (by decide) trivial rfl ?_
  rintro _ _ _ ⟨rfl, rfl, rfl⟩
  refine L.norm (H' := [_, _, _]) [2, 0, 1] ⟨rfl, rfl, rfl, trivial⟩ (by decide) ?_; refine L.nm (by kernel_rfl) ?_
  rotate_left
  refine L.alloc rfl rfl rfl (fun A8 => ?_)
  refine L.nm (by kernel_rfl) ?_; refine LM.f 3 rfl (by kernel_rfl) (Hq [4, 5, 6, 7, 8, 9, 10] rfl) ?_; refine L.call (js := []) (js' := [0, 1, 2]) (layout_c z p qq r) rfl rfl rfl (by decide) trivial rfl ?_
  rintro _ _ _ ⟨rfl, rfl, rfl⟩
  refine L.nm (by kernel_rfl) ?_; refine LM.f 6 rfl (by kernel_rfl) (Hq [4, 5, 6, 7, 8, 9, 10] rfl) ?_; refine L.call (js := []) (js' := [0, 1, 2]) (made_c r2) rfl rfl rfl (by decide) trivial rfl ?_
  rintro _ _ _ ⟨rfl, rfl, rfl⟩
  refine L.norm (H' := [_, _, _]) [2, 0, 1] ⟨rfl, rfl, rfl, trivial⟩ (by decide) ?_; refine L.nm (by kernel_rfl) ?_
  rotate_left
  refine L.alloc rfl rfl rfl (fun A10 => ?_)
  refine L.nm (by kernel_rfl) ?_; refine LM.a3 3 7 8 (by kernel_rfl) (Hq [4, 5, 6, 7, 8, 9, 10] rfl) rfl rfl rfl ?_ ?_ ?_; refine L.call (js := []) (js' := [0]) (layout_c z p qq r) rfl rfl rfl (by decide) trivial rfl ?_
  rintro _ _ _ ⟨rfl, rfl, rfl⟩
  refine L.nm (by kernel_rfl) ?_; refine LM.a3 6 7 8 (by kernel_rfl) (Hq [4, 5, 6, 7, 8, 9, 10] rfl) rfl rfl rfl ?_ ?_ ?_; refine L.call (js := []) (js' := [0]) (made_c r2) rfl rfl rfl (by decide) trivial rfl ?_
  rintro _ _ _ ⟨rfl, rfl, rfl⟩
  refine L.nm (by kernel_rfl) ?_; refine LM.a2 7 8 (by kernel_rfl) (Hq [4, 5, 6, 7, 8, 9, 10] rfl) rfl rfl ?_ ?_
  refine L.alloc rfl rfl rfl (fun A8 => ?_)
  refine L.nm (by kernel_rfl) ?_; refine LM.f 8 rfl (by kernel_rfl) (Hq [4, 5, 6, 7, 8, 9, 10] rfl) ?_
  refine L.alloc rfl rfl rfl (fun A9 => ?_)
  refine L.norm (H' := [_, _, _]) [1, 2, 0] ⟨rfl, rfl, rfl, trivial⟩ (by decide) ?_; refine L.nm (by kernel_rfl) ?_
  rotate_left
  refine L.alloc rfl rfl rfl (fun A9 => ?_)
  refine L.nm (by kernel_rfl) ?_; refine LM.f 7 rfl (by kernel_rfl) (Hq [4, 5, 6, 7, 8, 9, 10] rfl) ?_
  refine L.alloc rfl rfl rfl (fun A8 => ?_)
  refine L.norm (H' := [_, _, _]) [2, 1, 0] ⟨rfl, rfl, rfl, trivial⟩ (by decide) ?_; refine L.nm (by kernel_rfl) ?_
  rotate_left
  refine L.alloc rfl rfl rfl (fun A8 => ?_)
  refine L.nm (by kernel_rfl) ?_; refine LM.a2 6 8 (by kernel_rfl) (Hq [4, 5, 6, 7, 8, 9, 10] rfl) rfl rfl ?_ ?_; refine L.call (js := []) (js' := [0, 1]) (made_c r2) rfl rfl rfl (by decide) trivial rfl ?_
  rintro _ _ _ ⟨rfl, rfl, rfl⟩
  refine L.nm (by kernel_rfl) ?_; refine LM.f 8 rfl (by kernel_rfl) (Hq [4, 5, 6, 7, 8, 9, 10] rfl) ?_
  refine L.alloc rfl rfl rfl (fun A9 => ?_)
  refine L.norm (H' := [_, _, _]) [1, 2, 0] ⟨rfl, rfl, rfl, trivial⟩ (by decide) ?_; refine L.nm (by kernel_rfl) ?_
  rotate_left
  refine L.alloc rfl rfl rfl (fun A9 => ?_)
  refine L.nm (by kernel_rfl) ?_; refine LM.f 6 rfl (by kernel_rfl) (Hq [4, 5, 6, 7, 8, 9, 10] rfl) ?_; refine L.call (js := []) (js' := [0, 1, 2]) (made_c r2) rfl rfl rfl (by decide) trivial rfl ?_
  rintro _ _ _ ⟨rfl, rfl, rfl⟩
  refine L.norm (H' := [_, _, _]) [1, 2, 0] ⟨rfl, rfl, rfl, trivial⟩ (by decide) ?_; refine L.nm (by kernel_rfl) ?_
  rotate_left
  refine L.alloc rfl rfl rfl (fun A9 => ?_)
  refine L.nm (by kernel_rfl) ?_; refine LM.a2 6 7 (by kernel_rfl) (Hq [4, 5, 6, 7, 8, 9, 10] rfl) rfl rfl ?_ ?_; refine L.call (js := []) (js' := [0, 1]) (made_c r2) rfl rfl rfl (by decide) trivial rfl ?_
  rintro _ _ _ ⟨rfl, rfl, rfl⟩
  refine L.nm (by kernel_rfl) ?_; refine LM.f 7 rfl (by kernel_rfl) (Hq [4, 5, 6, 7, 8, 9, 10] rfl) ?_
  refine L.alloc rfl rfl rfl (fun A8 => ?_)
  refine L.norm (H' := [_, _, _]) [2, 1, 0] ⟨rfl, rfl, rfl, trivial⟩ (by decide) ?_; refine L.nm (by kernel_rfl) ?_
  rotate_left
  refine L.alloc rfl rfl rfl (fun A8 => ?_)
  refine L.nm (by kernel_rfl) ?_; refine LM.f 6 rfl (by kernel_rfl) (Hq [4, 5, 6, 7, 8, 9, 10] rfl) ?_; refine L.call (js := []) (js' := [0, 1, 2]) (made_c r2) rfl rfl rfl (by decide) trivial rfl ?_
  rintro _ _ _ ⟨rfl, rfl, rfl⟩
  refine L.norm (H' := [_, _, _]) [2, 1, 0] ⟨rfl, rfl, rfl, trivial⟩ (by decide) ?_; refine L.nm (by kernel_rfl) ?_
  rotate_left
  refine L.alloc rfl rfl rfl (fun A8 => ?_)
  refine L.nm (by kernel_rfl) ?_; refine LM.a2 3 8 (by kernel_rfl) (Hq [4, 5, 6, 7, 8, 9, 10] rfl) rfl rfl ?_ ?_; refine L.call (js := []) (js' := [0, 1]) (layout_c z p qq r) rfl rfl rfl (by decide) trivial rfl ?_
  rintro _ _ _ ⟨rfl, rfl, rfl⟩
  refine L.nm (by kernel_rfl) ?_; refine LM.a2 6 8 (by kernel_rfl) (Hq [4, 5, 6, 7, 8, 9, 10] rfl) rfl rfl ?_ ?_; refine L.call (js := []) (js' := [0, 1]) (made_c r2) rfl rfl rfl (by decide) trivial rfl ?_
  rintro _ _ _ ⟨rfl, rfl, rfl⟩
  refine L.nm (by kernel_rfl) ?_; refine LM.f 8 rfl (by kernel_rfl) (Hq [4, 5, 6, 7, 8, 9, 10] rfl) ?_
  refine L.alloc rfl rfl rfl (fun A9 => ?_)
  refine L.norm (H' := [_, _, _]) [1, 2, 0] ⟨rfl, rfl, rfl, trivial⟩ (by decide) ?_; refine L.nm (by kernel_rfl) ?_
  rotate_left
  refine L.alloc rfl rfl rfl (fun A9 => ?_)
  refine L.nm (by kernel_rfl) ?_; refine LM.f 6 rfl (by kernel_rfl) (Hq [4, 5, 6, 7, 8, 9, 10] rfl) ?_; refine L.call (js := []) (js' := [0, 1, 2]) (made_c r2) rfl rfl rfl (by decide) trivial rfl ?_
  rintro _ _ _ ⟨rfl, rfl, rfl⟩
  refine L.norm (H' := [_, _, _]) [1, 2, 0] ⟨rfl, rfl, rfl, trivial⟩ (by decide) ?_; refine L.nm (by kernel_rfl) ?_
  rotate_left
  refine L.alloc rfl rfl rfl (fun A9 => ?_)
  refine L.nm (by kernel_rfl) ?_; refine LM.f 3 rfl (by kernel_rfl) (Hq [4, 5, 6, 7, 8, 9, 10] rfl) ?_; refine L.call (js := []) (js' := [0, 1, 2]) (layout_c z p qq r) rfl rfl rfl (by decide) trivial rfl ?_
  rintro _ _ _ ⟨rfl, rfl, rfl⟩
  refine L.nm (by kernel_rfl) ?_; refine LM.f 6 rfl (by kernel_rfl) (Hq [4, 5, 6, 7, 8, 9, 10] rfl) ?_; refine L.call (js := []) (js' := [0, 1, 2]) (made_c r2) rfl rfl rfl (by decide) trivial rfl ?_
  rintro _ _ _ ⟨rfl, rfl, rfl⟩
  refine L.norm (H' := [_, _, _]) [1, 2, 0] ⟨rfl, rfl, rfl, trivial⟩ (by decide) ?_; refine L.nm (by kernel_rfl) ?_
  rotate_left
  refine L.alloc rfl rfl rfl (fun A9 => ?_)
  refine L.nm (by kernel_rfl) ?_; refine LM.a2 3 7 (by kernel_rfl) (Hq [4, 5, 6, 7, 8, 9, 10] rfl) rfl rfl ?_ ?_; refine L.call (js := []) (js' := [0, 1]) (layout_c z p qq r) rfl rfl rfl (by decide) trivial rfl ?_
  rintro _ _ _ ⟨rfl, rfl, rfl⟩
  refine L.nm (by kernel_rfl) ?_; refine LM.a2 6 7 (by kernel_rfl) (Hq [4, 5, 6, 7, 8, 9, 10] rfl) rfl rfl ?_ ?_; refine L.call (js := []) (js' := [0, 1]) (made_c r2) rfl rfl rfl (by decide) trivial rfl ?_
  rintro _ _ _ ⟨rfl, rfl, rfl⟩
  refine L.nm (by kernel_rfl) ?_; refine LM.f 7 rfl (by kernel_rfl) (Hq [4, 5, 6, 7, 8, 9, 10] rfl) ?_
  refine L.alloc rfl rfl rfl (fun A8 => ?_)
  refine L.norm (H' := [_, _, _]) [2, 1, 0] ⟨rfl, rfl, rfl, trivial⟩ (by decide) ?_; refine L.nm (by kernel_rfl) ?_
  rotate_left
  refine L.alloc rfl rfl rfl (fun A8 => ?_)
  refine L.nm (by kernel_rfl) ?_; refine LM.f 6 rfl (by kernel_rfl) (Hq [4, 5, 6, 7, 8, 9, 10] rfl) ?_; refine L.call (js := []) (js' := [0, 1, 2]) (made_c r2) rfl rfl rfl (by decide) trivial rfl ?_
  rintro _ _ _ ⟨rfl, rfl, rfl⟩
  refine L.norm (H' := [_, _, _]) [2, 1, 0] ⟨rfl, rfl, rfl, trivial⟩ (by decide) ?_; refine L.nm (by kernel_rfl) ?_
  rotate_left
  refine L.alloc rfl rfl rfl (fun A8 => ?_)
  refine L.nm (by kernel_rfl) ?_; refine LM.f 3 rfl (by kernel_rfl) (Hq [4, 5, 6, 7, 8, 9, 10] rfl) ?_; refine L.call (js := []) (js' := [0, 1, 2]) (layout_c z p qq r) rfl rfl rfl (by decide) trivial rfl ?_
  rintro _ _ _ ⟨rfl, rfl, rfl⟩
  refine L.nm (by kernel_rfl) ?_; refine LM.f 6 rfl (by kernel_rfl) (Hq [4, 5, 6, 7, 8, 9, 10] rfl) ?_; refine L.call (js := []) (js' := [0, 1, 2]) (made_c r2) rfl rfl rfl (by decide) trivial rfl ?_
  rintro _ _ _ ⟨rfl, rfl, rfl⟩
  refine L.norm (H' := [_, _, _]) [2, 1, 0] ⟨rfl, rfl, rfl, trivial⟩ (by decide) ?_; refine L.nm (by kernel_rfl) ?_
  rotate_left
  refine L.alloc rfl rfl rfl (fun A8 => ?_)
  refine L.nm (by kernel_rfl) ?_; refine LM.a3 1 8 9 (by kernel_rfl) (Hq [0, 1, 2, 3, 4, 5, 6] rfl) rfl rfl rfl ?_ ?_ ?_; refine L.callR (js := []) (js' := [0]) (flash_c z p qq r) rfl rfl rfl (by decide) trivial rfl ?_
  rintro _ _ _ ⟨a, hb, hc, rfl, rfl, rfl⟩
  refine L.nm (by kernel_rfl) ?_; refine LM.a3 3 8 9 (by kernel_rfl) (Hq [4, 5, 6, 7, 8, 9, 10] rfl) rfl rfl rfl ?_ ?_ ?_; refine L.call (js := []) (js' := [0]) (layout_c z p qq r) rfl rfl rfl (by decide) trivial rfl ?_
  rintro _ _ _ ⟨rfl, rfl, rfl⟩
  refine L.nm (by kernel_rfl) ?_; refine LM.a3 6 8 9 (by kernel_rfl) (Hq [4, 5, 6, 7, 8, 9, 10] rfl) rfl rfl rfl ?_ ?_ ?_; refine L.call (js := []) (js' := [0]) (made_c r2) rfl rfl rfl (by decide) trivial rfl ?_
  rintro _ _ _ ⟨rfl, rfl, rfl⟩
  refine L.nm (by kernel_rfl) ?_; refine LM.a2 8 9 (by kernel_rfl) (Hq [4, 5, 6, 7, 8, 9, 10] rfl) rfl rfl ?_ ?_
  refine L.alloc rfl rfl rfl (fun A9 => ?_)
  refine L.nm (by kernel_rfl) ?_; refine LM.f 9 rfl (by kernel_rfl) (Hq [4, 5, 6, 7, 8, 9, 10] rfl) ?_
  refine L.alloc rfl rfl rfl (fun A10 => ?_)
  refine L.norm (H' := [_, _, _]) [0, 1, 2] ⟨rfl, rfl, rfl, trivial⟩ (by decide) ?_; refine L.nm (by kernel_rfl) ?_
  rotate_left
  refine L.alloc rfl rfl rfl (fun A10 => ?_)
  refine L.nm (by kernel_rfl) ?_; refine LM.f 8 rfl (by kernel_rfl) (Hq [4, 5, 6, 7, 8, 9, 10] rfl) ?_
  refine L.alloc rfl rfl rfl (fun A9 => ?_)
  refine L.norm (H' := [_, _, _]) [0, 2, 1] ⟨rfl, rfl, rfl, trivial⟩ (by decide) ?_; refine L.nm (by kernel_rfl) ?_
  rotate_left
  refine L.alloc rfl rfl rfl (fun A9 => ?_)
  refine L.nm (by kernel_rfl) ?_; refine LM.a2 6 9 (by kernel_rfl) (Hq [4, 5, 6, 7, 8, 9, 10] rfl) rfl rfl ?_ ?_; refine L.call (js := []) (js' := [0, 1]) (made_c r2) rfl rfl rfl (by decide) trivial rfl ?_
  rintro _ _ _ ⟨rfl, rfl, rfl⟩
  refine L.nm (by kernel_rfl) ?_; refine LM.f 9 rfl (by kernel_rfl) (Hq [4, 5, 6, 7, 8, 9, 10] rfl) ?_
  refine L.alloc rfl rfl rfl (fun A10 => ?_)
  refine L.norm (H' := [_, _, _]) [0, 1, 2] ⟨rfl, rfl, rfl, trivial⟩ (by decide) ?_; refine L.nm (by kernel_rfl) ?_
  rotate_left
  refine L.alloc rfl rfl rfl (fun A10 => ?_)
  refine L.nm (by kernel_rfl) ?_; refine LM.f 6 rfl (by kernel_rfl) (Hq [4, 5, 6, 7, 8, 9, 10] rfl) ?_; refine L.call (js := []) (js' := [0, 1, 2]) (made_c r2) rfl rfl rfl (by decide) trivial rfl ?_
  rintro _ _ _ ⟨rfl, rfl, rfl⟩
  refine L.norm (H' := [_, _, _]) [0, 1, 2] ⟨rfl, rfl, rfl, trivial⟩ (by decide) ?_; refine L.nm (by kernel_rfl) ?_
  rotate_left
  refine L.alloc rfl rfl rfl (fun A10 => ?_)
  refine L.nm (by kernel_rfl) ?_; refine LM.a2 6 8 (by kernel_rfl) (Hq [4, 5, 6, 7, 8, 9, 10] rfl) rfl rfl ?_ ?_; refine L.call (js := []) (js' := [0, 1]) (made_c r2) rfl rfl rfl (by decide) trivial rfl ?_
  rintro _ _ _ ⟨rfl, rfl, rfl⟩
  refine L.nm (by kernel_rfl) ?_; refine LM.f 8 rfl (by kernel_rfl) (Hq [4, 5, 6, 7, 8, 9, 10] rfl) ?_
  refine L.alloc rfl rfl rfl (fun A9 => ?_)
  refine L.norm (H' := [_, _, _]) [0, 2, 1] ⟨rfl, rfl, rfl, trivial⟩ (by decide) ?_; refine L.nm (by kernel_rfl) ?_
  rotate_left
  refine L.alloc rfl rfl rfl (fun A9 => ?_)
  refine L.nm (by kernel_rfl) ?_; refine LM.f 6 rfl (by kernel_rfl) (Hq [4, 5, 6, 7, 8, 9, 10] rfl) ?_; refine L.call (js := []) (js' := [0, 1, 2]) (made_c r2) rfl rfl rfl (by decide) trivial rfl ?_
  rintro _ _ _ ⟨rfl, rfl, rfl⟩
  refine L.norm (H' := [_, _, _]) [0, 2, 1] ⟨rfl, rfl, rfl, trivial⟩ (by decide) ?_; refine L.nm (by kernel_rfl) ?_
  rotate_left
  refine L.alloc rfl rfl rfl (fun A9 => ?_)
  refine L.nm (by kernel_rfl) ?_; refine LM.a2 3 9 (by kernel_rfl) (Hq [4, 5, 6, 7, 8, 9, 10] rfl) rfl rfl ?_ ?_; refine L.call (js := []) (js' := [0, 1]) (layout_c z p qq r) rfl rfl rfl (by decide) trivial rfl ?_
  rintro _ _ _ ⟨rfl, rfl, rfl⟩
  refine L.nm (by kernel_rfl) ?_; refine LM.a2 6 9 (by kernel_rfl) (Hq [4, 5, 6, 7, 8, 9, 10] rfl) rfl rfl ?_ ?_; refine L.call (js := []) (js' := [0, 1]) (made_c r2) rfl rfl rfl (by decide) trivial rfl ?_
  rintro _ _ _ ⟨rfl, rfl, rfl⟩
  refine L.nm (by kernel_rfl) ?_; refine LM.f 9 rfl (by kernel_rfl) (Hq [4, 5, 6, 7, 8, 9, 10] rfl) ?_
  refine L.alloc rfl rfl rfl (fun A10 => ?_)
  refine L.norm (H' := [_, _, _]) [0, 1, 2] ⟨rfl, rfl, rfl, trivial⟩ (by decide) ?_; refine L.nm (by kernel_rfl) ?_
  rotate_left
  refine L.alloc rfl rfl rfl (fun A10 => ?_)
  refine L.nm (by kernel_rfl) ?_; refine LM.f 6 rfl (by kernel_rfl) (Hq [4, 5, 6, 7, 8, 9, 10] rfl) ?_; refine L.call (js := []) (js' := [0, 1, 2]) (made_c r2) rfl rfl rfl (by decide) trivial rfl ?_
  rintro _ _ _ ⟨rfl, rfl, rfl⟩
  refine L.norm (H' := [_, _, _]) [0, 1, 2] ⟨rfl, rfl, rfl, trivial⟩ (by decide) ?_; refine L.nm (by kernel_rfl) ?_
  rotate_left
  refine L.alloc rfl rfl rfl (fun A10 => ?_)
  refine L.nm (by kernel_rfl) ?_; refine LM.f 3 rfl (by kernel_rfl) (Hq [4, 5, 6, 7, 8, 9, 10] rfl) ?_; refine L.call (js := []) (js' := [0, 1, 2]) (layout_c z p qq r) rfl rfl rfl (by decide) trivial rfl ?_
  rintro _ _ _ ⟨rfl, rfl, rfl⟩
  refine L.nm (by kernel_rfl) ?_; refine LM.f 6 rfl (by kernel_rfl) (Hq [4, 5, 6, 7, 8, 9, 10] rfl) ?_; refine L.call (js := []) (js' := [0, 1, 2]) (made_c r2) rfl rfl rfl (by decide) trivial rfl ?_
  rintro _ _ _ ⟨rfl, rfl, rfl⟩
  refine L.norm (H' := [_, _, _]) [0, 1, 2] ⟨rfl, rfl, rfl, trivial⟩ (by decide) ?_; refine L.nm (by kernel_rfl) ?_
  rotate_left
  refine L.alloc rfl rfl rfl (fun A10 => ?_)
  refine L.nm (by kernel_rfl) ?_; refine LM.a2 3 8 (by kernel_rfl) (Hq [4, 5, 6, 7, 8, 9, 10] rfl) rfl rfl ?_ ?_; refine L.call (js := []) (js' := [0, 1]) (layout_c z p qq r) rfl rfl rfl (by decide) trivial rfl ?_
  rintro _ _ _ ⟨rfl, rfl, rfl⟩
  refine L.nm (by kernel_rfl) ?_; refine LM.a2 6 8 (by kernel_rfl) (Hq [4, 5, 6, 7, 8, 9, 10] rfl) rfl rfl ?_ ?_; refine L.call (js := []) (js' := [0, 1]) (made_c r2) rfl rfl rfl (by decide) trivial rfl ?_
  rintro _ _ _ ⟨rfl, rfl, rfl⟩
  refine L.nm (by kernel_rfl) ?_; refine LM.f 8 rfl (by kernel_rfl) (Hq [4, 5, 6, 7, 8, 9, 10] rfl) ?_
  refine L.alloc rfl rfl rfl (fun A9 => ?_)
  refine L.norm (H' := [_, _, _]) [0, 2, 1] ⟨rfl, rfl, rfl, trivial⟩ (by decide) ?_; refine L.nm (by kernel_rfl) ?_
  rotate_left
  refine L.alloc rfl rfl rfl (fun A9 => ?_)
  refine L.nm (by kernel_rfl) ?_; refine LM.f 6 rfl (by kernel_rfl) (Hq [4, 5, 6, 7, 8, 9, 10] rfl) ?_; refine L.call (js := []) (js' := [0, 1, 2]) (made_c r2) rfl rfl rfl (by decide) trivial rfl ?_
  rintro _ _ _ ⟨rfl, rfl, rfl⟩
  refine L.norm (H' := [_, _, _]) [0, 2, 1] ⟨rfl, rfl, rfl, trivial⟩ (by decide) ?_; refine L.nm (by kernel_rfl) ?_
  rotate_left
  refine L.alloc rfl rfl rfl (fun A9 => ?_)
  refine L.nm (by kernel_rfl) ?_; refine LM.f 3 rfl (by kernel_rfl) (Hq [4, 5, 6, 7, 8, 9, 10] rfl) ?_; refine L.call (js := []) (js' := [0, 1, 2]) (layout_c z p qq r) rfl rfl rfl (by decide) trivial rfl ?_
  rintro _ _ _ ⟨rfl, rfl, rfl⟩
  refine L.nm (by kernel_rfl) ?_; refine LM.f 6 rfl (by kernel_rfl) (Hq [4, 5, 6, 7, 8, 9, 10] rfl) ?_; refine L.call (js := []) (js' := [0, 1, 2]) (made_c r2) rfl rfl rfl (by decide) trivial rfl ?_
  rintro _ _ _ ⟨rfl, rfl, rfl⟩
  refine L.norm (H' := [_, _, _]) [0, 2, 1] ⟨rfl, rfl, rfl, trivial⟩ (by decide) ?_; refine L.nm (by kernel_rfl) ?_
  rotate_left
  refine L.alloc rfl rfl rfl (fun A9 => ?_)
  refine L.nm (by kernel_rfl) ?_; refine LM.a2 1 9 (by kernel_rfl) (Hq [0, 1, 2, 3, 4, 5, 6] rfl) rfl rfl ?_ ?_; refine L.callR (js := []) (js' := [0, 1]) (flash_c z p qq r) rfl rfl rfl (by decide) trivial rfl ?_
  rintro _ _ _ ⟨a, hb, hc, rfl, rfl, rfl⟩
  refine L.nm (by kernel_rfl) ?_; refine LM.a2 3 9 (by kernel_rfl) (Hq [4, 5, 6, 7, 8, 9, 10] rfl) rfl rfl ?_ ?_; refine L.call (js := []) (js' := [0, 1]) (layout_c z p qq r) rfl rfl rfl (by decide) trivial rfl ?_
  rintro _ _ _ ⟨rfl, rfl, rfl⟩
  refine L.nm (by kernel_rfl) ?_; refine LM.a2 6 9 (by kernel_rfl) (Hq [4, 5, 6, 7, 8, 9, 10] rfl) rfl rfl ?_ ?_; refine L.call (js := []) (js' := [0, 1]) (made_c r2) rfl rfl rfl (by decide) trivial rfl ?_
  rintro _ _ _ ⟨rfl, rfl, rfl⟩
  refine L.nm (by kernel_rfl) ?_; refine LM.f 9 rfl (by kernel_rfl) (Hq [4, 5, 6, 7, 8, 9, 10] rfl) ?_
  refine L.alloc rfl rfl rfl (fun A10 => ?_)
  refine L.norm (H' := [_, _, _]) [0, 1, 2] ⟨rfl, rfl, rfl, trivial⟩ (by decide) ?_; refine L.nm (by kernel_rfl) ?_
  rotate_left
  refine L.alloc rfl rfl rfl (fun A10 => ?_)
  refine L.nm (by kernel_rfl) ?_; refine LM.f 6 rfl (by kernel_rfl) (Hq [4, 5, 6, 7, 8, 9, 10] rfl) ?_; refine L.call (js := []) (js' := [0, 1, 2]) (made_c r2) rfl rfl rfl (by decide) trivial rfl ?_
  rintro _ _ _ ⟨rfl, rfl, rfl⟩
  refine L.norm (H' := [_, _, _]) [0, 1, 2] ⟨rfl, rfl, rfl, trivial⟩ (by decide) ?_; refine L.nm (by kernel_rfl) ?_
  rotate_left
  refine L.alloc rfl rfl rfl (fun A10 => ?_)
  refine L.nm (by kernel_rfl) ?_; refine LM.f 3 rfl (by kernel_rfl) (Hq [4, 5, 6, 7, 8, 9, 10] rfl) ?_; refine L.call (js := []) (js' := [0, 1, 2]) (layout_c z p qq r) rfl rfl rfl (by decide) trivial rfl ?_
  rintro _ _ _ ⟨rfl, rfl, rfl⟩
  refine L.nm (by kernel_rfl) ?_; refine LM.f 6 rfl (by kernel_rfl) (Hq [4, 5, 6, 7, 8, 9, 10] rfl) ?_; refine L.call (js := []) (js' := [0, 1, 2]) (made_c r2) rfl rfl rfl (by decide) trivial rfl ?_
  rintro _ _ _ ⟨rfl, rfl, rfl⟩
  refine L.norm (H' := [_, _, _]) [0, 1, 2] ⟨rfl, rfl, rfl, trivial⟩ (by decide) ?_; refine L.nm (by kernel_rfl) ?_
  rotate_left
  refine L.alloc rfl rfl rfl (fun A10 => ?_)
  refine L.nm (by kernel_rfl) ?_; refine LM.f 1 rfl (by kernel_rfl) (Hq [0, 1, 2, 3, 4, 5, 6] rfl) ?_; refine L.callR (js := []) (js' := [0, 1, 2]) (flash_c z p qq r) rfl rfl rfl (by decide) trivial rfl ?_
  rintro _ _ _ ⟨a, hb, hc, rfl, rfl, rfl⟩
  refine L.nm (by kernel_rfl) ?_; refine LM.f 3 rfl (by kernel_rfl) (Hq [4, 5, 6, 7, 8, 9, 10] rfl) ?_; refine L.call (js := []) (js' := [0, 1, 2]) (layout_c z p qq r) rfl rfl rfl (by decide) trivial rfl ?_
  rintro _ _ _ ⟨rfl, rfl, rfl⟩
  refine L.nm (by kernel_rfl) ?_; refine LM.f 6 rfl (by kernel_rfl) (Hq [4, 5, 6, 7, 8, 9, 10] rfl) ?_; refine L.call (js := []) (js' := [0, 1, 2]) (made_c r2) rfl rfl rfl (by decide) trivial rfl ?_
  rintro _ _ _ ⟨rfl, rfl, rfl⟩
  refine L.norm (H' := [_, _, _]) [0, 1, 2] ⟨rfl, rfl, rfl, trivial⟩ (by decide) ?_; refine L.nm (by kernel_rfl) ?_
  rotate_left
  refine L.alloc rfl rfl rfl (fun A10 => ?_)
  refine L.nm (by kernel_rfl) ?_; refine LM.a2 1 8 (by kernel_rfl) (Hq [0, 1, 2, 3, 4, 5, 6] rfl) rfl rfl ?_ ?_; refine L.callR (js := []) (js' := [0, 1]) (flash_c z p qq r) rfl rfl rfl (by decide) trivial rfl ?_
  rintro _ _ _ ⟨a, hb, hc, rfl, rfl, rfl⟩
  refine L.nm (by kernel_rfl) ?_; refine LM.a2 3 8 (by kernel_rfl) (Hq [4, 5, 6, 7, 8, 9, 10] rfl) rfl rfl ?_ ?_; refine L.call (js := []) (js' := [0, 1]) (layout_c z p qq r) rfl rfl rfl (by decide) trivial rfl ?_
  rintro _ _ _ ⟨rfl, rfl, rfl⟩
  refine L.nm (by kernel_rfl) ?_; refine LM.a2 6 8 (by kernel_rfl) (Hq [4, 5, 6, 7, 8, 9, 10] rfl) rfl rfl ?_ ?_; refine L.call (js := []) (js' := [0, 1]) (made_c r2) rfl rfl rfl (by decide) trivial rfl ?_
  rintro _ _ _ ⟨rfl, rfl, rfl⟩
  refine L.nm (by kernel_rfl) ?_; refine LM.f 8 rfl (by kernel_rfl) (Hq [4, 5, 6, 7, 8, 9, 10] rfl) ?_
  refine L.alloc rfl rfl rfl (fun A9 => ?_)
  refine L.norm (H' := [_, _, _]) [0, 2, 1] ⟨rfl, rfl, rfl, trivial⟩ (by decide) ?_; refine L.nm (by kernel_rfl) ?_
  rotate_left
  refine L.alloc rfl rfl rfl (fun A9 => ?_)
  refine L.nm (by kernel_rfl) ?_; refine LM.f 6 rfl (by kernel_rfl) (Hq [4, 5, 6, 7, 8, 9, 10] rfl) ?_; refine L.call (js := []) (js' := [0, 1, 2]) (made_c r2) rfl rfl rfl (by decide) trivial rfl ?_
  rintro _ _ _ ⟨rfl, rfl, rfl⟩
  refine L.norm (H' := [_, _, _]) [0, 2, 1] ⟨rfl, rfl, rfl, trivial⟩ (by decide) ?_; refine L.nm (by kernel_rfl) ?_
  rotate_left
  refine L.alloc rfl rfl rfl (fun A9 => ?_)
  refine L.nm (by kernel_rfl) ?_; refine LM.f 3 rfl (by kernel_rfl) (Hq [4, 5, 6, 7, 8, 9, 10] rfl) ?_; refine L.call (js := []) (js' := [0, 1, 2]) (layout_c z p qq r) rfl rfl rfl (by decide) trivial rfl ?_
  rintro _ _ _ ⟨rfl, rfl, rfl⟩
  refine L.nm (by kernel_rfl) ?_; refine LM.f 6 rfl (by kernel_rfl) (Hq [4, 5, 6, 7, 8, 9, 10] rfl) ?_; refine L.call (js := []) (js' := [0, 1, 2]) (made_c r2) rfl rfl rfl (by decide) trivial rfl ?_
  rintro _ _ _ ⟨rfl, rfl, rfl⟩
  refine L.norm (H' := [_, _, _]) [0, 2, 1] ⟨rfl, rfl, rfl, trivial⟩ (by decide) ?_; refine L.nm (by kernel_rfl) ?_
  rotate_left
  refine L.alloc rfl rfl rfl (fun A9 => ?_)
  refine L.nm (by kernel_rfl) ?_; refine LM.f 1 rfl (by kernel_rfl) (Hq [0, 1, 2, 3, 4, 5, 6] rfl) ?_; refine L.callR (js := []) (js' := [0, 1, 2]) (flash_c z p qq r) rfl rfl rfl (by decide) trivial rfl ?_
  rintro _ _ _ ⟨a, hb, hc, rfl, rfl, rfl⟩
  refine L.nm (by kernel_rfl) ?_; refine LM.f 3 rfl (by kernel_rfl) (Hq [4, 5, 6, 7, 8, 9, 10] rfl) ?_; refine L.call (js := []) (js' := [0, 1, 2]) (layout_c z p qq r) rfl rfl rfl (by decide) trivial rfl ?_
  rintro _ _ _ ⟨rfl, rfl, rfl⟩
  refine L.nm (by kernel_rfl) ?_; refine LM.f 6 rfl (by kernel_rfl) (Hq [4, 5, 6, 7, 8, 9, 10] rfl) ?_; refine L.call (js := []) (js' := [0, 1, 2]) (made_c r2) rfl rfl rfl (by decide) trivial rfl ?_
  rintro _ _ _ ⟨rfl, rfl, rfl⟩
  refine L.norm (H' := [_, _, _]) [0, 2, 1] ⟨rfl, rfl, rfl, trivial⟩ (by decide) ?_; refine L.nm (by kernel_rfl) ?_
  rotate_left
  refine L.alloc rfl rfl rfl (fun A9 => ?_)
  refine L.nm (by kernel_rfl) ?_; refine LM.a3 1 7 9 (by kernel_rfl) (Hq [0, 1, 2, 3, 4, 5, 6] rfl) rfl rfl rfl ?_ ?_ ?_; refine L.callR (js := []) (js' := [0]) (flash_c z p qq r) rfl rfl rfl (by decide) trivial rfl ?_
  rintro _ _ _ ⟨a, hb, hc, rfl, rfl, rfl⟩
  refine L.nm (by kernel_rfl) ?_; refine LM.a3 3 7 9 (by kernel_rfl) (Hq [4, 5, 6, 7, 8, 9, 10] rfl) rfl rfl rfl ?_ ?_ ?_; refine L.call (js := []) (js' := [0]) (layout_c z p qq r) rfl rfl rfl (by decide) trivial rfl ?_
  rintro _ _ _ ⟨rfl, rfl, rfl⟩
  refine L.nm (by kernel_rfl) ?_; refine LM.a3 6 7 9 (by kernel_rfl) (Hq [4, 5, 6, 7, 8, 9, 10] rfl) rfl rfl rfl ?_ ?_ ?_; refine L.call (js := []) (js' := [0]) (made_c r2) rfl rfl rfl (by decide) trivial rfl ?_
  rintro _ _ _ ⟨rfl, rfl, rfl⟩
  refine L.nm (by kernel_rfl) ?_; refine LM.a2 7 9 (by kernel_rfl) (Hq [4, 5, 6, 7, 8, 9, 10] rfl) rfl rfl ?_ ?_
  refine L.alloc rfl rfl rfl (fun A8 => ?_)
  refine L.nm (by kernel_rfl) ?_; refine LM.f 9 rfl (by kernel_rfl) (Hq [4, 5, 6, 7, 8, 9, 10] rfl) ?_
  refine L.alloc rfl rfl rfl (fun A10 => ?_)
  refine L.norm (H' := [_, _, _]) [1, 0, 2] ⟨rfl, rfl, rfl, trivial⟩ (by decide) ?_; refine L.nm (by kernel_rfl) ?_
  rotate_left
  refine L.alloc rfl rfl rfl (fun A10 => ?_)
  refine L.nm (by kernel_rfl) ?_; refine LM.f 7 rfl (by kernel_rfl) (Hq [4, 5, 6, 7, 8, 9, 10] rfl) ?_
  refine L.alloc rfl rfl rfl (fun A8 => ?_)
  refine L.norm (H' := [_, _, _]) [2, 0, 1] ⟨rfl, rfl, rfl, trivial⟩ (by decide) ?_; refine L.nm (by kernel_rfl) ?_
  rotate_left
  refine L.alloc rfl rfl rfl (fun A8 => ?_)
  refine L.nm (by kernel_rfl) ?_; refine LM.a2 6 9 (by kernel_rfl) (Hq [4, 5, 6, 7, 8, 9, 10] rfl) rfl rfl ?_ ?_; refine L.call (js := []) (js' := [0, 1]) (made_c r2) rfl rfl rfl (by decide) trivial rfl ?_
  rintro _ _ _ ⟨rfl, rfl, rfl⟩
  refine L.nm (by kernel_rfl) ?_; refine LM.f 9 rfl (by kernel_rfl) (Hq [4, 5, 6, 7, 8, 9, 10] rfl) ?_
  refine L.alloc rfl rfl rfl (fun A10 => ?_)
  refine L.norm (H' := [_, _, _]) [1, 0, 2] ⟨rfl, rfl, rfl, trivial⟩ (by decide) ?_; refine L.nm (by kernel_rfl) ?_
  rotate_left
  refine L.alloc rfl rfl rfl (fun A10 => ?_)
  refine L.nm (by kernel_rfl) ?_; refine LM.f 6 rfl (by kernel_rfl) (Hq [4, 5, 6, 7, 8, 9, 10] rfl) ?_; refine L.call (js := []) (js' := [0, 1, 2]) (made_c r2) rfl rfl rfl (by decide) trivial rfl ?_
  rintro _ _ _ ⟨rfl, rfl, rfl⟩
  refine L.norm (H' := [_, _, _]) [1, 0, 2] ⟨rfl, rfl, rfl, trivial⟩ (by decide) ?_; refine L.nm (by kernel_rfl) ?_
  rotate_left
  refine L.alloc rfl rfl rfl (fun A10 => ?_)
  refine L.nm (by kernel_rfl) ?_; refine LM.a2 6 7 (by kernel_rfl) (Hq [4, 5, 6, 7, 8, 9, 10] rfl) rfl rfl ?_ ?_; refine L.call (js := []) (js' := [0, 1]) (made_c r2) rfl rfl rfl (by decide) trivial rfl ?_
  rintro _ _ _ ⟨rfl, rfl, rfl⟩
  refine L.nm (by kernel_rfl) ?_; refine LM.f 7 rfl (by kernel_rfl) (Hq [4, 5, 6, 7, 8, 9, 10] rfl) ?_
  refine L.alloc rfl rfl rfl (fun A8 => ?_)
  refine L.norm (H' := [_, _, _]) [2, 0, 1] ⟨rfl, rfl, rfl, trivial⟩ (by decide) ?_; refine L.nm (by kernel_rfl) ?_
  rotate_left
  refine L.alloc rfl rfl rfl (fun A8 => ?_)
  refine L.nm (by kernel_rfl) ?_; refine LM.f 6 rfl (by kernel_rfl) (Hq [4, 5, 6, 7, 8, 9, 10] rfl) ?_; refine L.call (js := []) (js' := [0, 1, 2]) (made_c r2) rfl rfl rfl (by decide) trivial rfl ?_
  rintro _ _ _ ⟨rfl, rfl, rfl⟩
  refine L.norm (H' := [_, _, _]) [2, 0, 1] ⟨rfl, rfl, rfl, trivial⟩ (by decide) ?_; refine L.nm (by kernel_rfl) ?_
  rotate_left
  refine L.alloc rfl rfl rfl (fun A8 => ?_)
  refine L.nm (by kernel_rfl) ?_; refine LM.a2 3 9 (by kernel_rfl) (Hq [4, 5, 6, 7, 8, 9, 10] rfl) rfl rfl ?_ ?_; refine L.call (js := []) (js' := [0, 1]) (layout_c z p qq r) rfl rfl rfl (by decide) trivial rfl ?_
  rintro _ _ _ ⟨rfl, rfl, rfl⟩
  refine L.nm (by kernel_rfl) ?_; refine LM.a2 6 9 (by kernel_rfl) (Hq [4, 5, 6, 7, 8, 9, 10] rfl) rfl rfl ?_ ?_; refine L.call (js := []) (js' := [0, 1]) (made_c r2) rfl rfl rfl (by decide) trivial rfl ?_
  rintro _ _ _ ⟨rfl, rfl, rfl⟩
  refine L.nm (by kernel_rfl) ?_; refine LM.f 9 rfl (by kernel_rfl) (Hq [4, 5, 6, 7, 8, 9, 10] rfl) ?_
  refine L.alloc rfl rfl rfl (fun A10 => ?_)
  refine L.norm (H' := [_, _, _]) [1, 0, 2] ⟨rfl, rfl, rfl, trivial⟩ (by decide) ?_; refine L.nm (by kernel_rfl) ?_
  rotate_left
  refine L.alloc rfl rfl rfl (fun A10 => ?_)
  refine L.nm (by kernel_rfl) ?_; refine LM.f 6 rfl (by kernel_rfl) (Hq [4, 5, 6, 7, 8, 9, 10] rfl) ?_; refine L.call (js := []) (js' := [0, 1, 2]) (made_c r2) rfl rfl rfl (by decide) trivial rfl ?_
  rintro _ _ _ ⟨rfl, rfl, rfl⟩
  refine L.norm (H' := [_, _, _]) [1, 0, 2] ⟨rfl, rfl, rfl, trivial⟩ (by decide) ?_; refine L.nm (by kernel_rfl) ?_
  rotate_left
  refine L.alloc rfl rfl rfl (fun A10 => ?_)
  refine L.nm (by kernel_rfl) ?_; refine LM.f 3 rfl (by kernel_rfl) (Hq [4, 5, 6, 7, 8, 9, 10] rfl) ?_; refine L.call (js := []) (js' := [0, 1, 2]) (layout_c z p qq r) rfl rfl rfl (by decide) trivial rfl ?_
  rintro _ _ _ ⟨rfl, rfl, rfl⟩
  refine L.nm (by kernel_rfl) ?_; refine LM.f 6 rfl (by kernel_rfl) (Hq [4, 5, 6, 7, 8, 9, 10] rfl) ?_; refine L.call (js := []) (js' := [0, 1, 2]) (made_c r2) rfl rfl rfl (by decide) trivial rfl ?_
  rintro _ _ _ ⟨rfl, rfl, rfl⟩
  refine L.norm (H' := [_, _, _]) [1, 0, 2] ⟨rfl, rfl, rfl, trivial⟩ (by decide) ?_; refine L.nm (by kernel_rfl) ?_
  rotate_left
  refine L.alloc rfl rfl rfl (fun A10 => ?_)
  refine L.nm (by kernel_rfl) ?_; refine LM.a2 3 7 (by kernel_rfl) (Hq [4, 5, 6, 7, 8, 9, 10] rfl) rfl rfl ?_ ?_; refine L.call (js := []) (js' := [0, 1]) (layout_c z p qq r) rfl rfl rfl (by decide) trivial rfl ?_
  rintro _ _ _ ⟨rfl, rfl, rfl⟩
  refine L.nm (by kernel_rfl) ?_; refine LM.a2 6 7 (by kernel_rfl) (Hq [4, 5, 6, 7, 8, 9, 10] rfl) rfl rfl ?_ ?_; refine L.call (js := []) (js' := [0, 1]) (made_c r2) rfl rfl rfl (by decide) trivial rfl ?_
  rintro _ _ _ ⟨rfl, rfl, rfl⟩
  refine L.nm (by kernel_rfl) ?_; refine LM.f 7 rfl (by kernel_rfl) (Hq [4, 5, 6, 7, 8, 9, 10] rfl) ?_
  refine L.alloc rfl rfl rfl (fun A8 => ?_)
  refine L.norm (H' := [_, _, _]) [2, 0, 1] ⟨rfl, rfl, rfl, trivial⟩ (by decide) ?_; refine L.nm (by kernel_rfl) ?_
  rotate_left
  refine L.alloc rfl rfl rfl (fun A8 => ?_)
  refine L.nm (by kernel_rfl) ?_; refine LM.f 6 rfl (by kernel_rfl) (Hq [4, 5, 6, 7, 8, 9, 10] rfl) ?_; refine L.call (js := []) (js' := [0, 1, 2]) (made_c r2) rfl rfl rfl (by decide) trivial rfl ?_
  rintro _ _ _ ⟨rfl, rfl, rfl⟩
  refine L.norm (H' := [_, _, _]) [2, 0, 1] ⟨rfl, rfl, rfl, trivial⟩ (by decide) ?_; refine L.nm (by kernel_rfl) ?_
  rotate_left
  refine L.alloc rfl rfl rfl (fun A8 => ?_)
  refine L.nm (by kernel_rfl) ?_; refine LM.f 3 rfl (by kernel_rfl) (Hq [4, 5, 6, 7, 8, 9, 10] rfl) ?_; refine L.call (js := []) (js' := [0, 1, 2]) (layout_c z p qq r) rfl rfl rfl (by decide) trivial rfl ?_
  rintro _ _ _ ⟨rfl, rfl, rfl⟩
  refine L.nm (by kernel_rfl) ?_; refine LM.f 6 rfl (by kernel_rfl) (Hq [4, 5, 6, 7, 8, 9, 10] rfl) ?_; refine L.call (js := []) (js' := [0, 1, 2]) (made_c r2) rfl rfl rfl (by decide) trivial rfl ?_
  rintro _ _ _ ⟨rfl, rfl, rfl⟩
  refine L.norm (H' := [_, _, _]) [2, 0, 1] ⟨rfl, rfl, rfl, trivial⟩ (by decide) ?_; refine L.nm (by kernel_rfl) ?_
  rotate_left
  refine L.alloc rfl rfl rfl (fun A8 => ?_)
  refine L.nm (by kernel_rfl) ?_; refine LM.a2 1 9 (by kernel_rfl) (Hq [0, 1, 2, 3, 4, 5, 6] rfl) rfl rfl ?_ ?_; refine L.callR (js := []) (js' := [0, 1]) (flash_c z p qq r) rfl rfl rfl (by decide) trivial rfl ?_
  rintro _ _ _ ⟨a, hb, hc, rfl, rfl, rfl⟩
  refine L.nm (by kernel_rfl) ?_; refine LM.a2 3 9 (by kernel_rfl) (Hq [4, 5, 6, 7, 8, 9, 10] rfl) rfl rfl ?_ ?_; refine L.call (js := []) (js' := [0, 1]) (layout_c z p qq r) rfl rfl rfl (by decide) trivial rfl ?_
  rintro _ _ _ ⟨rfl, rfl, rfl⟩
  refine L.nm (by kernel_rfl) ?_; refine LM.a2 6 9 (by kernel_rfl) (Hq [4, 5, 6, 7, 8, 9, 10] rfl) rfl rfl ?_ ?_; refine L.call (js := []) (js' := [0, 1]) (made_c r2) rfl rfl rfl (by decide) trivial rfl ?_
  rintro _ _ _ ⟨rfl, rfl, rfl⟩
  refine L.nm (by kernel_rfl) ?_; refine LM.f 9 rfl (by kernel_rfl) (Hq [4, 5, 6, 7, 8, 9, 10] rfl) ?_
  refine L.alloc rfl rfl rfl (fun A10 => ?_)
  refine L.norm (H' := [_, _, _]) [1, 0, 2] ⟨rfl, rfl, rfl, trivial⟩ (by decide) ?_; refine L.nm (by kernel_rfl) ?_
  rotate_left
  refine L.alloc rfl rfl rfl (fun A10 => ?_)
  refine L.nm (by kernel_rfl) ?_; refine LM.f 6 rfl (by kernel_rfl) (Hq [4, 5, 6, 7, 8, 9, 10] rfl) ?_; refine L.call (js := []) (js' := [0, 1, 2]) (made_c r2) rfl rfl rfl (by decide) trivial rfl ?_
  rintro _ _ _ ⟨rfl, rfl, rfl⟩
  refine L.norm (H' := [_, _, _]) [1, 0, 2] ⟨rfl, rfl, rfl, trivial⟩ (by decide) ?_; refine L.nm (by kernel_rfl) ?_
  rotate_left
  refine L.alloc rfl rfl rfl (fun A10 => ?_)
  refine L.nm (by kernel_rfl) ?_; refine LM.f 3 rfl (by kernel_rfl) (Hq [4, 5, 6, 7, 8, 9, 10] rfl) ?_; refine L.call (js := []) (js' := [0, 1, 2]) (layout_c z p qq r) rfl rfl rfl (by decide) trivial rfl ?_
  rintro _ _ _ ⟨rfl, rfl, rfl⟩
  refine L.nm (by kernel_rfl) ?_; refine LM.f 6 rfl (by kernel_rfl) (Hq [4, 5, 6, 7, 8, 9, 10] rfl) ?_; refine L.call (js := []) (js' := [0, 1, 2]) (made_c r2) rfl rfl rfl (by decide) trivial rfl ?_
  rintro _ _ _ ⟨rfl, rfl, rfl⟩
  refine L.norm (H' := [_, _, _]) [1, 0, 2] ⟨rfl, rfl, rfl, trivial⟩ (by decide) ?_; refine L.nm (by kernel_rfl) ?_
  rotate_left
  refine L.alloc rfl rfl rfl (fun A10 => ?_)
  refine L.nm (by kernel_rfl) ?_; refine LM.f 1 rfl (by kernel_rfl) (Hq [0, 1, 2, 3, 4, 5, 6] rfl) ?_; refine L.callR (js := []) (js' := [0, 1, 2]) (flash_c z p qq r) rfl rfl rfl (by decide) trivial rfl ?_
  rintro _ _ _ ⟨a, hb, hc, rfl, rfl, rfl⟩
  refine L.nm (by kernel_rfl) ?_; refine LM.f 3 rfl (by kernel_rfl) (Hq [4, 5, 6, 7, 8, 9, 10] rfl) ?_; refine L.call (js := []) (js' := [0, 1, 2]) (layout_c z p qq r) rfl rfl rfl (by decide) trivial rfl ?_
  rintro _ _ _ ⟨rfl, rfl, rfl⟩
  refine L.nm (by kernel_rfl) ?_; refine LM.f 6 rfl (by kernel_rfl) (Hq [4, 5, 6, 7, 8, 9, 10] rfl) ?_; refine L.call (js := []) (js' := [0, 1, 2]) (made_c r2) rfl rfl rfl (by decide) trivial rfl ?_
  rintro _ _ _ ⟨rfl, rfl, rfl⟩
  refine L.norm (H' := [_, _, _]) [1, 0, 2] ⟨rfl, rfl, rfl, trivial⟩ (by decide) ?_; refine L.nm (by kernel_rfl) ?_
  rotate_left
  refine L.alloc rfl rfl rfl (fun A10 => ?_)
  refine L.nm (by kernel_rfl) ?_; refine LM.a2 1 7 (by kernel_rfl) (Hq [0, 1, 2, 3, 4, 5, 6] rfl) rfl rfl ?_ ?_; refine L.callR (js := []) (js' := [0, 1]) (flash_c z p qq r) rfl rfl rfl (by decide) trivial rfl ?_
  rintro _ _ _ ⟨a, hb, hc, rfl, rfl, rfl⟩
  refine L.nm (by kernel_rfl) ?_; refine LM.a2 3 7 (by kernel_rfl) (Hq [4, 5, 6, 7, 8, 9, 10] rfl) rfl rfl ?_ ?_; refine L.call (js := []) (js' := [0, 1]) (layout_c z p qq r) rfl rfl rfl (by decide) trivial rfl ?_
  rintro _ _ _ ⟨rfl, rfl, rfl⟩
  refine L.nm (by kernel_rfl) ?_; refine LM.a2 6 7 (by kernel_rfl) (Hq [4, 5, 6, 7, 8, 9, 10] rfl) rfl rfl ?_ ?_; refine L.call (js := []) (js' := [0, 1]) (made_c r2) rfl rfl rfl (by decide) trivial rfl ?_
  rintro _ _ _ ⟨rfl, rfl, rfl⟩
  refine L.nm (by kernel_rfl) ?_; refine LM.f 7 rfl (by kernel_rfl) (Hq [4, 5, 6, 7, 8, 9, 10] rfl) ?_
  refine L.alloc rfl rfl rfl (fun A8 => ?_)
  refine L.norm (H' := [_, _, _]) [2, 0, 1] ⟨rfl, rfl, rfl, trivial⟩ (by decide) ?_; refine L.nm (by kernel_rfl) ?_
  rotate_left
  refine L.alloc rfl rfl rfl (fun A8 => ?_)
  refine L.nm (by kernel_rfl) ?_; refine LM.f 6 rfl (by kernel_rfl) (Hq [4, 5, 6, 7, 8, 9, 10] rfl) ?_; refine L.call (js := []) (js' := [0, 1, 2]) (made_c r2) rfl rfl rfl (by decide) trivial rfl ?_
  rintro _ _ _ ⟨rfl, rfl, rfl⟩
  refine L.norm (H' := [_, _, _]) [2, 0, 1] ⟨rfl, rfl, rfl, trivial⟩ (by decide) ?_; refine L.nm (by kernel_rfl) ?_
  rotate_left
  refine L.alloc rfl rfl rfl (fun A8 => ?_)
  refine L.nm (by kernel_rfl) ?_; refine LM.f 3 rfl (by kernel_rfl) (Hq [4, 5, 6, 7, 8, 9, 10] rfl) ?_; refine L.call (js := []) (js' := [0, 1, 2]) (layout_c z p qq r) rfl rfl rfl (by decide) trivial rfl ?_
  rintro _ _ _ ⟨rfl, rfl, rfl⟩
  refine L.nm (by kernel_rfl) ?_; refine LM.f 6 rfl (by kernel_rfl) (Hq [4, 5, 6, 7, 8, 9, 10] rfl) ?_; refine L.call (js := []) (js' := [0, 1, 2]) (made_c r2) rfl rfl rfl (by decide) trivial rfl ?_
  rintro _ _ _ ⟨rfl, rfl, rfl⟩
  refine L.norm (H' := [_, _, _]) [2, 0, 1] ⟨rfl, rfl, rfl, trivial⟩ (by decide) ?_; refine L.nm (by kernel_rfl) ?_
  rotate_left
  refine L.alloc rfl rfl rfl (fun A8 => ?_)
  refine L.nm (by kernel_rfl) ?_; refine LM.f 1 rfl (by kernel_rfl) (Hq [0, 1, 2, 3, 4, 5, 6] rfl) ?_; refine L.callR (js := []) (js' := [0, 1, 2]) (flash_c z p qq r) rfl rfl rfl (by decide) trivial rfl ?_
  rintro _ _ _ ⟨a, hb, hc, rfl, rfl, rfl⟩
  refine L.nm (by kernel_rfl) ?_; refine LM.f 3 rfl (by kernel_rfl) (Hq [4, 5, 6, 7, 8, 9, 10] rfl) ?_; refine L.call (js := []) (js' := [0, 1, 2]) (layout_c z p qq r) rfl rfl rfl (by decide) trivial rfl ?_
  rintro _ _ _ ⟨rfl, rfl, rfl⟩
  refine L.nm (by kernel_rfl) ?_; refine LM.f 6 rfl (by kernel_rfl) (Hq [4, 5, 6, 7, 8, 9, 10] rfl) ?_; refine L.call (js := []) (js' := [0, 1, 2]) (made_c r2) rfl rfl rfl (by decide) trivial rfl ?_
  rintro _ _ _ ⟨rfl, rfl, rfl⟩
  refine L.norm (H' := [_, _, _]) [2, 0, 1] ⟨rfl, rfl, rfl, trivial⟩ (by decide) ?_; refine L.nm (by kernel_rfl) ?_
  rotate_left
  refine L.alloc rfl rfl rfl (fun A10 => ?_)
  refine L.nm (by kernel_rfl) ?_; refine LM.a3 1 7 8 (by kernel_rfl) (Hq [0, 1, 2, 3, 4, 5, 6] rfl) rfl rfl rfl ?_ ?_ ?_; refine L.callR (js := []) (js' := [0]) (flash_c z p qq r) rfl rfl rfl (by decide) trivial rfl ?_
  rintro _ _ _ ⟨a, hb, hc, rfl, rfl, rfl⟩
  refine L.nm (by kernel_rfl) ?_; refine LM.a3 3 7 8 (by kernel_rfl) (Hq [4, 5, 6, 7, 8, 9, 10] rfl) rfl rfl rfl ?_ ?_ ?_; refine L.call (js := []) (js' := [0]) (layout_c z p qq r) rfl rfl rfl (by decide) trivial rfl ?_
  rintro _ _ _ ⟨rfl, rfl, rfl⟩
  refine L.nm (by kernel_rfl) ?_; refine LM.a3 6 7 8 (by kernel_rfl) (Hq [4, 5, 6, 7, 8, 9, 10] rfl) rfl rfl rfl ?_ ?_ ?_; refine L.call (js := []) (js' := [0]) (made_c r2) rfl rfl rfl (by decide) trivial rfl ?_
  rintro _ _ _ ⟨rfl, rfl, rfl⟩
  refine L.nm (by kernel_rfl) ?_; refine LM.a2 7 8 (by kernel_rfl) (Hq [4, 5, 6, 7, 8, 9, 10] rfl) rfl rfl ?_ ?_
  refine L.alloc rfl rfl rfl (fun A8 => ?_)
  refine L.nm (by kernel_rfl) ?_; refine LM.f 8 rfl (by kernel_rfl) (Hq [4, 5, 6, 7, 8, 9, 10] rfl) ?_
  refine L.alloc rfl rfl rfl (fun A9 => ?_)
  refine L.norm (H' := [_, _, _]) [1, 2, 0] ⟨rfl, rfl, rfl, trivial⟩ (by decide) ?_; refine L.nm (by kernel_rfl) ?_
  rotate_left
  refine L.alloc rfl rfl rfl (fun A9 => ?_)
  refine L.nm (by kernel_rfl) ?_; refine LM.f 7 rfl (by kernel_rfl) (Hq [4, 5, 6, 7, 8, 9, 10] rfl) ?_
  refine L.alloc rfl rfl rfl (fun A8 => ?_)
  refine L.norm (H' := [_, _, _]) [2, 1, 0] ⟨rfl, rfl, rfl, trivial⟩ (by decide) ?_; refine L.nm (by kernel_rfl) ?_
  rotate_left
  refine L.alloc rfl rfl rfl (fun A8 => ?_)
  refine L.nm (by kernel_rfl) ?_; refine LM.a2 6 8 (by kernel_rfl) (Hq [4, 5, 6, 7, 8, 9, 10] rfl) rfl rfl ?_ ?_; refine L.call (js := []) (js' := [0, 1]) (made_c r2) rfl rfl rfl (by decide) trivial rfl ?_
  rintro _ _ _ ⟨rfl, rfl, rfl⟩
  refine L.nm (by kernel_rfl) ?_; refine LM.f 8 rfl (by kernel_rfl) (Hq [4, 5, 6, 7, 8, 9, 10] rfl) ?_
  refine L.alloc rfl rfl rfl (fun A9 => ?_)
  refine L.norm (H' := [_, _, _]) [1, 2, 0] ⟨rfl, rfl, rfl, trivial⟩ (by decide) ?_; refine L.nm (by kernel_rfl) ?_
  rotate_left
  refine L.alloc rfl rfl rfl (fun A9 => ?_)
  refine L.nm (by kernel_rfl) ?_; refine LM.f 6 rfl (by kernel_rfl) (Hq [4, 5, 6, 7, 8, 9, 10] rfl) ?_; refine L.call (js := []) (js' := [0, 1, 2]) (made_c r2) rfl rfl rfl (by decide) trivial rfl ?_
  rintro _ _ _ ⟨rfl, rfl, rfl⟩
  refine L.norm (H' := [_, _, _]) [1, 2, 0] ⟨rfl, rfl, rfl, trivial⟩ (by decide) ?_; refine L.nm (by kernel_rfl) ?_
  rotate_left
  refine L.alloc rfl rfl rfl (fun A9 => ?_)
  refine L.nm (by kernel_rfl) ?_; refine LM.a2 6 7 (by kernel_rfl) (Hq [4, 5, 6, 7, 8, 9, 10] rfl) rfl rfl ?_ ?_; refine L.call (js := []) (js' := [0, 1]) (made_c r2) rfl rfl rfl (by decide) trivial rfl ?_
  rintro _ _ _ ⟨rfl, rfl, rfl⟩
  refine L.nm (by kernel_rfl) ?_; refine LM.f 7 rfl (by kernel_rfl) (Hq [4, 5, 6, 7, 8, 9, 10] rfl) ?_
  refine L.alloc rfl rfl rfl (fun A8 => ?_)
  refine L.norm (H' := [_, _, _]) [2, 1, 0] ⟨rfl, rfl, rfl, trivial⟩ (by decide) ?_; refine L.nm (by kernel_rfl) ?_
  rotate_left
  refine L.alloc rfl rfl rfl (fun A8 => ?_)
  refine L.nm (by kernel_rfl) ?_; refine LM.f 6 rfl (by kernel_rfl) (Hq [4, 5, 6, 7, 8, 9, 10] rfl) ?_; refine L.call (js := []) (js' := [0, 1, 2]) (made_c r2) rfl rfl rfl (by decide) trivial rfl ?_
  rintro _ _ _ ⟨rfl, rfl, rfl⟩
  refine L.norm (H' := [_, _, _]) [2, 1, 0] ⟨rfl, rfl, rfl, trivial⟩ (by decide) ?_; refine L.nm (by kernel_rfl) ?_
  rotate_left
  refine L.alloc rfl rfl rfl (fun A8 => ?_)
  refine L.nm (by kernel_rfl) ?_; refine LM.a2 3 8 (by kernel_rfl) (Hq [4, 5, 6, 7, 8, 9, 10] rfl) rfl rfl ?_ ?_; refine L.call (js := []) (js' := [0, 1]) (layout_c z p qq r) rfl rfl rfl (by decide) trivial rfl ?_
  rintro _ _ _ ⟨rfl, rfl, rfl⟩
  refine L.nm (by kernel_rfl) ?_; refine LM.a2 6 8 (by kernel_rfl) (Hq [4, 5, 6, 7, 8, 9, 10] rfl) rfl rfl ?_ ?_; refine L.call (js := []) (js' := [0, 1]) (made_c r2) rfl rfl rfl (by decide) trivial rfl ?_
  rintro _ _ _ ⟨rfl, rfl, rfl⟩
  refine L.nm (by kernel_rfl) ?_; refine LM.f 8 rfl (by kernel_rfl) (Hq [4, 5, 6, 7, 8, 9, 10] rfl) ?_
  refine L.alloc rfl rfl rfl (fun A9 => ?_)
  refine L.norm (H' := [_, _, _]) [1, 2, 0] ⟨rfl, rfl, rfl, trivial⟩ (by decide) ?_; refine L.nm (by kernel_rfl) ?_
  rotate_left
  refine L.alloc rfl rfl rfl (fun A9 => ?_)
  refine L.nm (by kernel_rfl) ?_; refine LM.f 6 rfl (by kernel_rfl) (Hq [4, 5, 6, 7, 8, 9, 10] rfl) ?_; refine L.call (js := []) (js' := [0, 1, 2]) (made_c r2) rfl rfl rfl (by decide) trivial rfl ?_
  rintro _ _ _ ⟨rfl, rfl, rfl⟩
  refine L.norm (H' := [_, _, _]) [1, 2, 0] ⟨rfl, rfl, rfl, trivial⟩ (by decide) ?_; refine L.nm (by kernel_rfl) ?_
  rotate_left
  refine L.alloc rfl rfl rfl (fun A9 => ?_)
  refine L.nm (by kernel_rfl) ?_; refine LM.f 3 rfl (by kernel_rfl) (Hq [4, 5, 6, 7, 8, 9, 10] rfl) ?_; refine L.call (js := []) (js' := [0, 1, 2]) (layout_c z p qq r) rfl rfl rfl (by decide) trivial rfl ?_
  rintro _ _ _ ⟨rfl, rfl, rfl⟩
  refine L.nm (by kernel_rfl) ?_; refine LM.f 6 rfl (by kernel_rfl) (Hq [4, 5, 6, 7, 8, 9, 10] rfl) ?_; refine L.call (js := []) (js' := [0, 1, 2]) (made_c r2) rfl rfl rfl (by decide) trivial rfl ?_
  rintro _ _ _ ⟨rfl, rfl, rfl⟩
  refine L.norm (H' := [_, _, _]) [1, 2, 0] ⟨rfl, rfl, rfl, trivial⟩ (by decide) ?_; refine L.nm (by kernel_rfl) ?_
  rotate_left
  refine L.alloc rfl rfl rfl (fun A9 => ?_)
  refine L.nm (by kernel_rfl) ?_; refine LM.a2 3 7 (by kernel_rfl) (Hq [4, 5, 6, 7, 8, 9, 10] rfl) rfl rfl ?_ ?_; refine L.call (js := []) (js' := [0, 1]) (layout_c z p qq r) rfl rfl rfl (by decide) trivial rfl ?_
  rintro _ _ _ ⟨rfl, rfl, rfl⟩
  refine L.nm (by kernel_rfl) ?_; refine LM.a2 6 7 (by kernel_rfl) (Hq [4, 5, 6, 7, 8, 9, 10] rfl) rfl rfl ?_ ?_; refine L.call (js := []) (js' := [0, 1]) (made_c r2) rfl rfl rfl (by decide) trivial rfl ?_
  rintro _ _ _ ⟨rfl, rfl, rfl⟩
  refine L.nm (by kernel_rfl) ?_; refine LM.f 7 rfl (by kernel_rfl) (Hq [4, 5, 6, 7, 8, 9, 10] rfl) ?_
  refine L.alloc rfl rfl rfl (fun A8 => ?_)
  refine L.norm (H' := [_, _, _]) [2, 1, 0] ⟨rfl, rfl, rfl, trivial⟩ (by decide) ?_; refine L.nm (by kernel_rfl) ?_
  rotate_left
  refine L.alloc rfl rfl rfl (fun A8 => ?_)
  refine L.nm (by kernel_rfl) ?_; refine LM.f 6 rfl (by kernel_rfl) (Hq [4, 5, 6, 7, 8, 9, 10] rfl) ?_; refine L.call (js := []) (js' := [0, 1, 2]) (made_c r2) rfl rfl rfl (by decide) trivial rfl ?_
  rintro _ _ _ ⟨rfl, rfl, rfl⟩
  refine L.norm (H' := [_, _, _]) [2, 1, 0] ⟨rfl, rfl, rfl, trivial⟩ (by decide) ?_; refine L.nm (by kernel_rfl) ?_
  rotate_left
  refine L.alloc rfl rfl rfl (fun A8 => ?_)
  refine L.nm (by kernel_rfl) ?_; refine LM.f 3 rfl (by kernel_rfl) (Hq [4, 5, 6, 7, 8, 9, 10] rfl) ?_; refine L.call (js := []) (js' := [0, 1, 2]) (layout_c z p qq r) rfl rfl rfl (by decide) trivial rfl ?_
  rintro _ _ _ ⟨rfl, rfl, rfl⟩
  refine L.nm (by kernel_rfl) ?_; refine LM.f 6 rfl (by kernel_rfl) (Hq [4, 5, 6, 7, 8, 9, 10] rfl) ?_; refine L.call (js := []) (js' := [0, 1, 2]) (made_c r2) rfl rfl rfl (by decide) trivial rfl ?_
  rintro _ _ _ ⟨rfl, rfl, rfl⟩
  refine L.norm (H' := [_, _, _]) [2, 1, 0] ⟨rfl, rfl, rfl, trivial⟩ (by decide) ?_; refine L.nm (by kernel_rfl) ?_
  rotate_left
  refine L.alloc rfl rfl rfl (fun A8 => ?_)
  refine L.nm (by kernel_rfl) ?_; refine LM.a2 1 8 (by kernel_rfl) (Hq [0, 1, 2, 3, 4, 5, 6] rfl) rfl rfl ?_ ?_; refine L.callR (js := []) (js' := [0, 1]) (flash_c z p qq r) rfl rfl rfl (by decide) trivial rfl ?_
  rintro _ _ _ ⟨a, hb, hc, rfl, rfl, rfl⟩
  refine L.nm (by kernel_rfl) ?_; refine LM.a2 3 8 (by kernel_rfl) (Hq [4, 5, 6, 7, 8, 9, 10] rfl) rfl rfl ?_ ?_; refine L.call (js := []) (js' := [0, 1]) (layout_c z p qq r) rfl rfl rfl (by decide) trivial rfl ?_
  rintro _ _ _ ⟨rfl, rfl, rfl⟩
  refine L.nm (by kernel_rfl) ?_; refine LM.a2 6 8 (by kernel_rfl) (Hq [4, 5, 6, 7, 8, 9, 10] rfl) rfl rfl ?_ ?_; refine L.call (js := []) (js' := [0, 1]) (made_c r2) rfl rfl rfl (by decide) trivial rfl ?_
  rintro _ _ _ ⟨rfl, rfl, rfl⟩
  refine L.nm (by kernel_rfl) ?_; refine LM.f 8 rfl (by kernel_rfl) (Hq [4, 5, 6, 7, 8, 9, 10] rfl) ?_
  refine L.alloc rfl rfl rfl (fun A9 => ?_)
  refine L.norm (H' := [_, _, _]) [1, 2, 0] ⟨rfl, rfl, rfl, trivial⟩ (by decide) ?_; refine L.nm (by kernel_rfl) ?_
  rotate_left
  refine L.alloc rfl rfl rfl (fun A9 => ?_)
  refine L.nm (by kernel_rfl) ?_; refine LM.f 6 rfl (by kernel_rfl) (Hq [4, 5, 6, 7, 8, 9, 10] rfl) ?_; refine L.call (js := []) (js' := [0, 1, 2]) (made_c r2) rfl rfl rfl (by decide) trivial rfl ?_
  rintro _ _ _ ⟨rfl, rfl, rfl⟩
  refine L.norm (H' := [_, _, _]) [1, 2, 0] ⟨rfl, rfl, rfl, trivial⟩ (by decide) ?_; refine L.nm (by kernel_rfl) ?_
  rotate_left
  refine L.alloc rfl rfl rfl (fun A9 => ?_)
  refine L.nm (by kernel_rfl) ?_; refine LM.f 3 rfl (by kernel_rfl) (Hq [4, 5, 6, 7, 8, 9, 10] rfl) ?_; refine L.call (js := []) (js' := [0, 1, 2]) (layout_c z p qq r) rfl rfl rfl (by decide) trivial rfl ?_
  rintro _ _ _ ⟨rfl, rfl, rfl⟩
  refine L.nm (by kernel_rfl) ?_; refine LM.f 6 rfl (by kernel_rfl) (Hq [4, 5, 6, 7, 8, 9, 10] rfl) ?_; refine L.call (js := []) (js' := [0, 1, 2]) (made_c r2) rfl rfl rfl (by decide) trivial rfl ?_
  rintro _ _ _ ⟨rfl, rfl, rfl⟩
  refine L.norm (H' := [_, _, _]) [1, 2, 0] ⟨rfl, rfl, rfl, trivial⟩ (by decide) ?_; refine L.nm (by kernel_rfl) ?_
  rotate_left
  refine L.alloc rfl rfl rfl (fun A9 => ?_)
  refine L.nm (by kernel_rfl) ?_; refine LM.f 1 rfl (by kernel_rfl) (Hq [0, 1, 2, 3, 4, 5, 6] rfl) ?_; refine L.callR (js := []) (js' := [0, 1, 2]) (flash_c z p qq r) rfl rfl rfl (by decide) trivial rfl ?_
  rintro _ _ _ ⟨a, hb, hc, rfl, rfl, rfl⟩
  refine L.nm (by kernel_rfl) ?_; refine LM.f 3 rfl (by kernel_rfl) (Hq [4, 5, 6, 7, 8, 9, 10] rfl) ?_; refine L.call (js := []) (js' := [0, 1, 2]) (layout_c z p qq r) rfl rfl rfl (by decide) trivial rfl ?_
  rintro _ _ _ ⟨rfl, rfl, rfl⟩
  refine L.nm (by kernel_rfl) ?_; refine LM.f 6 rfl (by kernel_rfl) (Hq [4, 5, 6, 7, 8, 9, 10] rfl) ?_; refine L.call (js := []) (js' := [0, 1, 2]) (made_c r2) rfl rfl rfl (by decide) trivial rfl ?_
  rintro _ _ _ ⟨rfl, rfl, rfl⟩
  refine L.norm (H' := [_, _, _]) [1, 2, 0] ⟨rfl, rfl, rfl, trivial⟩ (by decide) ?_; refine L.nm (by kernel_rfl) ?_
  rotate_left
  refine L.alloc rfl rfl rfl (fun A9 => ?_)
  refine L.nm (by kernel_rfl) ?_; refine LM.a2 1 7 (by kernel_rfl) (Hq [0, 1, 2, 3, 4, 5, 6] rfl) rfl rfl ?_ ?_; refine L.callR (js := []) (js' := [0, 1]) (flash_c z p qq r) rfl rfl rfl (by decide) trivial rfl ?_
  rintro _ _ _ ⟨a, hb, hc, rfl, rfl, rfl⟩
  refine L.nm (by kernel_rfl) ?_; refine LM.a2 3 7 (by kernel_rfl) (Hq [4, 5, 6, 7, 8, 9, 10] rfl) rfl rfl ?_ ?_; refine L.call (js := []) (js' := [0, 1]) (layout_c z p qq r) rfl rfl rfl (by decide) trivial rfl ?_
  rintro _ _ _ ⟨rfl, rfl, rfl⟩
  refine L.nm (by kernel_rfl) ?_; refine LM.a2 6 7 (by kernel_rfl) (Hq [4, 5, 6, 7, 8, 9, 10] rfl) rfl rfl ?_ ?_; refine L.call (js := []) (js' := [0, 1]) (made_c r2) rfl rfl rfl (by decide) trivial rfl ?_
  rintro _ _ _ ⟨rfl, rfl, rfl⟩
  refine L.nm (by kernel_rfl) ?_; refine LM.f 7 rfl (by kernel_rfl) (Hq [4, 5, 6, 7, 8, 9, 10] rfl) ?_
  refine L.alloc rfl rfl rfl (fun A8 => ?_)
  refine L.norm (H' := [_, _, _]) [2, 1, 0] ⟨rfl, rfl, rfl, trivial⟩ (by decide) ?_; refine L.nm (by kernel_rfl) ?_
  rotate_left
  refine L.alloc rfl rfl rfl (fun A8 => ?_)
  refine L.nm (by kernel_rfl) ?_; refine LM.f 6 rfl (by kernel_rfl) (Hq [4, 5, 6, 7, 8, 9, 10] rfl) ?_; refine L.call (js := []) (js' := [0, 1, 2]) (made_c r2) rfl rfl rfl (by decide) trivial rfl ?_
  rintro _ _ _ ⟨rfl, rfl, rfl⟩
  refine L.norm (H' := [_, _, _]) [2, 1, 0] ⟨rfl, rfl, rfl, trivial⟩ (by decide) ?_; refine L.nm (by kernel_rfl) ?_
  rotate_left
  refine L.alloc rfl rfl rfl (fun A8 => ?_)
  refine L.nm (by kernel_rfl) ?_; refine LM.f 3 rfl (by kernel_rfl) (Hq [4, 5, 6, 7, 8, 9, 10] rfl) ?_; refine L.call (js := []) (js' := [0, 1, 2]) (layout_c z p qq r) rfl rfl rfl (by decide) trivial rfl ?_
  rintro _ _ _ ⟨rfl, rfl, rfl⟩
  refine L.nm (by kernel_rfl) ?_; refine LM.f 6 rfl (by kernel_rfl) (Hq [4, 5, 6, 7, 8, 9, 10] rfl) ?_; refine L.call (js := []) (js' := [0, 1, 2]) (made_c r2) rfl rfl rfl (by decide) trivial rfl ?_
  rintro _ _ _ ⟨rfl, rfl, rfl⟩
  refine L.norm (H' := [_, _, _]) [2, 1, 0] ⟨rfl, rfl, rfl, trivial⟩ (by decide) ?_; refine L.nm (by kernel_rfl) ?_
  rotate_left
  refine L.alloc rfl rfl rfl (fun A8 => ?_)
  refine L.nm (by kernel_rfl) ?_; refine LM.f 1 rfl (by kernel_rfl) (Hq [0, 1, 2, 3, 4, 5, 6] rfl) ?_; refine L.callR (js := []) (js' := [0, 1, 2]) (flash_c z p qq r) rfl rfl rfl (by decide) trivial rfl ?_
  rintro _ _ _ ⟨a, hb, hc, rfl, rfl, rfl⟩
  refine L.nm (by kernel_rfl) ?_; refine LM.f 3 rfl (by kernel_rfl) (Hq [4, 5, 6, 7, 8, 9, 10] rfl) ?_; refine L.call (js := []) (js' := [0, 1, 2]) (layout_c z p qq r) rfl rfl rfl (by decide) trivial rfl ?_
  rintro _ _ _ ⟨rfl, rfl, rfl⟩
  refine L.nm (by kernel_rfl) ?_; refine LM.f 6 rfl (by kernel_rfl) (Hq [4, 5, 6, 7, 8, 9, 10] rfl) ?_; refine L.call (js := []) (js' := [0, 1, 2]) (made_c r2) rfl rfl rfl (by decide) trivial rfl ?_
  rintro _ _ _ ⟨rfl, rfl, rfl⟩
  refine L.norm (H' := [_, _, _]) [2, 1, 0] ⟨rfl, rfl, rfl, trivial⟩ (by decide) ?_; refine L.nm (by kernel_rfl) ?_
  rotate_left
  all_goals (
    refine LM.cut [] (by kernel_rfl) (Hq [4, 5, 6, 7, 8, 9, 10] rfl) ?_; refine LM.f 10 rfl (by kernel_rfl) trivial ?_; refine L.storeA (j := 0) rfl rfl rfl rfl rfl (Nat.zero_lt_succ _) rfl rfl ?_
    refine L.nil (QE.m (by kernel_rfl) ?_)
    refine LM.f 11 rfl (by kernel_rfl) trivial ?_; refine L.storeA (j := 1) rfl rfl rfl rfl rfl (Nat.zero_lt_succ _) rfl rfl ?_
    refine L.nil (QE.m (by kernel_rfl) ?_)
    refine LM.f 12 rfl (by kernel_rfl) trivial ?_; refine L.storeA (j := 2) rfl rfl rfl rfl rfl (Nat.zero_lt_succ _) rfl rfl ?_
    refine L.nil (QE.m (by kernel_rfl) ?_)
    refine LM.nil (by kernel_rfl) trivial ?_
    refine QE.joined ((a, A8, A9, A10)) (by exact ⟨hb, hc⟩) (by exact Le.mk' (rs := [0, 1, 2, 3, 5, 4, 6, 7, 8, 9, 10]) (hs := [0, 1, 2]) ⟨rfl, rfl, rfl, rfl, rfl, rfl, rfl, trivial⟩ ⟨rfl, rfl, rfl, rfl, rfl, rfl, rfl, rfl, rfl, rfl, rfl, trivial⟩ ⟨rfl, rfl, rfl, trivial⟩ (by decide)))
 ·
  rintro ⟨a, A8, A9, A10⟩ ⟨hb, hc⟩
  dsimp only at hb hc ⊢
  refine QE.seq ?_; refine C.seqJ (fun q : Nat × Fa => [(5, ptrOf A5 0), (7, .bool true), (8, ptrOf A8 0), (9, ptrOf A9 0), (10, ptrOf A10 0)]) (fun q : Nat × Fa => [Rd q.2.D (rowsV q.2.hs (B8 (stepsF (flJ z p qq r) (laA p) (laB p qq) l q.1).data)), KidsR q.2.hs (B8 (stepsF (flJ z p qq r) (laA p) (laB p qq) l q.1).data), Rd q.2.W (I64 (stepsF (flJ z p qq r) (laA p) (laB p qq) l q.1).wear), Rd q.2.E (Bs (stepsF (flJ z p qq r) (laA p) (laB p qq) l q.1).dead), Rd A5 [.int .u8 (((r2).getD 0 0).toNat : Int), .int .u8 (((r2).getD 1 0).toNat : Int), .int .u8 (((r2).getD 2 0).toNat : Int), .int .u8 (((r2).getD 3 0).toNat : Int), .int .u8 (((r2).getD 4 0).toNat : Int), .int .u8 (((r2).getD 5 0).toNat : Int), .int .u8 (((r2).getD 6 0).toNat : Int), .int .u8 (((r2).getD 7 0).toNat : Int), .int .u8 (((r2).getD 8 0).toNat : Int), .slice T ts.length tc], Rd T (rowsV ths (B8 ts)), KidsR ths (B8 ts)]) (fun q : Nat × Fa => [Own 35 5 A8 1 1 (flL (stepsF (flJ z p qq r) (laA p) (laB p qq) l q.1) q.2), Own 39 8 A9 1 1 [.int .i64 0, .int .i64 (laA p), .int .i64 (laB p qq), .int .i64 0, .int .i64 0, .slice none 0 0, .slice none 0 0, .slice none 0 0], Own 29 9 A10 1 1 (st9 (madeS r2))]) (fun q : Nat × Fa => q.1 ≤ 4 ∧ q.2.hs.length = (stepsF (flJ z p qq r) (laA p) (laB p qq) l q.1).data.length ∧ Caps (stepsF (flJ z p qq r) (laA p) (laB p qq) l q.1) q.2) ?_ ?_
  ·
   refine C.seq (C.region ?_); refine Lpu rfl rfl ?_; refine L.nil (QE.seq (C.block ?_)); refine C.loop (fun q : Nat × Fa => [(1, .slice LA l.length lc), (3, ptrOf A3 0), (5, ptrOf A5 0), (7, .bool true), (8, ptrOf A8 0), (9, ptrOf A9 0), (10, ptrOf A10 0), (11, .int .i64 (q.1 : Int))]) (fun q : Nat × Fa => [Rd q.2.D (rowsV q.2.hs (B8 (stepsF (flJ z p qq r) (laA p) (laB p qq) l q.1).data)), KidsR q.2.hs (B8 (stepsF (flJ z p qq r) (laA p) (laB p qq) l q.1).data), Rd q.2.W (I64 (stepsF (flJ z p qq r) (laA p) (laB p qq) l q.1).wear), Rd q.2.E (Bs (stepsF (flJ z p qq r) (laA p) (laB p qq) l q.1).dead), Rd A3 [.int .u8 (z.toNat : Int), .int .u8 (p.toNat : Int), .int .u8 (qq.toNat : Int), .int .u8 (((r).getD 0 0).toNat : Int), .int .u8 (((r).getD 1 0).toNat : Int), .int .u8 (((r).getD 2 0).toNat : Int), .int .u8 (((r).getD 3 0).toNat : Int), .int .u8 (((r).getD 4 0).toNat : Int), .int .u8 (((r).getD 5 0).toNat : Int), .int .u8 (((r).getD 6 0).toNat : Int), .int .u8 (((r).getD 7 0).toNat : Int), .int .u8 (((r).getD 8 0).toNat : Int)], Rd A5 [.int .u8 (((r2).getD 0 0).toNat : Int), .int .u8 (((r2).getD 1 0).toNat : Int), .int .u8 (((r2).getD 2 0).toNat : Int), .int .u8 (((r2).getD 3 0).toNat : Int), .int .u8 (((r2).getD 4 0).toNat : Int), .int .u8 (((r2).getD 5 0).toNat : Int), .int .u8 (((r2).getD 6 0).toNat : Int), .int .u8 (((r2).getD 7 0).toNat : Int), .int .u8 (((r2).getD 8 0).toNat : Int), .slice T ts.length tc], Rd LA (wrV l), KidsR (wrT l) (wrR l), KidsA (wrA l) (wrB l), Rd T (rowsV ths (B8 ts)), KidsR ths (B8 ts)]) (fun q : Nat × Fa => [Own 35 5 A8 1 1 (flL (stepsF (flJ z p qq r) (laA p) (laB p qq) l q.1) q.2), Own 39 8 A9 1 1 [.int .i64 0, .int .i64 (laA p), .int .i64 (laB p qq), .int .i64 0, .int .i64 0, .slice none 0 0, .slice none 0 0, .slice none 0 0], Own 29 9 A10 1 1 (st9 (madeS r2))]) (fun q : Nat × Fa => q.1 ≤ 4 ∧ q.1 ≤ l.length ∧ q.2.hs.length = (stepsF (flJ z p qq r) (laA p) (laB p qq) l q.1).data.length ∧ Caps (stepsF (flJ z p qq r) (laA p) (laB p qq) l q.1) q.2) (fun q : Nat × Fa => 4 - q.1) (0, a) ⟨Nat.zero_le _, Nat.zero_le _, hb, hc⟩ (by exact Le.mk' (rs := [0, 1, 2, 3, 4, 5, 6, 7, 8, 9, 10]) (hs := [0, 1, 2]) ⟨rfl, rfl, rfl, rfl, rfl, rfl, rfl, rfl, trivial⟩ ⟨rfl, rfl, rfl, rfl, rfl, rfl, rfl, rfl, rfl, rfl, rfl, trivial⟩ ⟨rfl, rfl, rfl, trivial⟩ (by decide)) ?_
   rintro ⟨k, a⟩ ⟨hk6, hkl0, hb, hc⟩
   dsimp only at hk6 hkl0 hb hc ⊢
   have hok := (stepsF_ok (flJ_ok z p qq r).1 (laA p) (laB p qq) l k).1
   refine C.seq (C.seq (C.region ?_)); refine Lpu rfl rfl ?_; refine Lpu rfl rfl ?_; refine Lpu rfl rfl ?_; refine Lpu rfl rfl ?_; refine Lpu rfl rfl ?_
   refine L.bool 30 rfl (fun hg30 => ?_) (fun hg30 => ?_)
   ·
    replace hg30 := of_decide_eq_true hg30
    have hkl : k < l.length := by omega
    refine L.yes rfl ?_; refine Lpu rfl rfl ?_; refine L.yes rfl ?_; refine Lpu rfl rfl ?_; refine Lpu rfl rfl ?_; refine L.nil (QE.seq ?_)
    refine C.condB 33 rfl (fun hc33 => ?_) (fun hc33 => ?_)
    ·
     replace hc33 := of_decide_eq_true hc33
     refine C.skip (QE.seq (C.seq (C.block ?_))); refine C.regionM [Rd a.D (rowsV a.hs (B8 (stepsF (flJ z p qq r) (laA p) (laB p qq) l k).data)), KidsR a.hs (B8 (stepsF (flJ z p qq r) (laA p) (laB p qq) l k).data), Rd a.W (I64 (stepsF (flJ z p qq r) (laA p) (laB p qq) l k).wear), Rd a.E (Bs (stepsF (flJ z p qq r) (laA p) (laB p qq) l k).dead), Rd A3 [.int .u8 (z.toNat : Int), .int .u8 (p.toNat : Int), .int .u8 (qq.toNat : Int), .int .u8 (((r).getD 0 0).toNat : Int), .int .u8 (((r).getD 1 0).toNat : Int), .int .u8 (((r).getD 2 0).toNat : Int), .int .u8 (((r).getD 3 0).toNat : Int), .int .u8 (((r).getD 4 0).toNat : Int), .int .u8 (((r).getD 5 0).toNat : Int), .int .u8 (((r).getD 6 0).toNat : Int), .int .u8 (((r).getD 7 0).toNat : Int), .int .u8 (((r).getD 8 0).toNat : Int)], Rd A5 [.int .u8 (((r2).getD 0 0).toNat : Int), .int .u8 (((r2).getD 1 0).toNat : Int), .int .u8 (((r2).getD 2 0).toNat : Int), .int .u8 (((r2).getD 3 0).toNat : Int), .int .u8 (((r2).getD 4 0).toNat : Int), .int .u8 (((r2).getD 5 0).toNat : Int), .int .u8 (((r2).getD 6 0).toNat : Int), .int .u8 (((r2).getD 7 0).toNat : Int), .int .u8 (((r2).getD 8 0).toNat : Int), .slice T ts.length tc], Rd LA (wrV l), KidsR (wrT l) (wrR l), KidsA (wrA l) (wrB l), Rd T (rowsV ths (B8 ts)), KidsR ths (B8 ts), Rd A8 (flL (stepsF (flJ z p qq r) (laA p) (laB p qq) l k) a), Rd A9 [.int .i64 0, .int .i64 (laA p), .int .i64 (laB p qq), .int .i64 0, .int .i64 0, .slice none 0 0, .slice none 0 0, .slice none 0 0]] ⟨Has.r 0 rfl, Has.r 1 rfl, Has.r 2 rfl, Has.r 3 rfl, Has.r 4 rfl, Has.r 5 rfl, Has.r 6 rfl, Has.r 7 rfl, Has.r 8 rfl, Has.r 9 rfl, Has.r 10 rfl, Has.o 0 rfl, Has.o 1 rfl, trivial⟩ ?_; refine LM.q 0 rfl (by kernel_rfl) (Ev.loadA rfl rfl rfl (Src.r 11 rfl) rfl rfl (by decide)) rfl ⟨Has.r 0 rfl, Has.r 1 rfl, Has.r 2 rfl, Has.r 3 rfl, Has.r 4 rfl, Has.r 5 rfl, Has.r 6 rfl, Has.r 7 rfl, Has.r 8 rfl, Has.r 9 rfl, Has.r 10 rfl, Has.o 0 rfl, Has.o 1 rfl, trivial⟩ ?_; refine LM.q 1 rfl (by kernel_rfl) (Ev.loadA rfl rfl rfl (Src.r 12 rfl) rfl rfl (by decide)) rfl ⟨Has.r 0 rfl, Has.r 1 rfl, Has.r 2 rfl, Has.r 3 rfl, Has.r 4 rfl, Has.r 5 rfl, Has.r 6 rfl, Has.r 7 rfl, Has.r 8 rfl, Has.r 9 rfl, Has.r 10 rfl, Has.o 0 rfl, Has.o 1 rfl, trivial⟩ ?_; refine LM.q 2 rfl (by kernel_rfl) (Ev.pure rfl) rfl ⟨Has.r 0 rfl, Has.r 1 rfl, Has.r 2 rfl, Has.r 3 rfl, Has.r 4 rfl, Has.r 5 rfl, Has.r 6 rfl, Has.r 7 rfl, Has.r 8 rfl, Has.r 9 rfl, Has.r 10 rfl, Has.o 0 rfl, Has.o 1 rfl, trivial⟩ ?_; refine LM.f 3 rfl (by kernel_rfl) ⟨Has.r 0 rfl, Has.r 1 rfl, Has.r 2 rfl, Has.r 3 rfl, Has.r 4 rfl, Has.r 5 rfl, Has.r 6 rfl, Has.r 7 rfl, Has.r 8 rfl, Has.r 9 rfl, Has.r 10 rfl, Has.o 0 rfl, Has.o 1 rfl, trivial⟩ ?_; refine Lpu rfl rfl ?_
     refine L.nil (QE.m (by kernel_rfl) ?_)
     refine LM.f 4 rfl (by kernel_rfl) ⟨Has.r 0 rfl, Has.r 1 rfl, Has.r 2 rfl, Has.r 3 rfl, Has.r 4 rfl, Has.r 5 rfl, Has.r 6 rfl, Has.r 7 rfl, Has.r 8 rfl, Has.r 9 rfl, Has.r 10 rfl, Has.o 0 rfl, Has.o 1 rfl, trivial⟩ ?_; refine L.step (Ev.idx (k := k) (m := k * 10) rfl rfl rfl rfl rfl rfl hkl (Src.r 6 rfl) (by rw [wrV_len]; omega) rfl) rfl ?_
     refine L.nil (QE.m (by kernel_rfl) ?_)
     refine LM.f 5 rfl (by kernel_rfl) ⟨Has.r 0 rfl, Has.r 1 rfl, Has.r 2 rfl, Has.r 3 rfl, Has.r 4 rfl, Has.r 5 rfl, Has.r 6 rfl, Has.r 7 rfl, Has.r 8 rfl, Has.r 9 rfl, Has.r 10 rfl, Has.o 0 rfl, Has.o 1 rfl, trivial⟩ ?_; refine L.step (Ev.loadA (k := k * 10) rfl rfl rfl (Src.r 6 rfl) (wrV_at l k hkl) rfl (by decide)) rfl ?_
     refine L.nil (QE.m (by kernel_rfl) ?_)
     refine LM.cut [] (by kernel_rfl) ⟨Has.r 0 rfl, Has.r 1 rfl, Has.r 2 rfl, Has.r 3 rfl, Has.r 4 rfl, Has.r 5 rfl, Has.r 6 rfl, Has.r 7 rfl, Has.r 8 rfl, Has.r 9 rfl, Has.r 10 rfl, Has.o 0 rfl, Has.o 1 rfl, trivial⟩ ?_; refine LM.f 6 rfl (by kernel_rfl) trivial ?_; refine L.callR (js := []) (js' := [0, 1, 2]) (step_c (stepsF (flJ z p qq r) (laA p) (laB p qq) l k) a hok hb (yJ p qq) hc (l.getD k Wr.zero).r (l.getD k Wr.zero).ts (l.getD k Wr.zero).T (l.getD k Wr.zero).tc (l.getD k Wr.zero).ths (hlo k).h (hlo k).l (hlo k).r) rfl rfl rfl (by decide) ⟨(Has.r 0 rfl), (Has.r 1 rfl), (Has.r 2 rfl), (Has.r 3 rfl), (Has.wrT 7 rfl hkl), (Has.wrA 8 rfl hkl), trivial⟩ rfl ?_
     rintro _ _ _ ⟨b', hb', hc', rfl, rfl, rfl⟩
     refine L.norm (H' := [_, _, _]) [0, 1, 2] ⟨rfl, rfl, rfl, trivial⟩ (by decide) ?_
     refine L.nil (QE.m (by kernel_rfl) ?_)
     refine LM.f 7 rfl (by kernel_rfl) trivial ?_; refine L.storeA (j := 0) rfl rfl rfl rfl rfl (Nat.zero_lt_succ _) rfl rfl ?_
     refine L.nil (QE.m (by kernel_rfl) ?_)
     refine LM.nil (by kernel_rfl) trivial ?_; refine QE.blkN ?_; refine QE.seq (C.region ?_); refine Lpu rfl rfl ?_; refine L.step (Ev.add rfl rfl (by omega) (by omega)) rfl ?_; refine Lpu rfl rfl ?_; refine L.nil ?_
     refine QE.round (i := (k, a)) ((k + 1, b')) (by exact ⟨by dsimp only; omega, by dsimp only; omega, hb', hc'⟩) (by dsimp only; omega) (by exact Le.mk' (rs := [0, 1, 2, 3, 8, 9, 10, 11, 12, 13, 14]) (hs := [0, 1, 2]) ⟨rfl, rfl, rfl, rfl, rfl, rfl, rfl, rfl, trivial⟩ ⟨rfl, rfl, rfl, rfl, rfl, rfl, rfl, rfl, rfl, rfl, rfl, trivial⟩ ⟨rfl, rfl, rfl, trivial⟩ (by decide))
    ·
     replace hc33 := of_decide_eq_false hc33
     refine C.exit ?_; refine QE.tX ?_; refine QE.tX ?_; refine QE.blk ?_
     refine QE.join ((k, a)) (by exact ⟨hk6, hb, hc⟩) (by exact Le.mk' (rs := [0, 1, 2, 3, 5, 9, 10]) (hs := [0, 1, 2]) ⟨rfl, rfl, rfl, rfl, rfl, trivial⟩ ⟨rfl, rfl, rfl, rfl, rfl, rfl, rfl, trivial⟩ ⟨rfl, rfl, rfl, trivial⟩ (by decide))
   ·
    replace hg30 := of_decide_eq_false hg30
    refine L.no rfl rfl rfl ?_; refine L.no rfl rfl rfl ?_; refine Lpu rfl rfl ?_; refine L.nil (QE.seq ?_)
    refine C.cond rfl (fun h => by cases h) (fun _ => ?_)
    refine C.exit ?_; refine QE.tX ?_; refine QE.tX ?_; refine QE.blk ?_
    refine QE.join ((k, a)) (by exact ⟨hk6, hb, hc⟩) (by exact Le.mk' (rs := [0, 1, 2, 3, 5, 9, 10]) (hs := [0, 1, 2]) ⟨rfl, rfl, rfl, rfl, rfl, trivial⟩ ⟨rfl, rfl, rfl, rfl, rfl, rfl, rfl, trivial⟩ ⟨rfl, rfl, rfl, trivial⟩ (by decide))
  ·
   rintro ⟨k, a⟩ ⟨hk6, hb, hc⟩
   dsimp only at hk6 hb hc ⊢
   refine C.seqJ (fun q : List Int × Nat × Nat × Fl × Fa => [(7, .bool true), (8, ptrOf A8 0), (9, ptrOf A9 0), (10, ptrOf A10 0)]) (fun q : List Int × Nat × Nat × Fl × Fa => [Rd q.2.2.2.2.D (rowsV q.2.2.2.2.hs (B8 q.2.2.2.1.data)), KidsR q.2.2.2.2.hs (B8 q.2.2.2.1.data), Rd q.2.2.2.2.W (I64 q.2.2.2.1.wear), Rd q.2.2.2.2.E (Bs q.2.2.2.1.dead)]) (fun q : List Int × Nat × Nat × Fl × Fa => [Own 35 5 A8 1 1 (flL q.2.2.2.1 q.2.2.2.2), Own 39 8 A9 1 1 [.int .i64 0, .int .i64 (laA p), .int .i64 (laB p qq), .int .i64 0, .int .i64 0, .slice none 0 0, .slice none 0 0, .slice none 0 0], Own 29 9 A10 1 1 (st9 (madeS r2))]) (fun q : List Int × Nat × Nat × Fl × Fa => q.2.1 + 2 < 4294967296 ∧ Wy (fl1 z) q.2.2.2.1 (yJ p qq).a (yJ p qq).b q.1 (madeS r2) q.2.2.1 q.2.1 3 47 ∧ q.2.2.2.2.hs.length = q.2.2.2.1.data.length ∧ Caps q.2.2.2.1 q.2.2.2.2) ?_ ?_
   ·
    refine C.seq ?_
    obtain ⟨s0, t, G, hG, -, -, hW⟩ := stepsF_way z p qq r l (madeS r2) (k := k) (by omega)
    have hok := (stepsF_ok (flJ_ok z p qq r).1 (laA p) (laB p qq) l k).1
    refine C.region ?_; refine Lpu rfl rfl ?_; refine L.nil (QE.seq (C.block ?_)); refine C.loop (fun q : Nat × Fl × Fa => [(5, ptrOf A5 0), (7, .bool true), (8, ptrOf A8 0), (9, ptrOf A9 0), (10, ptrOf A10 0), (12, .int .i64 (q.1 : Int))]) (fun q : Nat × Fl × Fa => [Rd q.2.2.D (rowsV q.2.2.hs (B8 q.2.1.data)), KidsR q.2.2.hs (B8 q.2.1.data), Rd q.2.2.W (I64 q.2.1.wear), Rd q.2.2.E (Bs q.2.1.dead), Rd A5 [.int .u8 (((r2).getD 0 0).toNat : Int), .int .u8 (((r2).getD 1 0).toNat : Int), .int .u8 (((r2).getD 2 0).toNat : Int), .int .u8 (((r2).getD 3 0).toNat : Int), .int .u8 (((r2).getD 4 0).toNat : Int), .int .u8 (((r2).getD 5 0).toNat : Int), .int .u8 (((r2).getD 6 0).toNat : Int), .int .u8 (((r2).getD 7 0).toNat : Int), .int .u8 (((r2).getD 8 0).toNat : Int), .slice T ts.length tc], Rd T (rowsV ths (B8 ts)), KidsR ths (B8 ts)]) (fun q : Nat × Fl × Fa => [Own 35 5 A8 1 1 (flL q.2.1 q.2.2), Own 39 8 A9 1 1 [.int .i64 0, .int .i64 (laA p), .int .i64 (laB p qq), .int .i64 0, .int .i64 0, .slice none 0 0, .slice none 0 0, .slice none 0 0], Own 29 9 A10 1 1 (st9 (madeS r2))]) (fun q : Nat × Fl × Fa => q.1 ≤ 4 ∧ Wy (fl1 z) q.2.1 (yJ p qq).a (yJ p qq).b s0 (madeS r2) (t + q.1) G 3 (43 + (q.1 : Int)) ∧ q.2.2.hs.length = q.2.1.data.length ∧ Caps q.2.1 q.2.2) (fun q : Nat × Fl × Fa => 4 - q.1) (0, (stepsF (flJ z p qq r) (laA p) (laB p qq) l k), a) ⟨Nat.zero_le _, hW, hb, hc⟩ (by exact Le.mk' (rs := [0, 1, 2, 3, 4, 5, 6]) (hs := [0, 1, 2]) ⟨rfl, rfl, rfl, rfl, rfl, rfl, trivial⟩ ⟨rfl, rfl, rfl, rfl, rfl, rfl, rfl, trivial⟩ ⟨rfl, rfl, rfl, trivial⟩ (by decide)) ?_
    rintro ⟨i, g, b⟩ ⟨hi, hW, hb, hc⟩
    dsimp only at hi hW hb hc ⊢
    have hok := hW.ok
    refine C.seq (C.seq (C.region ?_)); refine Lpu rfl rfl ?_; refine L.step (Ev.fieldAddr rfl rfl rfl rfl rfl rfl (Src.r 4 rfl) (Nat.zero_lt_succ _) rfl) rfl ?_; refine L.step (Ev.load rfl rfl rfl (Src.r 4 rfl) rfl) rfl ?_; refine Lpu rfl rfl ?_; refine Lpu rfl rfl ?_; refine Lpu rfl rfl ?_
    refine L.bool 48 rfl (fun hg48 => ?_) (fun hg48 => ?_)
    ·
     replace hg48 := of_decide_eq_true hg48
     refine L.yes rfl ?_; refine Lpu rfl rfl ?_; refine L.yes rfl ?_; refine Lpu rfl rfl ?_; refine Lpu rfl rfl ?_; refine L.nil (QE.seq ?_)
     refine C.condB 51 rfl (fun hc51 => ?_) (fun hc51 => ?_)
     ·
      replace hc51 := of_decide_eq_true hc51
      refine C.skip (QE.seq (C.seq (C.block (C.seq (C.region ?_))))); refine L.step (Ev.loadA rfl rfl rfl (Src.o 0 rfl) rfl rfl (by decide)) rfl ?_; refine L.step (Ev.loadA rfl rfl rfl (Src.o 1 rfl) rfl rfl (by decide)) rfl ?_; refine L.step (Ev.loadA rfl rfl rfl (Src.o 2 rfl) rfl rfl (by decide)) rfl ?_; refine L.callR (js := []) (js' := [0, 1, 2]) (nextR_c g b hok hb (yJ p qq) hc (madeS r2) rfl) rfl rfl rfl (by decide) (Hq [0, 1, 2, 3] rfl) rfl ?_
      rintro _ _ _ ⟨O1, c1, rfl, rfl, rfl⟩
      refine L.norm (H' := [_, _, _]) [0, 1, 2] ⟨rfl, rfl, rfl, trivial⟩ (by decide) ?_
      refine L.alloc rfl rfl rfl (fun A13 => ?_)
      refine L.storeA (j := 3) rfl rfl rfl rfl rfl (Nat.zero_lt_succ _) rfl rfl ?_; refine L.nil (QE.seq (C.seq (C.seq (C.region ?_)))); refine L.step (Ev.fieldAddr rfl rfl rfl rfl rfl rfl (Src.o 3 rfl) (Nat.zero_lt_succ _) rfl) rfl ?_; refine L.step (Ev.load rfl rfl rfl (Src.o 3 rfl) rfl) rfl ?_; refine Lpu rfl rfl ?_; refine Lpu rfl rfl ?_
      refine L.bool 61 rfl (fun hg61 => ?_) (fun hg61 => ?_)
      ·
       replace hg61 := b_ne hg61
       exact absurd (hW.e hG rfl (made_right _) (by show _ < (60 : Int); omega)) hg61
      ·
       replace hg61 := b_eq hg61
       refine L.yes rfl ?_; refine L.step (Ev.fieldAddr rfl rfl rfl rfl rfl rfl (Src.o 3 rfl) (Nat.zero_lt_succ _) rfl) rfl ?_; refine L.yes rfl ?_; refine L.step (Ev.load rfl rfl rfl (Src.o 3 rfl) rfl) rfl ?_; refine Lpu rfl rfl ?_; refine L.nil (QE.seq ?_)
       refine C.condB 64 rfl (fun hc64 => ?_) (fun hc64 => ?_)
       ·
        refine C.exit ?_; refine QE.tX ?_; refine QE.blkX rfl ?_; refine QE.tX ?_; refine QE.tX ?_; refine QE.blk ?_
        refine QE.join ((s0, G, t + i, g, b)) (by exact ⟨hG, hW.mono (Nat.le_refl _) (Nat.le_refl _) (by omega), hb, hc⟩) (by exact Le.mk' (rs := [1, 2, 3, 4]) (hs := [0, 1, 2]) ⟨rfl, rfl, rfl, rfl, trivial⟩ ⟨rfl, rfl, rfl, rfl, trivial⟩ ⟨rfl, rfl, rfl, trivial⟩ (by decide))
       ·
        obtain ⟨hE, hsec, hkind, hm1, hgo⟩ := hW.go hG rfl (made_right _) (by show _ < (60 : Int); omega) hc64
        have hnl := Nat.le_trans (nextF_len hok (yJ p qq).a (yJ p qq).b (madeS r2)) (show 5000 ≤ 9223372036854775807 by decide)
        have hW1 := (hgo (fun j => (ts.getD i []).getD j 0)).1
        refine C.skip (QE.seq ?_); refine C.regionM [Rd b.D (rowsV b.hs (B8 g.data)), KidsR b.hs (B8 g.data), Rd b.W (I64 g.wear), Rd b.E (Bs g.dead), Rd A5 [.int .u8 (((r2).getD 0 0).toNat : Int), .int .u8 (((r2).getD 1 0).toNat : Int), .int .u8 (((r2).getD 2 0).toNat : Int), .int .u8 (((r2).getD 3 0).toNat : Int), .int .u8 (((r2).getD 4 0).toNat : Int), .int .u8 (((r2).getD 5 0).toNat : Int), .int .u8 (((r2).getD 6 0).toNat : Int), .int .u8 (((r2).getD 7 0).toNat : Int), .int .u8 (((r2).getD 8 0).toNat : Int), .slice T ts.length tc], Rd T (rowsV ths (B8 ts)), KidsR ths (B8 ts), Rd A8 (flL g b), Rd A13 [.int .i64 (nextF g (yJ p qq).a (yJ p qq).b (madeS r2)).x.kind, .int .i64 (nextF g (yJ p qq).a (yJ p qq).b (madeS r2)).x.sec, .int .i64 (nextF g (yJ p qq).a (yJ p qq).b (madeS r2)).x.at_, .slice O1 (nextF g (yJ p qq).a (yJ p qq).b (madeS r2)).x.data.length c1, .bool (nextF g (yJ p qq).a (yJ p qq).b (madeS r2)).done, .int .i64 (nextF g (yJ p qq).a (yJ p qq).b (madeS r2)).e], Rd O1 (U8 (nextF g (yJ p qq).a (yJ p qq).b (madeS r2)).x.data)] ⟨Has.r 1 rfl, Has.r 2 rfl, Has.r 3 rfl, Has.r 4 rfl, Has.r 5 rfl, Has.r 6 rfl, Has.r 7 rfl, Has.o 0 rfl, Has.o 3 rfl, Has.r 0 rfl, trivial⟩ ?_; refine LM.q 0 rfl (by kernel_rfl) (Ev.loadA rfl rfl rfl (Src.r 7 rfl) rfl rfl (by decide)) rfl ⟨Has.r 1 rfl, Has.r 2 rfl, Has.r 3 rfl, Has.r 4 rfl, Has.r 5 rfl, Has.r 6 rfl, Has.r 7 rfl, Has.o 0 rfl, Has.o 3 rfl, Has.r 0 rfl, trivial⟩ ?_; refine LM.q 1 rfl (by kernel_rfl) (Ev.fieldAddr rfl rfl rfl rfl rfl rfl (Src.r 8 rfl) (Nat.zero_lt_succ _) rfl) rfl ⟨Has.r 1 rfl, Has.r 2 rfl, Has.r 3 rfl, Has.r 4 rfl, Has.r 5 rfl, Has.r 6 rfl, Has.r 7 rfl, Has.o 0 rfl, Has.o 3 rfl, Has.r 0 rfl, trivial⟩ ?_; refine LM.q 2 rfl (by kernel_rfl) (Ev.loadA rfl rfl rfl (Src.r 8 rfl) rfl rfl (by decide)) rfl ⟨Has.r 1 rfl, Has.r 2 rfl, Has.r 3 rfl, Has.r 4 rfl, Has.r 5 rfl, Has.r 6 rfl, Has.r 7 rfl, Has.o 0 rfl, Has.o 3 rfl, Has.r 0 rfl, trivial⟩ ?_; refine LM.q 3 rfl (by kernel_rfl) (Ev.fieldAddr rfl rfl rfl rfl rfl rfl (Src.r 4 rfl) (Nat.zero_lt_succ _) rfl) rfl ⟨Has.r 1 rfl, Has.r 2 rfl, Has.r 3 rfl, Has.r 4 rfl, Has.r 5 rfl, Has.r 6 rfl, Has.r 7 rfl, Has.o 0 rfl, Has.o 3 rfl, Has.r 0 rfl, trivial⟩ ?_; refine LM.q 4 rfl (by kernel_rfl) (Ev.load rfl rfl rfl (Src.r 4 rfl) rfl) rfl ⟨Has.r 1 rfl, Has.r 2 rfl, Has.r 3 rfl, Has.r 4 rfl, Has.r 5 rfl, Has.r 6 rfl, Has.r 7 rfl, Has.o 0 rfl, Has.o 3 rfl, Has.r 0 rfl, trivial⟩ ?_; refine LM.q 5 rfl (by kernel_rfl) (Ev.pure rfl) rfl ⟨Has.r 1 rfl, Has.r 2 rfl, Has.r 3 rfl, Has.r 4 rfl, Has.r 5 rfl, Has.r 6 rfl, Has.r 7 rfl, Has.o 0 rfl, Has.o 3 rfl, Has.r 0 rfl, trivial⟩ ?_; refine LM.q 6 rfl (by kernel_rfl) (Ev.idx1 (k := i) rfl rfl rfl rfl rfl rfl rfl (by omega) (Src.r 5 rfl) (by rw [rowsV_len (by rw [B8_len]; exact hth), B8_len]; omega)) rfl ⟨Has.r 1 rfl, Has.r 2 rfl, Has.r 3 rfl, Has.r 4 rfl, Has.r 5 rfl, Has.r 6 rfl, Has.r 7 rfl, Has.o 0 rfl, Has.o 3 rfl, Has.r 0 rfl, trivial⟩ ?_; refine LM.q 7 rfl (by kernel_rfl) (Ev.load rfl rfl rfl (Src.r 5 rfl) (rows8_get hth (by omega))) rfl ⟨Has.r 1 rfl, Has.r 2 rfl, Has.r 3 rfl, Has.r 4 rfl, Has.r 5 rfl, Has.r 6 rfl, Has.r 7 rfl, Has.o 0 rfl, Has.o 3 rfl, Has.r 0 rfl, trivial⟩ ?_; refine LM.f 8 rfl (by kernel_rfl) ⟨Has.r 1 rfl, Has.r 2 rfl, Has.r 3 rfl, Has.r 4 rfl, Has.r 5 rfl, Has.r 6 rfl, Has.r 7 rfl, Has.o 0 rfl, Has.o 3 rfl, Has.r 0 rfl, trivial⟩ ?_; refine L.callR (js := []) (js' := [0, 1, 2, 3]) (cut17C_c g b hok hb (nextF g (yJ p qq).a (yJ p qq).b (madeS r2)).x O1 c1 hnl (ts.getD i []) (ths.getD i (none, 0)).1 (ts.getD i []).length (ths.getD i (none, 0)).2 rfl (htr i)) rfl rfl rfl (by decide) ⟨(Has.r 1 rfl), (Has.r 2 rfl), (Has.r 3 rfl), (Has.r 4 rfl), (Has.r 0 rfl), ((Has.kid 7 rfl (by rw [B8_len]; exact hth) i (by rw [B8_len]; omega)).cast (B8_get _)), trivial⟩ rfl ?_
        rintro _ _ _ ⟨b2, hb2, rfl, rfl, rfl⟩
        refine L.norm (H' := [_, _, _, _]) [0, 1, 2, 3] ⟨rfl, rfl, rfl, rfl, trivial⟩ (by decide) ?_
        refine L.nil (QE.m (by kernel_rfl) ?_)
        refine LM.cut [] (by kernel_rfl) ⟨Has.r 5 rfl, Has.r 6 rfl, Has.r 7 rfl, Has.r 8 rfl, Has.r 9 rfl, Has.r 10 rfl, Has.r 11 rfl, Has.o 0 rfl, Has.o 3 rfl, Has.r 4 rfl, trivial⟩ ?_; refine LM.q 9 rfl (by kernel_rfl) (Ev.pure rfl) rfl trivial ?_; refine LM.q 10 rfl (by kernel_rfl) (Ev.pure rfl) rfl trivial ?_; refine LM.q 11 rfl (by kernel_rfl) (Ev.pure rfl) rfl trivial ?_; refine LM.f 12 rfl (by kernel_rfl) trivial ?_; refine L.storeA (j := 0) rfl rfl rfl rfl rfl (Nat.zero_lt_succ _) rfl rfl ?_
        refine L.nil (QE.m (by kernel_rfl) ?_)
        refine LM.nil (by kernel_rfl) trivial ?_; refine QE.blkN ?_; refine QE.seq (C.region ?_); refine Lpu rfl rfl ?_; refine L.step (Ev.add rfl rfl (by omega) (by omega)) rfl ?_; refine Lpu rfl rfl ?_; refine L.nil ?_
        refine QE.round (i := (i, g, b)) ((i + 1, (cutR g (nextF g (yJ p qq).a (yJ p qq).b (madeS r2)).x (fun j => (ts.getD i []).getD j 0)), b2)) (by exact ⟨by dsimp only; omega, by dsimp only; rw [show 43 + ((i + 1 : Nat) : Int) = 43 + (i : Int) + 1 by omega]; exact hW1, hb2.1, hb2.2⟩) (by dsimp only; omega) (by exact Le.mk' (rs := [0, 1, 2, 3, 9, 10, 11]) (hs := [0, 1, 2]) ⟨rfl, rfl, rfl, rfl, rfl, rfl, trivial⟩ ⟨rfl, rfl, rfl, rfl, rfl, rfl, rfl, trivial⟩ ⟨rfl, rfl, rfl, trivial⟩ (by decide))
     ·
      replace hc51 := of_decide_eq_false hc51
      refine C.exit ?_; refine QE.tX ?_; refine QE.tX ?_; refine QE.blk ?_
      refine QE.join ((s0, G, t + i, g, b)) (by exact ⟨hG, hW.mono (Nat.le_refl _) (Nat.le_refl _) (by omega), hb, hc⟩) (by exact Le.mk' (rs := [0, 1, 2, 3]) (hs := [0, 1, 2]) ⟨rfl, rfl, rfl, rfl, trivial⟩ ⟨rfl, rfl, rfl, rfl, trivial⟩ ⟨rfl, rfl, rfl, trivial⟩ (by decide))
    ·
     replace hg48 := of_decide_eq_false hg48
     refine L.no rfl rfl rfl ?_; refine L.no rfl rfl rfl ?_; refine Lpu rfl rfl ?_; refine L.nil (QE.seq ?_)
     refine C.cond rfl (fun h => by cases h) (fun _ => ?_)
     refine C.exit ?_; refine QE.tX ?_; refine QE.tX ?_; refine QE.blk ?_
     refine QE.join ((s0, G, t + i, g, b)) (by exact ⟨hG, hW.mono (Nat.le_refl _) (Nat.le_refl _) (by omega), hb, hc⟩) (by exact Le.mk' (rs := [0, 1, 2, 3]) (hs := [0, 1, 2]) ⟨rfl, rfl, rfl, rfl, trivial⟩ ⟨rfl, rfl, rfl, rfl, trivial⟩ ⟨rfl, rfl, rfl, trivial⟩ (by decide))
   ·
    rintro ⟨s0, G, t2, g0, a⟩ ⟨hG, hW, hb, hc⟩
    dsimp only at hG hW hb hc ⊢
    refine C.seq (C.seq (C.region ?_)); refine Lpu rfl rfl ?_; refine L.nil (QE.seq (C.block ?_)); refine C.loop (fun q : Nat × Fl × Fa => [(7, .bool true), (8, ptrOf A8 0), (9, ptrOf A9 0), (10, ptrOf A10 0), (14, .int .i64 (q.1 : Int))]) (fun q : Nat × Fl × Fa => [Rd q.2.2.D (rowsV q.2.2.hs (B8 q.2.1.data)), KidsR q.2.2.hs (B8 q.2.1.data), Rd q.2.2.W (I64 q.2.1.wear), Rd q.2.2.E (Bs q.2.1.dead)]) (fun q : Nat × Fl × Fa => [Own 35 5 A8 1 1 (flL q.2.1 q.2.2), Own 39 8 A9 1 1 [.int .i64 0, .int .i64 (laA p), .int .i64 (laB p qq), .int .i64 0, .int .i64 0, .slice none 0 0, .slice none 0 0, .slice none 0 0], Own 29 9 A10 1 1 (st9 (madeS r2))]) (fun q : Nat × Fl × Fa => q.1 ≤ 3 ∧ Wy (fl1 z) q.2.1 (yJ p qq).a (yJ p qq).b s0 (madeS r2) t2 G (3 - q.1) (47 + (q.1 : Int)) ∧ q.2.2.hs.length = q.2.1.data.length ∧ Caps q.2.1 q.2.2) (fun q : Nat × Fl × Fa => 4 - q.1) (0, g0, a) ⟨Nat.zero_le _, hW, hb, hc⟩ (by exact Le.mk' (rs := [0, 1, 2, 3]) (hs := [0, 1, 2]) ⟨rfl, rfl, rfl, rfl, rfl, trivial⟩ ⟨rfl, rfl, rfl, rfl, trivial⟩ ⟨rfl, rfl, rfl, trivial⟩ (by decide)) ?_
    rintro ⟨i, g, b⟩ ⟨hi, hW, hb, hc⟩
    dsimp only at hi hW hb hc ⊢
    have hok := hW.ok
    refine C.seq (C.seq (C.region ?_)); refine Lpu rfl rfl ?_; refine Lpu rfl rfl ?_; refine L.nil (QE.seq ?_)
    refine C.condB 78 rfl (fun hc78 => ?_) (fun hc78 => ?_)
    ·
     replace hc78 := of_decide_eq_true hc78
     refine C.skip (QE.seq (C.seq (C.block (C.seq (C.region ?_))))); refine L.step (Ev.loadA rfl rfl rfl (Src.o 0 rfl) rfl rfl (by decide)) rfl ?_; refine L.step (Ev.loadA rfl rfl rfl (Src.o 1 rfl) rfl rfl (by decide)) rfl ?_; refine L.step (Ev.loadA rfl rfl rfl (Src.o 2 rfl) rfl rfl (by decide)) rfl ?_; refine L.callR (js := []) (js' := [0, 1, 2]) (lnext_c g b hok hb (yJ p qq) hc (madeS r2) rfl) rfl rfl rfl (by decide) (Hq [0, 1, 2, 3] rfl) rfl ?_
     rintro _ _ _ ⟨O1, c1, rfl, rfl, rfl⟩
     refine L.norm (H' := [_, _, _]) [0, 1, 2] ⟨rfl, rfl, rfl, trivial⟩ (by decide) ?_
     refine L.alloc rfl rfl rfl (fun A15 => ?_)
     refine L.storeA (j := 3) rfl rfl rfl rfl rfl (Nat.zero_lt_succ _) rfl rfl ?_; refine L.nil (QE.seq (C.seq (C.seq (C.region ?_)))); refine L.step (Ev.fieldAddr rfl rfl rfl rfl rfl rfl (Src.o 3 rfl) (Nat.zero_lt_succ _) rfl) rfl ?_; refine L.step (Ev.load rfl rfl rfl (Src.o 3 rfl) rfl) rfl ?_; refine Lpu rfl rfl ?_; refine L.nil (QE.seq ?_)
     refine C.condB 87 rfl (fun hc87 => ?_) (fun hc87 => ?_)
     ·
      replace hc87 := b_ne hc87
      exact absurd (hW.e hG rfl (made_right _) (by show _ < (60 : Int); omega)) hc87
     ·
      replace hc87 := b_eq hc87
      refine C.skip (QE.seq (C.seq (C.seq (C.region ?_)))); refine L.step (Ev.fieldAddr rfl rfl rfl rfl rfl rfl (Src.o 3 rfl) (Nat.zero_lt_succ _) rfl) rfl ?_; refine L.step (Ev.load rfl rfl rfl (Src.o 3 rfl) rfl) rfl ?_; refine L.nil (QE.seq ?_)
      refine C.condB 89 rfl (fun hc89 => ?_) (fun hc89 => ?_)
      ·
       refine C.seq ?_
       have hJ := hW.done hG rfl (made_right _) (by show _ < (60 : Int); omega) hc89
       have hrd := hJ.read (by omega)
       refine C.regionM [Rd b.D (rowsV b.hs (B8 g.data)), KidsR b.hs (B8 g.data), Rd b.W (I64 g.wear), Rd b.E (Bs g.dead), Rd A8 (flL g b), Rd A9 [.int .i64 0, .int .i64 (laA p), .int .i64 (laB p qq), .int .i64 0, .int .i64 0, .slice none 0 0, .slice none 0 0, .slice none 0 0], Rd A10 (st9 (madeS r2))] ⟨Has.r 1 rfl, Has.r 2 rfl, Has.r 3 rfl, Has.r 4 rfl, Has.o 0 rfl, Has.o 1 rfl, Has.o 2 rfl, trivial⟩ ?_; refine LM.q 0 rfl (by kernel_rfl) (Ev.loadA rfl rfl rfl (Src.r 4 rfl) rfl rfl (by decide)) rfl ⟨Has.r 1 rfl, Has.r 2 rfl, Has.r 3 rfl, Has.r 4 rfl, Has.o 0 rfl, Has.o 1 rfl, Has.o 2 rfl, trivial⟩ ?_; refine LM.q 1 rfl (by kernel_rfl) (Ev.loadA rfl rfl rfl (Src.r 5 rfl) rfl rfl (by decide)) rfl ⟨Has.r 1 rfl, Has.r 2 rfl, Has.r 3 rfl, Has.r 4 rfl, Has.o 0 rfl, Has.o 1 rfl, Has.o 2 rfl, trivial⟩ ?_; refine LM.q 4 rfl (by kernel_rfl) (Ev.loadA rfl rfl rfl (Src.r 6 rfl) rfl rfl (by decide)) rfl ⟨Has.r 1 rfl, Has.r 2 rfl, Has.r 3 rfl, Has.r 4 rfl, Has.o 0 rfl, Has.o 1 rfl, Has.o 2 rfl, trivial⟩ ?_; refine LM.f 2 rfl (by kernel_rfl) ⟨Has.r 1 rfl, Has.r 2 rfl, Has.r 3 rfl, Has.r 4 rfl, Has.o 0 rfl, Has.o 1 rfl, Has.o 2 rfl, trivial⟩ ?_; refine L.call (js := []) (js' := [0, 1, 2, 3]) (lread_c g b hok hb (yJ p qq) hc) rfl rfl rfl (by decide) (Hq [1, 2, 3, 4] rfl) rfl ?_
       rintro _ _ _ ⟨rfl, rfl, rfl⟩
       refine L.norm (H' := [_, _, _, _]) [0, 1, 2, 3] ⟨rfl, rfl, rfl, rfl, trivial⟩ (by decide) ?_
       refine L.nil (QE.m (by kernel_rfl) ?_)
       refine LM.f 3 rfl (by kernel_rfl) ⟨Has.r 1 rfl, Has.r 2 rfl, Has.r 3 rfl, Has.r 4 rfl, Has.o 0 rfl, Has.o 1 rfl, Has.o 2 rfl, trivial⟩ ?_; refine Lpu rfl rfl ?_
       refine L.nil (QE.m (by kernel_rfl) ?_)
       refine LM.cut [] (by kernel_rfl) ⟨Has.r 1 rfl, Has.r 2 rfl, Has.r 3 rfl, Has.r 4 rfl, Has.o 0 rfl, Has.o 1 rfl, Has.o 2 rfl, trivial⟩ ?_; refine LM.f 5 rfl (by kernel_rfl) trivial ?_; refine L.step (Ev.eqS9 (xs := (readF g (yJ p qq).a (yJ p qq).b).1) (ys := (madeS r2)) rfl rfl (by kernel_rfl) (by kernel_rfl) rfl rfl rfl rfl (readF_len _ _ _) rfl) rfl ?_
       refine L.nil (QE.m (by kernel_rfl) ?_)
       refine LM.f 6 rfl (by kernel_rfl) trivial ?_; refine Lpu rfl rfl ?_
       refine L.nil (QE.m (by kernel_rfl) ?_)
       refine LM.bool 96 rfl (fun hg96 => ?_) (fun hg96 => ?_)
       ·
        refine LM.f 7 rfl (by kernel_rfl) trivial ?_; refine L.yes rfl ?_; refine Lpu rfl rfl ?_
        refine L.nil (QE.m (by kernel_rfl) ?_)
        refine LM.f 8 rfl (by kernel_rfl) trivial ?_; refine Lpu rfl rfl ?_
        refine L.nil (QE.m (by kernel_rfl) ?_)
        refine LM.f 9 rfl (by kernel_rfl) trivial ?_; refine Lpu rfl rfl ?_
        refine L.nil (QE.m (by kernel_rfl) ?_)
        refine LM.nil (by kernel_rfl) trivial ?_; refine QE.seq (C.ret (QE.tR (QE.bR (QE.tR (QE.tR (QE.bR (QE.tR ?_))))))); refine QE.ret (js := []) (hs := []) (vs := [_]) rfl ⟨rfl, trivial⟩ (by decide) ?_
        exact ⟨rfl, rfl, rfl⟩
       ·
        rw [hrd.2.1] at hg96; simp at hg96
      ·
       obtain ⟨hE, hsec, hkind, hm1, hgo⟩ := hW.go hG rfl (made_right _) (by show _ < (60 : Int); omega) hc89
       have hnl := Nat.le_trans (nextF_len hok (yJ p qq).a (yJ p qq).b (madeS r2)) (show 5000 ≤ 9223372036854775807 by decide)
       have hW1 := (hgo (fun _ => 255)).2 (fun _ => rfl)
       refine C.skip (QE.seq (C.seq (C.region ?_))); refine L.step (Ev.loadA rfl rfl rfl (Src.o 0 rfl) rfl rfl (by decide)) rfl ?_; refine L.step (Ev.fieldAddr rfl rfl rfl rfl rfl rfl (Src.o 3 rfl) (Nat.zero_lt_succ _) rfl) rfl ?_; refine L.step (Ev.loadA rfl rfl rfl (Src.o 3 rfl) rfl rfl (by decide)) rfl ?_; refine L.callR (js := []) (js' := [0, 1, 2, 3]) (do2_c g b hok hb (nextF g (yJ p qq).a (yJ p qq).b (madeS r2)).x O1 c1 hnl hc) rfl rfl rfl (by decide) (Hq [1, 2, 3, 4, 0] rfl) rfl ?_
       rintro _ _ _ ⟨b1, hb1, rfl, rfl, rfl⟩
       refine L.norm (H' := [_, _, _, _]) [0, 1, 2, 3] ⟨rfl, rfl, rfl, rfl, trivial⟩ (by decide) ?_; refine Lpu rfl rfl ?_; refine Lpu rfl rfl ?_; refine Lpu rfl rfl ?_
       refine L.alloc rfl rfl rfl (fun A16 => ?_)
       refine L.storeA (j := 4) rfl rfl rfl rfl rfl (Nat.zero_lt_succ _) rfl rfl ?_; refine Lpu rfl rfl ?_; refine L.nil (QE.seq (C.seq (C.seq (C.region ?_)))); refine Lpu rfl rfl ?_; refine Lpu rfl rfl ?_; refine Lpu rfl rfl ?_
       refine L.bool 108 rfl (fun hg108 => ?_) (fun hg108 => ?_)
       ·
        replace hg108 := b_ne hg108
        exact absurd hE hg108
       ·
        replace hg108 := b_eq hg108
        refine L.yes rfl ?_; refine L.step (Ev.loadA rfl rfl rfl (Src.o 4 rfl) rfl rfl (by decide)) rfl ?_; refine L.yes rfl ?_; refine L.call (js := []) (js' := [0, 1, 2, 3, 4]) (Ctr.tbJ true (valid17_c ((cutR g (nextF g (yJ p qq).a (yJ p qq).b (madeS r2)).x (fun _ => 255)).size : Int) (cutR g (nextF g (yJ p qq).a (yJ p qq).b (madeS r2)).x (fun _ => 255)) b1 hb1.1 (by rw [hW1.n]; show 4 ≤ 9223372036854775807; decide)) (okB_okJ hW1.ok)) rfl rfl rfl (by decide) (Hq [0, 1, 2, 3] rfl) rfl ?_
        rintro _ _ _ ⟨rfl, rfl, rfl⟩
        refine L.norm (H' := [_, _, _, _, _]) [0, 1, 2, 3, 4] ⟨rfl, rfl, rfl, rfl, rfl, trivial⟩ (by decide) ?_; refine L.yes rfl ?_; refine Lpu rfl rfl ?_; refine Lpu rfl rfl ?_; refine Lpu rfl rfl ?_; refine L.yes rfl ?_; refine L.step (Ev.fieldAddr rfl rfl rfl rfl rfl rfl (Src.o 4 rfl) (Nat.zero_lt_succ _) rfl) rfl ?_; refine L.yes rfl ?_; refine L.step (Ev.load rfl rfl rfl (Src.o 4 rfl) rfl) rfl ?_; refine L.yes rfl ?_; refine Lpu rfl rfl ?_; refine L.yes rfl ?_; refine Lpu rfl rfl ?_; refine Lpu rfl rfl ?_; refine Lpu rfl rfl ?_
        refine L.bool 119 rfl (fun hg119 => ?_) (fun hg119 => ?_)
        ·
         replace hg119 := b_ne hg119
         exact absurd (by rw [hW1.n]; rfl) hg119
        ·
         replace hg119 := b_eq hg119
         refine L.yes rfl ?_; refine L.step (Ev.fieldAddr rfl rfl rfl rfl rfl rfl (Src.o 4 rfl) (Nat.zero_lt_succ _) rfl) rfl ?_; refine L.yes rfl ?_; refine L.step (Ev.load rfl rfl rfl (Src.o 4 rfl) rfl) rfl ?_; refine L.yes rfl ?_; refine L.step (Ev.fieldAddr rfl rfl rfl rfl rfl rfl (Src.o 0 rfl) (Nat.zero_lt_succ _) rfl) rfl ?_; refine L.yes rfl ?_; refine L.step (Ev.load rfl rfl rfl (Src.o 0 rfl) rfl) rfl ?_; refine L.yes rfl ?_; refine Lpu rfl rfl ?_; refine Lpu rfl rfl ?_; refine L.nil (QE.seq ?_)
         refine C.condB 125 rfl (fun hc125 => ?_) (fun hc125 => ?_)
         ·
          replace hc125 := b_ne hc125
          exact absurd (by rw [hW1.s, hW.s]) hc125
         ·
          replace hc125 := b_eq hc125
          refine C.skip (QE.seq (C.region ?_)); refine L.step (Ev.loadA rfl rfl rfl (Src.o 4 rfl) rfl rfl (by decide)) rfl ?_; refine L.storeA (j := 0) rfl rfl rfl rfl rfl (Nat.zero_lt_succ _) rfl rfl ?_; refine L.nil ?_; refine QE.blkN ?_; refine QE.seq (C.region ?_); refine Lpu rfl rfl ?_; refine L.step (Ev.add rfl rfl (by omega) (by omega)) rfl ?_; refine Lpu rfl rfl ?_; refine L.nil ?_
          refine QE.round (i := (i, g, b)) ((i + 1, (cutR g (nextF g (yJ p qq).a (yJ p qq).b (madeS r2)).x (fun _ => 255)), b1)) (by exact ⟨by dsimp only; omega, by dsimp only; rw [show 3 - (i + 1) = 3 - i - 1 by omega, show 47 + ((i + 1 : Nat) : Int) = 47 + (i : Int) + 1 by omega]; exact hW1, hb1.1, hb1.2⟩) (by dsimp only; omega) (by exact Le.mk' (rs := [0, 1, 2, 3]) (hs := [0, 1, 2]) ⟨rfl, rfl, rfl, rfl, rfl, trivial⟩ ⟨rfl, rfl, rfl, rfl, trivial⟩ ⟨rfl, rfl, rfl, trivial⟩ (by decide))
    ·
     replace hc78 := of_decide_eq_false hc78
     omega

end Go.Proofs.Ytmbjknampholjaa
