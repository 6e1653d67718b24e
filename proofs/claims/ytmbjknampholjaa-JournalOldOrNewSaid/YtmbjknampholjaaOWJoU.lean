/-
  The contract of the law JournalOldOrNew.
-/
import Derived.Test.YtmbjknampholjaaOJg
import Derived.Test.YtmbjknampholjaaOJl
namespace Go.Proofs.Ytmbjknampholjaa
open Go.Sl

theorem ne_toNat {k : Nat} {x : Int} (h0 : 0 ≤ x) (h : (k : Int) ≠ x) : k ≠ x.toNat := by omega

set_option maxHeartbeats 8000000 in
theorem jOldNew_c (z p qq : UInt8) (r : List UInt8) (l : List Wr) (LA : Option Addr) (lc : Nat) (hll : l.length ≤ 9223372036854775807) (hlo : ∀ k, WrOk (l.getD k Wr.zero)) (r2 : List UInt8) (ts : List (List UInt8)) (T : Option Addr) (tc : Nat) (ths : List Hd) (hth : ths.length = ts.length) (htl : ts.length ≤ 9223372036854775807) (htr : ∀ i, (ts.getD i []).length ≤ 9223372036854775807) :
   Ctr X 8 [.agg (List.toArray [.int .u8 (z.toNat : Int), .int .u8 (p.toNat : Int), .int .u8 (qq.toNat : Int), .int .u8 (((r).getD 0 0).toNat : Int), .int .u8 (((r).getD 1 0).toNat : Int), .int .u8 (((r).getD 2 0).toNat : Int), .int .u8 (((r).getD 3 0).toNat : Int), .int .u8 (((r).getD 4 0).toNat : Int), .int .u8 (((r).getD 5 0).toNat : Int), .int .u8 (((r).getD 6 0).toNat : Int), .int .u8 (((r).getD 7 0).toNat : Int), .int .u8 (((r).getD 8 0).toNat : Int)]), .slice LA l.length lc, .agg (List.toArray [.int .u8 (((r2).getD 0 0).toNat : Int), .int .u8 (((r2).getD 1 0).toNat : Int), .int .u8 (((r2).getD 2 0).toNat : Int), .int .u8 (((r2).getD 3 0).toNat : Int), .int .u8 (((r2).getD 4 0).toNat : Int), .int .u8 (((r2).getD 5 0).toNat : Int), .int .u8 (((r2).getD 6 0).toNat : Int), .int .u8 (((r2).getD 7 0).toNat : Int), .int .u8 (((r2).getD 8 0).toNat : Int), .slice T ts.length tc])] [Rd LA (wrV l), KidsR (wrT l) (wrR l), KidsA (wrA l) (wrB l), Rd T (rowsV ths (B8 ts)), KidsR ths (B8 ts)] [] (fun v R' H' => v = .bool true ∧ R' = [] ∧ H' = []) := by
 refine Ctr.of (X := X) (fn := Try.f8) Try.func8 rfl (by kernel_rfl) rfl ?_
 intro β
 refine C.seq (C.region ?_)
 refine L.boxA rfl rfl (fun A3 => ?_)
 refine L.boxA rfl rfl (fun A5 => ?_)
 refine Lpu rfl rfl ?_; refine L.nil (QE.seq (C.seq ?_)); refine C.freeze 0 rfl [1] (by decide) (by decide) ?_; refine C.norm (H' := [_]) [0] ⟨rfl, trivial⟩ (by decide) ?_; refine C.freeze 0 rfl [] (by decide) (by decide) ?_; refine C.region ?_; refine L.call (js := []) (js' := []) (sanityJ_c) rfl rfl rfl (by decide) trivial rfl ?_
 rintro _ _ _ ⟨rfl, rfl, rfl⟩
 refine Lpu rfl rfl ?_; refine L.nil (QE.seq (C.seq ?_)); refine C.join (fun q : Fa × Option Addr × Option Addr => [(1, .slice LA l.length lc), (3, ptrOf A3 0), (5, ptrOf A5 0), (7, .bool true), (8, ptrOf q.2.1 0), (9, ptrOf q.2.2 0)]) (fun q : Fa × Option Addr × Option Addr => [Rd q.1.D (rowsV q.1.hs (B8 (flJ z p qq r).data)), KidsR q.1.hs (B8 (flJ z p qq r).data), Rd q.1.W (I64 (flJ z p qq r).wear), Rd q.1.E (Bs (flJ z p qq r).dead), Rd A3 [.int .u8 (z.toNat : Int), .int .u8 (p.toNat : Int), .int .u8 (qq.toNat : Int), .int .u8 (((r).getD 0 0).toNat : Int), .int .u8 (((r).getD 1 0).toNat : Int), .int .u8 (((r).getD 2 0).toNat : Int), .int .u8 (((r).getD 3 0).toNat : Int), .int .u8 (((r).getD 4 0).toNat : Int), .int .u8 (((r).getD 5 0).toNat : Int), .int .u8 (((r).getD 6 0).toNat : Int), .int .u8 (((r).getD 7 0).toNat : Int), .int .u8 (((r).getD 8 0).toNat : Int)], Rd A5 [.int .u8 (((r2).getD 0 0).toNat : Int), .int .u8 (((r2).getD 1 0).toNat : Int), .int .u8 (((r2).getD 2 0).toNat : Int), .int .u8 (((r2).getD 3 0).toNat : Int), .int .u8 (((r2).getD 4 0).toNat : Int), .int .u8 (((r2).getD 5 0).toNat : Int), .int .u8 (((r2).getD 6 0).toNat : Int), .int .u8 (((r2).getD 7 0).toNat : Int), .int .u8 (((r2).getD 8 0).toNat : Int), .slice T ts.length tc], Rd LA (wrV l), KidsR (wrT l) (wrR l), KidsA (wrA l) (wrB l), Rd T (rowsV ths (B8 ts)), KidsR ths (B8 ts)]) (fun q : Fa × Option Addr × Option Addr => [Own 35 5 q.2.1 1 1 (flL (flJ z p qq r) q.1), Own 39 8 q.2.2 1 1 [.int .i64 0, .int .i64 (laA p), .int .i64 (laB p qq), .int .i64 0, .int .i64 0, .slice none 0 0, .slice none 0 0, .slice none 0 0]]) (fun q : Fa × Option Addr × Option Addr => q.1.hs.length = (flJ z p qq r).data.length ∧ Caps (flJ z p qq r) q.1) ?_ ?_
 ·
  refine C.regionM [Rd A5 [.int .u8 (((r2).getD 0 0).toNat : Int), .int .u8 (((r2).getD 1 0).toNat : Int), .int .u8 (((r2).getD 2 0).toNat : Int), .int .u8 (((r2).getD 3 0).toNat : Int), .int .u8 (((r2).getD 4 0).toNat : Int), .int .u8 (((r2).getD 5 0).toNat : Int), .int .u8 (((r2).getD 6 0).toNat : Int), .int .u8 (((r2).getD 7 0).toNat : Int), .int .u8 (((r2).getD 8 0).toNat : Int), .slice T ts.length tc], Rd A3 [.int .u8 (z.toNat : Int), .int .u8 (p.toNat : Int), .int .u8 (qq.toNat : Int), .int .u8 (((r).getD 0 0).toNat : Int), .int .u8 (((r).getD 1 0).toNat : Int), .int .u8 (((r).getD 2 0).toNat : Int), .int .u8 (((r).getD 3 0).toNat : Int), .int .u8 (((r).getD 4 0).toNat : Int), .int .u8 (((r).getD 5 0).toNat : Int), .int .u8 (((r).getD 6 0).toNat : Int), .int .u8 (((r).getD 7 0).toNat : Int), .int .u8 (((r).getD 8 0).toNat : Int)], Rd LA (wrV l), KidsR (wrT l) (wrR l), KidsA (wrA l) (wrB l), Rd T (rowsV ths (B8 ts)), KidsR ths (B8 ts)] (Hq [0, 1, 2, 3, 4, 5, 6] rfl) ?_; refine LM.q 0 rfl (by kernel_rfl) (Ev.loadA rfl rfl rfl (Src.r 1 rfl) rfl rfl (by decide)) rfl (Hq [0, 1, 2, 3, 4, 5, 6] rfl) ?_; refine LM.q 2 rfl (by kernel_rfl) (Ev.loadA rfl rfl rfl (Src.r 1 rfl) rfl rfl (by decide)) rfl (Hq [0, 1, 2, 3, 4, 5, 6] rfl) ?_; refine LM.a3 1 4 5 (by kernel_rfl) (Hq [0, 1, 2, 3, 4, 5, 6] rfl) rfl rfl rfl ?_ ?_ ?_; refine L.callR (js := []) (js' := []) (flash_c z p qq r) rfl rfl rfl (by decide) trivial rfl ?_
  rintro _ _ _ ⟨a, hb, hc, rfl, rfl, rfl⟩
  refine L.nm (by kernel_rfl) ?_; refine LM.a3 3 4 5 (by kernel_rfl) (Hq [4, 5, 6, 7, 8, 9, 10] rfl) rfl rfl rfl ?_ ?_ ?_; refine L.call (js := []) (js' := []) (layout_c z p qq r) rfl rfl rfl (by decide) trivial rfl ?_
  rintro _ _ _ ⟨rfl, rfl, rfl⟩
  refine L.nm (by kernel_rfl) ?_; refine LM.a2 4 5 (by kernel_rfl) (Hq [4, 5, 6, 7, 8, 9, 10] rfl) rfl rfl ?_ ?_
  refine L.alloc rfl rfl rfl (fun A8 => ?_)
  refine L.nm (by kernel_rfl) ?_; refine LM.f 5 rfl (by kernel_rfl) (Hq [4, 5, 6, 7, 8, 9, 10] rfl) ?_
  refine L.alloc rfl rfl rfl (fun A9 => ?_)
  refine L.norm (H' := [_, _]) [0, 1] ⟨rfl, rfl, trivial⟩ (by decide) ?_; refine L.nm (by kernel_rfl) ?_
  rotate_left
  refine L.alloc rfl rfl rfl (fun A9 => ?_)
  refine L.nm (by kernel_rfl) ?_; refine LM.f 4 rfl (by kernel_rfl) (Hq [4, 5, 6, 7, 8, 9, 10] rfl) ?_
  refine L.alloc rfl rfl rfl (fun A8 => ?_)
  refine L.norm (H' := [_, _]) [1, 0] ⟨rfl, rfl, trivial⟩ (by decide) ?_; refine L.nm (by kernel_rfl) ?_
  rotate_left
  refine L.alloc rfl rfl rfl (fun A8 => ?_)
  refine L.nm (by kernel_rfl) ?_; refine LM.a2 3 5 (by kernel_rfl) (Hq [4, 5, 6, 7, 8, 9, 10] rfl) rfl rfl ?_ ?_; refine L.call (js := []) (js' := [0]) (layout_c z p qq r) rfl rfl rfl (by decide) trivial rfl ?_
  rintro _ _ _ ⟨rfl, rfl, rfl⟩
  refine L.nm (by kernel_rfl) ?_; refine LM.f 5 rfl (by kernel_rfl) (Hq [4, 5, 6, 7, 8, 9, 10] rfl) ?_
  refine L.alloc rfl rfl rfl (fun A9 => ?_)
  refine L.norm (H' := [_, _]) [0, 1] ⟨rfl, rfl, trivial⟩ (by decide) ?_; refine L.nm (by kernel_rfl) ?_
  rotate_left
  refine L.alloc rfl rfl rfl (fun A9 => ?_)
  refine L.nm (by kernel_rfl) ?_; refine LM.f 3 rfl (by kernel_rfl) (Hq [4, 5, 6, 7, 8, 9, 10] rfl) ?_; refine L.call (js := []) (js' := [0, 1]) (layout_c z p qq r) rfl rfl rfl (by decide) trivial rfl ?_
  rintro _ _ _ ⟨rfl, rfl, rfl⟩
  refine L.norm (H' := [_, _]) [0, 1] ⟨rfl, rfl, trivial⟩ (by decide) ?_; refine L.nm (by kernel_rfl) ?_
  rotate_left
  refine L.alloc rfl rfl rfl (fun A9 => ?_)
  refine L.nm (by kernel_rfl) ?_; refine LM.a2 3 4 (by kernel_rfl) (Hq [4, 5, 6, 7, 8, 9, 10] rfl) rfl rfl ?_ ?_; refine L.call (js := []) (js' := [0]) (layout_c z p qq r) rfl rfl rfl (by decide) trivial rfl ?_
  rintro _ _ _ ⟨rfl, rfl, rfl⟩
  refine L.nm (by kernel_rfl) ?_; refine LM.f 4 rfl (by kernel_rfl) (Hq [4, 5, 6, 7, 8, 9, 10] rfl) ?_
  refine L.alloc rfl rfl rfl (fun A8 => ?_)
  refine L.norm (H' := [_, _]) [1, 0] ⟨rfl, rfl, trivial⟩ (by decide) ?_; refine L.nm (by kernel_rfl) ?_
  rotate_left
  refine L.alloc rfl rfl rfl (fun A8 => ?_)
  refine L.nm (by kernel_rfl) ?_; refine LM.f 3 rfl (by kernel_rfl) (Hq [4, 5, 6, 7, 8, 9, 10] rfl) ?_; refine L.call (js := []) (js' := [0, 1]) (layout_c z p qq r) rfl rfl rfl (by decide) trivial rfl ?_
  rintro _ _ _ ⟨rfl, rfl, rfl⟩
  refine L.norm (H' := [_, _]) [1, 0] ⟨rfl, rfl, trivial⟩ (by decide) ?_; refine L.nm (by kernel_rfl) ?_
  rotate_left
  refine L.alloc rfl rfl rfl (fun A8 => ?_)
  refine L.nm (by kernel_rfl) ?_; refine LM.a2 1 5 (by kernel_rfl) (Hq [0, 1, 2, 3, 4, 5, 6] rfl) rfl rfl ?_ ?_; refine L.callR (js := []) (js' := [0]) (flash_c z p qq r) rfl rfl rfl (by decide) trivial rfl ?_
  rintro _ _ _ ⟨a, hb, hc, rfl, rfl, rfl⟩
  refine L.nm (by kernel_rfl) ?_; refine LM.a2 3 5 (by kernel_rfl) (Hq [4, 5, 6, 7, 8, 9, 10] rfl) rfl rfl ?_ ?_; refine L.call (js := []) (js' := [0]) (layout_c z p qq r) rfl rfl rfl (by decide) trivial rfl ?_
  rintro _ _ _ ⟨rfl, rfl, rfl⟩
  refine L.nm (by kernel_rfl) ?_; refine LM.f 5 rfl (by kernel_rfl) (Hq [4, 5, 6, 7, 8, 9, 10] rfl) ?_
  refine L.alloc rfl rfl rfl (fun A9 => ?_)
  refine L.norm (H' := [_, _]) [0, 1] ⟨rfl, rfl, trivial⟩ (by decide) ?_; refine L.nm (by kernel_rfl) ?_
  rotate_left
  refine L.alloc rfl rfl rfl (fun A9 => ?_)
  refine L.nm (by kernel_rfl) ?_; refine LM.f 3 rfl (by kernel_rfl) (Hq [4, 5, 6, 7, 8, 9, 10] rfl) ?_; refine L.call (js := []) (js' := [0, 1]) (layout_c z p qq r) rfl rfl rfl (by decide) trivial rfl ?_
  rintro _ _ _ ⟨rfl, rfl, rfl⟩
  refine L.norm (H' := [_, _]) [0, 1] ⟨rfl, rfl, trivial⟩ (by decide) ?_; refine L.nm (by kernel_rfl) ?_
  rotate_left
  refine L.alloc rfl rfl rfl (fun A9 => ?_)
  refine L.nm (by kernel_rfl) ?_; refine LM.f 1 rfl (by kernel_rfl) (Hq [0, 1, 2, 3, 4, 5, 6] rfl) ?_; refine L.callR (js := []) (js' := [0, 1]) (flash_c z p qq r) rfl rfl rfl (by decide) trivial rfl ?_
  rintro _ _ _ ⟨a, hb, hc, rfl, rfl, rfl⟩
  refine L.nm (by kernel_rfl) ?_; refine LM.f 3 rfl (by kernel_rfl) (Hq [4, 5, 6, 7, 8, 9, 10] rfl) ?_; refine L.call (js := []) (js' := [0, 1]) (layout_c z p qq r) rfl rfl rfl (by decide) trivial rfl ?_
  rintro _ _ _ ⟨rfl, rfl, rfl⟩
  refine L.norm (H' := [_, _]) [0, 1] ⟨rfl, rfl, trivial⟩ (by decide) ?_; refine L.nm (by kernel_rfl) ?_
  rotate_left
  refine L.alloc rfl rfl rfl (fun A9 => ?_)
  refine L.nm (by kernel_rfl) ?_; refine LM.a2 1 4 (by kernel_rfl) (Hq [0, 1, 2, 3, 4, 5, 6] rfl) rfl rfl ?_ ?_; refine L.callR (js := []) (js' := [0]) (flash_c z p qq r) rfl rfl rfl (by decide) trivial rfl ?_
  rintro _ _ _ ⟨a, hb, hc, rfl, rfl, rfl⟩
  refine L.nm (by kernel_rfl) ?_; refine LM.a2 3 4 (by kernel_rfl) (Hq [4, 5, 6, 7, 8, 9, 10] rfl) rfl rfl ?_ ?_; refine L.call (js := []) (js' := [0]) (layout_c z p qq r) rfl rfl rfl (by decide) trivial rfl ?_
  rintro _ _ _ ⟨rfl, rfl, rfl⟩
  refine L.nm (by kernel_rfl) ?_; refine LM.f 4 rfl (by kernel_rfl) (Hq [4, 5, 6, 7, 8, 9, 10] rfl) ?_
  refine L.alloc rfl rfl rfl (fun A8 => ?_)
  refine L.norm (H' := [_, _]) [1, 0] ⟨rfl, rfl, trivial⟩ (by decide) ?_; refine L.nm (by kernel_rfl) ?_
  rotate_left
  refine L.alloc rfl rfl rfl (fun A8 => ?_)
  refine L.nm (by kernel_rfl) ?_; refine LM.f 3 rfl (by kernel_rfl) (Hq [4, 5, 6, 7, 8, 9, 10] rfl) ?_; refine L.call (js := []) (js' := [0, 1]) (layout_c z p qq r) rfl rfl rfl (by decide) trivial rfl ?_
  rintro _ _ _ ⟨rfl, rfl, rfl⟩
  refine L.norm (H' := [_, _]) [1, 0] ⟨rfl, rfl, trivial⟩ (by decide) ?_; refine L.nm (by kernel_rfl) ?_
  rotate_left
  refine L.alloc rfl rfl rfl (fun A8 => ?_)
  refine L.nm (by kernel_rfl) ?_; refine LM.f 1 rfl (by kernel_rfl) (Hq [0, 1, 2, 3, 4, 5, 6] rfl) ?_; refine L.callR (js := []) (js' := [0, 1]) (flash_c z p qq r) rfl rfl rfl (by decide) trivial rfl ?_
  rintro _ _ _ ⟨a, hb, hc, rfl, rfl, rfl⟩
  refine L.nm (by kernel_rfl) ?_; refine LM.f 3 rfl (by kernel_rfl) (Hq [4, 5, 6, 7, 8, 9, 10] rfl) ?_; refine L.call (js := []) (js' := [0, 1]) (layout_c z p qq r) rfl rfl rfl (by decide) trivial rfl ?_
  rintro _ _ _ ⟨rfl, rfl, rfl⟩
  refine L.norm (H' := [_, _]) [1, 0] ⟨rfl, rfl, trivial⟩ (by decide) ?_; refine L.nm (by kernel_rfl) ?_
  rotate_left
  all_goals (
    refine LM.cut [] (by kernel_rfl) (Hq [4, 5, 6, 7, 8, 9, 10] rfl) ?_; refine LM.f 6 rfl (by kernel_rfl) trivial ?_; refine L.storeA (j := 0) rfl rfl rfl rfl rfl (Nat.zero_lt_succ _) rfl rfl ?_
    refine L.nil (QE.m (by kernel_rfl) ?_)
    refine LM.f 7 rfl (by kernel_rfl) trivial ?_; refine L.storeA (j := 1) rfl rfl rfl rfl rfl (Nat.zero_lt_succ _) rfl rfl ?_
    refine L.nil (QE.m (by kernel_rfl) ?_)
    refine LM.nil (by kernel_rfl) trivial ?_
    refine QE.joined ((a, A8, A9)) (by exact ⟨hb, hc⟩) (by exact Le.mk' (rs := [0, 1, 2, 3, 5, 4, 6, 7, 8, 9, 10]) (hs := [0, 1]) ⟨rfl, rfl, rfl, rfl, rfl, rfl, trivial⟩ ⟨rfl, rfl, rfl, rfl, rfl, rfl, rfl, rfl, rfl, rfl, rfl, trivial⟩ ⟨rfl, rfl, trivial⟩ (by decide)))
 ·
  rintro ⟨a, A8, A9⟩ ⟨hb, hc⟩
  dsimp only at hb hc ⊢
  refine QE.seq ?_; refine C.seqJ (fun q : Nat × Fa => [(5, ptrOf A5 0), (7, .bool true), (8, ptrOf A8 0), (9, ptrOf A9 0)]) (fun q : Nat × Fa => [Rd q.2.D (rowsV q.2.hs (B8 (stepsF (flJ z p qq r) (laA p) (laB p qq) l q.1).data)), KidsR q.2.hs (B8 (stepsF (flJ z p qq r) (laA p) (laB p qq) l q.1).data), Rd q.2.W (I64 (stepsF (flJ z p qq r) (laA p) (laB p qq) l q.1).wear), Rd q.2.E (Bs (stepsF (flJ z p qq r) (laA p) (laB p qq) l q.1).dead), Rd A5 [.int .u8 (((r2).getD 0 0).toNat : Int), .int .u8 (((r2).getD 1 0).toNat : Int), .int .u8 (((r2).getD 2 0).toNat : Int), .int .u8 (((r2).getD 3 0).toNat : Int), .int .u8 (((r2).getD 4 0).toNat : Int), .int .u8 (((r2).getD 5 0).toNat : Int), .int .u8 (((r2).getD 6 0).toNat : Int), .int .u8 (((r2).getD 7 0).toNat : Int), .int .u8 (((r2).getD 8 0).toNat : Int), .slice T ts.length tc], Rd T (rowsV ths (B8 ts)), KidsR ths (B8 ts)]) (fun q : Nat × Fa => [Own 35 5 A8 1 1 (flL (stepsF (flJ z p qq r) (laA p) (laB p qq) l q.1) q.2), Own 39 8 A9 1 1 [.int .i64 0, .int .i64 (laA p), .int .i64 (laB p qq), .int .i64 0, .int .i64 0, .slice none 0 0, .slice none 0 0, .slice none 0 0]]) (fun q : Nat × Fa => q.1 ≤ 6 ∧ q.2.hs.length = (stepsF (flJ z p qq r) (laA p) (laB p qq) l q.1).data.length ∧ Caps (stepsF (flJ z p qq r) (laA p) (laB p qq) l q.1) q.2) ?_ ?_
  ·
   refine C.seq (C.region ?_); refine Lpu rfl rfl ?_; refine L.nil (QE.seq (C.block ?_)); refine C.loop (fun q : Nat × Fa => [(1, .slice LA l.length lc), (3, ptrOf A3 0), (5, ptrOf A5 0), (7, .bool true), (8, ptrOf A8 0), (9, ptrOf A9 0), (10, .int .i64 (q.1 : Int))]) (fun q : Nat × Fa => [Rd q.2.D (rowsV q.2.hs (B8 (stepsF (flJ z p qq r) (laA p) (laB p qq) l q.1).data)), KidsR q.2.hs (B8 (stepsF (flJ z p qq r) (laA p) (laB p qq) l q.1).data), Rd q.2.W (I64 (stepsF (flJ z p qq r) (laA p) (laB p qq) l q.1).wear), Rd q.2.E (Bs (stepsF (flJ z p qq r) (laA p) (laB p qq) l q.1).dead), Rd A3 [.int .u8 (z.toNat : Int), .int .u8 (p.toNat : Int), .int .u8 (qq.toNat : Int), .int .u8 (((r).getD 0 0).toNat : Int), .int .u8 (((r).getD 1 0).toNat : Int), .int .u8 (((r).getD 2 0).toNat : Int), .int .u8 (((r).getD 3 0).toNat : Int), .int .u8 (((r).getD 4 0).toNat : Int), .int .u8 (((r).getD 5 0).toNat : Int), .int .u8 (((r).getD 6 0).toNat : Int), .int .u8 (((r).getD 7 0).toNat : Int), .int .u8 (((r).getD 8 0).toNat : Int)], Rd A5 [.int .u8 (((r2).getD 0 0).toNat : Int), .int .u8 (((r2).getD 1 0).toNat : Int), .int .u8 (((r2).getD 2 0).toNat : Int), .int .u8 (((r2).getD 3 0).toNat : Int), .int .u8 (((r2).getD 4 0).toNat : Int), .int .u8 (((r2).getD 5 0).toNat : Int), .int .u8 (((r2).getD 6 0).toNat : Int), .int .u8 (((r2).getD 7 0).toNat : Int), .int .u8 (((r2).getD 8 0).toNat : Int), .slice T ts.length tc], Rd LA (wrV l), KidsR (wrT l) (wrR l), KidsA (wrA l) (wrB l), Rd T (rowsV ths (B8 ts)), KidsR ths (B8 ts)]) (fun q : Nat × Fa => [Own 35 5 A8 1 1 (flL (stepsF (flJ z p qq r) (laA p) (laB p qq) l q.1) q.2), Own 39 8 A9 1 1 [.int .i64 0, .int .i64 (laA p), .int .i64 (laB p qq), .int .i64 0, .int .i64 0, .slice none 0 0, .slice none 0 0, .slice none 0 0]]) (fun q : Nat × Fa => q.1 ≤ 6 ∧ q.1 ≤ l.length ∧ q.2.hs.length = (stepsF (flJ z p qq r) (laA p) (laB p qq) l q.1).data.length ∧ Caps (stepsF (flJ z p qq r) (laA p) (laB p qq) l q.1) q.2) (fun q : Nat × Fa => 6 - q.1) (0, a) ⟨Nat.zero_le _, Nat.zero_le _, hb, hc⟩ (by exact Le.mk' (rs := [0, 1, 2, 3, 4, 5, 6, 7, 8, 9, 10]) (hs := [0, 1]) ⟨rfl, rfl, rfl, rfl, rfl, rfl, rfl, trivial⟩ ⟨rfl, rfl, rfl, rfl, rfl, rfl, rfl, rfl, rfl, rfl, rfl, trivial⟩ ⟨rfl, rfl, trivial⟩ (by decide)) ?_
   rintro ⟨k, a⟩ ⟨hk6, hkl0, hb, hc⟩
   dsimp only at hk6 hkl0 hb hc ⊢
   have hok := (stepsF_ok (flJ_ok z p qq r).1 (laA p) (laB p qq) l k).1
   refine C.seq (C.seq (C.region ?_)); refine Lpu rfl rfl ?_; refine Lpu rfl rfl ?_; refine Lpu rfl rfl ?_; refine Lpu rfl rfl ?_; refine Lpu rfl rfl ?_
   refine L.bool 31 rfl (fun hg31 => ?_) (fun hg31 => ?_)
   ·
    replace hg31 := of_decide_eq_true hg31
    have hkl : k < l.length := by omega
    refine L.yes rfl ?_; refine Lpu rfl rfl ?_; refine L.yes rfl ?_; refine Lpu rfl rfl ?_; refine Lpu rfl rfl ?_; refine L.nil (QE.seq ?_)
    refine C.condB 34 rfl (fun hc34 => ?_) (fun hc34 => ?_)
    ·
     replace hc34 := of_decide_eq_true hc34
     refine C.skip (QE.seq (C.seq (C.block ?_))); refine C.regionM [Rd a.D (rowsV a.hs (B8 (stepsF (flJ z p qq r) (laA p) (laB p qq) l k).data)), KidsR a.hs (B8 (stepsF (flJ z p qq r) (laA p) (laB p qq) l k).data), Rd a.W (I64 (stepsF (flJ z p qq r) (laA p) (laB p qq) l k).wear), Rd a.E (Bs (stepsF (flJ z p qq r) (laA p) (laB p qq) l k).dead), Rd A3 [.int .u8 (z.toNat : Int), .int .u8 (p.toNat : Int), .int .u8 (qq.toNat : Int), .int .u8 (((r).getD 0 0).toNat : Int), .int .u8 (((r).getD 1 0).toNat : Int), .int .u8 (((r).getD 2 0).toNat : Int), .int .u8 (((r).getD 3 0).toNat : Int), .int .u8 (((r).getD 4 0).toNat : Int), .int .u8 (((r).getD 5 0).toNat : Int), .int .u8 (((r).getD 6 0).toNat : Int), .int .u8 (((r).getD 7 0).toNat : Int), .int .u8 (((r).getD 8 0).toNat : Int)], Rd A5 [.int .u8 (((r2).getD 0 0).toNat : Int), .int .u8 (((r2).getD 1 0).toNat : Int), .int .u8 (((r2).getD 2 0).toNat : Int), .int .u8 (((r2).getD 3 0).toNat : Int), .int .u8 (((r2).getD 4 0).toNat : Int), .int .u8 (((r2).getD 5 0).toNat : Int), .int .u8 (((r2).getD 6 0).toNat : Int), .int .u8 (((r2).getD 7 0).toNat : Int), .int .u8 (((r2).getD 8 0).toNat : Int), .slice T ts.length tc], Rd LA (wrV l), KidsR (wrT l) (wrR l), KidsA (wrA l) (wrB l), Rd T (rowsV ths (B8 ts)), KidsR ths (B8 ts), Rd A8 (flL (stepsF (flJ z p qq r) (laA p) (laB p qq) l k) a), Rd A9 [.int .i64 0, .int .i64 (laA p), .int .i64 (laB p qq), .int .i64 0, .int .i64 0, .slice none 0 0, .slice none 0 0, .slice none 0 0]] ⟨Has.r 0 rfl, Has.r 1 rfl, Has.r 2 rfl, Has.r 3 rfl, Has.r 4 rfl, Has.r 5 rfl, Has.r 6 rfl, Has.r 7 rfl, Has.r 8 rfl, Has.r 9 rfl, Has.r 10 rfl, Has.o 0 rfl, Has.o 1 rfl, trivial⟩ ?_; refine LM.q 0 rfl (by kernel_rfl) (Ev.loadA rfl rfl rfl (Src.r 11 rfl) rfl rfl (by decide)) rfl ⟨Has.r 0 rfl, Has.r 1 rfl, Has.r 2 rfl, Has.r 3 rfl, Has.r 4 rfl, Has.r 5 rfl, Has.r 6 rfl, Has.r 7 rfl, Has.r 8 rfl, Has.r 9 rfl, Has.r 10 rfl, Has.o 0 rfl, Has.o 1 rfl, trivial⟩ ?_; refine LM.q 1 rfl (by kernel_rfl) (Ev.loadA rfl rfl rfl (Src.r 12 rfl) rfl rfl (by decide)) rfl ⟨Has.r 0 rfl, Has.r 1 rfl, Has.r 2 rfl, Has.r 3 rfl, Has.r 4 rfl, Has.r 5 rfl, Has.r 6 rfl, Has.r 7 rfl, Has.r 8 rfl, Has.r 9 rfl, Has.r 10 rfl, Has.o 0 rfl, Has.o 1 rfl, trivial⟩ ?_; refine LM.q 2 rfl (by kernel_rfl) (Ev.pure rfl) rfl ⟨Has.r 0 rfl, Has.r 1 rfl, Has.r 2 rfl, Has.r 3 rfl, Has.r 4 rfl, Has.r 5 rfl, Has.r 6 rfl, Has.r 7 rfl, Has.r 8 rfl, Has.r 9 rfl, Has.r 10 rfl, Has.o 0 rfl, Has.o 1 rfl, trivial⟩ ?_; refine LM.f 3 rfl (by kernel_rfl) ⟨Has.r 0 rfl, Has.r 1 rfl, Has.r 2 rfl, Has.r 3 rfl, Has.r 4 rfl, Has.r 5 rfl, Has.r 6 rfl, Has.r 7 rfl, Has.r 8 rfl, Has.r 9 rfl, Has.r 10 rfl, Has.o 0 rfl, Has.o 1 rfl, trivial⟩ ?_; refine Lpu rfl rfl ?_
     refine L.nil (QE.m (by kernel_rfl) ?_)
     refine LM.f 4 rfl (by kernel_rfl) ⟨Has.r 0 rfl, Has.r 1 rfl, Has.r 2 rfl, Has.r 3 rfl, Has.r 4 rfl, Has.r 5 rfl, Has.r 6 rfl, Has.r 7 rfl, Has.r 8 rfl, Has.r 9 rfl, Has.r 10 rfl, Has.o 0 rfl, Has.o 1 rfl, trivial⟩ ?_; refine L.step (Ev.idx (k := k) (m := k * 10) rfl rfl rfl rfl rfl rfl hkl (Src.r 6 rfl) (by rw [wrV_len]; omega) rfl) rfl ?_
     refine L.nil (QE.m (by kernel_rfl) ?_)
     refine LM.f 5 rfl (by kernel_rfl) ⟨Has.r 0 rfl, Has.r 1 rfl, Has.r 2 rfl, Has.r 3 rfl, Has.r 4 rfl, Has.r 5 rfl, Has.r 6 rfl, Has.r 7 rfl, Has.r 8 rfl, Has.r 9 rfl, Has.r 10 rfl, Has.o 0 rfl, Has.o 1 rfl, trivial⟩ ?_; refine L.step (Ev.loadA (k := k * 10) rfl rfl rfl (Src.r 6 rfl) (wrV_at l k hkl) rfl (by decide)) rfl ?_
     refine L.nil (QE.m (by kernel_rfl) ?_)
     refine LM.cut [] (by kernel_rfl) ⟨Has.r 0 rfl, Has.r 1 rfl, Has.r 2 rfl, Has.r 3 rfl, Has.r 4 rfl, Has.r 5 rfl, Has.r 6 rfl, Has.r 7 rfl, Has.r 8 rfl, Has.r 9 rfl, Has.r 10 rfl, Has.o 0 rfl, Has.o 1 rfl, trivial⟩ ?_; refine LM.f 6 rfl (by kernel_rfl) trivial ?_; refine L.callR (js := []) (js' := [0, 1]) (step_c (stepsF (flJ z p qq r) (laA p) (laB p qq) l k) a hok hb (yJ p qq) hc (l.getD k Wr.zero).r (l.getD k Wr.zero).ts (l.getD k Wr.zero).T (l.getD k Wr.zero).tc (l.getD k Wr.zero).ths (hlo k).h (hlo k).l (hlo k).r) rfl rfl rfl (by decide) ⟨(Has.r 0 rfl), (Has.r 1 rfl), (Has.r 2 rfl), (Has.r 3 rfl), (Has.wrT 7 rfl hkl), (Has.wrA 8 rfl hkl), trivial⟩ rfl ?_
     rintro _ _ _ ⟨b', hb', hc', rfl, rfl, rfl⟩
     refine L.norm (H' := [_, _]) [0, 1] ⟨rfl, rfl, trivial⟩ (by decide) ?_
     refine L.nil (QE.m (by kernel_rfl) ?_)
     refine LM.f 7 rfl (by kernel_rfl) trivial ?_; refine L.storeA (j := 0) rfl rfl rfl rfl rfl (Nat.zero_lt_succ _) rfl rfl ?_
     refine L.nil (QE.m (by kernel_rfl) ?_)
     refine LM.nil (by kernel_rfl) trivial ?_; refine QE.blkN ?_; refine QE.seq (C.region ?_); refine Lpu rfl rfl ?_; refine L.step (Ev.add rfl rfl (by omega) (by omega)) rfl ?_; refine Lpu rfl rfl ?_; refine L.nil ?_
     refine QE.round (i := (k, a)) ((k + 1, b')) (by exact ⟨by dsimp only; omega, by dsimp only; omega, hb', hc'⟩) (by dsimp only; omega) (by exact Le.mk' (rs := [0, 1, 2, 3, 8, 9, 10, 11, 12, 13, 14]) (hs := [0, 1]) ⟨rfl, rfl, rfl, rfl, rfl, rfl, rfl, trivial⟩ ⟨rfl, rfl, rfl, rfl, rfl, rfl, rfl, rfl, rfl, rfl, rfl, trivial⟩ ⟨rfl, rfl, trivial⟩ (by decide))
    ·
     replace hc34 := of_decide_eq_false hc34
     refine C.exit ?_; refine QE.tX ?_; refine QE.tX ?_; refine QE.blk ?_
     refine QE.join ((k, a)) (by exact ⟨hk6, hb, hc⟩) (by exact Le.mk' (rs := [0, 1, 2, 3, 5, 9, 10]) (hs := [0, 1]) ⟨rfl, rfl, rfl, rfl, trivial⟩ ⟨rfl, rfl, rfl, rfl, rfl, rfl, rfl, trivial⟩ ⟨rfl, rfl, trivial⟩ (by decide))
   ·
    replace hg31 := of_decide_eq_false hg31
    refine L.no rfl rfl rfl ?_; refine L.no rfl rfl rfl ?_; refine Lpu rfl rfl ?_; refine L.nil (QE.seq ?_)
    refine C.cond rfl (fun h => by cases h) (fun _ => ?_)
    refine C.exit ?_; refine QE.tX ?_; refine QE.tX ?_; refine QE.blk ?_
    refine QE.join ((k, a)) (by exact ⟨hk6, hb, hc⟩) (by exact Le.mk' (rs := [0, 1, 2, 3, 5, 9, 10]) (hs := [0, 1]) ⟨rfl, rfl, rfl, rfl, trivial⟩ ⟨rfl, rfl, rfl, rfl, rfl, rfl, rfl, trivial⟩ ⟨rfl, rfl, trivial⟩ (by decide))
  ·
   rintro ⟨k, a⟩ ⟨hk6, hb, hc⟩
   dsimp only at hk6 hb hc ⊢
   refine C.seq ?_
   obtain ⟨s0, t, G, hG, hs0, hJ, hW⟩ := stepsF_way z p qq r l (madeS r2) (k := k) hk6
   have hok := (stepsF_ok (flJ_ok z p qq r).1 (laA p) (laB p qq) l k).1
   have hrd := hJ.read (by omega)
   refine C.join (fun q : Option Addr × Option Addr => [(5, ptrOf A5 0), (7, .bool true), (8, ptrOf A8 0), (9, ptrOf A9 0), (11, ptrOf q.1 0), (12, ptrOf q.2 0)]) (fun q : Option Addr × Option Addr => [Rd a.D (rowsV a.hs (B8 (stepsF (flJ z p qq r) (laA p) (laB p qq) l k).data)), KidsR a.hs (B8 (stepsF (flJ z p qq r) (laA p) (laB p qq) l k).data), Rd a.W (I64 (stepsF (flJ z p qq r) (laA p) (laB p qq) l k).wear), Rd a.E (Bs (stepsF (flJ z p qq r) (laA p) (laB p qq) l k).dead), Rd A5 [.int .u8 (((r2).getD 0 0).toNat : Int), .int .u8 (((r2).getD 1 0).toNat : Int), .int .u8 (((r2).getD 2 0).toNat : Int), .int .u8 (((r2).getD 3 0).toNat : Int), .int .u8 (((r2).getD 4 0).toNat : Int), .int .u8 (((r2).getD 5 0).toNat : Int), .int .u8 (((r2).getD 6 0).toNat : Int), .int .u8 (((r2).getD 7 0).toNat : Int), .int .u8 (((r2).getD 8 0).toNat : Int), .slice T ts.length tc], Rd T (rowsV ths (B8 ts)), KidsR ths (B8 ts)]) (fun q : Option Addr × Option Addr => [Own 35 5 A8 1 1 (flL (stepsF (flJ z p qq r) (laA p) (laB p qq) l k) a), Own 39 8 A9 1 1 [.int .i64 0, .int .i64 (laA p), .int .i64 (laB p qq), .int .i64 0, .int .i64 0, .slice none 0 0, .slice none 0 0, .slice none 0 0], Own 49 11 q.1 1 1 [.int .i64 ((readF (stepsF (flJ z p qq r) (laA p) (laB p qq) l k) (yJ p qq).a (yJ p qq).b).1.getD 0 0), .int .i64 ((readF (stepsF (flJ z p qq r) (laA p) (laB p qq) l k) (yJ p qq).a (yJ p qq).b).1.getD 1 0), .int .i64 ((readF (stepsF (flJ z p qq r) (laA p) (laB p qq) l k) (yJ p qq).a (yJ p qq).b).1.getD 2 0), .int .i64 ((readF (stepsF (flJ z p qq r) (laA p) (laB p qq) l k) (yJ p qq).a (yJ p qq).b).1.getD 3 0), .int .i64 ((readF (stepsF (flJ z p qq r) (laA p) (laB p qq) l k) (yJ p qq).a (yJ p qq).b).1.getD 4 0), .int .i64 ((readF (stepsF (flJ z p qq r) (laA p) (laB p qq) l k) (yJ p qq).a (yJ p qq).b).1.getD 5 0), .int .i64 ((readF (stepsF (flJ z p qq r) (laA p) (laB p qq) l k) (yJ p qq).a (yJ p qq).b).1.getD 6 0), .int .i64 ((readF (stepsF (flJ z p qq r) (laA p) (laB p qq) l k) (yJ p qq).a (yJ p qq).b).1.getD 7 0), .int .i64 ((readF (stepsF (flJ z p qq r) (laA p) (laB p qq) l k) (yJ p qq).a (yJ p qq).b).1.getD 8 0), .int .i64 ((readF (stepsF (flJ z p qq r) (laA p) (laB p qq) l k) (yJ p qq).a (yJ p qq).b).2.1 : Int), .int .i64 (readF (stepsF (flJ z p qq r) (laA p) (laB p qq) l k) (yJ p qq).a (yJ p qq).b).2.2], Own 29 9 q.2 1 1 (st9 (madeS r2))]) (fun q : Option Addr × Option Addr => True) ?_ ?_
   ·
    refine C.regionM [Rd a.D (rowsV a.hs (B8 (stepsF (flJ z p qq r) (laA p) (laB p qq) l k).data)), KidsR a.hs (B8 (stepsF (flJ z p qq r) (laA p) (laB p qq) l k).data), Rd a.W (I64 (stepsF (flJ z p qq r) (laA p) (laB p qq) l k).wear), Rd a.E (Bs (stepsF (flJ z p qq r) (laA p) (laB p qq) l k).dead), Rd A5 [.int .u8 (((r2).getD 0 0).toNat : Int), .int .u8 (((r2).getD 1 0).toNat : Int), .int .u8 (((r2).getD 2 0).toNat : Int), .int .u8 (((r2).getD 3 0).toNat : Int), .int .u8 (((r2).getD 4 0).toNat : Int), .int .u8 (((r2).getD 5 0).toNat : Int), .int .u8 (((r2).getD 6 0).toNat : Int), .int .u8 (((r2).getD 7 0).toNat : Int), .int .u8 (((r2).getD 8 0).toNat : Int), .slice T ts.length tc], Rd T (rowsV ths (B8 ts)), KidsR ths (B8 ts), Rd A8 (flL (stepsF (flJ z p qq r) (laA p) (laB p qq) l k) a), Rd A9 [.int .i64 0, .int .i64 (laA p), .int .i64 (laB p qq), .int .i64 0, .int .i64 0, .slice none 0 0, .slice none 0 0, .slice none 0 0]] ⟨Has.r 0 rfl, Has.r 1 rfl, Has.r 2 rfl, Has.r 3 rfl, Has.r 4 rfl, Has.r 5 rfl, Has.r 6 rfl, Has.o 0 rfl, Has.o 1 rfl, trivial⟩ ?_; refine LM.q 0 rfl (by kernel_rfl) (Ev.loadA rfl rfl rfl (Src.r 7 rfl) rfl rfl (by decide)) rfl ⟨Has.r 0 rfl, Has.r 1 rfl, Has.r 2 rfl, Has.r 3 rfl, Has.r 4 rfl, Has.r 5 rfl, Has.r 6 rfl, Has.o 0 rfl, Has.o 1 rfl, trivial⟩ ?_; refine LM.q 1 rfl (by kernel_rfl) (Ev.loadA rfl rfl rfl (Src.r 8 rfl) rfl rfl (by decide)) rfl ⟨Has.r 0 rfl, Has.r 1 rfl, Has.r 2 rfl, Has.r 3 rfl, Has.r 4 rfl, Has.r 5 rfl, Has.r 6 rfl, Has.o 0 rfl, Has.o 1 rfl, trivial⟩ ?_; refine LM.q 3 rfl (by kernel_rfl) (Ev.fieldAddr rfl rfl rfl rfl rfl rfl (Src.r 4 rfl) (Nat.zero_lt_succ _) rfl) rfl ⟨Has.r 0 rfl, Has.r 1 rfl, Has.r 2 rfl, Has.r 3 rfl, Has.r 4 rfl, Has.r 5 rfl, Has.r 6 rfl, Has.o 0 rfl, Has.o 1 rfl, trivial⟩ ?_; refine LM.q 4 rfl (by kernel_rfl) (Ev.loadA rfl rfl rfl (Src.r 4 rfl) (show _ = u9 r2 from rfl) rfl (by decide)) rfl ⟨Has.r 0 rfl, Has.r 1 rfl, Has.r 2 rfl, Has.r 3 rfl, Has.r 4 rfl, Has.r 5 rfl, Has.r 6 rfl, Has.o 0 rfl, Has.o 1 rfl, trivial⟩ ?_; refine LM.a3 2 6 7 (by kernel_rfl) ⟨Has.r 0 rfl, Has.r 1 rfl, Has.r 2 rfl, Has.r 3 rfl, Has.r 4 rfl, Has.r 5 rfl, Has.r 6 rfl, Has.o 0 rfl, Has.o 1 rfl, trivial⟩ rfl rfl rfl ?_ ?_ ?_; refine L.call (js := []) (js' := [0, 1]) (lread_c (stepsF (flJ z p qq r) (laA p) (laB p qq) l k) a hok hb (yJ p qq) hc) rfl rfl rfl (by decide) (Hq [0, 1, 2, 3] rfl) rfl ?_
    rintro _ _ _ ⟨rfl, rfl, rfl⟩
    refine L.nm (by kernel_rfl) ?_; refine LM.a3 5 6 7 (by kernel_rfl) ⟨Has.r 0 rfl, Has.r 1 rfl, Has.r 2 rfl, Has.r 3 rfl, Has.r 4 rfl, Has.r 5 rfl, Has.r 6 rfl, Has.o 0 rfl, Has.o 1 rfl, trivial⟩ rfl rfl rfl ?_ ?_ ?_; refine L.call (js := []) (js' := [0, 1]) (made_c r2) rfl rfl rfl (by decide) trivial rfl ?_
    rintro _ _ _ ⟨rfl, rfl, rfl⟩
    refine L.nm (by kernel_rfl) ?_; refine LM.a2 6 7 (by kernel_rfl) ⟨Has.r 0 rfl, Has.r 1 rfl, Has.r 2 rfl, Has.r 3 rfl, Has.r 4 rfl, Has.r 5 rfl, Has.r 6 rfl, Has.o 0 rfl, Has.o 1 rfl, trivial⟩ rfl rfl ?_ ?_
    refine L.alloc rfl rfl rfl (fun A11 => ?_)
    refine L.nm (by kernel_rfl) ?_; refine LM.f 7 rfl (by kernel_rfl) ⟨Has.r 0 rfl, Has.r 1 rfl, Has.r 2 rfl, Has.r 3 rfl, Has.r 4 rfl, Has.r 5 rfl, Has.r 6 rfl, Has.o 0 rfl, Has.o 1 rfl, trivial⟩ ?_
    refine L.alloc rfl rfl rfl (fun A12 => ?_)
    refine L.norm (H' := [_, _, _, _]) [0, 1, 2, 3] ⟨rfl, rfl, rfl, rfl, trivial⟩ (by decide) ?_; refine L.nm (by kernel_rfl) ?_
    rotate_left
    refine L.alloc rfl rfl rfl (fun A12 => ?_)
    refine L.nm (by kernel_rfl) ?_; refine LM.f 6 rfl (by kernel_rfl) ⟨Has.r 0 rfl, Has.r 1 rfl, Has.r 2 rfl, Has.r 3 rfl, Has.r 4 rfl, Has.r 5 rfl, Has.r 6 rfl, Has.o 0 rfl, Has.o 1 rfl, trivial⟩ ?_
    refine L.alloc rfl rfl rfl (fun A11 => ?_)
    refine L.norm (H' := [_, _, _, _]) [0, 1, 3, 2] ⟨rfl, rfl, rfl, rfl, trivial⟩ (by decide) ?_; refine L.nm (by kernel_rfl) ?_
    rotate_left
    refine L.alloc rfl rfl rfl (fun A11 => ?_)
    refine L.nm (by kernel_rfl) ?_; refine LM.a2 5 7 (by kernel_rfl) ⟨Has.r 0 rfl, Has.r 1 rfl, Has.r 2 rfl, Has.r 3 rfl, Has.r 4 rfl, Has.r 5 rfl, Has.r 6 rfl, Has.o 0 rfl, Has.o 1 rfl, trivial⟩ rfl rfl ?_ ?_; refine L.call (js := []) (js' := [0, 1, 2]) (made_c r2) rfl rfl rfl (by decide) trivial rfl ?_
    rintro _ _ _ ⟨rfl, rfl, rfl⟩
    refine L.nm (by kernel_rfl) ?_; refine LM.f 7 rfl (by kernel_rfl) ⟨Has.r 0 rfl, Has.r 1 rfl, Has.r 2 rfl, Has.r 3 rfl, Has.r 4 rfl, Has.r 5 rfl, Has.r 6 rfl, Has.o 0 rfl, Has.o 1 rfl, trivial⟩ ?_
    refine L.alloc rfl rfl rfl (fun A12 => ?_)
    refine L.norm (H' := [_, _, _, _]) [0, 1, 2, 3] ⟨rfl, rfl, rfl, rfl, trivial⟩ (by decide) ?_; refine L.nm (by kernel_rfl) ?_
    rotate_left
    refine L.alloc rfl rfl rfl (fun A12 => ?_)
    refine L.nm (by kernel_rfl) ?_; refine LM.f 5 rfl (by kernel_rfl) ⟨Has.r 0 rfl, Has.r 1 rfl, Has.r 2 rfl, Has.r 3 rfl, Has.r 4 rfl, Has.r 5 rfl, Has.r 6 rfl, Has.o 0 rfl, Has.o 1 rfl, trivial⟩ ?_; refine L.call (js := []) (js' := [0, 1, 2, 3]) (made_c r2) rfl rfl rfl (by decide) trivial rfl ?_
    rintro _ _ _ ⟨rfl, rfl, rfl⟩
    refine L.norm (H' := [_, _, _, _]) [0, 1, 2, 3] ⟨rfl, rfl, rfl, rfl, trivial⟩ (by decide) ?_; refine L.nm (by kernel_rfl) ?_
    rotate_left
    refine L.alloc rfl rfl rfl (fun A12 => ?_)
    refine L.nm (by kernel_rfl) ?_; refine LM.a2 5 6 (by kernel_rfl) ⟨Has.r 0 rfl, Has.r 1 rfl, Has.r 2 rfl, Has.r 3 rfl, Has.r 4 rfl, Has.r 5 rfl, Has.r 6 rfl, Has.o 0 rfl, Has.o 1 rfl, trivial⟩ rfl rfl ?_ ?_; refine L.call (js := []) (js' := [0, 1, 2]) (made_c r2) rfl rfl rfl (by decide) trivial rfl ?_
    rintro _ _ _ ⟨rfl, rfl, rfl⟩
    refine L.nm (by kernel_rfl) ?_; refine LM.f 6 rfl (by kernel_rfl) ⟨Has.r 0 rfl, Has.r 1 rfl, Has.r 2 rfl, Has.r 3 rfl, Has.r 4 rfl, Has.r 5 rfl, Has.r 6 rfl, Has.o 0 rfl, Has.o 1 rfl, trivial⟩ ?_
    refine L.alloc rfl rfl rfl (fun A11 => ?_)
    refine L.norm (H' := [_, _, _, _]) [0, 1, 3, 2] ⟨rfl, rfl, rfl, rfl, trivial⟩ (by decide) ?_; refine L.nm (by kernel_rfl) ?_
    rotate_left
    refine L.alloc rfl rfl rfl (fun A11 => ?_)
    refine L.nm (by kernel_rfl) ?_; refine LM.f 5 rfl (by kernel_rfl) ⟨Has.r 0 rfl, Has.r 1 rfl, Has.r 2 rfl, Has.r 3 rfl, Has.r 4 rfl, Has.r 5 rfl, Has.r 6 rfl, Has.o 0 rfl, Has.o 1 rfl, trivial⟩ ?_; refine L.call (js := []) (js' := [0, 1, 2, 3]) (made_c r2) rfl rfl rfl (by decide) trivial rfl ?_
    rintro _ _ _ ⟨rfl, rfl, rfl⟩
    refine L.norm (H' := [_, _, _, _]) [0, 1, 3, 2] ⟨rfl, rfl, rfl, rfl, trivial⟩ (by decide) ?_; refine L.nm (by kernel_rfl) ?_
    rotate_left
    refine L.alloc rfl rfl rfl (fun A11 => ?_)
    refine L.nm (by kernel_rfl) ?_; refine LM.a2 2 7 (by kernel_rfl) ⟨Has.r 0 rfl, Has.r 1 rfl, Has.r 2 rfl, Has.r 3 rfl, Has.r 4 rfl, Has.r 5 rfl, Has.r 6 rfl, Has.o 0 rfl, Has.o 1 rfl, trivial⟩ rfl rfl ?_ ?_; refine L.call (js := []) (js' := [0, 1, 2]) (lread_c (stepsF (flJ z p qq r) (laA p) (laB p qq) l k) a hok hb (yJ p qq) hc) rfl rfl rfl (by decide) (Hq [0, 1, 2, 3] rfl) rfl ?_
    rintro _ _ _ ⟨rfl, rfl, rfl⟩
    refine L.nm (by kernel_rfl) ?_; refine LM.a2 5 7 (by kernel_rfl) ⟨Has.r 0 rfl, Has.r 1 rfl, Has.r 2 rfl, Has.r 3 rfl, Has.r 4 rfl, Has.r 5 rfl, Has.r 6 rfl, Has.o 0 rfl, Has.o 1 rfl, trivial⟩ rfl rfl ?_ ?_; refine L.call (js := []) (js' := [0, 1, 2]) (made_c r2) rfl rfl rfl (by decide) trivial rfl ?_
    rintro _ _ _ ⟨rfl, rfl, rfl⟩
    refine L.nm (by kernel_rfl) ?_; refine LM.f 7 rfl (by kernel_rfl) ⟨Has.r 0 rfl, Has.r 1 rfl, Has.r 2 rfl, Has.r 3 rfl, Has.r 4 rfl, Has.r 5 rfl, Has.r 6 rfl, Has.o 0 rfl, Has.o 1 rfl, trivial⟩ ?_
    refine L.alloc rfl rfl rfl (fun A12 => ?_)
    refine L.norm (H' := [_, _, _, _]) [0, 1, 2, 3] ⟨rfl, rfl, rfl, rfl, trivial⟩ (by decide) ?_; refine L.nm (by kernel_rfl) ?_
    rotate_left
    refine L.alloc rfl rfl rfl (fun A12 => ?_)
    refine L.nm (by kernel_rfl) ?_; refine LM.f 5 rfl (by kernel_rfl) ⟨Has.r 0 rfl, Has.r 1 rfl, Has.r 2 rfl, Has.r 3 rfl, Has.r 4 rfl, Has.r 5 rfl, Has.r 6 rfl, Has.o 0 rfl, Has.o 1 rfl, trivial⟩ ?_; refine L.call (js := []) (js' := [0, 1, 2, 3]) (made_c r2) rfl rfl rfl (by decide) trivial rfl ?_
    rintro _ _ _ ⟨rfl, rfl, rfl⟩
    refine L.norm (H' := [_, _, _, _]) [0, 1, 2, 3] ⟨rfl, rfl, rfl, rfl, trivial⟩ (by decide) ?_; refine L.nm (by kernel_rfl) ?_
    rotate_left
    refine L.alloc rfl rfl rfl (fun A12 => ?_)
    refine L.nm (by kernel_rfl) ?_; refine LM.f 2 rfl (by kernel_rfl) ⟨Has.r 0 rfl, Has.r 1 rfl, Has.r 2 rfl, Has.r 3 rfl, Has.r 4 rfl, Has.r 5 rfl, Has.r 6 rfl, Has.o 0 rfl, Has.o 1 rfl, trivial⟩ ?_; refine L.call (js := []) (js' := [0, 1, 2, 3]) (lread_c (stepsF (flJ z p qq r) (laA p) (laB p qq) l k) a hok hb (yJ p qq) hc) rfl rfl rfl (by decide) (Hq [0, 1, 2, 3] rfl) rfl ?_
    rintro _ _ _ ⟨rfl, rfl, rfl⟩
    refine L.nm (by kernel_rfl) ?_; refine LM.f 5 rfl (by kernel_rfl) ⟨Has.r 0 rfl, Has.r 1 rfl, Has.r 2 rfl, Has.r 3 rfl, Has.r 4 rfl, Has.r 5 rfl, Has.r 6 rfl, Has.o 0 rfl, Has.o 1 rfl, trivial⟩ ?_; refine L.call (js := []) (js' := [0, 1, 2, 3]) (made_c r2) rfl rfl rfl (by decide) trivial rfl ?_
    rintro _ _ _ ⟨rfl, rfl, rfl⟩
    refine L.norm (H' := [_, _, _, _]) [0, 1, 2, 3] ⟨rfl, rfl, rfl, rfl, trivial⟩ (by decide) ?_; refine L.nm (by kernel_rfl) ?_
    rotate_left
    refine L.alloc rfl rfl rfl (fun A12 => ?_)
    refine L.nm (by kernel_rfl) ?_; refine LM.a2 2 6 (by kernel_rfl) ⟨Has.r 0 rfl, Has.r 1 rfl, Has.r 2 rfl, Has.r 3 rfl, Has.r 4 rfl, Has.r 5 rfl, Has.r 6 rfl, Has.o 0 rfl, Has.o 1 rfl, trivial⟩ rfl rfl ?_ ?_; refine L.call (js := []) (js' := [0, 1, 2]) (lread_c (stepsF (flJ z p qq r) (laA p) (laB p qq) l k) a hok hb (yJ p qq) hc) rfl rfl rfl (by decide) (Hq [0, 1, 2, 3] rfl) rfl ?_
    rintro _ _ _ ⟨rfl, rfl, rfl⟩
    refine L.nm (by kernel_rfl) ?_; refine LM.a2 5 6 (by kernel_rfl) ⟨Has.r 0 rfl, Has.r 1 rfl, Has.r 2 rfl, Has.r 3 rfl, Has.r 4 rfl, Has.r 5 rfl, Has.r 6 rfl, Has.o 0 rfl, Has.o 1 rfl, trivial⟩ rfl rfl ?_ ?_; refine L.call (js := []) (js' := [0, 1, 2]) (made_c r2) rfl rfl rfl (by decide) trivial rfl ?_
    rintro _ _ _ ⟨rfl, rfl, rfl⟩
    refine L.nm (by kernel_rfl) ?_; refine LM.f 6 rfl (by kernel_rfl) ⟨Has.r 0 rfl, Has.r 1 rfl, Has.r 2 rfl, Has.r 3 rfl, Has.r 4 rfl, Has.r 5 rfl, Has.r 6 rfl, Has.o 0 rfl, Has.o 1 rfl, trivial⟩ ?_
    refine L.alloc rfl rfl rfl (fun A11 => ?_)
    refine L.norm (H' := [_, _, _, _]) [0, 1, 3, 2] ⟨rfl, rfl, rfl, rfl, trivial⟩ (by decide) ?_; refine L.nm (by kernel_rfl) ?_
    rotate_left
    refine L.alloc rfl rfl rfl (fun A11 => ?_)
    refine L.nm (by kernel_rfl) ?_; refine LM.f 5 rfl (by kernel_rfl) ⟨Has.r 0 rfl, Has.r 1 rfl, Has.r 2 rfl, Has.r 3 rfl, Has.r 4 rfl, Has.r 5 rfl, Has.r 6 rfl, Has.o 0 rfl, Has.o 1 rfl, trivial⟩ ?_; refine L.call (js := []) (js' := [0, 1, 2, 3]) (made_c r2) rfl rfl rfl (by decide) trivial rfl ?_
    rintro _ _ _ ⟨rfl, rfl, rfl⟩
    refine L.norm (H' := [_, _, _, _]) [0, 1, 3, 2] ⟨rfl, rfl, rfl, rfl, trivial⟩ (by decide) ?_; refine L.nm (by kernel_rfl) ?_
    rotate_left
    refine L.alloc rfl rfl rfl (fun A11 => ?_)
    refine L.nm (by kernel_rfl) ?_; refine LM.f 2 rfl (by kernel_rfl) ⟨Has.r 0 rfl, Has.r 1 rfl, Has.r 2 rfl, Has.r 3 rfl, Has.r 4 rfl, Has.r 5 rfl, Has.r 6 rfl, Has.o 0 rfl, Has.o 1 rfl, trivial⟩ ?_; refine L.call (js := []) (js' := [0, 1, 2, 3]) (lread_c (stepsF (flJ z p qq r) (laA p) (laB p qq) l k) a hok hb (yJ p qq) hc) rfl rfl rfl (by decide) (Hq [0, 1, 2, 3] rfl) rfl ?_
    rintro _ _ _ ⟨rfl, rfl, rfl⟩
    refine L.nm (by kernel_rfl) ?_; refine LM.f 5 rfl (by kernel_rfl) ⟨Has.r 0 rfl, Has.r 1 rfl, Has.r 2 rfl, Has.r 3 rfl, Has.r 4 rfl, Has.r 5 rfl, Has.r 6 rfl, Has.o 0 rfl, Has.o 1 rfl, trivial⟩ ?_; refine L.call (js := []) (js' := [0, 1, 2, 3]) (made_c r2) rfl rfl rfl (by decide) trivial rfl ?_
    rintro _ _ _ ⟨rfl, rfl, rfl⟩
    refine L.norm (H' := [_, _, _, _]) [0, 1, 3, 2] ⟨rfl, rfl, rfl, rfl, trivial⟩ (by decide) ?_; refine L.nm (by kernel_rfl) ?_
    rotate_left
    all_goals (
      refine LM.cut [] (by kernel_rfl) ⟨Has.r 0 rfl, Has.r 1 rfl, Has.r 2 rfl, Has.r 3 rfl, Has.r 4 rfl, Has.r 5 rfl, Has.r 6 rfl, Has.o 0 rfl, Has.o 1 rfl, trivial⟩ ?_; refine LM.f 8 rfl (by kernel_rfl) trivial ?_; refine L.storeA (j := 2) rfl rfl rfl rfl rfl (Nat.zero_lt_succ _) rfl rfl ?_
      refine L.nil (QE.m (by kernel_rfl) ?_)
      refine LM.f 9 rfl (by kernel_rfl) trivial ?_; refine L.storeA (j := 3) rfl rfl rfl rfl rfl (Nat.zero_lt_succ _) rfl rfl ?_
      refine L.nil (QE.m (by kernel_rfl) ?_)
      refine LM.nil (by kernel_rfl) trivial ?_
      refine QE.joined ((A11, A12)) (by exact trivial) (by exact Le.mk' (rs := [0, 1, 2, 3, 4, 5, 6]) (hs := [0, 1, 2, 3]) ⟨rfl, rfl, rfl, rfl, rfl, rfl, trivial⟩ ⟨rfl, rfl, rfl, rfl, rfl, rfl, rfl, trivial⟩ ⟨rfl, rfl, rfl, rfl, trivial⟩ (by decide)))
   ·
    rintro ⟨A11, A12⟩ _
    dsimp only
    have hr0 : (readF (stepsF (flJ z p qq r) (laA p) (laB p qq) l k) (yJ p qq).a (yJ p qq).b).1 = s0 ∧ (readF (stepsF (flJ z p qq r) (laA p) (laB p qq) l k) (yJ p qq).a (yJ p qq).b).1.length = 9 := ⟨hrd.2.1, readF_len _ _ _⟩
    have hre : (readF (stepsF (flJ z p qq r) (laA p) (laB p qq) l k) (yJ p qq).a (yJ p qq).b).2.2 = 0 := hrd.1
    generalize (readF (stepsF (flJ z p qq r) (laA p) (laB p qq) l k) (yJ p qq).a (yJ p qq).b) = r0 at hr0 hre ⊢
    refine QE.seq (C.seq (C.seq (C.region ?_))); refine L.step (Ev.fieldAddr rfl rfl rfl rfl rfl rfl (Src.o 2 rfl) (Nat.zero_lt_succ _) rfl) rfl ?_; refine L.step (Ev.load rfl rfl rfl (Src.o 2 rfl) rfl) rfl ?_; refine Lpu rfl rfl ?_; refine L.nil (QE.seq ?_)
    refine C.condB 52 rfl (fun hc52 => ?_) (fun hc52 => ?_)
    ·
     replace hc52 := b_ne hc52
     exact absurd hre hc52
    ·
     replace hc52 := b_eq hc52
     refine C.skip (QE.seq ?_); refine C.seqJ (fun q : Unit => [(7, .bool true)]) (fun q : Unit => []) (fun q : Unit => []) (fun q : Unit => True) ?_ ?_
     ·
      refine C.seq ?_; refine C.freeze 2 rfl [0, 1, 3] (by decide) (by decide) ?_; refine C.norm (H' := [_, _, _]) [0, 1, 2] ⟨rfl, rfl, rfl, trivial⟩ (by decide) ?_; refine C.freeze 2 rfl [0, 1] (by decide) (by decide) ?_; refine C.norm (H' := [_, _]) [0, 1] ⟨rfl, rfl, trivial⟩ (by decide) ?_; refine C.region ?_; refine Lpu rfl rfl ?_; refine L.nil (QE.seq (C.block ?_)); refine C.loop (fun q : Nat × Fl × Fa => [(5, ptrOf A5 0), (7, .bool true), (8, ptrOf A8 0), (9, ptrOf A9 0), (11, ptrOf A11 0), (12, ptrOf A12 0), (13, .int .i64 (q.1 : Int))]) (fun q : Nat × Fl × Fa => [Rd q.2.2.D (rowsV q.2.2.hs (B8 q.2.1.data)), KidsR q.2.2.hs (B8 q.2.1.data), Rd q.2.2.W (I64 q.2.1.wear), Rd q.2.2.E (Bs q.2.1.dead), Rd A11 [.int .i64 (r0.1.getD 0 0), .int .i64 (r0.1.getD 1 0), .int .i64 (r0.1.getD 2 0), .int .i64 (r0.1.getD 3 0), .int .i64 (r0.1.getD 4 0), .int .i64 (r0.1.getD 5 0), .int .i64 (r0.1.getD 6 0), .int .i64 (r0.1.getD 7 0), .int .i64 (r0.1.getD 8 0), .int .i64 (r0.2.1 : Int), .int .i64 r0.2.2], Rd A12 (st9 (madeS r2)), Rd A5 [.int .u8 (((r2).getD 0 0).toNat : Int), .int .u8 (((r2).getD 1 0).toNat : Int), .int .u8 (((r2).getD 2 0).toNat : Int), .int .u8 (((r2).getD 3 0).toNat : Int), .int .u8 (((r2).getD 4 0).toNat : Int), .int .u8 (((r2).getD 5 0).toNat : Int), .int .u8 (((r2).getD 6 0).toNat : Int), .int .u8 (((r2).getD 7 0).toNat : Int), .int .u8 (((r2).getD 8 0).toNat : Int), .slice T ts.length tc], Rd T (rowsV ths (B8 ts)), KidsR ths (B8 ts)]) (fun q : Nat × Fl × Fa => [Own 35 5 A8 1 1 (flL q.2.1 q.2.2), Own 39 8 A9 1 1 [.int .i64 0, .int .i64 (laA p), .int .i64 (laB p qq), .int .i64 0, .int .i64 0, .slice none 0 0, .slice none 0 0, .slice none 0 0]]) (fun q : Nat × Fl × Fa => q.1 ≤ 6 ∧ Wy (fl1 z) q.2.1 (yJ p qq).a (yJ p qq).b s0 (madeS r2) (t + q.1) G 3 (43 + (q.1 : Int)) ∧ q.2.2.hs.length = q.2.1.data.length ∧ Caps q.2.1 q.2.2) (fun q : Nat × Fl × Fa => 6 - q.1) (0, (stepsF (flJ z p qq r) (laA p) (laB p qq) l k), a) ⟨Nat.zero_le _, hW, hb, hc⟩ (by exact Le.mk' (rs := [2, 3, 4, 5, 1, 0, 6, 7, 8]) (hs := [0, 1]) ⟨rfl, rfl, rfl, rfl, rfl, rfl, rfl, trivial⟩ ⟨rfl, rfl, rfl, rfl, rfl, rfl, rfl, rfl, rfl, trivial⟩ ⟨rfl, rfl, trivial⟩ (by decide)) ?_
      rintro ⟨i, g, b⟩ ⟨hi, hW, hb, hc⟩
      dsimp only at hi hW hb hc ⊢
      have hok := hW.ok
      refine C.seq (C.seq (C.region ?_)); refine Lpu rfl rfl ?_; refine L.step (Ev.fieldAddr rfl rfl rfl rfl rfl rfl (Src.r 6 rfl) (Nat.zero_lt_succ _) rfl) rfl ?_; refine L.step (Ev.load rfl rfl rfl (Src.r 6 rfl) rfl) rfl ?_; refine Lpu rfl rfl ?_; refine Lpu rfl rfl ?_; refine Lpu rfl rfl ?_
      refine L.bool 58 rfl (fun hg58 => ?_) (fun hg58 => ?_)
      ·
       replace hg58 := of_decide_eq_true hg58
       refine L.yes rfl ?_; refine Lpu rfl rfl ?_; refine L.yes rfl ?_; refine Lpu rfl rfl ?_; refine Lpu rfl rfl ?_; refine L.nil (QE.seq ?_)
       refine C.condB 61 rfl (fun hc61 => ?_) (fun hc61 => ?_)
       ·
        replace hc61 := of_decide_eq_true hc61
        refine C.skip (QE.seq (C.seq (C.block (C.seq (C.region ?_))))); refine L.step (Ev.loadA rfl rfl rfl (Src.o 0 rfl) rfl rfl (by decide)) rfl ?_; refine L.step (Ev.loadA rfl rfl rfl (Src.o 1 rfl) rfl rfl (by decide)) rfl ?_; refine L.step (Ev.loadA rfl rfl rfl (Src.r 5 rfl) rfl rfl (by decide)) rfl ?_; refine L.callR (js := []) (js' := [0, 1]) (lnext_c g b hok hb (yJ p qq) hc (madeS r2) rfl) rfl rfl rfl (by decide) (Hq [0, 1, 2, 3] rfl) rfl ?_
        rintro _ _ _ ⟨O1, c1, rfl, rfl, rfl⟩
        refine L.norm (H' := [_, _]) [0, 1] ⟨rfl, rfl, trivial⟩ (by decide) ?_
        refine L.alloc rfl rfl rfl (fun A14 => ?_)
        refine L.storeA (j := 2) rfl rfl rfl rfl rfl (Nat.zero_lt_succ _) rfl rfl ?_; refine L.nil (QE.seq (C.seq (C.seq (C.region ?_)))); refine L.step (Ev.fieldAddr rfl rfl rfl rfl rfl rfl (Src.o 2 rfl) (Nat.zero_lt_succ _) rfl) rfl ?_; refine L.step (Ev.load rfl rfl rfl (Src.o 2 rfl) rfl) rfl ?_; refine Lpu rfl rfl ?_; refine Lpu rfl rfl ?_
        refine L.bool 71 rfl (fun hg71 => ?_) (fun hg71 => ?_)
        ·
         replace hg71 := b_ne hg71
         exact absurd (hW.e hG rfl (made_right _) (by show _ < (60 : Int); omega)) hg71
        ·
         replace hg71 := b_eq hg71
         refine L.yes rfl ?_; refine L.step (Ev.fieldAddr rfl rfl rfl rfl rfl rfl (Src.o 2 rfl) (Nat.zero_lt_succ _) rfl) rfl ?_; refine L.yes rfl ?_; refine L.step (Ev.load rfl rfl rfl (Src.o 2 rfl) rfl) rfl ?_; refine Lpu rfl rfl ?_; refine L.nil (QE.seq ?_)
         refine C.condB 74 rfl (fun hc74 => ?_) (fun hc74 => ?_)
         ·
          refine C.seq ?_
          have hJ := hW.done hG rfl (made_right _) (by show _ < (60 : Int); omega) hc74
          have hrd := hJ.read (by omega)
          refine C.regionM [Rd b.D (rowsV b.hs (B8 g.data)), KidsR b.hs (B8 g.data), Rd b.W (I64 g.wear), Rd b.E (Bs g.dead), Rd A11 [.int .i64 (r0.1.getD 0 0), .int .i64 (r0.1.getD 1 0), .int .i64 (r0.1.getD 2 0), .int .i64 (r0.1.getD 3 0), .int .i64 (r0.1.getD 4 0), .int .i64 (r0.1.getD 5 0), .int .i64 (r0.1.getD 6 0), .int .i64 (r0.1.getD 7 0), .int .i64 (r0.1.getD 8 0), .int .i64 (r0.2.1 : Int), .int .i64 r0.2.2], Rd A12 (st9 (madeS r2)), Rd A5 [.int .u8 (((r2).getD 0 0).toNat : Int), .int .u8 (((r2).getD 1 0).toNat : Int), .int .u8 (((r2).getD 2 0).toNat : Int), .int .u8 (((r2).getD 3 0).toNat : Int), .int .u8 (((r2).getD 4 0).toNat : Int), .int .u8 (((r2).getD 5 0).toNat : Int), .int .u8 (((r2).getD 6 0).toNat : Int), .int .u8 (((r2).getD 7 0).toNat : Int), .int .u8 (((r2).getD 8 0).toNat : Int), .slice T ts.length tc], Rd T (rowsV ths (B8 ts)), KidsR ths (B8 ts), Rd A8 (flL g b), Rd A9 [.int .i64 0, .int .i64 (laA p), .int .i64 (laB p qq), .int .i64 0, .int .i64 0, .slice none 0 0, .slice none 0 0, .slice none 0 0], Rd A14 [.int .i64 (nextF g (yJ p qq).a (yJ p qq).b (madeS r2)).x.kind, .int .i64 (nextF g (yJ p qq).a (yJ p qq).b (madeS r2)).x.sec, .int .i64 (nextF g (yJ p qq).a (yJ p qq).b (madeS r2)).x.at_, .slice O1 (nextF g (yJ p qq).a (yJ p qq).b (madeS r2)).x.data.length c1, .bool (nextF g (yJ p qq).a (yJ p qq).b (madeS r2)).done, .int .i64 (nextF g (yJ p qq).a (yJ p qq).b (madeS r2)).e]] ⟨Has.r 1 rfl, Has.r 2 rfl, Has.r 3 rfl, Has.r 4 rfl, Has.r 5 rfl, Has.r 6 rfl, Has.r 7 rfl, Has.r 8 rfl, Has.r 9 rfl, Has.o 0 rfl, Has.o 1 rfl, Has.o 2 rfl, trivial⟩ ?_; refine LM.q 0 rfl (by kernel_rfl) (Ev.fieldAddr rfl rfl rfl rfl rfl rfl (Src.r 11 rfl) (Nat.zero_lt_succ _) rfl) rfl ⟨Has.r 1 rfl, Has.r 2 rfl, Has.r 3 rfl, Has.r 4 rfl, Has.r 5 rfl, Has.r 6 rfl, Has.r 7 rfl, Has.r 8 rfl, Has.r 9 rfl, Has.o 0 rfl, Has.o 1 rfl, Has.o 2 rfl, trivial⟩ ?_; refine LM.q 1 rfl (by kernel_rfl) (Ev.load rfl rfl rfl (Src.r 11 rfl) rfl) rfl ⟨Has.r 1 rfl, Has.r 2 rfl, Has.r 3 rfl, Has.r 4 rfl, Has.r 5 rfl, Has.r 6 rfl, Has.r 7 rfl, Has.r 8 rfl, Has.r 9 rfl, Has.o 0 rfl, Has.o 1 rfl, Has.o 2 rfl, trivial⟩ ?_; refine LM.q 2 rfl (by kernel_rfl) (Ev.pure rfl) rfl ⟨Has.r 1 rfl, Has.r 2 rfl, Has.r 3 rfl, Has.r 4 rfl, Has.r 5 rfl, Has.r 6 rfl, Has.r 7 rfl, Has.r 8 rfl, Has.r 9 rfl, Has.o 0 rfl, Has.o 1 rfl, Has.o 2 rfl, trivial⟩ ?_; refine LM.q 3 rfl (by kernel_rfl) (Ev.pure rfl) rfl ⟨Has.r 1 rfl, Has.r 2 rfl, Has.r 3 rfl, Has.r 4 rfl, Has.r 5 rfl, Has.r 6 rfl, Has.r 7 rfl, Has.r 8 rfl, Has.r 9 rfl, Has.o 0 rfl, Has.o 1 rfl, Has.o 2 rfl, trivial⟩ ?_
          refine LM.bool 78 rfl (fun hg78 => ?_) (fun hg78 => ?_)
          ·
           replace hg78 := i_eq hg78
           refine LM.qy 4 rfl (by kernel_rfl) rfl (Ev.loadA rfl rfl rfl (Src.r 9 rfl) rfl rfl (by decide)) rfl ⟨Has.r 1 rfl, Has.r 2 rfl, Has.r 3 rfl, Has.r 4 rfl, Has.r 5 rfl, Has.r 6 rfl, Has.r 7 rfl, Has.r 8 rfl, Has.r 9 rfl, Has.o 0 rfl, Has.o 1 rfl, Has.o 2 rfl, trivial⟩ ?_; refine LM.qy 5 rfl (by kernel_rfl) rfl (Ev.loadA rfl rfl rfl (Src.r 10 rfl) rfl rfl (by decide)) rfl ⟨Has.r 1 rfl, Has.r 2 rfl, Has.r 3 rfl, Has.r 4 rfl, Has.r 5 rfl, Has.r 6 rfl, Has.r 7 rfl, Has.r 8 rfl, Has.r 9 rfl, Has.o 0 rfl, Has.o 1 rfl, Has.o 2 rfl, trivial⟩ ?_; refine LM.qy 8 rfl (by kernel_rfl) rfl (Ev.loadA rfl rfl rfl (Src.r 5 rfl) rfl rfl (by decide)) rfl ⟨Has.r 1 rfl, Has.r 2 rfl, Has.r 3 rfl, Has.r 4 rfl, Has.r 5 rfl, Has.r 6 rfl, Has.r 7 rfl, Has.r 8 rfl, Has.r 9 rfl, Has.o 0 rfl, Has.o 1 rfl, Has.o 2 rfl, trivial⟩ ?_; refine LM.f 6 rfl (by kernel_rfl) ⟨Has.r 1 rfl, Has.r 2 rfl, Has.r 3 rfl, Has.r 4 rfl, Has.r 5 rfl, Has.r 6 rfl, Has.r 7 rfl, Has.r 8 rfl, Has.r 9 rfl, Has.o 0 rfl, Has.o 1 rfl, Has.o 2 rfl, trivial⟩ ?_; refine L.yes rfl ?_; refine L.call (js := []) (js' := [0, 1, 2]) (lread_c g b hok hb (yJ p qq) hc) rfl rfl rfl (by decide) (Hq [1, 2, 3, 4] rfl) rfl ?_
           rintro _ _ _ ⟨rfl, rfl, rfl⟩
           refine L.norm (H' := [_, _, _]) [0, 1, 2] ⟨rfl, rfl, rfl, trivial⟩ (by decide) ?_
           refine L.nil (QE.m (by kernel_rfl) ?_)
           refine LM.f 7 rfl (by kernel_rfl) ⟨Has.r 1 rfl, Has.r 2 rfl, Has.r 3 rfl, Has.r 4 rfl, Has.r 5 rfl, Has.r 6 rfl, Has.r 7 rfl, Has.r 8 rfl, Has.r 9 rfl, Has.o 0 rfl, Has.o 1 rfl, Has.o 2 rfl, trivial⟩ ?_; refine L.yes rfl ?_; refine Lpu rfl rfl ?_
           refine L.nil (QE.m (by kernel_rfl) ?_)
           refine LM.cut [] (by kernel_rfl) ⟨Has.r 1 rfl, Has.r 2 rfl, Has.r 3 rfl, Has.r 4 rfl, Has.r 5 rfl, Has.r 6 rfl, Has.r 7 rfl, Has.r 8 rfl, Has.r 9 rfl, Has.o 0 rfl, Has.o 1 rfl, Has.o 2 rfl, trivial⟩ ?_; refine LM.f 9 rfl (by kernel_rfl) trivial ?_; refine L.yes rfl ?_; refine L.step (Ev.eqS9 (xs := (readF g (yJ p qq).a (yJ p qq).b).1) (ys := (madeS r2)) rfl rfl (by kernel_rfl) (by kernel_rfl) rfl rfl rfl rfl (readF_len _ _ _) rfl) rfl ?_
           refine L.nil (QE.m (by kernel_rfl) ?_)
           refine LM.f 10 rfl (by kernel_rfl) trivial ?_; refine Lpu rfl rfl ?_
           refine L.nil (QE.m (by kernel_rfl) ?_)
           refine LM.f 11 rfl (by kernel_rfl) trivial ?_; refine Lpu rfl rfl ?_
           refine L.nil (QE.m (by kernel_rfl) ?_)
           refine LM.bool 86 rfl (fun hg86 => ?_) (fun hg86 => ?_)
           ·
            refine LM.f 12 rfl (by kernel_rfl) trivial ?_; refine L.yes rfl ?_; refine Lpu rfl rfl ?_
            refine L.nil (QE.m (by kernel_rfl) ?_)
            refine LM.f 13 rfl (by kernel_rfl) trivial ?_; refine Lpu rfl rfl ?_
            refine L.nil (QE.m (by kernel_rfl) ?_)
            refine LM.f 14 rfl (by kernel_rfl) trivial ?_; refine Lpu rfl rfl ?_
            refine L.nil (QE.m (by kernel_rfl) ?_)
            refine LM.nil (by kernel_rfl) trivial ?_; refine QE.seq (C.ret (QE.tR (QE.bR (QE.tR (QE.tR (QE.bR (QE.tR ?_))))))); refine QE.ret (js := []) (hs := []) (vs := [_]) rfl ⟨rfl, trivial⟩ (by decide) ?_
            exact ⟨rfl, rfl, rfl⟩
           ·
            rw [hrd.2.1] at hg86; simp at hg86
          ·
           replace hg78 := i_ne hg78
           exact absurd (hW.e hG rfl (made_right _) (by show _ < (60 : Int); omega)) hg78
         ·
          obtain ⟨hE, hsec, hkind, hm1, hgo⟩ := hW.go hG rfl (made_right _) (by show _ < (60 : Int); omega) hc74
          have hnl := Nat.le_trans (nextF_len hok (yJ p qq).a (yJ p qq).b (madeS r2)) (show 5000 ≤ 9223372036854775807 by decide)
          have hW1 := (hgo (fun _ => 255)).1
          have hW2 := (hgo (fun j => (ts.getD i []).getD j 0)).1
          have hr1 := hW1.read hG
          have hr2 := hW2.read hG
          refine C.skip (QE.seq (C.seq (C.region ?_))); refine L.step (Ev.loadA rfl rfl rfl (Src.o 0 rfl) rfl rfl (by decide)) rfl ?_; refine L.step (Ev.fieldAddr rfl rfl rfl rfl rfl rfl (Src.o 2 rfl) (Nat.zero_lt_succ _) rfl) rfl ?_; refine L.step (Ev.loadA rfl rfl rfl (Src.o 2 rfl) rfl rfl (by decide)) rfl ?_; refine L.callR (js := []) (js' := [0, 1, 2]) (do2_c g b hok hb (nextF g (yJ p qq).a (yJ p qq).b (madeS r2)).x O1 c1 hnl hc) rfl rfl rfl (by decide) (Hq [1, 2, 3, 4, 0] rfl) rfl ?_
          rintro _ _ _ ⟨b1, hb1, rfl, rfl, rfl⟩
          refine L.norm (H' := [_, _, _]) [0, 1, 2] ⟨rfl, rfl, rfl, trivial⟩ (by decide) ?_; refine Lpu rfl rfl ?_; refine Lpu rfl rfl ?_; refine Lpu rfl rfl ?_
          refine L.alloc rfl rfl rfl (fun A15 => ?_)
          refine L.storeA (j := 3) rfl rfl rfl rfl rfl (Nat.zero_lt_succ _) rfl rfl ?_; refine Lpu rfl rfl ?_; refine L.nil (QE.seq (C.seq ?_)); refine C.join (fun q : Fa × Option Addr => [(5, ptrOf A5 0), (7, .bool true), (8, ptrOf A8 0), (9, ptrOf A9 0), (11, ptrOf A11 0), (12, ptrOf A12 0), (13, .int .i64 (i : Int)), (14, ptrOf A14 0), (15, ptrOf A15 0), (16, .int .i64 (checkE g (nextF g (yJ p qq).a (yJ p qq).b (madeS r2)).x)), (17, ptrOf q.2 0), (18, .int .i64 (checkE g (nextF g (yJ p qq).a (yJ p qq).b (madeS r2)).x))]) (fun q : Fa × Option Addr => [Rd q.1.D (rowsV q.1.hs (B8 (cutR g (nextF g (yJ p qq).a (yJ p qq).b (madeS r2)).x (fun j => (ts.getD i []).getD j 0)).data)), KidsR q.1.hs (B8 (cutR g (nextF g (yJ p qq).a (yJ p qq).b (madeS r2)).x (fun j => (ts.getD i []).getD j 0)).data), Rd q.1.W (I64 (cutR g (nextF g (yJ p qq).a (yJ p qq).b (madeS r2)).x (fun j => (ts.getD i []).getD j 0)).wear), Rd q.1.E (Bs (cutR g (nextF g (yJ p qq).a (yJ p qq).b (madeS r2)).x (fun j => (ts.getD i []).getD j 0)).dead), Rd b1.D (rowsV b1.hs (B8 (cutR g (nextF g (yJ p qq).a (yJ p qq).b (madeS r2)).x (fun _ => 255)).data)), KidsR b1.hs (B8 (cutR g (nextF g (yJ p qq).a (yJ p qq).b (madeS r2)).x (fun _ => 255)).data), Rd b1.W (I64 (cutR g (nextF g (yJ p qq).a (yJ p qq).b (madeS r2)).x (fun _ => 255)).wear), Rd b1.E (Bs (cutR g (nextF g (yJ p qq).a (yJ p qq).b (madeS r2)).x (fun _ => 255)).dead), Rd O1 (U8 (nextF g (yJ p qq).a (yJ p qq).b (madeS r2)).x.data), Rd b.D (rowsV b.hs (B8 g.data)), KidsR b.hs (B8 g.data), Rd b.W (I64 g.wear), Rd b.E (Bs g.dead), Rd A11 [.int .i64 (r0.1.getD 0 0), .int .i64 (r0.1.getD 1 0), .int .i64 (r0.1.getD 2 0), .int .i64 (r0.1.getD 3 0), .int .i64 (r0.1.getD 4 0), .int .i64 (r0.1.getD 5 0), .int .i64 (r0.1.getD 6 0), .int .i64 (r0.1.getD 7 0), .int .i64 (r0.1.getD 8 0), .int .i64 (r0.2.1 : Int), .int .i64 r0.2.2], Rd A12 (st9 (madeS r2)), Rd A5 [.int .u8 (((r2).getD 0 0).toNat : Int), .int .u8 (((r2).getD 1 0).toNat : Int), .int .u8 (((r2).getD 2 0).toNat : Int), .int .u8 (((r2).getD 3 0).toNat : Int), .int .u8 (((r2).getD 4 0).toNat : Int), .int .u8 (((r2).getD 5 0).toNat : Int), .int .u8 (((r2).getD 6 0).toNat : Int), .int .u8 (((r2).getD 7 0).toNat : Int), .int .u8 (((r2).getD 8 0).toNat : Int), .slice T ts.length tc], Rd T (rowsV ths (B8 ts)), KidsR ths (B8 ts)]) (fun q : Fa × Option Addr => [Own 35 5 A8 1 1 (flL g b), Own 39 8 A9 1 1 [.int .i64 0, .int .i64 (laA p), .int .i64 (laB p qq), .int .i64 0, .int .i64 0, .slice none 0 0, .slice none 0 0, .slice none 0 0], Own 55 6 A14 1 1 [.int .i64 (nextF g (yJ p qq).a (yJ p qq).b (madeS r2)).x.kind, .int .i64 (nextF g (yJ p qq).a (yJ p qq).b (madeS r2)).x.sec, .int .i64 (nextF g (yJ p qq).a (yJ p qq).b (madeS r2)).x.at_, .slice O1 (nextF g (yJ p qq).a (yJ p qq).b (madeS r2)).x.data.length c1, .bool (nextF g (yJ p qq).a (yJ p qq).b (madeS r2)).done, .int .i64 (nextF g (yJ p qq).a (yJ p qq).b (madeS r2)).e], Own 35 5 A15 1 1 (flL (cutR g (nextF g (yJ p qq).a (yJ p qq).b (madeS r2)).x (fun _ => 255)) b1), Own 35 5 q.2 1 1 (flL (cutR g (nextF g (yJ p qq).a (yJ p qq).b (madeS r2)).x (fun j => (ts.getD i []).getD j 0)) q.1)]) (fun q : Fa × Option Addr => q.1.hs.length = (cutR g (nextF g (yJ p qq).a (yJ p qq).b (madeS r2)).x (fun j => (ts.getD i []).getD j 0)).data.length ∧ Caps (cutR g (nextF g (yJ p qq).a (yJ p qq).b (madeS r2)).x (fun j => (ts.getD i []).getD j 0)) q.1) ?_ ?_
          ·
           refine C.regionM [Rd O1 (U8 (nextF g (yJ p qq).a (yJ p qq).b (madeS r2)).x.data), Rd b.D (rowsV b.hs (B8 g.data)), KidsR b.hs (B8 g.data), Rd b.W (I64 g.wear), Rd b.E (Bs g.dead), Rd A11 [.int .i64 (r0.1.getD 0 0), .int .i64 (r0.1.getD 1 0), .int .i64 (r0.1.getD 2 0), .int .i64 (r0.1.getD 3 0), .int .i64 (r0.1.getD 4 0), .int .i64 (r0.1.getD 5 0), .int .i64 (r0.1.getD 6 0), .int .i64 (r0.1.getD 7 0), .int .i64 (r0.1.getD 8 0), .int .i64 (r0.2.1 : Int), .int .i64 r0.2.2], Rd A12 (st9 (madeS r2)), Rd A5 [.int .u8 (((r2).getD 0 0).toNat : Int), .int .u8 (((r2).getD 1 0).toNat : Int), .int .u8 (((r2).getD 2 0).toNat : Int), .int .u8 (((r2).getD 3 0).toNat : Int), .int .u8 (((r2).getD 4 0).toNat : Int), .int .u8 (((r2).getD 5 0).toNat : Int), .int .u8 (((r2).getD 6 0).toNat : Int), .int .u8 (((r2).getD 7 0).toNat : Int), .int .u8 (((r2).getD 8 0).toNat : Int), .slice T ts.length tc], Rd T (rowsV ths (B8 ts)), KidsR ths (B8 ts), Rd A8 (flL g b), Rd A14 [.int .i64 (nextF g (yJ p qq).a (yJ p qq).b (madeS r2)).x.kind, .int .i64 (nextF g (yJ p qq).a (yJ p qq).b (madeS r2)).x.sec, .int .i64 (nextF g (yJ p qq).a (yJ p qq).b (madeS r2)).x.at_, .slice O1 (nextF g (yJ p qq).a (yJ p qq).b (madeS r2)).x.data.length c1, .bool (nextF g (yJ p qq).a (yJ p qq).b (madeS r2)).done, .int .i64 (nextF g (yJ p qq).a (yJ p qq).b (madeS r2)).e]] ⟨Has.r 4 rfl, Has.r 5 rfl, Has.r 6 rfl, Has.r 7 rfl, Has.r 8 rfl, Has.r 9 rfl, Has.r 10 rfl, Has.r 11 rfl, Has.r 12 rfl, Has.r 13 rfl, Has.o 0 rfl, Has.o 2 rfl, trivial⟩ ?_; refine LM.q 0 rfl (by kernel_rfl) (Ev.loadA rfl rfl rfl (Src.r 10 rfl) rfl rfl (by decide)) rfl ⟨Has.r 4 rfl, Has.r 5 rfl, Has.r 6 rfl, Has.r 7 rfl, Has.r 8 rfl, Has.r 9 rfl, Has.r 10 rfl, Has.r 11 rfl, Has.r 12 rfl, Has.r 13 rfl, Has.o 0 rfl, Has.o 2 rfl, trivial⟩ ?_; refine LM.q 1 rfl (by kernel_rfl) (Ev.fieldAddr rfl rfl rfl rfl rfl rfl (Src.r 11 rfl) (Nat.zero_lt_succ _) rfl) rfl ⟨Has.r 4 rfl, Has.r 5 rfl, Has.r 6 rfl, Has.r 7 rfl, Has.r 8 rfl, Has.r 9 rfl, Has.r 10 rfl, Has.r 11 rfl, Has.r 12 rfl, Has.r 13 rfl, Has.o 0 rfl, Has.o 2 rfl, trivial⟩ ?_; refine LM.q 2 rfl (by kernel_rfl) (Ev.loadA rfl rfl rfl (Src.r 11 rfl) rfl rfl (by decide)) rfl ⟨Has.r 4 rfl, Has.r 5 rfl, Has.r 6 rfl, Has.r 7 rfl, Has.r 8 rfl, Has.r 9 rfl, Has.r 10 rfl, Has.r 11 rfl, Has.r 12 rfl, Has.r 13 rfl, Has.o 0 rfl, Has.o 2 rfl, trivial⟩ ?_; refine LM.q 3 rfl (by kernel_rfl) (Ev.fieldAddr rfl rfl rfl rfl rfl rfl (Src.r 7 rfl) (Nat.zero_lt_succ _) rfl) rfl ⟨Has.r 4 rfl, Has.r 5 rfl, Has.r 6 rfl, Has.r 7 rfl, Has.r 8 rfl, Has.r 9 rfl, Has.r 10 rfl, Has.r 11 rfl, Has.r 12 rfl, Has.r 13 rfl, Has.o 0 rfl, Has.o 2 rfl, trivial⟩ ?_; refine LM.q 4 rfl (by kernel_rfl) (Ev.load rfl rfl rfl (Src.r 7 rfl) rfl) rfl ⟨Has.r 4 rfl, Has.r 5 rfl, Has.r 6 rfl, Has.r 7 rfl, Has.r 8 rfl, Has.r 9 rfl, Has.r 10 rfl, Has.r 11 rfl, Has.r 12 rfl, Has.r 13 rfl, Has.o 0 rfl, Has.o 2 rfl, trivial⟩ ?_; refine LM.q 5 rfl (by kernel_rfl) (Ev.pure rfl) rfl ⟨Has.r 4 rfl, Has.r 5 rfl, Has.r 6 rfl, Has.r 7 rfl, Has.r 8 rfl, Has.r 9 rfl, Has.r 10 rfl, Has.r 11 rfl, Has.r 12 rfl, Has.r 13 rfl, Has.o 0 rfl, Has.o 2 rfl, trivial⟩ ?_; refine LM.q 6 rfl (by kernel_rfl) (Ev.idx1 (k := i) rfl rfl rfl rfl rfl rfl rfl (by omega) (Src.r 8 rfl) (by rw [rowsV_len (by rw [B8_len]; exact hth), B8_len]; omega)) rfl ⟨Has.r 4 rfl, Has.r 5 rfl, Has.r 6 rfl, Has.r 7 rfl, Has.r 8 rfl, Has.r 9 rfl, Has.r 10 rfl, Has.r 11 rfl, Has.r 12 rfl, Has.r 13 rfl, Has.o 0 rfl, Has.o 2 rfl, trivial⟩ ?_; refine LM.q 7 rfl (by kernel_rfl) (Ev.load rfl rfl rfl (Src.r 8 rfl) (rows8_get hth (by omega))) rfl ⟨Has.r 4 rfl, Has.r 5 rfl, Has.r 6 rfl, Has.r 7 rfl, Has.r 8 rfl, Has.r 9 rfl, Has.r 10 rfl, Has.r 11 rfl, Has.r 12 rfl, Has.r 13 rfl, Has.o 0 rfl, Has.o 2 rfl, trivial⟩ ?_
           refine LM.alt [8, 12] (by kernel_rfl) (by decide) ⟨Has.r 4 rfl, Has.r 5 rfl, Has.r 6 rfl, Has.r 7 rfl, Has.r 8 rfl, Has.r 9 rfl, Has.r 10 rfl, Has.r 11 rfl, Has.r 12 rfl, Has.r 13 rfl, Has.o 0 rfl, Has.o 2 rfl, trivial⟩ ⟨⟨_, rfl, ?_⟩, ⟨_, rfl, ?_⟩, trivial⟩
           ·
            refine L.callR (js := []) (js' := [0, 1, 2, 3]) (cut2_c g b hok hb (nextF g (yJ p qq).a (yJ p qq).b (madeS r2)).x O1 c1 hnl (ts.getD i []) (ths.getD i (none, 0)).1 (ts.getD i []).length (ths.getD i (none, 0)).2 rfl (htr i) hc) rfl rfl rfl (by decide) ⟨(Has.r 5 rfl), (Has.r 6 rfl), (Has.r 7 rfl), (Has.r 8 rfl), (Has.r 4 rfl), ((Has.kid 13 rfl (by rw [B8_len]; exact hth) i (by rw [B8_len]; omega)).cast (B8_get _)), trivial⟩ rfl ?_
            rintro _ _ _ ⟨b2, hb2, rfl, rfl, rfl⟩
            refine L.norm (H' := [_, _, _, _]) [0, 1, 2, 3] ⟨rfl, rfl, rfl, rfl, trivial⟩ (by decide) ?_
            refine L.nil (QE.m (by kernel_rfl) ?_)
            refine LM.q 9 rfl (by kernel_rfl) (Ev.pure rfl) rfl ⟨Has.r 8 rfl, Has.r 9 rfl, Has.r 10 rfl, Has.r 11 rfl, Has.r 12 rfl, Has.r 13 rfl, Has.r 14 rfl, Has.r 15 rfl, Has.r 16 rfl, Has.r 17 rfl, Has.o 0 rfl, Has.o 2 rfl, trivial⟩ ?_; refine LM.q 10 rfl (by kernel_rfl) (Ev.pure rfl) rfl ⟨Has.r 8 rfl, Has.r 9 rfl, Has.r 10 rfl, Has.r 11 rfl, Has.r 12 rfl, Has.r 13 rfl, Has.r 14 rfl, Has.r 15 rfl, Has.r 16 rfl, Has.r 17 rfl, Has.o 0 rfl, Has.o 2 rfl, trivial⟩ ?_; refine LM.q 11 rfl (by kernel_rfl) (Ev.pure rfl) rfl ⟨Has.r 8 rfl, Has.r 9 rfl, Has.r 10 rfl, Has.r 11 rfl, Has.r 12 rfl, Has.r 13 rfl, Has.r 14 rfl, Has.r 15 rfl, Has.r 16 rfl, Has.r 17 rfl, Has.o 0 rfl, Has.o 2 rfl, trivial⟩ ?_; refine LM.f 12 rfl (by kernel_rfl) ⟨Has.r 8 rfl, Has.r 9 rfl, Has.r 10 rfl, Has.r 11 rfl, Has.r 12 rfl, Has.r 13 rfl, Has.r 14 rfl, Has.r 15 rfl, Has.r 16 rfl, Has.r 17 rfl, Has.o 0 rfl, Has.o 2 rfl, trivial⟩ ?_
            refine L.alloc rfl rfl rfl (fun A17 => ?_)
            refine L.nil (QE.m (by kernel_rfl) ?_)
            refine LM.f 13 rfl (by kernel_rfl) ⟨Has.r 8 rfl, Has.r 9 rfl, Has.r 10 rfl, Has.r 11 rfl, Has.r 12 rfl, Has.r 13 rfl, Has.r 14 rfl, Has.r 15 rfl, Has.r 16 rfl, Has.r 17 rfl, Has.o 0 rfl, Has.o 2 rfl, trivial⟩ ?_; refine L.storeA (j := 4) rfl rfl rfl rfl rfl (Nat.zero_lt_succ _) rfl rfl ?_
            refine L.nil (QE.m (by kernel_rfl) ?_)
            refine LM.cut [] (by kernel_rfl) ⟨Has.r 8 rfl, Has.r 9 rfl, Has.r 10 rfl, Has.r 11 rfl, Has.r 12 rfl, Has.r 13 rfl, Has.r 14 rfl, Has.r 15 rfl, Has.r 16 rfl, Has.r 17 rfl, Has.o 0 rfl, Has.o 2 rfl, trivial⟩ ?_; refine LM.f 14 rfl (by kernel_rfl) trivial ?_; refine Lpu rfl rfl ?_
            refine L.nil (QE.m (by kernel_rfl) ?_)
            refine LM.nil (by kernel_rfl) trivial ?_
            refine QE.joined ((b2, A17)) (by exact hb2) (by exact Le.mk' (rs := [0, 1, 2, 3, 4, 5, 6, 7, 8, 9, 10, 11, 12, 13, 14, 15, 16, 17]) (hs := [0, 1, 2, 3, 4]) ⟨rfl, rfl, rfl, rfl, rfl, rfl, rfl, rfl, rfl, rfl, rfl, rfl, trivial⟩ ⟨rfl, rfl, rfl, rfl, rfl, rfl, rfl, rfl, rfl, rfl, rfl, rfl, rfl, rfl, rfl, rfl, rfl, rfl, trivial⟩ ⟨rfl, rfl, rfl, rfl, rfl, trivial⟩ (by decide))
           ·
            refine L.alloc rfl rfl rfl (fun A17 => ?_)
            refine L.nil (QE.m (by kernel_rfl) ?_)
            refine LM.f 8 rfl (by kernel_rfl) ⟨Has.r 4 rfl, Has.r 5 rfl, Has.r 6 rfl, Has.r 7 rfl, Has.r 8 rfl, Has.r 9 rfl, Has.r 10 rfl, Has.r 11 rfl, Has.r 12 rfl, Has.r 13 rfl, Has.o 0 rfl, Has.o 2 rfl, trivial⟩ ?_; refine L.callR (js := []) (js' := [0, 1, 2, 3, 4]) (cut2_c g b hok hb (nextF g (yJ p qq).a (yJ p qq).b (madeS r2)).x O1 c1 hnl (ts.getD i []) (ths.getD i (none, 0)).1 (ts.getD i []).length (ths.getD i (none, 0)).2 rfl (htr i) hc) rfl rfl rfl (by decide) ⟨(Has.r 5 rfl), (Has.r 6 rfl), (Has.r 7 rfl), (Has.r 8 rfl), (Has.r 4 rfl), ((Has.kid 13 rfl (by rw [B8_len]; exact hth) i (by rw [B8_len]; omega)).cast (B8_get _)), trivial⟩ rfl ?_
            rintro _ _ _ ⟨b2, hb2, rfl, rfl, rfl⟩
            refine L.norm (H' := [_, _, _, _, _]) [0, 1, 2, 3, 4] ⟨rfl, rfl, rfl, rfl, rfl, trivial⟩ (by decide) ?_
            refine L.nil (QE.m (by kernel_rfl) ?_)
            refine LM.q 9 rfl (by kernel_rfl) (Ev.pure rfl) rfl ⟨Has.r 8 rfl, Has.r 9 rfl, Has.r 10 rfl, Has.r 11 rfl, Has.r 12 rfl, Has.r 13 rfl, Has.r 14 rfl, Has.r 15 rfl, Has.r 16 rfl, Has.r 17 rfl, Has.o 0 rfl, Has.o 2 rfl, trivial⟩ ?_; refine LM.q 10 rfl (by kernel_rfl) (Ev.pure rfl) rfl ⟨Has.r 8 rfl, Has.r 9 rfl, Has.r 10 rfl, Has.r 11 rfl, Has.r 12 rfl, Has.r 13 rfl, Has.r 14 rfl, Has.r 15 rfl, Has.r 16 rfl, Has.r 17 rfl, Has.o 0 rfl, Has.o 2 rfl, trivial⟩ ?_; refine LM.q 11 rfl (by kernel_rfl) (Ev.pure rfl) rfl ⟨Has.r 8 rfl, Has.r 9 rfl, Has.r 10 rfl, Has.r 11 rfl, Has.r 12 rfl, Has.r 13 rfl, Has.r 14 rfl, Has.r 15 rfl, Has.r 16 rfl, Has.r 17 rfl, Has.o 0 rfl, Has.o 2 rfl, trivial⟩ ?_; refine LM.f 13 rfl (by kernel_rfl) ⟨Has.r 8 rfl, Has.r 9 rfl, Has.r 10 rfl, Has.r 11 rfl, Has.r 12 rfl, Has.r 13 rfl, Has.r 14 rfl, Has.r 15 rfl, Has.r 16 rfl, Has.r 17 rfl, Has.o 0 rfl, Has.o 2 rfl, trivial⟩ ?_; refine L.storeA (j := 4) rfl rfl rfl rfl rfl (Nat.zero_lt_succ _) rfl rfl ?_
            refine L.nil (QE.m (by kernel_rfl) ?_)
            refine LM.cut [] (by kernel_rfl) ⟨Has.r 8 rfl, Has.r 9 rfl, Has.r 10 rfl, Has.r 11 rfl, Has.r 12 rfl, Has.r 13 rfl, Has.r 14 rfl, Has.r 15 rfl, Has.r 16 rfl, Has.r 17 rfl, Has.o 0 rfl, Has.o 2 rfl, trivial⟩ ?_; refine LM.f 14 rfl (by kernel_rfl) trivial ?_; refine Lpu rfl rfl ?_
            refine L.nil (QE.m (by kernel_rfl) ?_)
            refine LM.nil (by kernel_rfl) trivial ?_
            refine QE.joined ((b2, A17)) (by exact hb2) (by exact Le.mk' (rs := [0, 1, 2, 3, 4, 5, 6, 7, 8, 9, 10, 11, 12, 13, 14, 15, 16, 17]) (hs := [0, 1, 2, 3, 4]) ⟨rfl, rfl, rfl, rfl, rfl, rfl, rfl, rfl, rfl, rfl, rfl, rfl, trivial⟩ ⟨rfl, rfl, rfl, rfl, rfl, rfl, rfl, rfl, rfl, rfl, rfl, rfl, rfl, rfl, rfl, rfl, rfl, rfl, trivial⟩ ⟨rfl, rfl, rfl, rfl, rfl, trivial⟩ (by decide))
          ·
           rintro ⟨b2, A17⟩ hb2
           dsimp only at hb2 ⊢
           refine QE.seq (C.seq ?_); refine C.join (fun q : Option Addr × Option Addr => [(5, ptrOf A5 0), (7, .bool true), (8, ptrOf A8 0), (9, ptrOf A9 0), (11, ptrOf A11 0), (12, ptrOf A12 0), (13, .int .i64 (i : Int)), (16, .int .i64 (checkE g (nextF g (yJ p qq).a (yJ p qq).b (madeS r2)).x)), (17, ptrOf A17 0), (18, .int .i64 (checkE g (nextF g (yJ p qq).a (yJ p qq).b (madeS r2)).x)), (19, ptrOf q.1 0), (20, ptrOf q.2 0)]) (fun q : Option Addr × Option Addr => [Rd b2.D (rowsV b2.hs (B8 (cutR g (nextF g (yJ p qq).a (yJ p qq).b (madeS r2)).x (fun j => (ts.getD i []).getD j 0)).data)), KidsR b2.hs (B8 (cutR g (nextF g (yJ p qq).a (yJ p qq).b (madeS r2)).x (fun j => (ts.getD i []).getD j 0)).data), Rd b2.W (I64 (cutR g (nextF g (yJ p qq).a (yJ p qq).b (madeS r2)).x (fun j => (ts.getD i []).getD j 0)).wear), Rd b2.E (Bs (cutR g (nextF g (yJ p qq).a (yJ p qq).b (madeS r2)).x (fun j => (ts.getD i []).getD j 0)).dead), Rd b1.D (rowsV b1.hs (B8 (cutR g (nextF g (yJ p qq).a (yJ p qq).b (madeS r2)).x (fun _ => 255)).data)), KidsR b1.hs (B8 (cutR g (nextF g (yJ p qq).a (yJ p qq).b (madeS r2)).x (fun _ => 255)).data), Rd b1.W (I64 (cutR g (nextF g (yJ p qq).a (yJ p qq).b (madeS r2)).x (fun _ => 255)).wear), Rd b1.E (Bs (cutR g (nextF g (yJ p qq).a (yJ p qq).b (madeS r2)).x (fun _ => 255)).dead), Rd O1 (U8 (nextF g (yJ p qq).a (yJ p qq).b (madeS r2)).x.data), Rd b.D (rowsV b.hs (B8 g.data)), KidsR b.hs (B8 g.data), Rd b.W (I64 g.wear), Rd b.E (Bs g.dead), Rd A11 [.int .i64 (r0.1.getD 0 0), .int .i64 (r0.1.getD 1 0), .int .i64 (r0.1.getD 2 0), .int .i64 (r0.1.getD 3 0), .int .i64 (r0.1.getD 4 0), .int .i64 (r0.1.getD 5 0), .int .i64 (r0.1.getD 6 0), .int .i64 (r0.1.getD 7 0), .int .i64 (r0.1.getD 8 0), .int .i64 (r0.2.1 : Int), .int .i64 r0.2.2], Rd A12 (st9 (madeS r2)), Rd A5 [.int .u8 (((r2).getD 0 0).toNat : Int), .int .u8 (((r2).getD 1 0).toNat : Int), .int .u8 (((r2).getD 2 0).toNat : Int), .int .u8 (((r2).getD 3 0).toNat : Int), .int .u8 (((r2).getD 4 0).toNat : Int), .int .u8 (((r2).getD 5 0).toNat : Int), .int .u8 (((r2).getD 6 0).toNat : Int), .int .u8 (((r2).getD 7 0).toNat : Int), .int .u8 (((r2).getD 8 0).toNat : Int), .slice T ts.length tc], Rd T (rowsV ths (B8 ts)), KidsR ths (B8 ts)]) (fun q : Option Addr × Option Addr => [Own 35 5 A8 1 1 (flL g b), Own 39 8 A9 1 1 [.int .i64 0, .int .i64 (laA p), .int .i64 (laB p qq), .int .i64 0, .int .i64 0, .slice none 0 0, .slice none 0 0, .slice none 0 0], Own 35 5 A17 1 1 (flL (cutR g (nextF g (yJ p qq).a (yJ p qq).b (madeS r2)).x (fun j => (ts.getD i []).getD j 0)) b2), Own 49 11 q.1 1 1 [.int .i64 ((readF (cutR g (nextF g (yJ p qq).a (yJ p qq).b (madeS r2)).x (fun _ => 255)) (yJ p qq).a (yJ p qq).b).1.getD 0 0), .int .i64 ((readF (cutR g (nextF g (yJ p qq).a (yJ p qq).b (madeS r2)).x (fun _ => 255)) (yJ p qq).a (yJ p qq).b).1.getD 1 0), .int .i64 ((readF (cutR g (nextF g (yJ p qq).a (yJ p qq).b (madeS r2)).x (fun _ => 255)) (yJ p qq).a (yJ p qq).b).1.getD 2 0), .int .i64 ((readF (cutR g (nextF g (yJ p qq).a (yJ p qq).b (madeS r2)).x (fun _ => 255)) (yJ p qq).a (yJ p qq).b).1.getD 3 0), .int .i64 ((readF (cutR g (nextF g (yJ p qq).a (yJ p qq).b (madeS r2)).x (fun _ => 255)) (yJ p qq).a (yJ p qq).b).1.getD 4 0), .int .i64 ((readF (cutR g (nextF g (yJ p qq).a (yJ p qq).b (madeS r2)).x (fun _ => 255)) (yJ p qq).a (yJ p qq).b).1.getD 5 0), .int .i64 ((readF (cutR g (nextF g (yJ p qq).a (yJ p qq).b (madeS r2)).x (fun _ => 255)) (yJ p qq).a (yJ p qq).b).1.getD 6 0), .int .i64 ((readF (cutR g (nextF g (yJ p qq).a (yJ p qq).b (madeS r2)).x (fun _ => 255)) (yJ p qq).a (yJ p qq).b).1.getD 7 0), .int .i64 ((readF (cutR g (nextF g (yJ p qq).a (yJ p qq).b (madeS r2)).x (fun _ => 255)) (yJ p qq).a (yJ p qq).b).1.getD 8 0), .int .i64 ((readF (cutR g (nextF g (yJ p qq).a (yJ p qq).b (madeS r2)).x (fun _ => 255)) (yJ p qq).a (yJ p qq).b).2.1 : Int), .int .i64 (readF (cutR g (nextF g (yJ p qq).a (yJ p qq).b (madeS r2)).x (fun _ => 255)) (yJ p qq).a (yJ p qq).b).2.2], Own 49 11 q.2 1 1 [.int .i64 ((readF (cutR g (nextF g (yJ p qq).a (yJ p qq).b (madeS r2)).x (fun j => (ts.getD i []).getD j 0)) (yJ p qq).a (yJ p qq).b).1.getD 0 0), .int .i64 ((readF (cutR g (nextF g (yJ p qq).a (yJ p qq).b (madeS r2)).x (fun j => (ts.getD i []).getD j 0)) (yJ p qq).a (yJ p qq).b).1.getD 1 0), .int .i64 ((readF (cutR g (nextF g (yJ p qq).a (yJ p qq).b (madeS r2)).x (fun j => (ts.getD i []).getD j 0)) (yJ p qq).a (yJ p qq).b).1.getD 2 0), .int .i64 ((readF (cutR g (nextF g (yJ p qq).a (yJ p qq).b (madeS r2)).x (fun j => (ts.getD i []).getD j 0)) (yJ p qq).a (yJ p qq).b).1.getD 3 0), .int .i64 ((readF (cutR g (nextF g (yJ p qq).a (yJ p qq).b (madeS r2)).x (fun j => (ts.getD i []).getD j 0)) (yJ p qq).a (yJ p qq).b).1.getD 4 0), .int .i64 ((readF (cutR g (nextF g (yJ p qq).a (yJ p qq).b (madeS r2)).x (fun j => (ts.getD i []).getD j 0)) (yJ p qq).a (yJ p qq).b).1.getD 5 0), .int .i64 ((readF (cutR g (nextF g (yJ p qq).a (yJ p qq).b (madeS r2)).x (fun j => (ts.getD i []).getD j 0)) (yJ p qq).a (yJ p qq).b).1.getD 6 0), .int .i64 ((readF (cutR g (nextF g (yJ p qq).a (yJ p qq).b (madeS r2)).x (fun j => (ts.getD i []).getD j 0)) (yJ p qq).a (yJ p qq).b).1.getD 7 0), .int .i64 ((readF (cutR g (nextF g (yJ p qq).a (yJ p qq).b (madeS r2)).x (fun j => (ts.getD i []).getD j 0)) (yJ p qq).a (yJ p qq).b).1.getD 8 0), .int .i64 ((readF (cutR g (nextF g (yJ p qq).a (yJ p qq).b (madeS r2)).x (fun j => (ts.getD i []).getD j 0)) (yJ p qq).a (yJ p qq).b).2.1 : Int), .int .i64 (readF (cutR g (nextF g (yJ p qq).a (yJ p qq).b (madeS r2)).x (fun j => (ts.getD i []).getD j 0)) (yJ p qq).a (yJ p qq).b).2.2]]) (fun q : Option Addr × Option Addr => True) ?_ ?_
           ·
            refine C.regionM [Rd b2.D (rowsV b2.hs (B8 (cutR g (nextF g (yJ p qq).a (yJ p qq).b (madeS r2)).x (fun j => (ts.getD i []).getD j 0)).data)), KidsR b2.hs (B8 (cutR g (nextF g (yJ p qq).a (yJ p qq).b (madeS r2)).x (fun j => (ts.getD i []).getD j 0)).data), Rd b2.W (I64 (cutR g (nextF g (yJ p qq).a (yJ p qq).b (madeS r2)).x (fun j => (ts.getD i []).getD j 0)).wear), Rd b2.E (Bs (cutR g (nextF g (yJ p qq).a (yJ p qq).b (madeS r2)).x (fun j => (ts.getD i []).getD j 0)).dead), Rd b1.D (rowsV b1.hs (B8 (cutR g (nextF g (yJ p qq).a (yJ p qq).b (madeS r2)).x (fun _ => 255)).data)), KidsR b1.hs (B8 (cutR g (nextF g (yJ p qq).a (yJ p qq).b (madeS r2)).x (fun _ => 255)).data), Rd b1.W (I64 (cutR g (nextF g (yJ p qq).a (yJ p qq).b (madeS r2)).x (fun _ => 255)).wear), Rd b1.E (Bs (cutR g (nextF g (yJ p qq).a (yJ p qq).b (madeS r2)).x (fun _ => 255)).dead), Rd O1 (U8 (nextF g (yJ p qq).a (yJ p qq).b (madeS r2)).x.data), Rd b.D (rowsV b.hs (B8 g.data)), KidsR b.hs (B8 g.data), Rd b.W (I64 g.wear), Rd b.E (Bs g.dead), Rd A11 [.int .i64 (r0.1.getD 0 0), .int .i64 (r0.1.getD 1 0), .int .i64 (r0.1.getD 2 0), .int .i64 (r0.1.getD 3 0), .int .i64 (r0.1.getD 4 0), .int .i64 (r0.1.getD 5 0), .int .i64 (r0.1.getD 6 0), .int .i64 (r0.1.getD 7 0), .int .i64 (r0.1.getD 8 0), .int .i64 (r0.2.1 : Int), .int .i64 r0.2.2], Rd A12 (st9 (madeS r2)), Rd A5 [.int .u8 (((r2).getD 0 0).toNat : Int), .int .u8 (((r2).getD 1 0).toNat : Int), .int .u8 (((r2).getD 2 0).toNat : Int), .int .u8 (((r2).getD 3 0).toNat : Int), .int .u8 (((r2).getD 4 0).toNat : Int), .int .u8 (((r2).getD 5 0).toNat : Int), .int .u8 (((r2).getD 6 0).toNat : Int), .int .u8 (((r2).getD 7 0).toNat : Int), .int .u8 (((r2).getD 8 0).toNat : Int), .slice T ts.length tc], Rd T (rowsV ths (B8 ts)), KidsR ths (B8 ts), Rd A9 [.int .i64 0, .int .i64 (laA p), .int .i64 (laB p qq), .int .i64 0, .int .i64 0, .slice none 0 0, .slice none 0 0, .slice none 0 0], Rd A15 (flL (cutR g (nextF g (yJ p qq).a (yJ p qq).b (madeS r2)).x (fun _ => 255)) b1), Rd A17 (flL (cutR g (nextF g (yJ p qq).a (yJ p qq).b (madeS r2)).x (fun j => (ts.getD i []).getD j 0)) b2)] ⟨Has.r 0 rfl, Has.r 1 rfl, Has.r 2 rfl, Has.r 3 rfl, Has.r 4 rfl, Has.r 5 rfl, Has.r 6 rfl, Has.r 7 rfl, Has.r 8 rfl, Has.r 9 rfl, Has.r 10 rfl, Has.r 11 rfl, Has.r 12 rfl, Has.r 13 rfl, Has.r 14 rfl, Has.r 15 rfl, Has.r 16 rfl, Has.r 17 rfl, Has.o 1 rfl, Has.o 3 rfl, Has.o 4 rfl, trivial⟩ ?_; refine LM.q 0 rfl (by kernel_rfl) (Ev.loadA rfl rfl rfl (Src.r 19 rfl) rfl rfl (by decide)) rfl ⟨Has.r 0 rfl, Has.r 1 rfl, Has.r 2 rfl, Has.r 3 rfl, Has.r 4 rfl, Has.r 5 rfl, Has.r 6 rfl, Has.r 7 rfl, Has.r 8 rfl, Has.r 9 rfl, Has.r 10 rfl, Has.r 11 rfl, Has.r 12 rfl, Has.r 13 rfl, Has.r 14 rfl, Has.r 15 rfl, Has.r 16 rfl, Has.r 17 rfl, Has.o 1 rfl, Has.o 3 rfl, Has.o 4 rfl, trivial⟩ ?_; refine LM.q 1 rfl (by kernel_rfl) (Ev.loadA rfl rfl rfl (Src.r 18 rfl) rfl rfl (by decide)) rfl ⟨Has.r 0 rfl, Has.r 1 rfl, Has.r 2 rfl, Has.r 3 rfl, Has.r 4 rfl, Has.r 5 rfl, Has.r 6 rfl, Has.r 7 rfl, Has.r 8 rfl, Has.r 9 rfl, Has.r 10 rfl, Has.r 11 rfl, Has.r 12 rfl, Has.r 13 rfl, Has.r 14 rfl, Has.r 15 rfl, Has.r 16 rfl, Has.r 17 rfl, Has.o 1 rfl, Has.o 3 rfl, Has.o 4 rfl, trivial⟩ ?_; refine LM.q 3 rfl (by kernel_rfl) (Ev.loadA rfl rfl rfl (Src.r 20 rfl) rfl rfl (by decide)) rfl ⟨Has.r 0 rfl, Has.r 1 rfl, Has.r 2 rfl, Has.r 3 rfl, Has.r 4 rfl, Has.r 5 rfl, Has.r 6 rfl, Has.r 7 rfl, Has.r 8 rfl, Has.r 9 rfl, Has.r 10 rfl, Has.r 11 rfl, Has.r 12 rfl, Has.r 13 rfl, Has.r 14 rfl, Has.r 15 rfl, Has.r 16 rfl, Has.r 17 rfl, Has.o 1 rfl, Has.o 3 rfl, Has.o 4 rfl, trivial⟩ ?_; refine LM.q 4 rfl (by kernel_rfl) (Ev.loadA rfl rfl rfl (Src.r 18 rfl) rfl rfl (by decide)) rfl ⟨Has.r 0 rfl, Has.r 1 rfl, Has.r 2 rfl, Has.r 3 rfl, Has.r 4 rfl, Has.r 5 rfl, Has.r 6 rfl, Has.r 7 rfl, Has.r 8 rfl, Has.r 9 rfl, Has.r 10 rfl, Has.r 11 rfl, Has.r 12 rfl, Has.r 13 rfl, Has.r 14 rfl, Has.r 15 rfl, Has.r 16 rfl, Has.r 17 rfl, Has.o 1 rfl, Has.o 3 rfl, Has.o 4 rfl, trivial⟩ ?_
            refine LM.alt [2, 6, 7] (by kernel_rfl) (by decide) ⟨Has.r 0 rfl, Has.r 1 rfl, Has.r 2 rfl, Has.r 3 rfl, Has.r 4 rfl, Has.r 5 rfl, Has.r 6 rfl, Has.r 7 rfl, Has.r 8 rfl, Has.r 9 rfl, Has.r 10 rfl, Has.r 11 rfl, Has.r 12 rfl, Has.r 13 rfl, Has.r 14 rfl, Has.r 15 rfl, Has.r 16 rfl, Has.r 17 rfl, Has.o 1 rfl, Has.o 3 rfl, Has.o 4 rfl, trivial⟩ ⟨⟨_, rfl, ?_⟩, ⟨_, rfl, ?_⟩, ⟨_, rfl, ?_⟩, trivial⟩
            ·
             refine L.call (js := []) (js' := [0, 1, 2, 3, 4]) (lread_c (cutR g (nextF g (yJ p qq).a (yJ p qq).b (madeS r2)).x (fun _ => 255)) b1 hW1.ok hb1.1 (yJ p qq) hb1.2) rfl rfl rfl (by decide) (Hq [4, 5, 6, 7] rfl) rfl ?_
             rintro _ _ _ ⟨rfl, rfl, rfl⟩
             refine L.norm (H' := [_, _, _, _, _]) [0, 1, 2, 3, 4] ⟨rfl, rfl, rfl, rfl, rfl, trivial⟩ (by decide) ?_
             refine L.nil (QE.m (by kernel_rfl) ?_)
             refine LM.alt [5, 6, 7] (by kernel_rfl) (by decide) ⟨Has.r 0 rfl, Has.r 1 rfl, Has.r 2 rfl, Has.r 3 rfl, Has.r 4 rfl, Has.r 5 rfl, Has.r 6 rfl, Has.r 7 rfl, Has.r 8 rfl, Has.r 9 rfl, Has.r 10 rfl, Has.r 11 rfl, Has.r 12 rfl, Has.r 13 rfl, Has.r 14 rfl, Has.r 15 rfl, Has.r 16 rfl, Has.r 17 rfl, Has.o 1 rfl, Has.o 3 rfl, Has.o 4 rfl, trivial⟩ ⟨⟨_, rfl, ?_⟩, ⟨_, rfl, ?_⟩, ⟨_, rfl, ?_⟩, trivial⟩
             ·
              refine L.call (js := []) (js' := [0, 1, 2, 3, 4]) (lread_c (cutR g (nextF g (yJ p qq).a (yJ p qq).b (madeS r2)).x (fun j => (ts.getD i []).getD j 0)) b2 hW2.ok hb2.1 (yJ p qq) hb2.2) rfl rfl rfl (by decide) (Hq [0, 1, 2, 3] rfl) rfl ?_
              rintro _ _ _ ⟨rfl, rfl, rfl⟩
              refine L.norm (H' := [_, _, _, _, _]) [0, 1, 2, 3, 4] ⟨rfl, rfl, rfl, rfl, rfl, trivial⟩ (by decide) ?_
              refine L.nil (QE.m (by kernel_rfl) ?_)
              refine LM.alt [6, 7] (by kernel_rfl) (by decide) ⟨Has.r 0 rfl, Has.r 1 rfl, Has.r 2 rfl, Has.r 3 rfl, Has.r 4 rfl, Has.r 5 rfl, Has.r 6 rfl, Has.r 7 rfl, Has.r 8 rfl, Has.r 9 rfl, Has.r 10 rfl, Has.r 11 rfl, Has.r 12 rfl, Has.r 13 rfl, Has.r 14 rfl, Has.r 15 rfl, Has.r 16 rfl, Has.r 17 rfl, Has.o 1 rfl, Has.o 3 rfl, Has.o 4 rfl, trivial⟩ ⟨⟨_, rfl, ?_⟩, ⟨_, rfl, ?_⟩, trivial⟩
              ·
               refine L.alloc rfl rfl rfl (fun A19 => ?_)
               refine L.nil (QE.m (by kernel_rfl) ?_)
               refine LM.f 7 rfl (by kernel_rfl) ⟨Has.r 0 rfl, Has.r 1 rfl, Has.r 2 rfl, Has.r 3 rfl, Has.r 4 rfl, Has.r 5 rfl, Has.r 6 rfl, Has.r 7 rfl, Has.r 8 rfl, Has.r 9 rfl, Has.r 10 rfl, Has.r 11 rfl, Has.r 12 rfl, Has.r 13 rfl, Has.r 14 rfl, Has.r 15 rfl, Has.r 16 rfl, Has.r 17 rfl, Has.o 1 rfl, Has.o 3 rfl, Has.o 4 rfl, trivial⟩ ?_
               refine L.alloc rfl rfl rfl (fun A20 => ?_)
               refine L.nil (QE.m (by kernel_rfl) ?_)
               refine LM.cut [] (by kernel_rfl) ⟨Has.r 0 rfl, Has.r 1 rfl, Has.r 2 rfl, Has.r 3 rfl, Has.r 4 rfl, Has.r 5 rfl, Has.r 6 rfl, Has.r 7 rfl, Has.r 8 rfl, Has.r 9 rfl, Has.r 10 rfl, Has.r 11 rfl, Has.r 12 rfl, Has.r 13 rfl, Has.r 14 rfl, Has.r 15 rfl, Has.r 16 rfl, Has.r 17 rfl, Has.o 1 rfl, Has.o 3 rfl, Has.o 4 rfl, trivial⟩ ?_; refine LM.f 8 rfl (by kernel_rfl) trivial ?_; refine L.storeA (j := 5) rfl rfl rfl rfl rfl (Nat.zero_lt_succ _) rfl rfl ?_
               refine L.nil (QE.m (by kernel_rfl) ?_)
               refine LM.f 9 rfl (by kernel_rfl) trivial ?_; refine L.storeA (j := 6) rfl rfl rfl rfl rfl (Nat.zero_lt_succ _) rfl rfl ?_
               refine L.nil (QE.m (by kernel_rfl) ?_)
               refine LM.nil (by kernel_rfl) trivial ?_
               refine QE.joined ((A19, A20)) (by exact trivial) (by exact Le.mk' (rs := [0, 1, 2, 3, 4, 5, 6, 7, 8, 9, 10, 11, 12, 13, 14, 15, 16, 17]) (hs := [0, 1, 4, 5, 6]) ⟨rfl, rfl, rfl, rfl, rfl, rfl, rfl, rfl, rfl, rfl, rfl, rfl, trivial⟩ ⟨rfl, rfl, rfl, rfl, rfl, rfl, rfl, rfl, rfl, rfl, rfl, rfl, rfl, rfl, rfl, rfl, rfl, rfl, trivial⟩ ⟨rfl, rfl, rfl, rfl, rfl, trivial⟩ (by decide))
              ·
               refine L.alloc rfl rfl rfl (fun A20 => ?_)
               refine L.nil (QE.m (by kernel_rfl) ?_)
               refine LM.f 6 rfl (by kernel_rfl) ⟨Has.r 0 rfl, Has.r 1 rfl, Has.r 2 rfl, Has.r 3 rfl, Has.r 4 rfl, Has.r 5 rfl, Has.r 6 rfl, Has.r 7 rfl, Has.r 8 rfl, Has.r 9 rfl, Has.r 10 rfl, Has.r 11 rfl, Has.r 12 rfl, Has.r 13 rfl, Has.r 14 rfl, Has.r 15 rfl, Has.r 16 rfl, Has.r 17 rfl, Has.o 1 rfl, Has.o 3 rfl, Has.o 4 rfl, trivial⟩ ?_
               refine L.alloc rfl rfl rfl (fun A19 => ?_)
               refine L.nil (QE.m (by kernel_rfl) ?_)
               refine LM.cut [] (by kernel_rfl) ⟨Has.r 0 rfl, Has.r 1 rfl, Has.r 2 rfl, Has.r 3 rfl, Has.r 4 rfl, Has.r 5 rfl, Has.r 6 rfl, Has.r 7 rfl, Has.r 8 rfl, Has.r 9 rfl, Has.r 10 rfl, Has.r 11 rfl, Has.r 12 rfl, Has.r 13 rfl, Has.r 14 rfl, Has.r 15 rfl, Has.r 16 rfl, Has.r 17 rfl, Has.o 1 rfl, Has.o 3 rfl, Has.o 4 rfl, trivial⟩ ?_; refine LM.f 8 rfl (by kernel_rfl) trivial ?_; refine L.storeA (j := 6) rfl rfl rfl rfl rfl (Nat.zero_lt_succ _) rfl rfl ?_
               refine L.nil (QE.m (by kernel_rfl) ?_)
               refine LM.f 9 rfl (by kernel_rfl) trivial ?_; refine L.storeA (j := 5) rfl rfl rfl rfl rfl (Nat.zero_lt_succ _) rfl rfl ?_
               refine L.nil (QE.m (by kernel_rfl) ?_)
               refine LM.nil (by kernel_rfl) trivial ?_
               refine QE.joined ((A19, A20)) (by exact trivial) (by exact Le.mk' (rs := [0, 1, 2, 3, 4, 5, 6, 7, 8, 9, 10, 11, 12, 13, 14, 15, 16, 17]) (hs := [0, 1, 4, 6, 5]) ⟨rfl, rfl, rfl, rfl, rfl, rfl, rfl, rfl, rfl, rfl, rfl, rfl, trivial⟩ ⟨rfl, rfl, rfl, rfl, rfl, rfl, rfl, rfl, rfl, rfl, rfl, rfl, rfl, rfl, rfl, rfl, rfl, rfl, trivial⟩ ⟨rfl, rfl, rfl, rfl, rfl, trivial⟩ (by decide))
             ·
              refine L.alloc rfl rfl rfl (fun A19 => ?_)
              refine L.nil (QE.m (by kernel_rfl) ?_)
              refine LM.alt [5, 7] (by kernel_rfl) (by decide) ⟨Has.r 0 rfl, Has.r 1 rfl, Has.r 2 rfl, Has.r 3 rfl, Has.r 4 rfl, Has.r 5 rfl, Has.r 6 rfl, Has.r 7 rfl, Has.r 8 rfl, Has.r 9 rfl, Has.r 10 rfl, Has.r 11 rfl, Has.r 12 rfl, Has.r 13 rfl, Has.r 14 rfl, Has.r 15 rfl, Has.r 16 rfl, Has.r 17 rfl, Has.o 1 rfl, Has.o 3 rfl, Has.o 4 rfl, trivial⟩ ⟨⟨_, rfl, ?_⟩, ⟨_, rfl, ?_⟩, trivial⟩
              ·
               refine L.call (js := []) (js' := [0, 1, 2, 3, 4, 5]) (lread_c (cutR g (nextF g (yJ p qq).a (yJ p qq).b (madeS r2)).x (fun j => (ts.getD i []).getD j 0)) b2 hW2.ok hb2.1 (yJ p qq) hb2.2) rfl rfl rfl (by decide) (Hq [0, 1, 2, 3] rfl) rfl ?_
               rintro _ _ _ ⟨rfl, rfl, rfl⟩
               refine L.norm (H' := [_, _, _, _, _, _]) [0, 1, 2, 3, 4, 5] ⟨rfl, rfl, rfl, rfl, rfl, rfl, trivial⟩ (by decide) ?_
               refine L.nil (QE.m (by kernel_rfl) ?_)
               refine LM.f 7 rfl (by kernel_rfl) ⟨Has.r 0 rfl, Has.r 1 rfl, Has.r 2 rfl, Has.r 3 rfl, Has.r 4 rfl, Has.r 5 rfl, Has.r 6 rfl, Has.r 7 rfl, Has.r 8 rfl, Has.r 9 rfl, Has.r 10 rfl, Has.r 11 rfl, Has.r 12 rfl, Has.r 13 rfl, Has.r 14 rfl, Has.r 15 rfl, Has.r 16 rfl, Has.r 17 rfl, Has.o 1 rfl, Has.o 3 rfl, Has.o 4 rfl, trivial⟩ ?_
               refine L.alloc rfl rfl rfl (fun A20 => ?_)
               refine L.nil (QE.m (by kernel_rfl) ?_)
               refine LM.cut [] (by kernel_rfl) ⟨Has.r 0 rfl, Has.r 1 rfl, Has.r 2 rfl, Has.r 3 rfl, Has.r 4 rfl, Has.r 5 rfl, Has.r 6 rfl, Has.r 7 rfl, Has.r 8 rfl, Has.r 9 rfl, Has.r 10 rfl, Has.r 11 rfl, Has.r 12 rfl, Has.r 13 rfl, Has.r 14 rfl, Has.r 15 rfl, Has.r 16 rfl, Has.r 17 rfl, Has.o 1 rfl, Has.o 3 rfl, Has.o 4 rfl, trivial⟩ ?_; refine LM.f 8 rfl (by kernel_rfl) trivial ?_; refine L.storeA (j := 5) rfl rfl rfl rfl rfl (Nat.zero_lt_succ _) rfl rfl ?_
               refine L.nil (QE.m (by kernel_rfl) ?_)
               refine LM.f 9 rfl (by kernel_rfl) trivial ?_; refine L.storeA (j := 6) rfl rfl rfl rfl rfl (Nat.zero_lt_succ _) rfl rfl ?_
               refine L.nil (QE.m (by kernel_rfl) ?_)
               refine LM.nil (by kernel_rfl) trivial ?_
               refine QE.joined ((A19, A20)) (by exact trivial) (by exact Le.mk' (rs := [0, 1, 2, 3, 4, 5, 6, 7, 8, 9, 10, 11, 12, 13, 14, 15, 16, 17]) (hs := [0, 1, 4, 5, 6]) ⟨rfl, rfl, rfl, rfl, rfl, rfl, rfl, rfl, rfl, rfl, rfl, rfl, trivial⟩ ⟨rfl, rfl, rfl, rfl, rfl, rfl, rfl, rfl, rfl, rfl, rfl, rfl, rfl, rfl, rfl, rfl, rfl, rfl, trivial⟩ ⟨rfl, rfl, rfl, rfl, rfl, trivial⟩ (by decide))
              ·
               refine L.alloc rfl rfl rfl (fun A20 => ?_)
               refine L.nil (QE.m (by kernel_rfl) ?_)
               refine LM.f 5 rfl (by kernel_rfl) ⟨Has.r 0 rfl, Has.r 1 rfl, Has.r 2 rfl, Has.r 3 rfl, Has.r 4 rfl, Has.r 5 rfl, Has.r 6 rfl, Has.r 7 rfl, Has.r 8 rfl, Has.r 9 rfl, Has.r 10 rfl, Has.r 11 rfl, Has.r 12 rfl, Has.r 13 rfl, Has.r 14 rfl, Has.r 15 rfl, Has.r 16 rfl, Has.r 17 rfl, Has.o 1 rfl, Has.o 3 rfl, Has.o 4 rfl, trivial⟩ ?_; refine L.call (js := []) (js' := [0, 1, 2, 3, 4, 5, 6]) (lread_c (cutR g (nextF g (yJ p qq).a (yJ p qq).b (madeS r2)).x (fun j => (ts.getD i []).getD j 0)) b2 hW2.ok hb2.1 (yJ p qq) hb2.2) rfl rfl rfl (by decide) (Hq [0, 1, 2, 3] rfl) rfl ?_
               rintro _ _ _ ⟨rfl, rfl, rfl⟩
               refine L.norm (H' := [_, _, _, _, _, _, _]) [0, 1, 2, 3, 4, 5, 6] ⟨rfl, rfl, rfl, rfl, rfl, rfl, rfl, trivial⟩ (by decide) ?_
               refine L.nil (QE.m (by kernel_rfl) ?_)
               refine LM.cut [] (by kernel_rfl) ⟨Has.r 0 rfl, Has.r 1 rfl, Has.r 2 rfl, Has.r 3 rfl, Has.r 4 rfl, Has.r 5 rfl, Has.r 6 rfl, Has.r 7 rfl, Has.r 8 rfl, Has.r 9 rfl, Has.r 10 rfl, Has.r 11 rfl, Has.r 12 rfl, Has.r 13 rfl, Has.r 14 rfl, Has.r 15 rfl, Has.r 16 rfl, Has.r 17 rfl, Has.o 1 rfl, Has.o 3 rfl, Has.o 4 rfl, trivial⟩ ?_; refine LM.f 8 rfl (by kernel_rfl) trivial ?_; refine L.storeA (j := 5) rfl rfl rfl rfl rfl (Nat.zero_lt_succ _) rfl rfl ?_
               refine L.nil (QE.m (by kernel_rfl) ?_)
               refine LM.f 9 rfl (by kernel_rfl) trivial ?_; refine L.storeA (j := 6) rfl rfl rfl rfl rfl (Nat.zero_lt_succ _) rfl rfl ?_
               refine L.nil (QE.m (by kernel_rfl) ?_)
               refine LM.nil (by kernel_rfl) trivial ?_
               refine QE.joined ((A19, A20)) (by exact trivial) (by exact Le.mk' (rs := [0, 1, 2, 3, 4, 5, 6, 7, 8, 9, 10, 11, 12, 13, 14, 15, 16, 17]) (hs := [0, 1, 4, 5, 6]) ⟨rfl, rfl, rfl, rfl, rfl, rfl, rfl, rfl, rfl, rfl, rfl, rfl, trivial⟩ ⟨rfl, rfl, rfl, rfl, rfl, rfl, rfl, rfl, rfl, rfl, rfl, rfl, rfl, rfl, rfl, rfl, rfl, rfl, trivial⟩ ⟨rfl, rfl, rfl, rfl, rfl, trivial⟩ (by decide))
             ·
              refine L.alloc rfl rfl rfl (fun A20 => ?_)
              refine L.nil (QE.m (by kernel_rfl) ?_)
              refine LM.alt [5, 6] (by kernel_rfl) (by decide) ⟨Has.r 0 rfl, Has.r 1 rfl, Has.r 2 rfl, Has.r 3 rfl, Has.r 4 rfl, Has.r 5 rfl, Has.r 6 rfl, Has.r 7 rfl, Has.r 8 rfl, Has.r 9 rfl, Has.r 10 rfl, Has.r 11 rfl, Has.r 12 rfl, Has.r 13 rfl, Has.r 14 rfl, Has.r 15 rfl, Has.r 16 rfl, Has.r 17 rfl, Has.o 1 rfl, Has.o 3 rfl, Has.o 4 rfl, trivial⟩ ⟨⟨_, rfl, ?_⟩, ⟨_, rfl, ?_⟩, trivial⟩
              ·
               refine L.call (js := []) (js' := [0, 1, 2, 3, 4, 5]) (lread_c (cutR g (nextF g (yJ p qq).a (yJ p qq).b (madeS r2)).x (fun j => (ts.getD i []).getD j 0)) b2 hW2.ok hb2.1 (yJ p qq) hb2.2) rfl rfl rfl (by decide) (Hq [0, 1, 2, 3] rfl) rfl ?_
               rintro _ _ _ ⟨rfl, rfl, rfl⟩
               refine L.norm (H' := [_, _, _, _, _, _]) [0, 1, 2, 3, 4, 5] ⟨rfl, rfl, rfl, rfl, rfl, rfl, trivial⟩ (by decide) ?_
               refine L.nil (QE.m (by kernel_rfl) ?_)
               refine LM.f 6 rfl (by kernel_rfl) ⟨Has.r 0 rfl, Has.r 1 rfl, Has.r 2 rfl, Has.r 3 rfl, Has.r 4 rfl, Has.r 5 rfl, Has.r 6 rfl, Has.r 7 rfl, Has.r 8 rfl, Has.r 9 rfl, Has.r 10 rfl, Has.r 11 rfl, Has.r 12 rfl, Has.r 13 rfl, Has.r 14 rfl, Has.r 15 rfl, Has.r 16 rfl, Has.r 17 rfl, Has.o 1 rfl, Has.o 3 rfl, Has.o 4 rfl, trivial⟩ ?_
               refine L.alloc rfl rfl rfl (fun A19 => ?_)
               refine L.nil (QE.m (by kernel_rfl) ?_)
               refine LM.cut [] (by kernel_rfl) ⟨Has.r 0 rfl, Has.r 1 rfl, Has.r 2 rfl, Has.r 3 rfl, Has.r 4 rfl, Has.r 5 rfl, Has.r 6 rfl, Has.r 7 rfl, Has.r 8 rfl, Has.r 9 rfl, Has.r 10 rfl, Has.r 11 rfl, Has.r 12 rfl, Has.r 13 rfl, Has.r 14 rfl, Has.r 15 rfl, Has.r 16 rfl, Has.r 17 rfl, Has.o 1 rfl, Has.o 3 rfl, Has.o 4 rfl, trivial⟩ ?_; refine LM.f 8 rfl (by kernel_rfl) trivial ?_; refine L.storeA (j := 6) rfl rfl rfl rfl rfl (Nat.zero_lt_succ _) rfl rfl ?_
               refine L.nil (QE.m (by kernel_rfl) ?_)
               refine LM.f 9 rfl (by kernel_rfl) trivial ?_; refine L.storeA (j := 5) rfl rfl rfl rfl rfl (Nat.zero_lt_succ _) rfl rfl ?_
               refine L.nil (QE.m (by kernel_rfl) ?_)
               refine LM.nil (by kernel_rfl) trivial ?_
               refine QE.joined ((A19, A20)) (by exact trivial) (by exact Le.mk' (rs := [0, 1, 2, 3, 4, 5, 6, 7, 8, 9, 10, 11, 12, 13, 14, 15, 16, 17]) (hs := [0, 1, 4, 6, 5]) ⟨rfl, rfl, rfl, rfl, rfl, rfl, rfl, rfl, rfl, rfl, rfl, rfl, trivial⟩ ⟨rfl, rfl, rfl, rfl, rfl, rfl, rfl, rfl, rfl, rfl, rfl, rfl, rfl, rfl, rfl, rfl, rfl, rfl, trivial⟩ ⟨rfl, rfl, rfl, rfl, rfl, trivial⟩ (by decide))
              ·
               refine L.alloc rfl rfl rfl (fun A19 => ?_)
               refine L.nil (QE.m (by kernel_rfl) ?_)
               refine LM.f 5 rfl (by kernel_rfl) ⟨Has.r 0 rfl, Has.r 1 rfl, Has.r 2 rfl, Has.r 3 rfl, Has.r 4 rfl, Has.r 5 rfl, Has.r 6 rfl, Has.r 7 rfl, Has.r 8 rfl, Has.r 9 rfl, Has.r 10 rfl, Has.r 11 rfl, Has.r 12 rfl, Has.r 13 rfl, Has.r 14 rfl, Has.r 15 rfl, Has.r 16 rfl, Has.r 17 rfl, Has.o 1 rfl, Has.o 3 rfl, Has.o 4 rfl, trivial⟩ ?_; refine L.call (js := []) (js' := [0, 1, 2, 3, 4, 5, 6]) (lread_c (cutR g (nextF g (yJ p qq).a (yJ p qq).b (madeS r2)).x (fun j => (ts.getD i []).getD j 0)) b2 hW2.ok hb2.1 (yJ p qq) hb2.2) rfl rfl rfl (by decide) (Hq [0, 1, 2, 3] rfl) rfl ?_
               rintro _ _ _ ⟨rfl, rfl, rfl⟩
               refine L.norm (H' := [_, _, _, _, _, _, _]) [0, 1, 2, 3, 4, 5, 6] ⟨rfl, rfl, rfl, rfl, rfl, rfl, rfl, trivial⟩ (by decide) ?_
               refine L.nil (QE.m (by kernel_rfl) ?_)
               refine LM.cut [] (by kernel_rfl) ⟨Has.r 0 rfl, Has.r 1 rfl, Has.r 2 rfl, Has.r 3 rfl, Has.r 4 rfl, Has.r 5 rfl, Has.r 6 rfl, Has.r 7 rfl, Has.r 8 rfl, Has.r 9 rfl, Has.r 10 rfl, Has.r 11 rfl, Has.r 12 rfl, Has.r 13 rfl, Has.r 14 rfl, Has.r 15 rfl, Has.r 16 rfl, Has.r 17 rfl, Has.o 1 rfl, Has.o 3 rfl, Has.o 4 rfl, trivial⟩ ?_; refine LM.f 8 rfl (by kernel_rfl) trivial ?_; refine L.storeA (j := 6) rfl rfl rfl rfl rfl (Nat.zero_lt_succ _) rfl rfl ?_
               refine L.nil (QE.m (by kernel_rfl) ?_)
               refine LM.f 9 rfl (by kernel_rfl) trivial ?_; refine L.storeA (j := 5) rfl rfl rfl rfl rfl (Nat.zero_lt_succ _) rfl rfl ?_
               refine L.nil (QE.m (by kernel_rfl) ?_)
               refine LM.nil (by kernel_rfl) trivial ?_
               refine QE.joined ((A19, A20)) (by exact trivial) (by exact Le.mk' (rs := [0, 1, 2, 3, 4, 5, 6, 7, 8, 9, 10, 11, 12, 13, 14, 15, 16, 17]) (hs := [0, 1, 4, 6, 5]) ⟨rfl, rfl, rfl, rfl, rfl, rfl, rfl, rfl, rfl, rfl, rfl, rfl, trivial⟩ ⟨rfl, rfl, rfl, rfl, rfl, rfl, rfl, rfl, rfl, rfl, rfl, rfl, rfl, rfl, rfl, rfl, rfl, rfl, trivial⟩ ⟨rfl, rfl, rfl, rfl, rfl, trivial⟩ (by decide))
            ·
             refine L.alloc rfl rfl rfl (fun A19 => ?_)
             refine L.nil (QE.m (by kernel_rfl) ?_)
             refine LM.alt [2, 7] (by kernel_rfl) (by decide) ⟨Has.r 0 rfl, Has.r 1 rfl, Has.r 2 rfl, Has.r 3 rfl, Has.r 4 rfl, Has.r 5 rfl, Has.r 6 rfl, Has.r 7 rfl, Has.r 8 rfl, Has.r 9 rfl, Has.r 10 rfl, Has.r 11 rfl, Has.r 12 rfl, Has.r 13 rfl, Has.r 14 rfl, Has.r 15 rfl, Has.r 16 rfl, Has.r 17 rfl, Has.o 1 rfl, Has.o 3 rfl, Has.o 4 rfl, trivial⟩ ⟨⟨_, rfl, ?_⟩, ⟨_, rfl, ?_⟩, trivial⟩
             ·
              refine L.call (js := []) (js' := [0, 1, 2, 3, 4, 5]) (lread_c (cutR g (nextF g (yJ p qq).a (yJ p qq).b (madeS r2)).x (fun _ => 255)) b1 hW1.ok hb1.1 (yJ p qq) hb1.2) rfl rfl rfl (by decide) (Hq [4, 5, 6, 7] rfl) rfl ?_
              rintro _ _ _ ⟨rfl, rfl, rfl⟩
              refine L.norm (H' := [_, _, _, _, _, _]) [0, 1, 2, 3, 4, 5] ⟨rfl, rfl, rfl, rfl, rfl, rfl, trivial⟩ (by decide) ?_
              refine L.nil (QE.m (by kernel_rfl) ?_)
              refine LM.alt [5, 7] (by kernel_rfl) (by decide) ⟨Has.r 0 rfl, Has.r 1 rfl, Has.r 2 rfl, Has.r 3 rfl, Has.r 4 rfl, Has.r 5 rfl, Has.r 6 rfl, Has.r 7 rfl, Has.r 8 rfl, Has.r 9 rfl, Has.r 10 rfl, Has.r 11 rfl, Has.r 12 rfl, Has.r 13 rfl, Has.r 14 rfl, Has.r 15 rfl, Has.r 16 rfl, Has.r 17 rfl, Has.o 1 rfl, Has.o 3 rfl, Has.o 4 rfl, trivial⟩ ⟨⟨_, rfl, ?_⟩, ⟨_, rfl, ?_⟩, trivial⟩
              ·
               refine L.call (js := []) (js' := [0, 1, 2, 3, 4, 5]) (lread_c (cutR g (nextF g (yJ p qq).a (yJ p qq).b (madeS r2)).x (fun j => (ts.getD i []).getD j 0)) b2 hW2.ok hb2.1 (yJ p qq) hb2.2) rfl rfl rfl (by decide) (Hq [0, 1, 2, 3] rfl) rfl ?_
               rintro _ _ _ ⟨rfl, rfl, rfl⟩
               refine L.norm (H' := [_, _, _, _, _, _]) [0, 1, 2, 3, 4, 5] ⟨rfl, rfl, rfl, rfl, rfl, rfl, trivial⟩ (by decide) ?_
               refine L.nil (QE.m (by kernel_rfl) ?_)
               refine LM.f 7 rfl (by kernel_rfl) ⟨Has.r 0 rfl, Has.r 1 rfl, Has.r 2 rfl, Has.r 3 rfl, Has.r 4 rfl, Has.r 5 rfl, Has.r 6 rfl, Has.r 7 rfl, Has.r 8 rfl, Has.r 9 rfl, Has.r 10 rfl, Has.r 11 rfl, Has.r 12 rfl, Has.r 13 rfl, Has.r 14 rfl, Has.r 15 rfl, Has.r 16 rfl, Has.r 17 rfl, Has.o 1 rfl, Has.o 3 rfl, Has.o 4 rfl, trivial⟩ ?_
               refine L.alloc rfl rfl rfl (fun A20 => ?_)
               refine L.nil (QE.m (by kernel_rfl) ?_)
               refine LM.cut [] (by kernel_rfl) ⟨Has.r 0 rfl, Has.r 1 rfl, Has.r 2 rfl, Has.r 3 rfl, Has.r 4 rfl, Has.r 5 rfl, Has.r 6 rfl, Has.r 7 rfl, Has.r 8 rfl, Has.r 9 rfl, Has.r 10 rfl, Has.r 11 rfl, Has.r 12 rfl, Has.r 13 rfl, Has.r 14 rfl, Has.r 15 rfl, Has.r 16 rfl, Has.r 17 rfl, Has.o 1 rfl, Has.o 3 rfl, Has.o 4 rfl, trivial⟩ ?_; refine LM.f 8 rfl (by kernel_rfl) trivial ?_; refine L.storeA (j := 5) rfl rfl rfl rfl rfl (Nat.zero_lt_succ _) rfl rfl ?_
               refine L.nil (QE.m (by kernel_rfl) ?_)
               refine LM.f 9 rfl (by kernel_rfl) trivial ?_; refine L.storeA (j := 6) rfl rfl rfl rfl rfl (Nat.zero_lt_succ _) rfl rfl ?_
               refine L.nil (QE.m (by kernel_rfl) ?_)
               refine LM.nil (by kernel_rfl) trivial ?_
               refine QE.joined ((A19, A20)) (by exact trivial) (by exact Le.mk' (rs := [0, 1, 2, 3, 4, 5, 6, 7, 8, 9, 10, 11, 12, 13, 14, 15, 16, 17]) (hs := [0, 1, 4, 5, 6]) ⟨rfl, rfl, rfl, rfl, rfl, rfl, rfl, rfl, rfl, rfl, rfl, rfl, trivial⟩ ⟨rfl, rfl, rfl, rfl, rfl, rfl, rfl, rfl, rfl, rfl, rfl, rfl, rfl, rfl, rfl, rfl, rfl, rfl, trivial⟩ ⟨rfl, rfl, rfl, rfl, rfl, trivial⟩ (by decide))
              ·
               refine L.alloc rfl rfl rfl (fun A20 => ?_)
               refine L.nil (QE.m (by kernel_rfl) ?_)
               refine LM.f 5 rfl (by kernel_rfl) ⟨Has.r 0 rfl, Has.r 1 rfl, Has.r 2 rfl, Has.r 3 rfl, Has.r 4 rfl, Has.r 5 rfl, Has.r 6 rfl, Has.r 7 rfl, Has.r 8 rfl, Has.r 9 rfl, Has.r 10 rfl, Has.r 11 rfl, Has.r 12 rfl, Has.r 13 rfl, Has.r 14 rfl, Has.r 15 rfl, Has.r 16 rfl, Has.r 17 rfl, Has.o 1 rfl, Has.o 3 rfl, Has.o 4 rfl, trivial⟩ ?_; refine L.call (js := []) (js' := [0, 1, 2, 3, 4, 5, 6]) (lread_c (cutR g (nextF g (yJ p qq).a (yJ p qq).b (madeS r2)).x (fun j => (ts.getD i []).getD j 0)) b2 hW2.ok hb2.1 (yJ p qq) hb2.2) rfl rfl rfl (by decide) (Hq [0, 1, 2, 3] rfl) rfl ?_
               rintro _ _ _ ⟨rfl, rfl, rfl⟩
               refine L.norm (H' := [_, _, _, _, _, _, _]) [0, 1, 2, 3, 4, 5, 6] ⟨rfl, rfl, rfl, rfl, rfl, rfl, rfl, trivial⟩ (by decide) ?_
               refine L.nil (QE.m (by kernel_rfl) ?_)
               refine LM.cut [] (by kernel_rfl) ⟨Has.r 0 rfl, Has.r 1 rfl, Has.r 2 rfl, Has.r 3 rfl, Has.r 4 rfl, Has.r 5 rfl, Has.r 6 rfl, Has.r 7 rfl, Has.r 8 rfl, Has.r 9 rfl, Has.r 10 rfl, Has.r 11 rfl, Has.r 12 rfl, Has.r 13 rfl, Has.r 14 rfl, Has.r 15 rfl, Has.r 16 rfl, Has.r 17 rfl, Has.o 1 rfl, Has.o 3 rfl, Has.o 4 rfl, trivial⟩ ?_; refine LM.f 8 rfl (by kernel_rfl) trivial ?_; refine L.storeA (j := 5) rfl rfl rfl rfl rfl (Nat.zero_lt_succ _) rfl rfl ?_
               refine L.nil (QE.m (by kernel_rfl) ?_)
               refine LM.f 9 rfl (by kernel_rfl) trivial ?_; refine L.storeA (j := 6) rfl rfl rfl rfl rfl (Nat.zero_lt_succ _) rfl rfl ?_
               refine L.nil (QE.m (by kernel_rfl) ?_)
               refine LM.nil (by kernel_rfl) trivial ?_
               refine QE.joined ((A19, A20)) (by exact trivial) (by exact Le.mk' (rs := [0, 1, 2, 3, 4, 5, 6, 7, 8, 9, 10, 11, 12, 13, 14, 15, 16, 17]) (hs := [0, 1, 4, 5, 6]) ⟨rfl, rfl, rfl, rfl, rfl, rfl, rfl, rfl, rfl, rfl, rfl, rfl, trivial⟩ ⟨rfl, rfl, rfl, rfl, rfl, rfl, rfl, rfl, rfl, rfl, rfl, rfl, rfl, rfl, rfl, rfl, rfl, rfl, trivial⟩ ⟨rfl, rfl, rfl, rfl, rfl, trivial⟩ (by decide))
             ·
              refine L.alloc rfl rfl rfl (fun A20 => ?_)
              refine L.nil (QE.m (by kernel_rfl) ?_)
              refine LM.f 2 rfl (by kernel_rfl) ⟨Has.r 0 rfl, Has.r 1 rfl, Has.r 2 rfl, Has.r 3 rfl, Has.r 4 rfl, Has.r 5 rfl, Has.r 6 rfl, Has.r 7 rfl, Has.r 8 rfl, Has.r 9 rfl, Has.r 10 rfl, Has.r 11 rfl, Has.r 12 rfl, Has.r 13 rfl, Has.r 14 rfl, Has.r 15 rfl, Has.r 16 rfl, Has.r 17 rfl, Has.o 1 rfl, Has.o 3 rfl, Has.o 4 rfl, trivial⟩ ?_; refine L.call (js := []) (js' := [0, 1, 2, 3, 4, 5, 6]) (lread_c (cutR g (nextF g (yJ p qq).a (yJ p qq).b (madeS r2)).x (fun _ => 255)) b1 hW1.ok hb1.1 (yJ p qq) hb1.2) rfl rfl rfl (by decide) (Hq [4, 5, 6, 7] rfl) rfl ?_
              rintro _ _ _ ⟨rfl, rfl, rfl⟩
              refine L.norm (H' := [_, _, _, _, _, _, _]) [0, 1, 2, 3, 4, 5, 6] ⟨rfl, rfl, rfl, rfl, rfl, rfl, rfl, trivial⟩ (by decide) ?_
              refine L.nil (QE.m (by kernel_rfl) ?_)
              refine LM.f 5 rfl (by kernel_rfl) ⟨Has.r 0 rfl, Has.r 1 rfl, Has.r 2 rfl, Has.r 3 rfl, Has.r 4 rfl, Has.r 5 rfl, Has.r 6 rfl, Has.r 7 rfl, Has.r 8 rfl, Has.r 9 rfl, Has.r 10 rfl, Has.r 11 rfl, Has.r 12 rfl, Has.r 13 rfl, Has.r 14 rfl, Has.r 15 rfl, Has.r 16 rfl, Has.r 17 rfl, Has.o 1 rfl, Has.o 3 rfl, Has.o 4 rfl, trivial⟩ ?_; refine L.call (js := []) (js' := [0, 1, 2, 3, 4, 5, 6]) (lread_c (cutR g (nextF g (yJ p qq).a (yJ p qq).b (madeS r2)).x (fun j => (ts.getD i []).getD j 0)) b2 hW2.ok hb2.1 (yJ p qq) hb2.2) rfl rfl rfl (by decide) (Hq [0, 1, 2, 3] rfl) rfl ?_
              rintro _ _ _ ⟨rfl, rfl, rfl⟩
              refine L.norm (H' := [_, _, _, _, _, _, _]) [0, 1, 2, 3, 4, 5, 6] ⟨rfl, rfl, rfl, rfl, rfl, rfl, rfl, trivial⟩ (by decide) ?_
              refine L.nil (QE.m (by kernel_rfl) ?_)
              refine LM.cut [] (by kernel_rfl) ⟨Has.r 0 rfl, Has.r 1 rfl, Has.r 2 rfl, Has.r 3 rfl, Has.r 4 rfl, Has.r 5 rfl, Has.r 6 rfl, Has.r 7 rfl, Has.r 8 rfl, Has.r 9 rfl, Has.r 10 rfl, Has.r 11 rfl, Has.r 12 rfl, Has.r 13 rfl, Has.r 14 rfl, Has.r 15 rfl, Has.r 16 rfl, Has.r 17 rfl, Has.o 1 rfl, Has.o 3 rfl, Has.o 4 rfl, trivial⟩ ?_; refine LM.f 8 rfl (by kernel_rfl) trivial ?_; refine L.storeA (j := 5) rfl rfl rfl rfl rfl (Nat.zero_lt_succ _) rfl rfl ?_
              refine L.nil (QE.m (by kernel_rfl) ?_)
              refine LM.f 9 rfl (by kernel_rfl) trivial ?_; refine L.storeA (j := 6) rfl rfl rfl rfl rfl (Nat.zero_lt_succ _) rfl rfl ?_
              refine L.nil (QE.m (by kernel_rfl) ?_)
              refine LM.nil (by kernel_rfl) trivial ?_
              refine QE.joined ((A19, A20)) (by exact trivial) (by exact Le.mk' (rs := [0, 1, 2, 3, 4, 5, 6, 7, 8, 9, 10, 11, 12, 13, 14, 15, 16, 17]) (hs := [0, 1, 4, 5, 6]) ⟨rfl, rfl, rfl, rfl, rfl, rfl, rfl, rfl, rfl, rfl, rfl, rfl, trivial⟩ ⟨rfl, rfl, rfl, rfl, rfl, rfl, rfl, rfl, rfl, rfl, rfl, rfl, rfl, rfl, rfl, rfl, rfl, rfl, trivial⟩ ⟨rfl, rfl, rfl, rfl, rfl, trivial⟩ (by decide))
            ·
             refine L.alloc rfl rfl rfl (fun A20 => ?_)
             refine L.nil (QE.m (by kernel_rfl) ?_)
             refine LM.alt [2, 6] (by kernel_rfl) (by decide) ⟨Has.r 0 rfl, Has.r 1 rfl, Has.r 2 rfl, Has.r 3 rfl, Has.r 4 rfl, Has.r 5 rfl, Has.r 6 rfl, Has.r 7 rfl, Has.r 8 rfl, Has.r 9 rfl, Has.r 10 rfl, Has.r 11 rfl, Has.r 12 rfl, Has.r 13 rfl, Has.r 14 rfl, Has.r 15 rfl, Has.r 16 rfl, Has.r 17 rfl, Has.o 1 rfl, Has.o 3 rfl, Has.o 4 rfl, trivial⟩ ⟨⟨_, rfl, ?_⟩, ⟨_, rfl, ?_⟩, trivial⟩
             ·
              refine L.call (js := []) (js' := [0, 1, 2, 3, 4, 5]) (lread_c (cutR g (nextF g (yJ p qq).a (yJ p qq).b (madeS r2)).x (fun _ => 255)) b1 hW1.ok hb1.1 (yJ p qq) hb1.2) rfl rfl rfl (by decide) (Hq [4, 5, 6, 7] rfl) rfl ?_
              rintro _ _ _ ⟨rfl, rfl, rfl⟩
              refine L.norm (H' := [_, _, _, _, _, _]) [0, 1, 2, 3, 4, 5] ⟨rfl, rfl, rfl, rfl, rfl, rfl, trivial⟩ (by decide) ?_
              refine L.nil (QE.m (by kernel_rfl) ?_)
              refine LM.alt [5, 6] (by kernel_rfl) (by decide) ⟨Has.r 0 rfl, Has.r 1 rfl, Has.r 2 rfl, Has.r 3 rfl, Has.r 4 rfl, Has.r 5 rfl, Has.r 6 rfl, Has.r 7 rfl, Has.r 8 rfl, Has.r 9 rfl, Has.r 10 rfl, Has.r 11 rfl, Has.r 12 rfl, Has.r 13 rfl, Has.r 14 rfl, Has.r 15 rfl, Has.r 16 rfl, Has.r 17 rfl, Has.o 1 rfl, Has.o 3 rfl, Has.o 4 rfl, trivial⟩ ⟨⟨_, rfl, ?_⟩, ⟨_, rfl, ?_⟩, trivial⟩
              ·
               refine L.call (js := []) (js' := [0, 1, 2, 3, 4, 5]) (lread_c (cutR g (nextF g (yJ p qq).a (yJ p qq).b (madeS r2)).x (fun j => (ts.getD i []).getD j 0)) b2 hW2.ok hb2.1 (yJ p qq) hb2.2) rfl rfl rfl (by decide) (Hq [0, 1, 2, 3] rfl) rfl ?_
               rintro _ _ _ ⟨rfl, rfl, rfl⟩
               refine L.norm (H' := [_, _, _, _, _, _]) [0, 1, 2, 3, 4, 5] ⟨rfl, rfl, rfl, rfl, rfl, rfl, trivial⟩ (by decide) ?_
               refine L.nil (QE.m (by kernel_rfl) ?_)
               refine LM.f 6 rfl (by kernel_rfl) ⟨Has.r 0 rfl, Has.r 1 rfl, Has.r 2 rfl, Has.r 3 rfl, Has.r 4 rfl, Has.r 5 rfl, Has.r 6 rfl, Has.r 7 rfl, Has.r 8 rfl, Has.r 9 rfl, Has.r 10 rfl, Has.r 11 rfl, Has.r 12 rfl, Has.r 13 rfl, Has.r 14 rfl, Has.r 15 rfl, Has.r 16 rfl, Has.r 17 rfl, Has.o 1 rfl, Has.o 3 rfl, Has.o 4 rfl, trivial⟩ ?_
               refine L.alloc rfl rfl rfl (fun A19 => ?_)
               refine L.nil (QE.m (by kernel_rfl) ?_)
               refine LM.cut [] (by kernel_rfl) ⟨Has.r 0 rfl, Has.r 1 rfl, Has.r 2 rfl, Has.r 3 rfl, Has.r 4 rfl, Has.r 5 rfl, Has.r 6 rfl, Has.r 7 rfl, Has.r 8 rfl, Has.r 9 rfl, Has.r 10 rfl, Has.r 11 rfl, Has.r 12 rfl, Has.r 13 rfl, Has.r 14 rfl, Has.r 15 rfl, Has.r 16 rfl, Has.r 17 rfl, Has.o 1 rfl, Has.o 3 rfl, Has.o 4 rfl, trivial⟩ ?_; refine LM.f 8 rfl (by kernel_rfl) trivial ?_; refine L.storeA (j := 6) rfl rfl rfl rfl rfl (Nat.zero_lt_succ _) rfl rfl ?_
               refine L.nil (QE.m (by kernel_rfl) ?_)
               refine LM.f 9 rfl (by kernel_rfl) trivial ?_; refine L.storeA (j := 5) rfl rfl rfl rfl rfl (Nat.zero_lt_succ _) rfl rfl ?_
               refine L.nil (QE.m (by kernel_rfl) ?_)
               refine LM.nil (by kernel_rfl) trivial ?_
               refine QE.joined ((A19, A20)) (by exact trivial) (by exact Le.mk' (rs := [0, 1, 2, 3, 4, 5, 6, 7, 8, 9, 10, 11, 12, 13, 14, 15, 16, 17]) (hs := [0, 1, 4, 6, 5]) ⟨rfl, rfl, rfl, rfl, rfl, rfl, rfl, rfl, rfl, rfl, rfl, rfl, trivial⟩ ⟨rfl, rfl, rfl, rfl, rfl, rfl, rfl, rfl, rfl, rfl, rfl, rfl, rfl, rfl, rfl, rfl, rfl, rfl, trivial⟩ ⟨rfl, rfl, rfl, rfl, rfl, trivial⟩ (by decide))
              ·
               refine L.alloc rfl rfl rfl (fun A19 => ?_)
               refine L.nil (QE.m (by kernel_rfl) ?_)
               refine LM.f 5 rfl (by kernel_rfl) ⟨Has.r 0 rfl, Has.r 1 rfl, Has.r 2 rfl, Has.r 3 rfl, Has.r 4 rfl, Has.r 5 rfl, Has.r 6 rfl, Has.r 7 rfl, Has.r 8 rfl, Has.r 9 rfl, Has.r 10 rfl, Has.r 11 rfl, Has.r 12 rfl, Has.r 13 rfl, Has.r 14 rfl, Has.r 15 rfl, Has.r 16 rfl, Has.r 17 rfl, Has.o 1 rfl, Has.o 3 rfl, Has.o 4 rfl, trivial⟩ ?_; refine L.call (js := []) (js' := [0, 1, 2, 3, 4, 5, 6]) (lread_c (cutR g (nextF g (yJ p qq).a (yJ p qq).b (madeS r2)).x (fun j => (ts.getD i []).getD j 0)) b2 hW2.ok hb2.1 (yJ p qq) hb2.2) rfl rfl rfl (by decide) (Hq [0, 1, 2, 3] rfl) rfl ?_
               rintro _ _ _ ⟨rfl, rfl, rfl⟩
               refine L.norm (H' := [_, _, _, _, _, _, _]) [0, 1, 2, 3, 4, 5, 6] ⟨rfl, rfl, rfl, rfl, rfl, rfl, rfl, trivial⟩ (by decide) ?_
               refine L.nil (QE.m (by kernel_rfl) ?_)
               refine LM.cut [] (by kernel_rfl) ⟨Has.r 0 rfl, Has.r 1 rfl, Has.r 2 rfl, Has.r 3 rfl, Has.r 4 rfl, Has.r 5 rfl, Has.r 6 rfl, Has.r 7 rfl, Has.r 8 rfl, Has.r 9 rfl, Has.r 10 rfl, Has.r 11 rfl, Has.r 12 rfl, Has.r 13 rfl, Has.r 14 rfl, Has.r 15 rfl, Has.r 16 rfl, Has.r 17 rfl, Has.o 1 rfl, Has.o 3 rfl, Has.o 4 rfl, trivial⟩ ?_; refine LM.f 8 rfl (by kernel_rfl) trivial ?_; refine L.storeA (j := 6) rfl rfl rfl rfl rfl (Nat.zero_lt_succ _) rfl rfl ?_
               refine L.nil (QE.m (by kernel_rfl) ?_)
               refine LM.f 9 rfl (by kernel_rfl) trivial ?_; refine L.storeA (j := 5) rfl rfl rfl rfl rfl (Nat.zero_lt_succ _) rfl rfl ?_
               refine L.nil (QE.m (by kernel_rfl) ?_)
               refine LM.nil (by kernel_rfl) trivial ?_
               refine QE.joined ((A19, A20)) (by exact trivial) (by exact Le.mk' (rs := [0, 1, 2, 3, 4, 5, 6, 7, 8, 9, 10, 11, 12, 13, 14, 15, 16, 17]) (hs := [0, 1, 4, 6, 5]) ⟨rfl, rfl, rfl, rfl, rfl, rfl, rfl, rfl, rfl, rfl, rfl, rfl, trivial⟩ ⟨rfl, rfl, rfl, rfl, rfl, rfl, rfl, rfl, rfl, rfl, rfl, rfl, rfl, rfl, rfl, rfl, rfl, rfl, trivial⟩ ⟨rfl, rfl, rfl, rfl, rfl, trivial⟩ (by decide))
             ·
              refine L.alloc rfl rfl rfl (fun A19 => ?_)
              refine L.nil (QE.m (by kernel_rfl) ?_)
              refine LM.f 2 rfl (by kernel_rfl) ⟨Has.r 0 rfl, Has.r 1 rfl, Has.r 2 rfl, Has.r 3 rfl, Has.r 4 rfl, Has.r 5 rfl, Has.r 6 rfl, Has.r 7 rfl, Has.r 8 rfl, Has.r 9 rfl, Has.r 10 rfl, Has.r 11 rfl, Has.r 12 rfl, Has.r 13 rfl, Has.r 14 rfl, Has.r 15 rfl, Has.r 16 rfl, Has.r 17 rfl, Has.o 1 rfl, Has.o 3 rfl, Has.o 4 rfl, trivial⟩ ?_; refine L.call (js := []) (js' := [0, 1, 2, 3, 4, 5, 6]) (lread_c (cutR g (nextF g (yJ p qq).a (yJ p qq).b (madeS r2)).x (fun _ => 255)) b1 hW1.ok hb1.1 (yJ p qq) hb1.2) rfl rfl rfl (by decide) (Hq [4, 5, 6, 7] rfl) rfl ?_
              rintro _ _ _ ⟨rfl, rfl, rfl⟩
              refine L.norm (H' := [_, _, _, _, _, _, _]) [0, 1, 2, 3, 4, 5, 6] ⟨rfl, rfl, rfl, rfl, rfl, rfl, rfl, trivial⟩ (by decide) ?_
              refine L.nil (QE.m (by kernel_rfl) ?_)
              refine LM.f 5 rfl (by kernel_rfl) ⟨Has.r 0 rfl, Has.r 1 rfl, Has.r 2 rfl, Has.r 3 rfl, Has.r 4 rfl, Has.r 5 rfl, Has.r 6 rfl, Has.r 7 rfl, Has.r 8 rfl, Has.r 9 rfl, Has.r 10 rfl, Has.r 11 rfl, Has.r 12 rfl, Has.r 13 rfl, Has.r 14 rfl, Has.r 15 rfl, Has.r 16 rfl, Has.r 17 rfl, Has.o 1 rfl, Has.o 3 rfl, Has.o 4 rfl, trivial⟩ ?_; refine L.call (js := []) (js' := [0, 1, 2, 3, 4, 5, 6]) (lread_c (cutR g (nextF g (yJ p qq).a (yJ p qq).b (madeS r2)).x (fun j => (ts.getD i []).getD j 0)) b2 hW2.ok hb2.1 (yJ p qq) hb2.2) rfl rfl rfl (by decide) (Hq [0, 1, 2, 3] rfl) rfl ?_
              rintro _ _ _ ⟨rfl, rfl, rfl⟩
              refine L.norm (H' := [_, _, _, _, _, _, _]) [0, 1, 2, 3, 4, 5, 6] ⟨rfl, rfl, rfl, rfl, rfl, rfl, rfl, trivial⟩ (by decide) ?_
              refine L.nil (QE.m (by kernel_rfl) ?_)
              refine LM.cut [] (by kernel_rfl) ⟨Has.r 0 rfl, Has.r 1 rfl, Has.r 2 rfl, Has.r 3 rfl, Has.r 4 rfl, Has.r 5 rfl, Has.r 6 rfl, Has.r 7 rfl, Has.r 8 rfl, Has.r 9 rfl, Has.r 10 rfl, Has.r 11 rfl, Has.r 12 rfl, Has.r 13 rfl, Has.r 14 rfl, Has.r 15 rfl, Has.r 16 rfl, Has.r 17 rfl, Has.o 1 rfl, Has.o 3 rfl, Has.o 4 rfl, trivial⟩ ?_; refine LM.f 8 rfl (by kernel_rfl) trivial ?_; refine L.storeA (j := 6) rfl rfl rfl rfl rfl (Nat.zero_lt_succ _) rfl rfl ?_
              refine L.nil (QE.m (by kernel_rfl) ?_)
              refine LM.f 9 rfl (by kernel_rfl) trivial ?_; refine L.storeA (j := 5) rfl rfl rfl rfl rfl (Nat.zero_lt_succ _) rfl rfl ?_
              refine L.nil (QE.m (by kernel_rfl) ?_)
              refine LM.nil (by kernel_rfl) trivial ?_
              refine QE.joined ((A19, A20)) (by exact trivial) (by exact Le.mk' (rs := [0, 1, 2, 3, 4, 5, 6, 7, 8, 9, 10, 11, 12, 13, 14, 15, 16, 17]) (hs := [0, 1, 4, 6, 5]) ⟨rfl, rfl, rfl, rfl, rfl, rfl, rfl, rfl, rfl, rfl, rfl, rfl, trivial⟩ ⟨rfl, rfl, rfl, rfl, rfl, rfl, rfl, rfl, rfl, rfl, rfl, rfl, rfl, rfl, rfl, rfl, rfl, rfl, trivial⟩ ⟨rfl, rfl, rfl, rfl, rfl, trivial⟩ (by decide))
           ·
            rintro ⟨A19, A20⟩ _
            dsimp only
            refine QE.seq ?_; refine C.seqJ (fun q : Unit => [(5, ptrOf A5 0), (7, .bool true), (8, ptrOf A8 0), (9, ptrOf A9 0), (11, ptrOf A11 0), (12, ptrOf A12 0), (13, .int .i64 (i : Int)), (17, ptrOf A17 0)]) (fun q : Unit => [Rd b2.D (rowsV b2.hs (B8 (cutR g (nextF g (yJ p qq).a (yJ p qq).b (madeS r2)).x (fun j => (ts.getD i []).getD j 0)).data)), KidsR b2.hs (B8 (cutR g (nextF g (yJ p qq).a (yJ p qq).b (madeS r2)).x (fun j => (ts.getD i []).getD j 0)).data), Rd b2.W (I64 (cutR g (nextF g (yJ p qq).a (yJ p qq).b (madeS r2)).x (fun j => (ts.getD i []).getD j 0)).wear), Rd b2.E (Bs (cutR g (nextF g (yJ p qq).a (yJ p qq).b (madeS r2)).x (fun j => (ts.getD i []).getD j 0)).dead), Rd b.D (rowsV b.hs (B8 g.data)), KidsR b.hs (B8 g.data), Rd b.W (I64 g.wear), Rd b.E (Bs g.dead), Rd A11 [.int .i64 (r0.1.getD 0 0), .int .i64 (r0.1.getD 1 0), .int .i64 (r0.1.getD 2 0), .int .i64 (r0.1.getD 3 0), .int .i64 (r0.1.getD 4 0), .int .i64 (r0.1.getD 5 0), .int .i64 (r0.1.getD 6 0), .int .i64 (r0.1.getD 7 0), .int .i64 (r0.1.getD 8 0), .int .i64 (r0.2.1 : Int), .int .i64 r0.2.2], Rd A12 (st9 (madeS r2)), Rd A5 [.int .u8 (((r2).getD 0 0).toNat : Int), .int .u8 (((r2).getD 1 0).toNat : Int), .int .u8 (((r2).getD 2 0).toNat : Int), .int .u8 (((r2).getD 3 0).toNat : Int), .int .u8 (((r2).getD 4 0).toNat : Int), .int .u8 (((r2).getD 5 0).toNat : Int), .int .u8 (((r2).getD 6 0).toNat : Int), .int .u8 (((r2).getD 7 0).toNat : Int), .int .u8 (((r2).getD 8 0).toNat : Int), .slice T ts.length tc], Rd T (rowsV ths (B8 ts)), KidsR ths (B8 ts), Rd A17 (flL (cutR g (nextF g (yJ p qq).a (yJ p qq).b (madeS r2)).x (fun j => (ts.getD i []).getD j 0)) b2)]) (fun q : Unit => [Own 35 5 A8 1 1 (flL g b), Own 39 8 A9 1 1 [.int .i64 0, .int .i64 (laA p), .int .i64 (laB p qq), .int .i64 0, .int .i64 0, .slice none 0 0, .slice none 0 0, .slice none 0 0]]) (fun q : Unit => True) ?_ ?_
            ·
             refine C.seq ?_
             have hq1 : (readF (cutR g (nextF g (yJ p qq).a (yJ p qq).b (madeS r2)).x (fun _ => 255)) (yJ p qq).a (yJ p qq).b).1 = r0.1 ∨ (readF (cutR g (nextF g (yJ p qq).a (yJ p qq).b (madeS r2)).x (fun _ => 255)) (yJ p qq).a (yJ p qq).b).1 = (madeS r2) := by rw [hr0.1]; exact hr1.2.1
             have hq2 : (readF (cutR g (nextF g (yJ p qq).a (yJ p qq).b (madeS r2)).x (fun j => (ts.getD i []).getD j 0)) (yJ p qq).a (yJ p qq).b).1 = r0.1 ∨ (readF (cutR g (nextF g (yJ p qq).a (yJ p qq).b (madeS r2)).x (fun j => (ts.getD i []).getD j 0)) (yJ p qq).a (yJ p qq).b).1 = (madeS r2) := by rw [hr0.1]; exact hr2.2.1
             refine C.freeze 3 rfl [0, 1, 2, 4] (by decide) (by decide) ?_; refine C.norm (H' := [_, _, _, _]) [0, 1, 2, 3] ⟨rfl, rfl, rfl, rfl, trivial⟩ (by decide) ?_; refine C.freeze 3 rfl [0, 1, 2] (by decide) (by decide) ?_; refine C.norm (H' := [_, _, _]) [0, 1, 2] ⟨rfl, rfl, rfl, trivial⟩ (by decide) ?_; refine C.freeze 2 rfl [0, 1] (by decide) (by decide) ?_; refine C.norm (H' := [_, _]) [0, 1] ⟨rfl, rfl, trivial⟩ (by decide) ?_; refine C.region ?_; refine Lpu rfl rfl ?_; refine Lpu rfl rfl ?_; refine Lpu rfl rfl ?_
             refine L.bool 116 rfl (fun hg116 => ?_) (fun hg116 => ?_)
             ·
              replace hg116 := b_ne hg116
              exact absurd hE hg116
             ·
              replace hg116 := b_eq hg116
              refine L.yes rfl ?_; refine Lpu rfl rfl ?_; refine L.yes rfl ?_; refine Lpu rfl rfl ?_; refine Lpu rfl rfl ?_; refine Lpu rfl rfl ?_
              refine L.bool 120 rfl (fun hg120 => ?_) (fun hg120 => ?_)
              ·
               replace hg120 := b_ne hg120
               exact absurd hE hg120
              ·
               replace hg120 := b_eq hg120
               refine L.yes rfl ?_; refine L.step (Ev.fieldAddr rfl rfl rfl rfl rfl rfl (Src.r 2 rfl) (Nat.zero_lt_succ _) rfl) rfl ?_; refine L.yes rfl ?_; refine L.step (Ev.load rfl rfl rfl (Src.r 2 rfl) rfl) rfl ?_; refine L.yes rfl ?_; refine Lpu rfl rfl ?_; refine Lpu rfl rfl ?_; refine Lpu rfl rfl ?_
               refine L.bool 125 rfl (fun hg125 => ?_) (fun hg125 => ?_)
               ·
                replace hg125 := b_ne hg125
                exact absurd hr1.1 hg125
               ·
                replace hg125 := b_eq hg125
                refine L.yes rfl ?_; refine L.step (Ev.fieldAddr rfl rfl rfl rfl rfl rfl (Src.r 1 rfl) (Nat.zero_lt_succ _) rfl) rfl ?_; refine L.yes rfl ?_; refine L.step (Ev.load rfl rfl rfl (Src.r 1 rfl) rfl) rfl ?_; refine L.yes rfl ?_; refine Lpu rfl rfl ?_; refine Lpu rfl rfl ?_; refine Lpu rfl rfl ?_
                refine L.bool 130 rfl (fun hg130 => ?_) (fun hg130 => ?_)
                ·
                 replace hg130 := b_ne hg130
                 exact absurd hr2.1 hg130
                ·
                 replace hg130 := b_eq hg130
                 refine L.yes rfl ?_; refine L.step (Ev.fieldAddr rfl rfl rfl rfl rfl rfl (Src.r 2 rfl) (Nat.zero_lt_succ _) rfl) rfl ?_; refine L.yes rfl ?_; refine L.step (Ev.loadA rfl rfl rfl (Src.r 2 rfl) rfl rfl (by decide)) rfl ?_; refine L.yes rfl ?_; refine L.step (Ev.fieldAddr rfl rfl rfl rfl rfl rfl (Src.r 16 rfl) (Nat.zero_lt_succ _) rfl) rfl ?_; refine L.yes rfl ?_; refine L.step (Ev.loadA rfl rfl rfl (Src.r 16 rfl) rfl rfl (by decide)) rfl ?_; refine L.yes rfl ?_; refine L.step (Ev.neS9 (xs := (readF (cutR g (nextF g (yJ p qq).a (yJ p qq).b (madeS r2)).x (fun _ => 255)) (yJ p qq).a (yJ p qq).b).1) (ys := r0.1) rfl rfl (by kernel_rfl) (by kernel_rfl) rfl rfl rfl rfl (readF_len _ _ _) (hr0.2)) rfl ?_; refine L.yes rfl ?_; refine Lpu rfl rfl ?_
                 refine L.bool 136 rfl (fun hg136 => ?_) (fun hg136 => ?_)
                 ·
                  refine L.yes rfl ?_; refine L.step (Ev.fieldAddr rfl rfl rfl rfl rfl rfl (Src.r 2 rfl) (Nat.zero_lt_succ _) rfl) rfl ?_; refine L.yes rfl ?_; refine L.step (Ev.loadA rfl rfl rfl (Src.r 2 rfl) rfl rfl (by decide)) rfl ?_; refine L.yes rfl ?_; refine L.step (Ev.loadA rfl rfl rfl (Src.r 17 rfl) rfl rfl (by decide)) rfl ?_; refine L.yes rfl ?_; refine L.step (Ev.neS9 (xs := (readF (cutR g (nextF g (yJ p qq).a (yJ p qq).b (madeS r2)).x (fun _ => 255)) (yJ p qq).a (yJ p qq).b).1) (ys := (madeS r2)) rfl rfl (by kernel_rfl) (by kernel_rfl) rfl rfl rfl rfl (readF_len _ _ _) (rfl)) rfl ?_; refine L.yes rfl ?_; refine Lpu rfl rfl ?_; refine Lpu rfl rfl ?_; refine Lpu rfl rfl ?_
                  refine L.bool 143 rfl (fun hg143 => ?_) (fun hg143 => ?_)
                  ·
                   simp at hg136 hg143; rcases hq1 with h | h; exact absurd h hg136; exact absurd h hg143
                  ·
                   refine L.yes rfl ?_; refine L.step (Ev.fieldAddr rfl rfl rfl rfl rfl rfl (Src.r 1 rfl) (Nat.zero_lt_succ _) rfl) rfl ?_; refine L.yes rfl ?_; refine L.step (Ev.loadA rfl rfl rfl (Src.r 1 rfl) rfl rfl (by decide)) rfl ?_; refine L.yes rfl ?_; refine L.step (Ev.fieldAddr rfl rfl rfl rfl rfl rfl (Src.r 16 rfl) (Nat.zero_lt_succ _) rfl) rfl ?_; refine L.yes rfl ?_; refine L.step (Ev.loadA rfl rfl rfl (Src.r 16 rfl) rfl rfl (by decide)) rfl ?_; refine L.yes rfl ?_; refine L.step (Ev.neS9 (xs := (readF (cutR g (nextF g (yJ p qq).a (yJ p qq).b (madeS r2)).x (fun j => (ts.getD i []).getD j 0)) (yJ p qq).a (yJ p qq).b).1) (ys := r0.1) rfl rfl (by kernel_rfl) (by kernel_rfl) rfl rfl rfl rfl (readF_len _ _ _) (hr0.2)) rfl ?_; refine L.yes rfl ?_; refine Lpu rfl rfl ?_
                   refine L.bool 149 rfl (fun hg149 => ?_) (fun hg149 => ?_)
                   ·
                    refine L.yes rfl ?_; refine L.step (Ev.fieldAddr rfl rfl rfl rfl rfl rfl (Src.r 1 rfl) (Nat.zero_lt_succ _) rfl) rfl ?_; refine L.yes rfl ?_; refine L.step (Ev.loadA rfl rfl rfl (Src.r 1 rfl) rfl rfl (by decide)) rfl ?_; refine L.yes rfl ?_; refine L.step (Ev.loadA rfl rfl rfl (Src.r 17 rfl) rfl rfl (by decide)) rfl ?_; refine L.yes rfl ?_; refine L.step (Ev.neS9 (xs := (readF (cutR g (nextF g (yJ p qq).a (yJ p qq).b (madeS r2)).x (fun j => (ts.getD i []).getD j 0)) (yJ p qq).a (yJ p qq).b).1) (ys := (madeS r2)) rfl rfl (by kernel_rfl) (by kernel_rfl) rfl rfl rfl rfl (readF_len _ _ _) (rfl)) rfl ?_; refine L.yes rfl ?_; refine Lpu rfl rfl ?_; refine Lpu rfl rfl ?_; refine Lpu rfl rfl ?_
                    refine L.bool 156 rfl (fun hg156 => ?_) (fun hg156 => ?_)
                    ·
                     simp at hg149 hg156; rcases hq2 with h | h; exact absurd h hg149; exact absurd h hg156
                    ·
                     refine L.yes rfl ?_; refine L.step (Ev.loadA rfl rfl rfl (Src.r 0 rfl) rfl rfl (by decide)) rfl ?_; refine L.yes rfl ?_; refine L.call (js := []) (js' := [0, 1]) (Ctr.tbJ true (valid17_c ((cutR g (nextF g (yJ p qq).a (yJ p qq).b (madeS r2)).x (fun j => (ts.getD i []).getD j 0)).size : Int) (cutR g (nextF g (yJ p qq).a (yJ p qq).b (madeS r2)).x (fun j => (ts.getD i []).getD j 0)) b2 hb2.1 (by rw [hW2.n]; show 4 ≤ 9223372036854775807; decide)) (okB_okJ hW2.ok)) rfl rfl rfl (by decide) (Hq [3, 4, 5, 6] rfl) rfl ?_
                     rintro _ _ _ ⟨rfl, rfl, rfl⟩
                     refine L.norm (H' := [_, _]) [0, 1] ⟨rfl, rfl, trivial⟩ (by decide) ?_; refine L.yes rfl ?_; refine Lpu rfl rfl ?_; refine Lpu rfl rfl ?_; refine Lpu rfl rfl ?_; refine L.yes rfl ?_; refine L.step (Ev.fieldAddr rfl rfl rfl rfl rfl rfl (Src.r 0 rfl) (Nat.zero_lt_succ _) rfl) rfl ?_; refine L.yes rfl ?_; refine L.step (Ev.load rfl rfl rfl (Src.r 0 rfl) rfl) rfl ?_; refine L.yes rfl ?_; refine Lpu rfl rfl ?_; refine L.yes rfl ?_; refine Lpu rfl rfl ?_; refine Lpu rfl rfl ?_; refine Lpu rfl rfl ?_
                     refine L.bool 167 rfl (fun hg167 => ?_) (fun hg167 => ?_)
                     ·
                      replace hg167 := b_ne hg167
                      exact absurd (by rw [hW2.n]; rfl) hg167
                     ·
                      replace hg167 := b_eq hg167
                      refine L.yes rfl ?_; refine L.step (Ev.fieldAddr rfl rfl rfl rfl rfl rfl (Src.r 0 rfl) (Nat.zero_lt_succ _) rfl) rfl ?_; refine L.yes rfl ?_; refine L.step (Ev.load rfl rfl rfl (Src.r 0 rfl) rfl) rfl ?_; refine L.yes rfl ?_; refine L.step (Ev.fieldAddr rfl rfl rfl rfl rfl rfl (Src.o 0 rfl) (Nat.zero_lt_succ _) rfl) rfl ?_; refine L.yes rfl ?_; refine L.step (Ev.load rfl rfl rfl (Src.o 0 rfl) rfl) rfl ?_; refine L.yes rfl ?_; refine Lpu rfl rfl ?_; refine Lpu rfl rfl ?_; refine L.nil (QE.seq ?_)
                      refine C.condB 173 rfl (fun hc173 => ?_) (fun hc173 => ?_)
                      ·
                       replace hc173 := b_ne hc173
                       exact absurd (by rw [hW2.s, hW.s]) hc173
                      ·
                       replace hc173 := b_eq hc173
                       refine C.skip ?_
                       refine QE.join (()) (by exact trivial) (by exact Le.mk' (rs := [3, 4, 5, 6, 12, 13, 14, 15, 16, 17, 18, 19, 20, 0]) (hs := [0, 1]) ⟨rfl, rfl, rfl, rfl, rfl, rfl, rfl, rfl, trivial⟩ ⟨rfl, rfl, rfl, rfl, rfl, rfl, rfl, rfl, rfl, rfl, rfl, rfl, rfl, rfl, trivial⟩ ⟨rfl, rfl, trivial⟩ (by decide))
                   ·
                    refine L.no rfl rfl rfl ?_; refine L.no rfl rfl rfl ?_; refine L.no rfl rfl rfl ?_; refine L.no rfl rfl rfl ?_; refine L.yes rfl ?_; refine Lpu rfl rfl ?_; refine Lpu rfl rfl ?_; refine Lpu rfl rfl ?_; refine L.yes rfl ?_; refine L.step (Ev.loadA rfl rfl rfl (Src.r 0 rfl) rfl rfl (by decide)) rfl ?_; refine L.yes rfl ?_; refine L.call (js := []) (js' := [0, 1]) (Ctr.tbJ true (valid17_c ((cutR g (nextF g (yJ p qq).a (yJ p qq).b (madeS r2)).x (fun j => (ts.getD i []).getD j 0)).size : Int) (cutR g (nextF g (yJ p qq).a (yJ p qq).b (madeS r2)).x (fun j => (ts.getD i []).getD j 0)) b2 hb2.1 (by rw [hW2.n]; show 4 ≤ 9223372036854775807; decide)) (okB_okJ hW2.ok)) rfl rfl rfl (by decide) (Hq [3, 4, 5, 6] rfl) rfl ?_
                    rintro _ _ _ ⟨rfl, rfl, rfl⟩
                    refine L.norm (H' := [_, _]) [0, 1] ⟨rfl, rfl, trivial⟩ (by decide) ?_; refine L.yes rfl ?_; refine Lpu rfl rfl ?_; refine Lpu rfl rfl ?_; refine Lpu rfl rfl ?_; refine L.yes rfl ?_; refine L.step (Ev.fieldAddr rfl rfl rfl rfl rfl rfl (Src.r 0 rfl) (Nat.zero_lt_succ _) rfl) rfl ?_; refine L.yes rfl ?_; refine L.step (Ev.load rfl rfl rfl (Src.r 0 rfl) rfl) rfl ?_; refine L.yes rfl ?_; refine Lpu rfl rfl ?_; refine L.yes rfl ?_; refine Lpu rfl rfl ?_; refine Lpu rfl rfl ?_; refine Lpu rfl rfl ?_
                    refine L.bool 167 rfl (fun hg167 => ?_) (fun hg167 => ?_)
                    ·
                     replace hg167 := b_ne hg167
                     exact absurd (by rw [hW2.n]; rfl) hg167
                    ·
                     replace hg167 := b_eq hg167
                     refine L.yes rfl ?_; refine L.step (Ev.fieldAddr rfl rfl rfl rfl rfl rfl (Src.r 0 rfl) (Nat.zero_lt_succ _) rfl) rfl ?_; refine L.yes rfl ?_; refine L.step (Ev.load rfl rfl rfl (Src.r 0 rfl) rfl) rfl ?_; refine L.yes rfl ?_; refine L.step (Ev.fieldAddr rfl rfl rfl rfl rfl rfl (Src.o 0 rfl) (Nat.zero_lt_succ _) rfl) rfl ?_; refine L.yes rfl ?_; refine L.step (Ev.load rfl rfl rfl (Src.o 0 rfl) rfl) rfl ?_; refine L.yes rfl ?_; refine Lpu rfl rfl ?_; refine Lpu rfl rfl ?_; refine L.nil (QE.seq ?_)
                     refine C.condB 173 rfl (fun hc173 => ?_) (fun hc173 => ?_)
                     ·
                      replace hc173 := b_ne hc173
                      exact absurd (by rw [hW2.s, hW.s]) hc173
                     ·
                      replace hc173 := b_eq hc173
                      refine C.skip ?_
                      refine QE.join (()) (by exact trivial) (by exact Le.mk' (rs := [3, 4, 5, 6, 12, 13, 14, 15, 16, 17, 18, 19, 20, 0]) (hs := [0, 1]) ⟨rfl, rfl, rfl, rfl, rfl, rfl, rfl, rfl, trivial⟩ ⟨rfl, rfl, rfl, rfl, rfl, rfl, rfl, rfl, rfl, rfl, rfl, rfl, rfl, rfl, trivial⟩ ⟨rfl, rfl, trivial⟩ (by decide))
                 ·
                  refine L.no rfl rfl rfl ?_; refine L.no rfl rfl rfl ?_; refine L.no rfl rfl rfl ?_; refine L.no rfl rfl rfl ?_; refine L.yes rfl ?_; refine Lpu rfl rfl ?_; refine Lpu rfl rfl ?_; refine Lpu rfl rfl ?_; refine L.yes rfl ?_; refine L.step (Ev.fieldAddr rfl rfl rfl rfl rfl rfl (Src.r 1 rfl) (Nat.zero_lt_succ _) rfl) rfl ?_; refine L.yes rfl ?_; refine L.step (Ev.loadA rfl rfl rfl (Src.r 1 rfl) rfl rfl (by decide)) rfl ?_; refine L.yes rfl ?_; refine L.step (Ev.fieldAddr rfl rfl rfl rfl rfl rfl (Src.r 16 rfl) (Nat.zero_lt_succ _) rfl) rfl ?_; refine L.yes rfl ?_; refine L.step (Ev.loadA rfl rfl rfl (Src.r 16 rfl) rfl rfl (by decide)) rfl ?_; refine L.yes rfl ?_; refine L.step (Ev.neS9 (xs := (readF (cutR g (nextF g (yJ p qq).a (yJ p qq).b (madeS r2)).x (fun j => (ts.getD i []).getD j 0)) (yJ p qq).a (yJ p qq).b).1) (ys := r0.1) rfl rfl (by kernel_rfl) (by kernel_rfl) rfl rfl rfl rfl (readF_len _ _ _) (hr0.2)) rfl ?_; refine L.yes rfl ?_; refine Lpu rfl rfl ?_
                  refine L.bool 149 rfl (fun hg149 => ?_) (fun hg149 => ?_)
                  ·
                   refine L.yes rfl ?_; refine L.step (Ev.fieldAddr rfl rfl rfl rfl rfl rfl (Src.r 1 rfl) (Nat.zero_lt_succ _) rfl) rfl ?_; refine L.yes rfl ?_; refine L.step (Ev.loadA rfl rfl rfl (Src.r 1 rfl) rfl rfl (by decide)) rfl ?_; refine L.yes rfl ?_; refine L.step (Ev.loadA rfl rfl rfl (Src.r 17 rfl) rfl rfl (by decide)) rfl ?_; refine L.yes rfl ?_; refine L.step (Ev.neS9 (xs := (readF (cutR g (nextF g (yJ p qq).a (yJ p qq).b (madeS r2)).x (fun j => (ts.getD i []).getD j 0)) (yJ p qq).a (yJ p qq).b).1) (ys := (madeS r2)) rfl rfl (by kernel_rfl) (by kernel_rfl) rfl rfl rfl rfl (readF_len _ _ _) (rfl)) rfl ?_; refine L.yes rfl ?_; refine Lpu rfl rfl ?_; refine Lpu rfl rfl ?_; refine Lpu rfl rfl ?_
                   refine L.bool 156 rfl (fun hg156 => ?_) (fun hg156 => ?_)
                   ·
                    simp at hg149 hg156; rcases hq2 with h | h; exact absurd h hg149; exact absurd h hg156
                   ·
                    refine L.yes rfl ?_; refine L.step (Ev.loadA rfl rfl rfl (Src.r 0 rfl) rfl rfl (by decide)) rfl ?_; refine L.yes rfl ?_; refine L.call (js := []) (js' := [0, 1]) (Ctr.tbJ true (valid17_c ((cutR g (nextF g (yJ p qq).a (yJ p qq).b (madeS r2)).x (fun j => (ts.getD i []).getD j 0)).size : Int) (cutR g (nextF g (yJ p qq).a (yJ p qq).b (madeS r2)).x (fun j => (ts.getD i []).getD j 0)) b2 hb2.1 (by rw [hW2.n]; show 4 ≤ 9223372036854775807; decide)) (okB_okJ hW2.ok)) rfl rfl rfl (by decide) (Hq [3, 4, 5, 6] rfl) rfl ?_
                    rintro _ _ _ ⟨rfl, rfl, rfl⟩
                    refine L.norm (H' := [_, _]) [0, 1] ⟨rfl, rfl, trivial⟩ (by decide) ?_; refine L.yes rfl ?_; refine Lpu rfl rfl ?_; refine Lpu rfl rfl ?_; refine Lpu rfl rfl ?_; refine L.yes rfl ?_; refine L.step (Ev.fieldAddr rfl rfl rfl rfl rfl rfl (Src.r 0 rfl) (Nat.zero_lt_succ _) rfl) rfl ?_; refine L.yes rfl ?_; refine L.step (Ev.load rfl rfl rfl (Src.r 0 rfl) rfl) rfl ?_; refine L.yes rfl ?_; refine Lpu rfl rfl ?_; refine L.yes rfl ?_; refine Lpu rfl rfl ?_; refine Lpu rfl rfl ?_; refine Lpu rfl rfl ?_
                    refine L.bool 167 rfl (fun hg167 => ?_) (fun hg167 => ?_)
                    ·
                     replace hg167 := b_ne hg167
                     exact absurd (by rw [hW2.n]; rfl) hg167
                    ·
                     replace hg167 := b_eq hg167
                     refine L.yes rfl ?_; refine L.step (Ev.fieldAddr rfl rfl rfl rfl rfl rfl (Src.r 0 rfl) (Nat.zero_lt_succ _) rfl) rfl ?_; refine L.yes rfl ?_; refine L.step (Ev.load rfl rfl rfl (Src.r 0 rfl) rfl) rfl ?_; refine L.yes rfl ?_; refine L.step (Ev.fieldAddr rfl rfl rfl rfl rfl rfl (Src.o 0 rfl) (Nat.zero_lt_succ _) rfl) rfl ?_; refine L.yes rfl ?_; refine L.step (Ev.load rfl rfl rfl (Src.o 0 rfl) rfl) rfl ?_; refine L.yes rfl ?_; refine Lpu rfl rfl ?_; refine Lpu rfl rfl ?_; refine L.nil (QE.seq ?_)
                     refine C.condB 173 rfl (fun hc173 => ?_) (fun hc173 => ?_)
                     ·
                      replace hc173 := b_ne hc173
                      exact absurd (by rw [hW2.s, hW.s]) hc173
                     ·
                      replace hc173 := b_eq hc173
                      refine C.skip ?_
                      refine QE.join (()) (by exact trivial) (by exact Le.mk' (rs := [3, 4, 5, 6, 12, 13, 14, 15, 16, 17, 18, 19, 20, 0]) (hs := [0, 1]) ⟨rfl, rfl, rfl, rfl, rfl, rfl, rfl, rfl, trivial⟩ ⟨rfl, rfl, rfl, rfl, rfl, rfl, rfl, rfl, rfl, rfl, rfl, rfl, rfl, rfl, trivial⟩ ⟨rfl, rfl, trivial⟩ (by decide))
                  ·
                   refine L.no rfl rfl rfl ?_; refine L.no rfl rfl rfl ?_; refine L.no rfl rfl rfl ?_; refine L.no rfl rfl rfl ?_; refine L.yes rfl ?_; refine Lpu rfl rfl ?_; refine Lpu rfl rfl ?_; refine Lpu rfl rfl ?_; refine L.yes rfl ?_; refine L.step (Ev.loadA rfl rfl rfl (Src.r 0 rfl) rfl rfl (by decide)) rfl ?_; refine L.yes rfl ?_; refine L.call (js := []) (js' := [0, 1]) (Ctr.tbJ true (valid17_c ((cutR g (nextF g (yJ p qq).a (yJ p qq).b (madeS r2)).x (fun j => (ts.getD i []).getD j 0)).size : Int) (cutR g (nextF g (yJ p qq).a (yJ p qq).b (madeS r2)).x (fun j => (ts.getD i []).getD j 0)) b2 hb2.1 (by rw [hW2.n]; show 4 ≤ 9223372036854775807; decide)) (okB_okJ hW2.ok)) rfl rfl rfl (by decide) (Hq [3, 4, 5, 6] rfl) rfl ?_
                   rintro _ _ _ ⟨rfl, rfl, rfl⟩
                   refine L.norm (H' := [_, _]) [0, 1] ⟨rfl, rfl, trivial⟩ (by decide) ?_; refine L.yes rfl ?_; refine Lpu rfl rfl ?_; refine Lpu rfl rfl ?_; refine Lpu rfl rfl ?_; refine L.yes rfl ?_; refine L.step (Ev.fieldAddr rfl rfl rfl rfl rfl rfl (Src.r 0 rfl) (Nat.zero_lt_succ _) rfl) rfl ?_; refine L.yes rfl ?_; refine L.step (Ev.load rfl rfl rfl (Src.r 0 rfl) rfl) rfl ?_; refine L.yes rfl ?_; refine Lpu rfl rfl ?_; refine L.yes rfl ?_; refine Lpu rfl rfl ?_; refine Lpu rfl rfl ?_; refine Lpu rfl rfl ?_
                   refine L.bool 167 rfl (fun hg167 => ?_) (fun hg167 => ?_)
                   ·
                    replace hg167 := b_ne hg167
                    exact absurd (by rw [hW2.n]; rfl) hg167
                   ·
                    replace hg167 := b_eq hg167
                    refine L.yes rfl ?_; refine L.step (Ev.fieldAddr rfl rfl rfl rfl rfl rfl (Src.r 0 rfl) (Nat.zero_lt_succ _) rfl) rfl ?_; refine L.yes rfl ?_; refine L.step (Ev.load rfl rfl rfl (Src.r 0 rfl) rfl) rfl ?_; refine L.yes rfl ?_; refine L.step (Ev.fieldAddr rfl rfl rfl rfl rfl rfl (Src.o 0 rfl) (Nat.zero_lt_succ _) rfl) rfl ?_; refine L.yes rfl ?_; refine L.step (Ev.load rfl rfl rfl (Src.o 0 rfl) rfl) rfl ?_; refine L.yes rfl ?_; refine Lpu rfl rfl ?_; refine Lpu rfl rfl ?_; refine L.nil (QE.seq ?_)
                    refine C.condB 173 rfl (fun hc173 => ?_) (fun hc173 => ?_)
                    ·
                     replace hc173 := b_ne hc173
                     exact absurd (by rw [hW2.s, hW.s]) hc173
                    ·
                     replace hc173 := b_eq hc173
                     refine C.skip ?_
                     refine QE.join (()) (by exact trivial) (by exact Le.mk' (rs := [3, 4, 5, 6, 12, 13, 14, 15, 16, 17, 18, 19, 20, 0]) (hs := [0, 1]) ⟨rfl, rfl, rfl, rfl, rfl, rfl, rfl, rfl, trivial⟩ ⟨rfl, rfl, rfl, rfl, rfl, rfl, rfl, rfl, rfl, rfl, rfl, rfl, rfl, rfl, trivial⟩ ⟨rfl, rfl, trivial⟩ (by decide))
            ·
             rintro _ _
             refine C.seq (C.seq (C.region ?_)); refine Lpu rfl rfl ?_; refine L.nil (QE.seq (C.block ?_)); refine C.loop (fun k : Nat => [(5, ptrOf A5 0), (7, .bool true), (8, ptrOf A8 0), (9, ptrOf A9 0), (11, ptrOf A11 0), (12, ptrOf A12 0), (13, .int .i64 (i : Int)), (17, ptrOf A17 0), (21, .int .i64 (k : Int))]) (fun k : Nat => [Rd b2.D (rowsV b2.hs (B8 (cutR g (nextF g (yJ p qq).a (yJ p qq).b (madeS r2)).x (fun j => (ts.getD i []).getD j 0)).data)), KidsR b2.hs (B8 (cutR g (nextF g (yJ p qq).a (yJ p qq).b (madeS r2)).x (fun j => (ts.getD i []).getD j 0)).data), Rd b2.W (I64 (cutR g (nextF g (yJ p qq).a (yJ p qq).b (madeS r2)).x (fun j => (ts.getD i []).getD j 0)).wear), Rd b2.E (Bs (cutR g (nextF g (yJ p qq).a (yJ p qq).b (madeS r2)).x (fun j => (ts.getD i []).getD j 0)).dead), Rd b.D (rowsV b.hs (B8 g.data)), KidsR b.hs (B8 g.data), Rd b.W (I64 g.wear), Rd b.E (Bs g.dead), Rd A11 [.int .i64 (r0.1.getD 0 0), .int .i64 (r0.1.getD 1 0), .int .i64 (r0.1.getD 2 0), .int .i64 (r0.1.getD 3 0), .int .i64 (r0.1.getD 4 0), .int .i64 (r0.1.getD 5 0), .int .i64 (r0.1.getD 6 0), .int .i64 (r0.1.getD 7 0), .int .i64 (r0.1.getD 8 0), .int .i64 (r0.2.1 : Int), .int .i64 r0.2.2], Rd A12 (st9 (madeS r2)), Rd A5 [.int .u8 (((r2).getD 0 0).toNat : Int), .int .u8 (((r2).getD 1 0).toNat : Int), .int .u8 (((r2).getD 2 0).toNat : Int), .int .u8 (((r2).getD 3 0).toNat : Int), .int .u8 (((r2).getD 4 0).toNat : Int), .int .u8 (((r2).getD 5 0).toNat : Int), .int .u8 (((r2).getD 6 0).toNat : Int), .int .u8 (((r2).getD 7 0).toNat : Int), .int .u8 (((r2).getD 8 0).toNat : Int), .slice T ts.length tc], Rd T (rowsV ths (B8 ts)), KidsR ths (B8 ts), Rd A17 (flL (cutR g (nextF g (yJ p qq).a (yJ p qq).b (madeS r2)).x (fun j => (ts.getD i []).getD j 0)) b2)]) (fun k : Nat => [Own 35 5 A8 1 1 (flL g b), Own 39 8 A9 1 1 [.int .i64 0, .int .i64 (laA p), .int .i64 (laB p qq), .int .i64 0, .int .i64 0, .slice none 0 0, .slice none 0 0, .slice none 0 0]]) (fun k : Nat => k ≤ 4) (fun k : Nat => 4 - k) 0 (Nat.zero_le _) (by exact Le.mk' (rs := [0, 1, 2, 3, 4, 5, 6, 7, 8, 9, 10, 11, 12, 13]) (hs := [0, 1]) ⟨rfl, rfl, rfl, rfl, rfl, rfl, rfl, rfl, rfl, trivial⟩ ⟨rfl, rfl, rfl, rfl, rfl, rfl, rfl, rfl, rfl, rfl, rfl, rfl, rfl, rfl, trivial⟩ ⟨rfl, rfl, trivial⟩ (by decide)) ?_
             intro k hk
             refine C.seq (C.seq (C.region ?_)); refine Lpu rfl rfl ?_; refine Lpu rfl rfl ?_; refine L.nil (QE.seq ?_)
             refine C.condB 175 rfl (fun hc175 => ?_) (fun hc175 => ?_)
             ·
              replace hc175 := of_decide_eq_true hc175
              have hn2 : (cutR g (nextF g (yJ p qq).a (yJ p qq).b (madeS r2)).x (fun j => (ts.getD i []).getD j 0)).data.length = 4 := hW2.n
              have hn1 : g.data.length = 4 := hW.n
              have hk2 : ((cutR g (nextF g (yJ p qq).a (yJ p qq).b (madeS r2)).x (fun j => (ts.getD i []).getD j 0)).data.getD k []).length ≤ 9223372036854775807 := by rw [hW2.ok.rows k (by omega)]; have := hW2.ok.s2; omega
              have hk1 : (g.data.getD k []).length ≤ 9223372036854775807 := by rw [hok.rows k (by omega)]; have := hok.s2; omega
              have hw2 : (cutR g (nextF g (yJ p qq).a (yJ p qq).b (madeS r2)).x (fun j => (ts.getD i []).getD j 0)).wear.length = 4 := by rw [hW2.ok.wl]; exact hn2
              have hw1 : g.wear.length = 4 := by rw [hok.wl]; exact hn1
              refine C.skip (QE.seq (C.seq (C.block (C.seq ?_)))); refine C.regionM [Rd b2.D (rowsV b2.hs (B8 (cutR g (nextF g (yJ p qq).a (yJ p qq).b (madeS r2)).x (fun j => (ts.getD i []).getD j 0)).data)), KidsR b2.hs (B8 (cutR g (nextF g (yJ p qq).a (yJ p qq).b (madeS r2)).x (fun j => (ts.getD i []).getD j 0)).data), Rd b2.W (I64 (cutR g (nextF g (yJ p qq).a (yJ p qq).b (madeS r2)).x (fun j => (ts.getD i []).getD j 0)).wear), Rd b2.E (Bs (cutR g (nextF g (yJ p qq).a (yJ p qq).b (madeS r2)).x (fun j => (ts.getD i []).getD j 0)).dead), Rd b.D (rowsV b.hs (B8 g.data)), KidsR b.hs (B8 g.data), Rd b.W (I64 g.wear), Rd b.E (Bs g.dead), Rd A9 [.int .i64 0, .int .i64 (laA p), .int .i64 (laB p qq), .int .i64 0, .int .i64 0, .slice none 0 0, .slice none 0 0, .slice none 0 0], Rd A8 (flL g b), Rd A17 (flL (cutR g (nextF g (yJ p qq).a (yJ p qq).b (madeS r2)).x (fun j => (ts.getD i []).getD j 0)) b2)] ⟨Has.r 0 rfl, Has.r 1 rfl, Has.r 2 rfl, Has.r 3 rfl, Has.r 4 rfl, Has.r 5 rfl, Has.r 6 rfl, Has.r 7 rfl, Has.o 1 rfl, Has.o 0 rfl, Has.r 13 rfl, trivial⟩ ?_; refine LM.q 0 rfl (by kernel_rfl) (Ev.pure rfl) rfl ⟨Has.r 0 rfl, Has.r 1 rfl, Has.r 2 rfl, Has.r 3 rfl, Has.r 4 rfl, Has.r 5 rfl, Has.r 6 rfl, Has.r 7 rfl, Has.o 1 rfl, Has.o 0 rfl, Has.r 13 rfl, trivial⟩ ?_; refine LM.q 1 rfl (by kernel_rfl) (Ev.fieldAddr rfl rfl rfl rfl rfl rfl (Src.r 8 rfl) (Nat.zero_lt_succ _) rfl) rfl ⟨Has.r 0 rfl, Has.r 1 rfl, Has.r 2 rfl, Has.r 3 rfl, Has.r 4 rfl, Has.r 5 rfl, Has.r 6 rfl, Has.r 7 rfl, Has.o 1 rfl, Has.o 0 rfl, Has.r 13 rfl, trivial⟩ ?_; refine LM.q 2 rfl (by kernel_rfl) (Ev.idxArr (k := 0) (m := 1) rfl rfl rfl rfl rfl rfl (by decide) (Src.r 8 rfl) (by exact Nat.zero_lt_succ _) rfl) rfl ⟨Has.r 0 rfl, Has.r 1 rfl, Has.r 2 rfl, Has.r 3 rfl, Has.r 4 rfl, Has.r 5 rfl, Has.r 6 rfl, Has.r 7 rfl, Has.o 1 rfl, Has.o 0 rfl, Has.r 13 rfl, trivial⟩ ?_; refine LM.q 3 rfl (by kernel_rfl) (Ev.load rfl rfl rfl (Src.r 8 rfl) rfl) rfl ⟨Has.r 0 rfl, Has.r 1 rfl, Has.r 2 rfl, Has.r 3 rfl, Has.r 4 rfl, Has.r 5 rfl, Has.r 6 rfl, Has.r 7 rfl, Has.o 1 rfl, Has.o 0 rfl, Has.r 13 rfl, trivial⟩ ?_; refine LM.q 4 rfl (by kernel_rfl) (Ev.pure rfl) rfl ⟨Has.r 0 rfl, Has.r 1 rfl, Has.r 2 rfl, Has.r 3 rfl, Has.r 4 rfl, Has.r 5 rfl, Has.r 6 rfl, Has.r 7 rfl, Has.o 1 rfl, Has.o 0 rfl, Has.r 13 rfl, trivial⟩ ?_; refine LM.q 5 rfl (by kernel_rfl) (Ev.pure rfl) rfl ⟨Has.r 0 rfl, Has.r 1 rfl, Has.r 2 rfl, Has.r 3 rfl, Has.r 4 rfl, Has.r 5 rfl, Has.r 6 rfl, Has.r 7 rfl, Has.o 1 rfl, Has.o 0 rfl, Has.r 13 rfl, trivial⟩ ?_
              refine LM.bool 183 rfl (fun hg183 => ?_) (fun hg183 => ?_)
              ·
               replace hg183 := b_ne hg183
               refine LM.qy 6 rfl (by kernel_rfl) rfl (Ev.pure rfl) rfl ⟨Has.r 0 rfl, Has.r 1 rfl, Has.r 2 rfl, Has.r 3 rfl, Has.r 4 rfl, Has.r 5 rfl, Has.r 6 rfl, Has.r 7 rfl, Has.o 1 rfl, Has.o 0 rfl, Has.r 13 rfl, trivial⟩ ?_; refine LM.qy 7 rfl (by kernel_rfl) rfl (Ev.fieldAddr rfl rfl rfl rfl rfl rfl (Src.r 8 rfl) (Nat.zero_lt_succ _) rfl) rfl ⟨Has.r 0 rfl, Has.r 1 rfl, Has.r 2 rfl, Has.r 3 rfl, Has.r 4 rfl, Has.r 5 rfl, Has.r 6 rfl, Has.r 7 rfl, Has.o 1 rfl, Has.o 0 rfl, Has.r 13 rfl, trivial⟩ ?_; refine LM.qy 8 rfl (by kernel_rfl) rfl (Ev.idxArr (k := 1) (m := 2) rfl rfl rfl rfl rfl rfl (by decide) (Src.r 8 rfl) (by exact Nat.zero_lt_succ _) rfl) rfl ⟨Has.r 0 rfl, Has.r 1 rfl, Has.r 2 rfl, Has.r 3 rfl, Has.r 4 rfl, Has.r 5 rfl, Has.r 6 rfl, Has.r 7 rfl, Has.o 1 rfl, Has.o 0 rfl, Has.r 13 rfl, trivial⟩ ?_; refine LM.qy 9 rfl (by kernel_rfl) rfl (Ev.load rfl rfl rfl (Src.r 8 rfl) rfl) rfl ⟨Has.r 0 rfl, Has.r 1 rfl, Has.r 2 rfl, Has.r 3 rfl, Has.r 4 rfl, Has.r 5 rfl, Has.r 6 rfl, Has.r 7 rfl, Has.o 1 rfl, Has.o 0 rfl, Has.r 13 rfl, trivial⟩ ?_; refine LM.qy 10 rfl (by kernel_rfl) rfl (Ev.pure rfl) rfl ⟨Has.r 0 rfl, Has.r 1 rfl, Has.r 2 rfl, Has.r 3 rfl, Has.r 4 rfl, Has.r 5 rfl, Has.r 6 rfl, Has.r 7 rfl, Has.o 1 rfl, Has.o 0 rfl, Has.r 13 rfl, trivial⟩ ?_; refine LM.q 11 rfl (by kernel_rfl) (Ev.pure rfl) rfl ⟨Has.r 0 rfl, Has.r 1 rfl, Has.r 2 rfl, Has.r 3 rfl, Has.r 4 rfl, Has.r 5 rfl, Has.r 6 rfl, Has.r 7 rfl, Has.o 1 rfl, Has.o 0 rfl, Has.r 13 rfl, trivial⟩ ?_; refine LM.q 12 rfl (by kernel_rfl) (Ev.pure rfl) rfl ⟨Has.r 0 rfl, Has.r 1 rfl, Has.r 2 rfl, Has.r 3 rfl, Has.r 4 rfl, Has.r 5 rfl, Has.r 6 rfl, Has.r 7 rfl, Has.o 1 rfl, Has.o 0 rfl, Has.r 13 rfl, trivial⟩ ?_
               refine LM.bool 190 rfl (fun hg190 => ?_) (fun hg190 => ?_)
               ·
                replace hg190 := b_ne hg190
                have hsm := hW.same hG rfl (made_right _) (by show _ < (60 : Int); omega) hc74 (fun j => (ts.getD i []).getD j 0) (i := k) (ne_toNat (by show 0 ≤ laA p; unfold laA; omega) hg183) (ne_toNat (by show 0 ≤ laB p qq; unfold laB; omega) hg190)
                refine LM.qy 13 rfl (by kernel_rfl) rfl (Ev.fieldAddr rfl rfl rfl rfl rfl rfl (Src.r 10 rfl) (Nat.zero_lt_succ _) rfl) rfl ⟨Has.r 0 rfl, Has.r 1 rfl, Has.r 2 rfl, Has.r 3 rfl, Has.r 4 rfl, Has.r 5 rfl, Has.r 6 rfl, Has.r 7 rfl, Has.o 1 rfl, Has.o 0 rfl, Has.r 13 rfl, trivial⟩ ?_; refine LM.qy 14 rfl (by kernel_rfl) rfl (Ev.load rfl rfl rfl (Src.r 10 rfl) rfl) rfl ⟨Has.r 0 rfl, Has.r 1 rfl, Has.r 2 rfl, Has.r 3 rfl, Has.r 4 rfl, Has.r 5 rfl, Has.r 6 rfl, Has.r 7 rfl, Has.o 1 rfl, Has.o 0 rfl, Has.r 13 rfl, trivial⟩ ?_; refine LM.qy 15 rfl (by kernel_rfl) rfl (Ev.pure rfl) rfl ⟨Has.r 0 rfl, Has.r 1 rfl, Has.r 2 rfl, Has.r 3 rfl, Has.r 4 rfl, Has.r 5 rfl, Has.r 6 rfl, Has.r 7 rfl, Has.o 1 rfl, Has.o 0 rfl, Has.r 13 rfl, trivial⟩ ?_; refine LM.qy 16 rfl (by kernel_rfl) rfl (Ev.idx1 (k := k) rfl rfl rfl rfl rfl rfl rfl (by omega) (Src.r 0 rfl) (by rw [rowsV_len (by rw [B8_len]; exact hb2.1), B8_len]; omega)) rfl ⟨Has.r 0 rfl, Has.r 1 rfl, Has.r 2 rfl, Has.r 3 rfl, Has.r 4 rfl, Has.r 5 rfl, Has.r 6 rfl, Has.r 7 rfl, Has.o 1 rfl, Has.o 0 rfl, Has.r 13 rfl, trivial⟩ ?_; refine LM.qy 17 rfl (by kernel_rfl) rfl (Ev.load rfl rfl rfl (Src.r 0 rfl) (rows8_get hb2.1 (by omega))) rfl ⟨Has.r 0 rfl, Has.r 1 rfl, Has.r 2 rfl, Has.r 3 rfl, Has.r 4 rfl, Has.r 5 rfl, Has.r 6 rfl, Has.r 7 rfl, Has.o 1 rfl, Has.o 0 rfl, Has.r 13 rfl, trivial⟩ ?_; refine LM.qy 18 rfl (by kernel_rfl) rfl (Ev.fieldAddr rfl rfl rfl rfl rfl rfl (Src.r 9 rfl) (Nat.zero_lt_succ _) rfl) rfl ⟨Has.r 0 rfl, Has.r 1 rfl, Has.r 2 rfl, Has.r 3 rfl, Has.r 4 rfl, Has.r 5 rfl, Has.r 6 rfl, Has.r 7 rfl, Has.o 1 rfl, Has.o 0 rfl, Has.r 13 rfl, trivial⟩ ?_; refine LM.qy 19 rfl (by kernel_rfl) rfl (Ev.load rfl rfl rfl (Src.r 9 rfl) rfl) rfl ⟨Has.r 0 rfl, Has.r 1 rfl, Has.r 2 rfl, Has.r 3 rfl, Has.r 4 rfl, Has.r 5 rfl, Has.r 6 rfl, Has.r 7 rfl, Has.o 1 rfl, Has.o 0 rfl, Has.r 13 rfl, trivial⟩ ?_; refine LM.qy 20 rfl (by kernel_rfl) rfl (Ev.pure rfl) rfl ⟨Has.r 0 rfl, Has.r 1 rfl, Has.r 2 rfl, Has.r 3 rfl, Has.r 4 rfl, Has.r 5 rfl, Has.r 6 rfl, Has.r 7 rfl, Has.o 1 rfl, Has.o 0 rfl, Has.r 13 rfl, trivial⟩ ?_; refine LM.qy 21 rfl (by kernel_rfl) rfl (Ev.idx1 (k := k) rfl rfl rfl rfl rfl rfl rfl (by omega) (Src.r 4 rfl) (by rw [rowsV_len (by rw [B8_len]; exact hb), B8_len]; omega)) rfl ⟨Has.r 0 rfl, Has.r 1 rfl, Has.r 2 rfl, Has.r 3 rfl, Has.r 4 rfl, Has.r 5 rfl, Has.r 6 rfl, Has.r 7 rfl, Has.o 1 rfl, Has.o 0 rfl, Has.r 13 rfl, trivial⟩ ?_; refine LM.qy 22 rfl (by kernel_rfl) rfl (Ev.load rfl rfl rfl (Src.r 4 rfl) (rows8_get hb (by omega))) rfl ⟨Has.r 0 rfl, Has.r 1 rfl, Has.r 2 rfl, Has.r 3 rfl, Has.r 4 rfl, Has.r 5 rfl, Has.r 6 rfl, Has.r 7 rfl, Has.o 1 rfl, Has.o 0 rfl, Has.r 13 rfl, trivial⟩ ?_; refine LM.f 23 rfl (by kernel_rfl) ⟨Has.r 0 rfl, Has.r 1 rfl, Has.r 2 rfl, Has.r 3 rfl, Has.r 4 rfl, Has.r 5 rfl, Has.r 6 rfl, Has.r 7 rfl, Has.o 1 rfl, Has.o 0 rfl, Has.r 13 rfl, trivial⟩ ?_; refine L.yes rfl ?_; refine L.call (js := []) (js' := [0, 1]) (same_c (b2.hs.getD k (none, 0)).1 (b.hs.getD k (none, 0)).1 (b2.hs.getD k (none, 0)).2 (b.hs.getD k (none, 0)).2 ((cutR g (nextF g (yJ p qq).a (yJ p qq).b (madeS r2)).x (fun j => (ts.getD i []).getD j 0)).data.getD k []) (g.data.getD k []) hk2 hk1) rfl rfl rfl (by decide) ⟨((Has.kid 1 rfl (by rw [B8_len]; exact hb2.1) k (by rw [B8_len]; omega)).cast (B8_get _)), ((Has.kid 5 rfl (by rw [B8_len]; exact hb) k (by rw [B8_len]; omega)).cast (B8_get _)), trivial⟩ rfl ?_
                rintro _ _ _ ⟨rfl, rfl, rfl⟩
                refine L.norm (H' := [_, _]) [0, 1] ⟨rfl, rfl, trivial⟩ (by decide) ?_
                refine L.nil (QE.m (by kernel_rfl) ?_)
                refine LM.qy 24 rfl (by kernel_rfl) rfl (Ev.pure rfl) rfl ⟨Has.r 0 rfl, Has.r 1 rfl, Has.r 2 rfl, Has.r 3 rfl, Has.r 4 rfl, Has.r 5 rfl, Has.r 6 rfl, Has.r 7 rfl, Has.o 1 rfl, Has.o 0 rfl, Has.r 13 rfl, trivial⟩ ?_; refine LM.qy 25 rfl (by kernel_rfl) rfl (Ev.pure rfl) rfl ⟨Has.r 0 rfl, Has.r 1 rfl, Has.r 2 rfl, Has.r 3 rfl, Has.r 4 rfl, Has.r 5 rfl, Has.r 6 rfl, Has.r 7 rfl, Has.o 1 rfl, Has.o 0 rfl, Has.r 13 rfl, trivial⟩ ?_
                refine LM.bool 203 rfl (fun hg203 => ?_) (fun hg203 => ?_)
                ·
                 rw [hsm.1] at hg203; simp at hg203
                ·
                 refine LM.qy 26 rfl (by kernel_rfl) rfl (Ev.fieldAddr rfl rfl rfl rfl rfl rfl (Src.r 10 rfl) (Nat.zero_lt_succ _) rfl) rfl ⟨Has.r 0 rfl, Has.r 1 rfl, Has.r 2 rfl, Has.r 3 rfl, Has.r 4 rfl, Has.r 5 rfl, Has.r 6 rfl, Has.r 7 rfl, Has.o 1 rfl, Has.o 0 rfl, Has.r 13 rfl, trivial⟩ ?_; refine LM.qy 27 rfl (by kernel_rfl) rfl (Ev.load rfl rfl rfl (Src.r 10 rfl) rfl) rfl ⟨Has.r 0 rfl, Has.r 1 rfl, Has.r 2 rfl, Has.r 3 rfl, Has.r 4 rfl, Has.r 5 rfl, Has.r 6 rfl, Has.r 7 rfl, Has.o 1 rfl, Has.o 0 rfl, Has.r 13 rfl, trivial⟩ ?_; refine LM.qy 28 rfl (by kernel_rfl) rfl (Ev.pure rfl) rfl ⟨Has.r 0 rfl, Has.r 1 rfl, Has.r 2 rfl, Has.r 3 rfl, Has.r 4 rfl, Has.r 5 rfl, Has.r 6 rfl, Has.r 7 rfl, Has.o 1 rfl, Has.o 0 rfl, Has.r 13 rfl, trivial⟩ ?_; refine LM.qy 29 rfl (by kernel_rfl) rfl (Ev.idx1 (k := k) rfl rfl rfl rfl rfl rfl rfl (by omega) (Src.r 2 rfl) (by rw [I64_len]; omega)) rfl ⟨Has.r 0 rfl, Has.r 1 rfl, Has.r 2 rfl, Has.r 3 rfl, Has.r 4 rfl, Has.r 5 rfl, Has.r 6 rfl, Has.r 7 rfl, Has.o 1 rfl, Has.o 0 rfl, Has.r 13 rfl, trivial⟩ ?_; refine LM.qy 30 rfl (by kernel_rfl) rfl (Ev.load rfl rfl rfl (Src.r 2 rfl) (I64_get (by omega))) rfl ⟨Has.r 0 rfl, Has.r 1 rfl, Has.r 2 rfl, Has.r 3 rfl, Has.r 4 rfl, Has.r 5 rfl, Has.r 6 rfl, Has.r 7 rfl, Has.o 1 rfl, Has.o 0 rfl, Has.r 13 rfl, trivial⟩ ?_; refine LM.qy 31 rfl (by kernel_rfl) rfl (Ev.fieldAddr rfl rfl rfl rfl rfl rfl (Src.r 9 rfl) (Nat.zero_lt_succ _) rfl) rfl ⟨Has.r 0 rfl, Has.r 1 rfl, Has.r 2 rfl, Has.r 3 rfl, Has.r 4 rfl, Has.r 5 rfl, Has.r 6 rfl, Has.r 7 rfl, Has.o 1 rfl, Has.o 0 rfl, Has.r 13 rfl, trivial⟩ ?_; refine LM.qy 32 rfl (by kernel_rfl) rfl (Ev.load rfl rfl rfl (Src.r 9 rfl) rfl) rfl ⟨Has.r 0 rfl, Has.r 1 rfl, Has.r 2 rfl, Has.r 3 rfl, Has.r 4 rfl, Has.r 5 rfl, Has.r 6 rfl, Has.r 7 rfl, Has.o 1 rfl, Has.o 0 rfl, Has.r 13 rfl, trivial⟩ ?_; refine LM.f 33 rfl (by kernel_rfl) ⟨Has.r 0 rfl, Has.r 1 rfl, Has.r 2 rfl, Has.r 3 rfl, Has.r 4 rfl, Has.r 5 rfl, Has.r 6 rfl, Has.r 7 rfl, Has.o 1 rfl, Has.o 0 rfl, Has.r 13 rfl, trivial⟩ ?_; refine L.yes rfl ?_; refine Lpu rfl rfl ?_
                 refine L.nil (QE.m (by kernel_rfl) ?_)
                 refine LM.f 34 rfl (by kernel_rfl) ⟨Has.r 0 rfl, Has.r 1 rfl, Has.r 2 rfl, Has.r 3 rfl, Has.r 4 rfl, Has.r 5 rfl, Has.r 6 rfl, Has.r 7 rfl, Has.o 1 rfl, Has.o 0 rfl, Has.r 13 rfl, trivial⟩ ?_; refine L.yes rfl ?_; refine L.step (Ev.idx1 (k := k) rfl rfl rfl rfl rfl rfl rfl (by omega) (Src.r 6 rfl) (by rw [I64_len]; omega)) rfl ?_
                 refine L.nil (QE.m (by kernel_rfl) ?_)
                 refine LM.f 35 rfl (by kernel_rfl) ⟨Has.r 0 rfl, Has.r 1 rfl, Has.r 2 rfl, Has.r 3 rfl, Has.r 4 rfl, Has.r 5 rfl, Has.r 6 rfl, Has.r 7 rfl, Has.o 1 rfl, Has.o 0 rfl, Has.r 13 rfl, trivial⟩ ?_; refine L.yes rfl ?_; refine L.step (Ev.load rfl rfl rfl (Src.r 6 rfl) (I64_get (by omega))) rfl ?_
                 refine L.nil (QE.m (by kernel_rfl) ?_)
                 refine LM.cut [] (by kernel_rfl) ⟨Has.r 0 rfl, Has.r 1 rfl, Has.r 2 rfl, Has.r 3 rfl, Has.r 4 rfl, Has.r 5 rfl, Has.r 6 rfl, Has.r 7 rfl, Has.o 1 rfl, Has.o 0 rfl, Has.r 13 rfl, trivial⟩ ?_; refine LM.f 36 rfl (by kernel_rfl) trivial ?_; refine L.yes rfl ?_; refine Lpu rfl rfl ?_
                 refine L.nil (QE.m (by kernel_rfl) ?_)
                 refine LM.f 37 rfl (by kernel_rfl) trivial ?_; refine L.yes rfl ?_; refine Lpu rfl rfl ?_
                 refine L.nil (QE.m (by kernel_rfl) ?_)
                 refine LM.f 38 rfl (by kernel_rfl) trivial ?_; refine Lpu rfl rfl ?_
                 refine L.nil (QE.m (by kernel_rfl) ?_)
                 refine LM.nil (by kernel_rfl) trivial ?_; refine QE.seq ?_
                 refine C.condB 216 rfl (fun hc216 => ?_) (fun hc216 => ?_)
                 ·
                  replace hc216 := b_ne hc216
                  exact absurd hsm.2 hc216
                 ·
                  replace hc216 := b_eq hc216
                  refine C.skip ?_; refine QE.blkN ?_; refine QE.seq (C.region ?_); refine Lpu rfl rfl ?_; refine L.step (Ev.add rfl rfl (by omega) (by omega)) rfl ?_; refine Lpu rfl rfl ?_; refine L.nil ?_
                  refine QE.round (k + 1) (by omega) (by omega) (by exact Le.mk' (rs := [0, 1, 2, 3, 4, 5, 6, 7, 8, 9, 10, 11, 12, 13]) (hs := [0, 1]) ⟨rfl, rfl, rfl, rfl, rfl, rfl, rfl, rfl, rfl, trivial⟩ ⟨rfl, rfl, rfl, rfl, rfl, rfl, rfl, rfl, rfl, rfl, rfl, rfl, rfl, rfl, trivial⟩ ⟨rfl, rfl, trivial⟩ (by decide))
               ·
                replace hg190 := b_eq hg190
                refine LM.no 13 rfl (by kernel_rfl) rfl rfl rfl ⟨Has.r 0 rfl, Has.r 1 rfl, Has.r 2 rfl, Has.r 3 rfl, Has.r 4 rfl, Has.r 5 rfl, Has.r 6 rfl, Has.r 7 rfl, Has.o 1 rfl, Has.o 0 rfl, Has.r 13 rfl, trivial⟩ ?_; refine LM.no 14 rfl (by kernel_rfl) rfl rfl rfl ⟨Has.r 0 rfl, Has.r 1 rfl, Has.r 2 rfl, Has.r 3 rfl, Has.r 4 rfl, Has.r 5 rfl, Has.r 6 rfl, Has.r 7 rfl, Has.o 1 rfl, Has.o 0 rfl, Has.r 13 rfl, trivial⟩ ?_; refine LM.no 15 rfl (by kernel_rfl) rfl rfl rfl ⟨Has.r 0 rfl, Has.r 1 rfl, Has.r 2 rfl, Has.r 3 rfl, Has.r 4 rfl, Has.r 5 rfl, Has.r 6 rfl, Has.r 7 rfl, Has.o 1 rfl, Has.o 0 rfl, Has.r 13 rfl, trivial⟩ ?_; refine LM.no 16 rfl (by kernel_rfl) rfl rfl rfl ⟨Has.r 0 rfl, Has.r 1 rfl, Has.r 2 rfl, Has.r 3 rfl, Has.r 4 rfl, Has.r 5 rfl, Has.r 6 rfl, Has.r 7 rfl, Has.o 1 rfl, Has.o 0 rfl, Has.r 13 rfl, trivial⟩ ?_; refine LM.no 17 rfl (by kernel_rfl) rfl rfl rfl ⟨Has.r 0 rfl, Has.r 1 rfl, Has.r 2 rfl, Has.r 3 rfl, Has.r 4 rfl, Has.r 5 rfl, Has.r 6 rfl, Has.r 7 rfl, Has.o 1 rfl, Has.o 0 rfl, Has.r 13 rfl, trivial⟩ ?_; refine LM.no 18 rfl (by kernel_rfl) rfl rfl rfl ⟨Has.r 0 rfl, Has.r 1 rfl, Has.r 2 rfl, Has.r 3 rfl, Has.r 4 rfl, Has.r 5 rfl, Has.r 6 rfl, Has.r 7 rfl, Has.o 1 rfl, Has.o 0 rfl, Has.r 13 rfl, trivial⟩ ?_; refine LM.no 19 rfl (by kernel_rfl) rfl rfl rfl ⟨Has.r 0 rfl, Has.r 1 rfl, Has.r 2 rfl, Has.r 3 rfl, Has.r 4 rfl, Has.r 5 rfl, Has.r 6 rfl, Has.r 7 rfl, Has.o 1 rfl, Has.o 0 rfl, Has.r 13 rfl, trivial⟩ ?_; refine LM.no 20 rfl (by kernel_rfl) rfl rfl rfl ⟨Has.r 0 rfl, Has.r 1 rfl, Has.r 2 rfl, Has.r 3 rfl, Has.r 4 rfl, Has.r 5 rfl, Has.r 6 rfl, Has.r 7 rfl, Has.o 1 rfl, Has.o 0 rfl, Has.r 13 rfl, trivial⟩ ?_; refine LM.no 21 rfl (by kernel_rfl) rfl rfl rfl ⟨Has.r 0 rfl, Has.r 1 rfl, Has.r 2 rfl, Has.r 3 rfl, Has.r 4 rfl, Has.r 5 rfl, Has.r 6 rfl, Has.r 7 rfl, Has.o 1 rfl, Has.o 0 rfl, Has.r 13 rfl, trivial⟩ ?_; refine LM.no 22 rfl (by kernel_rfl) rfl rfl rfl ⟨Has.r 0 rfl, Has.r 1 rfl, Has.r 2 rfl, Has.r 3 rfl, Has.r 4 rfl, Has.r 5 rfl, Has.r 6 rfl, Has.r 7 rfl, Has.o 1 rfl, Has.o 0 rfl, Has.r 13 rfl, trivial⟩ ?_; refine LM.no 23 rfl (by kernel_rfl) rfl rfl rfl ⟨Has.r 0 rfl, Has.r 1 rfl, Has.r 2 rfl, Has.r 3 rfl, Has.r 4 rfl, Has.r 5 rfl, Has.r 6 rfl, Has.r 7 rfl, Has.o 1 rfl, Has.o 0 rfl, Has.r 13 rfl, trivial⟩ ?_; refine LM.no 24 rfl (by kernel_rfl) rfl rfl rfl ⟨Has.r 0 rfl, Has.r 1 rfl, Has.r 2 rfl, Has.r 3 rfl, Has.r 4 rfl, Has.r 5 rfl, Has.r 6 rfl, Has.r 7 rfl, Has.o 1 rfl, Has.o 0 rfl, Has.r 13 rfl, trivial⟩ ?_; refine LM.no 25 rfl (by kernel_rfl) rfl rfl rfl ⟨Has.r 0 rfl, Has.r 1 rfl, Has.r 2 rfl, Has.r 3 rfl, Has.r 4 rfl, Has.r 5 rfl, Has.r 6 rfl, Has.r 7 rfl, Has.o 1 rfl, Has.o 0 rfl, Has.r 13 rfl, trivial⟩ ?_; refine LM.no 26 rfl (by kernel_rfl) rfl rfl rfl ⟨Has.r 0 rfl, Has.r 1 rfl, Has.r 2 rfl, Has.r 3 rfl, Has.r 4 rfl, Has.r 5 rfl, Has.r 6 rfl, Has.r 7 rfl, Has.o 1 rfl, Has.o 0 rfl, Has.r 13 rfl, trivial⟩ ?_; refine LM.no 27 rfl (by kernel_rfl) rfl rfl rfl ⟨Has.r 0 rfl, Has.r 1 rfl, Has.r 2 rfl, Has.r 3 rfl, Has.r 4 rfl, Has.r 5 rfl, Has.r 6 rfl, Has.r 7 rfl, Has.o 1 rfl, Has.o 0 rfl, Has.r 13 rfl, trivial⟩ ?_; refine LM.no 28 rfl (by kernel_rfl) rfl rfl rfl ⟨Has.r 0 rfl, Has.r 1 rfl, Has.r 2 rfl, Has.r 3 rfl, Has.r 4 rfl, Has.r 5 rfl, Has.r 6 rfl, Has.r 7 rfl, Has.o 1 rfl, Has.o 0 rfl, Has.r 13 rfl, trivial⟩ ?_; refine LM.no 29 rfl (by kernel_rfl) rfl rfl rfl ⟨Has.r 0 rfl, Has.r 1 rfl, Has.r 2 rfl, Has.r 3 rfl, Has.r 4 rfl, Has.r 5 rfl, Has.r 6 rfl, Has.r 7 rfl, Has.o 1 rfl, Has.o 0 rfl, Has.r 13 rfl, trivial⟩ ?_; refine LM.no 30 rfl (by kernel_rfl) rfl rfl rfl ⟨Has.r 0 rfl, Has.r 1 rfl, Has.r 2 rfl, Has.r 3 rfl, Has.r 4 rfl, Has.r 5 rfl, Has.r 6 rfl, Has.r 7 rfl, Has.o 1 rfl, Has.o 0 rfl, Has.r 13 rfl, trivial⟩ ?_; refine LM.no 31 rfl (by kernel_rfl) rfl rfl rfl ⟨Has.r 0 rfl, Has.r 1 rfl, Has.r 2 rfl, Has.r 3 rfl, Has.r 4 rfl, Has.r 5 rfl, Has.r 6 rfl, Has.r 7 rfl, Has.o 1 rfl, Has.o 0 rfl, Has.r 13 rfl, trivial⟩ ?_; refine LM.no 32 rfl (by kernel_rfl) rfl rfl rfl ⟨Has.r 0 rfl, Has.r 1 rfl, Has.r 2 rfl, Has.r 3 rfl, Has.r 4 rfl, Has.r 5 rfl, Has.r 6 rfl, Has.r 7 rfl, Has.o 1 rfl, Has.o 0 rfl, Has.r 13 rfl, trivial⟩ ?_; refine LM.f 33 rfl (by kernel_rfl) ⟨Has.r 0 rfl, Has.r 1 rfl, Has.r 2 rfl, Has.r 3 rfl, Has.r 4 rfl, Has.r 5 rfl, Has.r 6 rfl, Has.r 7 rfl, Has.o 1 rfl, Has.o 0 rfl, Has.r 13 rfl, trivial⟩ ?_; refine L.no rfl rfl rfl ?_
                refine L.nil (QE.m (by kernel_rfl) ?_)
                refine LM.f 34 rfl (by kernel_rfl) ⟨Has.r 0 rfl, Has.r 1 rfl, Has.r 2 rfl, Has.r 3 rfl, Has.r 4 rfl, Has.r 5 rfl, Has.r 6 rfl, Has.r 7 rfl, Has.o 1 rfl, Has.o 0 rfl, Has.r 13 rfl, trivial⟩ ?_; refine L.no rfl rfl rfl ?_
                refine L.nil (QE.m (by kernel_rfl) ?_)
                refine LM.f 35 rfl (by kernel_rfl) ⟨Has.r 0 rfl, Has.r 1 rfl, Has.r 2 rfl, Has.r 3 rfl, Has.r 4 rfl, Has.r 5 rfl, Has.r 6 rfl, Has.r 7 rfl, Has.o 1 rfl, Has.o 0 rfl, Has.r 13 rfl, trivial⟩ ?_; refine L.no rfl rfl rfl ?_
                refine L.nil (QE.m (by kernel_rfl) ?_)
                refine LM.cut [] (by kernel_rfl) ⟨Has.r 0 rfl, Has.r 1 rfl, Has.r 2 rfl, Has.r 3 rfl, Has.r 4 rfl, Has.r 5 rfl, Has.r 6 rfl, Has.r 7 rfl, Has.o 1 rfl, Has.o 0 rfl, Has.r 13 rfl, trivial⟩ ?_; refine LM.f 36 rfl (by kernel_rfl) trivial ?_; refine L.no rfl rfl rfl ?_
                refine L.nil (QE.m (by kernel_rfl) ?_)
                refine LM.f 37 rfl (by kernel_rfl) trivial ?_; refine L.no rfl rfl rfl ?_
                refine L.nil (QE.m (by kernel_rfl) ?_)
                refine LM.f 38 rfl (by kernel_rfl) trivial ?_; refine Lpu rfl rfl ?_
                refine L.nil (QE.m (by kernel_rfl) ?_)
                refine LM.nil (by kernel_rfl) trivial ?_; refine QE.seq ?_
                refine C.cond rfl (fun h => by cases h) (fun _ => ?_)
                refine C.skip ?_; refine QE.blkN ?_; refine QE.seq (C.region ?_); refine Lpu rfl rfl ?_; refine L.step (Ev.add rfl rfl (by omega) (by omega)) rfl ?_; refine Lpu rfl rfl ?_; refine L.nil ?_
                refine QE.round (k + 1) (by omega) (by omega) (by exact Le.mk' (rs := [0, 1, 2, 3, 4, 5, 6, 7, 8, 9, 10, 11, 12, 13]) (hs := [0, 1]) ⟨rfl, rfl, rfl, rfl, rfl, rfl, rfl, rfl, rfl, trivial⟩ ⟨rfl, rfl, rfl, rfl, rfl, rfl, rfl, rfl, rfl, rfl, rfl, rfl, rfl, rfl, trivial⟩ ⟨rfl, rfl, trivial⟩ (by decide))
              ·
               replace hg183 := b_eq hg183
               refine LM.no 6 rfl (by kernel_rfl) rfl rfl rfl ⟨Has.r 0 rfl, Has.r 1 rfl, Has.r 2 rfl, Has.r 3 rfl, Has.r 4 rfl, Has.r 5 rfl, Has.r 6 rfl, Has.r 7 rfl, Has.o 1 rfl, Has.o 0 rfl, Has.r 13 rfl, trivial⟩ ?_; refine LM.no 7 rfl (by kernel_rfl) rfl rfl rfl ⟨Has.r 0 rfl, Has.r 1 rfl, Has.r 2 rfl, Has.r 3 rfl, Has.r 4 rfl, Has.r 5 rfl, Has.r 6 rfl, Has.r 7 rfl, Has.o 1 rfl, Has.o 0 rfl, Has.r 13 rfl, trivial⟩ ?_; refine LM.no 8 rfl (by kernel_rfl) rfl rfl rfl ⟨Has.r 0 rfl, Has.r 1 rfl, Has.r 2 rfl, Has.r 3 rfl, Has.r 4 rfl, Has.r 5 rfl, Has.r 6 rfl, Has.r 7 rfl, Has.o 1 rfl, Has.o 0 rfl, Has.r 13 rfl, trivial⟩ ?_; refine LM.no 9 rfl (by kernel_rfl) rfl rfl rfl ⟨Has.r 0 rfl, Has.r 1 rfl, Has.r 2 rfl, Has.r 3 rfl, Has.r 4 rfl, Has.r 5 rfl, Has.r 6 rfl, Has.r 7 rfl, Has.o 1 rfl, Has.o 0 rfl, Has.r 13 rfl, trivial⟩ ?_; refine LM.no 10 rfl (by kernel_rfl) rfl rfl rfl ⟨Has.r 0 rfl, Has.r 1 rfl, Has.r 2 rfl, Has.r 3 rfl, Has.r 4 rfl, Has.r 5 rfl, Has.r 6 rfl, Has.r 7 rfl, Has.o 1 rfl, Has.o 0 rfl, Has.r 13 rfl, trivial⟩ ?_; refine LM.q 11 rfl (by kernel_rfl) (Ev.pure rfl) rfl ⟨Has.r 0 rfl, Has.r 1 rfl, Has.r 2 rfl, Has.r 3 rfl, Has.r 4 rfl, Has.r 5 rfl, Has.r 6 rfl, Has.r 7 rfl, Has.o 1 rfl, Has.o 0 rfl, Has.r 13 rfl, trivial⟩ ?_; refine LM.q 12 rfl (by kernel_rfl) (Ev.pure rfl) rfl ⟨Has.r 0 rfl, Has.r 1 rfl, Has.r 2 rfl, Has.r 3 rfl, Has.r 4 rfl, Has.r 5 rfl, Has.r 6 rfl, Has.r 7 rfl, Has.o 1 rfl, Has.o 0 rfl, Has.r 13 rfl, trivial⟩ ?_; refine LM.no 13 rfl (by kernel_rfl) rfl rfl rfl ⟨Has.r 0 rfl, Has.r 1 rfl, Has.r 2 rfl, Has.r 3 rfl, Has.r 4 rfl, Has.r 5 rfl, Has.r 6 rfl, Has.r 7 rfl, Has.o 1 rfl, Has.o 0 rfl, Has.r 13 rfl, trivial⟩ ?_; refine LM.no 14 rfl (by kernel_rfl) rfl rfl rfl ⟨Has.r 0 rfl, Has.r 1 rfl, Has.r 2 rfl, Has.r 3 rfl, Has.r 4 rfl, Has.r 5 rfl, Has.r 6 rfl, Has.r 7 rfl, Has.o 1 rfl, Has.o 0 rfl, Has.r 13 rfl, trivial⟩ ?_; refine LM.no 15 rfl (by kernel_rfl) rfl rfl rfl ⟨Has.r 0 rfl, Has.r 1 rfl, Has.r 2 rfl, Has.r 3 rfl, Has.r 4 rfl, Has.r 5 rfl, Has.r 6 rfl, Has.r 7 rfl, Has.o 1 rfl, Has.o 0 rfl, Has.r 13 rfl, trivial⟩ ?_; refine LM.no 16 rfl (by kernel_rfl) rfl rfl rfl ⟨Has.r 0 rfl, Has.r 1 rfl, Has.r 2 rfl, Has.r 3 rfl, Has.r 4 rfl, Has.r 5 rfl, Has.r 6 rfl, Has.r 7 rfl, Has.o 1 rfl, Has.o 0 rfl, Has.r 13 rfl, trivial⟩ ?_; refine LM.no 17 rfl (by kernel_rfl) rfl rfl rfl ⟨Has.r 0 rfl, Has.r 1 rfl, Has.r 2 rfl, Has.r 3 rfl, Has.r 4 rfl, Has.r 5 rfl, Has.r 6 rfl, Has.r 7 rfl, Has.o 1 rfl, Has.o 0 rfl, Has.r 13 rfl, trivial⟩ ?_; refine LM.no 18 rfl (by kernel_rfl) rfl rfl rfl ⟨Has.r 0 rfl, Has.r 1 rfl, Has.r 2 rfl, Has.r 3 rfl, Has.r 4 rfl, Has.r 5 rfl, Has.r 6 rfl, Has.r 7 rfl, Has.o 1 rfl, Has.o 0 rfl, Has.r 13 rfl, trivial⟩ ?_; refine LM.no 19 rfl (by kernel_rfl) rfl rfl rfl ⟨Has.r 0 rfl, Has.r 1 rfl, Has.r 2 rfl, Has.r 3 rfl, Has.r 4 rfl, Has.r 5 rfl, Has.r 6 rfl, Has.r 7 rfl, Has.o 1 rfl, Has.o 0 rfl, Has.r 13 rfl, trivial⟩ ?_; refine LM.no 20 rfl (by kernel_rfl) rfl rfl rfl ⟨Has.r 0 rfl, Has.r 1 rfl, Has.r 2 rfl, Has.r 3 rfl, Has.r 4 rfl, Has.r 5 rfl, Has.r 6 rfl, Has.r 7 rfl, Has.o 1 rfl, Has.o 0 rfl, Has.r 13 rfl, trivial⟩ ?_; refine LM.no 21 rfl (by kernel_rfl) rfl rfl rfl ⟨Has.r 0 rfl, Has.r 1 rfl, Has.r 2 rfl, Has.r 3 rfl, Has.r 4 rfl, Has.r 5 rfl, Has.r 6 rfl, Has.r 7 rfl, Has.o 1 rfl, Has.o 0 rfl, Has.r 13 rfl, trivial⟩ ?_; refine LM.no 22 rfl (by kernel_rfl) rfl rfl rfl ⟨Has.r 0 rfl, Has.r 1 rfl, Has.r 2 rfl, Has.r 3 rfl, Has.r 4 rfl, Has.r 5 rfl, Has.r 6 rfl, Has.r 7 rfl, Has.o 1 rfl, Has.o 0 rfl, Has.r 13 rfl, trivial⟩ ?_; refine LM.no 23 rfl (by kernel_rfl) rfl rfl rfl ⟨Has.r 0 rfl, Has.r 1 rfl, Has.r 2 rfl, Has.r 3 rfl, Has.r 4 rfl, Has.r 5 rfl, Has.r 6 rfl, Has.r 7 rfl, Has.o 1 rfl, Has.o 0 rfl, Has.r 13 rfl, trivial⟩ ?_; refine LM.no 24 rfl (by kernel_rfl) rfl rfl rfl ⟨Has.r 0 rfl, Has.r 1 rfl, Has.r 2 rfl, Has.r 3 rfl, Has.r 4 rfl, Has.r 5 rfl, Has.r 6 rfl, Has.r 7 rfl, Has.o 1 rfl, Has.o 0 rfl, Has.r 13 rfl, trivial⟩ ?_; refine LM.no 25 rfl (by kernel_rfl) rfl rfl rfl ⟨Has.r 0 rfl, Has.r 1 rfl, Has.r 2 rfl, Has.r 3 rfl, Has.r 4 rfl, Has.r 5 rfl, Has.r 6 rfl, Has.r 7 rfl, Has.o 1 rfl, Has.o 0 rfl, Has.r 13 rfl, trivial⟩ ?_; refine LM.no 26 rfl (by kernel_rfl) rfl rfl rfl ⟨Has.r 0 rfl, Has.r 1 rfl, Has.r 2 rfl, Has.r 3 rfl, Has.r 4 rfl, Has.r 5 rfl, Has.r 6 rfl, Has.r 7 rfl, Has.o 1 rfl, Has.o 0 rfl, Has.r 13 rfl, trivial⟩ ?_; refine LM.no 27 rfl (by kernel_rfl) rfl rfl rfl ⟨Has.r 0 rfl, Has.r 1 rfl, Has.r 2 rfl, Has.r 3 rfl, Has.r 4 rfl, Has.r 5 rfl, Has.r 6 rfl, Has.r 7 rfl, Has.o 1 rfl, Has.o 0 rfl, Has.r 13 rfl, trivial⟩ ?_; refine LM.no 28 rfl (by kernel_rfl) rfl rfl rfl ⟨Has.r 0 rfl, Has.r 1 rfl, Has.r 2 rfl, Has.r 3 rfl, Has.r 4 rfl, Has.r 5 rfl, Has.r 6 rfl, Has.r 7 rfl, Has.o 1 rfl, Has.o 0 rfl, Has.r 13 rfl, trivial⟩ ?_; refine LM.no 29 rfl (by kernel_rfl) rfl rfl rfl ⟨Has.r 0 rfl, Has.r 1 rfl, Has.r 2 rfl, Has.r 3 rfl, Has.r 4 rfl, Has.r 5 rfl, Has.r 6 rfl, Has.r 7 rfl, Has.o 1 rfl, Has.o 0 rfl, Has.r 13 rfl, trivial⟩ ?_; refine LM.no 30 rfl (by kernel_rfl) rfl rfl rfl ⟨Has.r 0 rfl, Has.r 1 rfl, Has.r 2 rfl, Has.r 3 rfl, Has.r 4 rfl, Has.r 5 rfl, Has.r 6 rfl, Has.r 7 rfl, Has.o 1 rfl, Has.o 0 rfl, Has.r 13 rfl, trivial⟩ ?_; refine LM.no 31 rfl (by kernel_rfl) rfl rfl rfl ⟨Has.r 0 rfl, Has.r 1 rfl, Has.r 2 rfl, Has.r 3 rfl, Has.r 4 rfl, Has.r 5 rfl, Has.r 6 rfl, Has.r 7 rfl, Has.o 1 rfl, Has.o 0 rfl, Has.r 13 rfl, trivial⟩ ?_; refine LM.no 32 rfl (by kernel_rfl) rfl rfl rfl ⟨Has.r 0 rfl, Has.r 1 rfl, Has.r 2 rfl, Has.r 3 rfl, Has.r 4 rfl, Has.r 5 rfl, Has.r 6 rfl, Has.r 7 rfl, Has.o 1 rfl, Has.o 0 rfl, Has.r 13 rfl, trivial⟩ ?_; refine LM.f 33 rfl (by kernel_rfl) ⟨Has.r 0 rfl, Has.r 1 rfl, Has.r 2 rfl, Has.r 3 rfl, Has.r 4 rfl, Has.r 5 rfl, Has.r 6 rfl, Has.r 7 rfl, Has.o 1 rfl, Has.o 0 rfl, Has.r 13 rfl, trivial⟩ ?_; refine L.no rfl rfl rfl ?_
               refine L.nil (QE.m (by kernel_rfl) ?_)
               refine LM.f 34 rfl (by kernel_rfl) ⟨Has.r 0 rfl, Has.r 1 rfl, Has.r 2 rfl, Has.r 3 rfl, Has.r 4 rfl, Has.r 5 rfl, Has.r 6 rfl, Has.r 7 rfl, Has.o 1 rfl, Has.o 0 rfl, Has.r 13 rfl, trivial⟩ ?_; refine L.no rfl rfl rfl ?_
               refine L.nil (QE.m (by kernel_rfl) ?_)
               refine LM.f 35 rfl (by kernel_rfl) ⟨Has.r 0 rfl, Has.r 1 rfl, Has.r 2 rfl, Has.r 3 rfl, Has.r 4 rfl, Has.r 5 rfl, Has.r 6 rfl, Has.r 7 rfl, Has.o 1 rfl, Has.o 0 rfl, Has.r 13 rfl, trivial⟩ ?_; refine L.no rfl rfl rfl ?_
               refine L.nil (QE.m (by kernel_rfl) ?_)
               refine LM.cut [] (by kernel_rfl) ⟨Has.r 0 rfl, Has.r 1 rfl, Has.r 2 rfl, Has.r 3 rfl, Has.r 4 rfl, Has.r 5 rfl, Has.r 6 rfl, Has.r 7 rfl, Has.o 1 rfl, Has.o 0 rfl, Has.r 13 rfl, trivial⟩ ?_; refine LM.f 36 rfl (by kernel_rfl) trivial ?_; refine L.no rfl rfl rfl ?_
               refine L.nil (QE.m (by kernel_rfl) ?_)
               refine LM.f 37 rfl (by kernel_rfl) trivial ?_; refine L.no rfl rfl rfl ?_
               refine L.nil (QE.m (by kernel_rfl) ?_)
               refine LM.f 38 rfl (by kernel_rfl) trivial ?_; refine Lpu rfl rfl ?_
               refine L.nil (QE.m (by kernel_rfl) ?_)
               refine LM.nil (by kernel_rfl) trivial ?_; refine QE.seq ?_
               refine C.cond rfl (fun h => by cases h) (fun _ => ?_)
               refine C.skip ?_; refine QE.blkN ?_; refine QE.seq (C.region ?_); refine Lpu rfl rfl ?_; refine L.step (Ev.add rfl rfl (by omega) (by omega)) rfl ?_; refine Lpu rfl rfl ?_; refine L.nil ?_
               refine QE.round (k + 1) (by omega) (by omega) (by exact Le.mk' (rs := [0, 1, 2, 3, 4, 5, 6, 7, 8, 9, 10, 11, 12, 13]) (hs := [0, 1]) ⟨rfl, rfl, rfl, rfl, rfl, rfl, rfl, rfl, rfl, trivial⟩ ⟨rfl, rfl, rfl, rfl, rfl, rfl, rfl, rfl, rfl, rfl, rfl, rfl, rfl, rfl, trivial⟩ ⟨rfl, rfl, trivial⟩ (by decide))
             ·
              replace hc175 := of_decide_eq_false hc175
              refine C.exit ?_; refine QE.tX ?_; refine QE.tX ?_; refine QE.blk ?_; refine QE.seq (C.region ?_); refine L.step (Ev.loadA rfl rfl rfl (Src.r 13 rfl) rfl rfl (by decide)) rfl ?_; refine L.storeA (j := 0) rfl rfl rfl rfl rfl (Nat.zero_lt_succ _) rfl rfl ?_; refine L.nil ?_; refine QE.blkN ?_; refine QE.seq (C.region ?_); refine Lpu rfl rfl ?_; refine L.step (Ev.add rfl rfl (by omega) (by omega)) rfl ?_; refine Lpu rfl rfl ?_; refine L.nil ?_
              refine QE.round (i := (i, g, b)) ((i + 1, (cutR g (nextF g (yJ p qq).a (yJ p qq).b (madeS r2)).x (fun j => (ts.getD i []).getD j 0)), b2)) (by exact ⟨by dsimp only; omega, by dsimp only; rw [show 43 + ((i + 1 : Nat) : Int) = 43 + (i : Int) + 1 by omega]; exact hW2, hb2.1, hb2.2⟩) (by dsimp only; omega) (by exact Le.mk' (rs := [0, 1, 2, 3, 8, 9, 10, 11, 12]) (hs := [0, 1]) ⟨rfl, rfl, rfl, rfl, rfl, rfl, rfl, trivial⟩ ⟨rfl, rfl, rfl, rfl, rfl, rfl, rfl, rfl, rfl, trivial⟩ ⟨rfl, rfl, trivial⟩ (by decide))
       ·
        replace hc61 := of_decide_eq_false hc61
        refine C.exit ?_; refine QE.tX ?_; refine QE.tX ?_; refine QE.blk ?_
        refine QE.join (()) (by exact trivial) (by exact Le.mk' (rs := []) (hs := []) ⟨rfl, trivial⟩ trivial trivial (by decide))
      ·
       replace hg58 := of_decide_eq_false hg58
       refine L.no rfl rfl rfl ?_; refine L.no rfl rfl rfl ?_; refine Lpu rfl rfl ?_; refine L.nil (QE.seq ?_)
       refine C.cond rfl (fun h => by cases h) (fun _ => ?_)
       refine C.exit ?_; refine QE.tX ?_; refine QE.tX ?_; refine QE.blk ?_
       refine QE.join (()) (by exact trivial) (by exact Le.mk' (rs := []) (hs := []) ⟨rfl, trivial⟩ trivial trivial (by decide))
     ·
      rintro _ _
      refine C.seq (C.region ?_); refine Lpu rfl rfl ?_; refine Lpu rfl rfl ?_; refine L.nil (QE.seq (C.ret ?_)); refine QE.ret (js := []) (hs := []) (vs := [_]) rfl ⟨rfl, trivial⟩ (by decide) ?_
      exact ⟨rfl, rfl, rfl⟩

end Go.Proofs.Ytmbjknampholjaa
