/-
  The contract of the law JournalScripts.
-/
import Derived.Test.YtmbjknampholjaaCSlL
import Derived.Test.YtmbjknampholjaaCJl
import Derived.Test.YtmbjknampholjaaCLi
namespace Go.Proofs.Ytmbjknampholjaa
open Go.Sl

theorem wrV_at9 (l : List Wr) (k : Nat) (hk : k < l.length) : ((wrV l).drop (k * 10)).take 9 = u9 (l.getD k Wr.zero).r := by
 have h := congrArg (List.take 9) (wrV_at l k hk)
 rw [List.take_take] at h
 exact h

set_option maxHeartbeats 4000000 in
theorem jScripts_c (z p qq : UInt8) (r : List UInt8) (l : List Wr) (LA : Option Addr) (lc : Nat) (hll : l.length ≤ 9223372036854775807) (hlo : ∀ k, WrOk (l.getD k Wr.zero)) :
   Ctr X 9 [.agg (List.toArray [.int .u8 (z.toNat : Int), .int .u8 (p.toNat : Int), .int .u8 (qq.toNat : Int), .int .u8 (((r).getD 0 0).toNat : Int), .int .u8 (((r).getD 1 0).toNat : Int), .int .u8 (((r).getD 2 0).toNat : Int), .int .u8 (((r).getD 3 0).toNat : Int), .int .u8 (((r).getD 4 0).toNat : Int), .int .u8 (((r).getD 5 0).toNat : Int), .int .u8 (((r).getD 6 0).toNat : Int), .int .u8 (((r).getD 7 0).toNat : Int), .int .u8 (((r).getD 8 0).toNat : Int)]), .slice LA l.length lc] [Rd LA (wrV l), KidsR (wrT l) (wrR l), KidsA (wrA l) (wrB l)] [] (fun v R' H' => v = .bool true ∧ R' = [] ∧ H' = []) := by
 refine Ctr.of (X := X) (fn := Try.f9) Try.func9 rfl (by kernel_rfl) rfl ?_
 intro β
 refine C.seq (C.region ?_)
 refine L.boxA rfl rfl (fun A2 => ?_)
 refine Lpu rfl rfl ?_; refine L.nil (QE.seq (C.seq ?_)); refine C.freeze 0 rfl [] (by decide) (by decide) ?_; refine C.region ?_; refine L.call (js := []) (js' := []) (sanityJ_c) rfl rfl rfl (by decide) trivial rfl ?_
 rintro _ _ _ ⟨rfl, rfl, rfl⟩
 refine Lpu rfl rfl ?_; refine L.nil (QE.seq (C.seq ?_)); refine C.join (fun q : Fa × Option Addr × Option Addr => [(1, .slice LA l.length lc), (2, ptrOf A2 0), (5, .bool true), (6, ptrOf q.2.1 0), (7, ptrOf q.2.2 0), (8, .int .i64 0)]) (fun q : Fa × Option Addr × Option Addr => [Rd q.1.D (rowsV q.1.hs (B8 (flJ z p qq r).data)), KidsR q.1.hs (B8 (flJ z p qq r).data), Rd q.1.W (I64 (flJ z p qq r).wear), Rd q.1.E (Bs (flJ z p qq r).dead), Rd A2 [.int .u8 (z.toNat : Int), .int .u8 (p.toNat : Int), .int .u8 (qq.toNat : Int), .int .u8 (((r).getD 0 0).toNat : Int), .int .u8 (((r).getD 1 0).toNat : Int), .int .u8 (((r).getD 2 0).toNat : Int), .int .u8 (((r).getD 3 0).toNat : Int), .int .u8 (((r).getD 4 0).toNat : Int), .int .u8 (((r).getD 5 0).toNat : Int), .int .u8 (((r).getD 6 0).toNat : Int), .int .u8 (((r).getD 7 0).toNat : Int), .int .u8 (((r).getD 8 0).toNat : Int)], Rd LA (wrV l), KidsR (wrT l) (wrR l), KidsA (wrA l) (wrB l)]) (fun q : Fa × Option Addr × Option Addr => [Own 35 5 q.2.1 1 1 (flL (flJ z p qq r) q.1), Own 39 8 q.2.2 1 1 [.int .i64 0, .int .i64 (laA p), .int .i64 (laB p qq), .int .i64 0, .int .i64 0, .slice none 0 0, .slice none 0 0, .slice none 0 0]]) (fun q : Fa × Option Addr × Option Addr => q.1.hs.length = (flJ z p qq r).data.length ∧ Caps (flJ z p qq r) q.1) ?_ ?_
 ·
  refine C.regionM [Rd A2 [.int .u8 (z.toNat : Int), .int .u8 (p.toNat : Int), .int .u8 (qq.toNat : Int), .int .u8 (((r).getD 0 0).toNat : Int), .int .u8 (((r).getD 1 0).toNat : Int), .int .u8 (((r).getD 2 0).toNat : Int), .int .u8 (((r).getD 3 0).toNat : Int), .int .u8 (((r).getD 4 0).toNat : Int), .int .u8 (((r).getD 5 0).toNat : Int), .int .u8 (((r).getD 6 0).toNat : Int), .int .u8 (((r).getD 7 0).toNat : Int), .int .u8 (((r).getD 8 0).toNat : Int)], Rd LA (wrV l), KidsR (wrT l) (wrR l), KidsA (wrA l) (wrB l)] (Hq [0, 1, 2, 3] rfl) ?_; refine LM.q 0 rfl (by kernel_rfl) (Ev.loadA rfl rfl rfl (Src.r 0 rfl) rfl rfl (by decide)) rfl (Hq [0, 1, 2, 3] rfl) ?_; refine LM.q 2 rfl (by kernel_rfl) (Ev.loadA rfl rfl rfl (Src.r 0 rfl) rfl rfl (by decide)) rfl (Hq [0, 1, 2, 3] rfl) ?_; refine LM.a3 1 4 5 (by kernel_rfl) (Hq [0, 1, 2, 3] rfl) rfl rfl rfl ?_ ?_ ?_; refine L.callR (js := []) (js' := []) (flash_c z p qq r) rfl rfl rfl (by decide) trivial rfl ?_
  rintro _ _ _ ⟨a, hb, hc, rfl, rfl, rfl⟩
  refine L.nm (by kernel_rfl) ?_; refine LM.a3 3 4 5 (by kernel_rfl) (Hq [4, 5, 6, 7] rfl) rfl rfl rfl ?_ ?_ ?_; refine L.call (js := []) (js' := []) (layout_c z p qq r) rfl rfl rfl (by decide) trivial rfl ?_
  rintro _ _ _ ⟨rfl, rfl, rfl⟩
  refine L.nm (by kernel_rfl) ?_; refine LM.a2 4 5 (by kernel_rfl) (Hq [4, 5, 6, 7] rfl) rfl rfl ?_ ?_
  refine L.alloc rfl rfl rfl (fun A6 => ?_)
  refine L.nm (by kernel_rfl) ?_; refine LM.f 5 rfl (by kernel_rfl) (Hq [4, 5, 6, 7] rfl) ?_
  refine L.alloc rfl rfl rfl (fun A7 => ?_)
  refine L.norm (H' := [_, _]) [0, 1] ⟨rfl, rfl, trivial⟩ (by decide) ?_; refine L.nm (by kernel_rfl) ?_
  rotate_left
  refine L.alloc rfl rfl rfl (fun A7 => ?_)
  refine L.nm (by kernel_rfl) ?_; refine LM.f 4 rfl (by kernel_rfl) (Hq [4, 5, 6, 7] rfl) ?_
  refine L.alloc rfl rfl rfl (fun A6 => ?_)
  refine L.norm (H' := [_, _]) [1, 0] ⟨rfl, rfl, trivial⟩ (by decide) ?_; refine L.nm (by kernel_rfl) ?_
  rotate_left
  refine L.alloc rfl rfl rfl (fun A6 => ?_)
  refine L.nm (by kernel_rfl) ?_; refine LM.a2 3 5 (by kernel_rfl) (Hq [4, 5, 6, 7] rfl) rfl rfl ?_ ?_; refine L.call (js := []) (js' := [0]) (layout_c z p qq r) rfl rfl rfl (by decide) trivial rfl ?_
  rintro _ _ _ ⟨rfl, rfl, rfl⟩
  refine L.nm (by kernel_rfl) ?_; refine LM.f 5 rfl (by kernel_rfl) (Hq [4, 5, 6, 7] rfl) ?_
  refine L.alloc rfl rfl rfl (fun A7 => ?_)
  refine L.norm (H' := [_, _]) [0, 1] ⟨rfl, rfl, trivial⟩ (by decide) ?_; refine L.nm (by kernel_rfl) ?_
  rotate_left
  refine L.alloc rfl rfl rfl (fun A7 => ?_)
  refine L.nm (by kernel_rfl) ?_; refine LM.f 3 rfl (by kernel_rfl) (Hq [4, 5, 6, 7] rfl) ?_; refine L.call (js := []) (js' := [0, 1]) (layout_c z p qq r) rfl rfl rfl (by decide) trivial rfl ?_
  rintro _ _ _ ⟨rfl, rfl, rfl⟩
  refine L.norm (H' := [_, _]) [0, 1] ⟨rfl, rfl, trivial⟩ (by decide) ?_; refine L.nm (by kernel_rfl) ?_
  rotate_left
  refine L.alloc rfl rfl rfl (fun A7 => ?_)
  refine L.nm (by kernel_rfl) ?_; refine LM.a2 3 4 (by kernel_rfl) (Hq [4, 5, 6, 7] rfl) rfl rfl ?_ ?_; refine L.call (js := []) (js' := [0]) (layout_c z p qq r) rfl rfl rfl (by decide) trivial rfl ?_
  rintro _ _ _ ⟨rfl, rfl, rfl⟩
  refine L.nm (by kernel_rfl) ?_; refine LM.f 4 rfl (by kernel_rfl) (Hq [4, 5, 6, 7] rfl) ?_
  refine L.alloc rfl rfl rfl (fun A6 => ?_)
  refine L.norm (H' := [_, _]) [1, 0] ⟨rfl, rfl, trivial⟩ (by decide) ?_; refine L.nm (by kernel_rfl) ?_
  rotate_left
  refine L.alloc rfl rfl rfl (fun A6 => ?_)
  refine L.nm (by kernel_rfl) ?_; refine LM.f 3 rfl (by kernel_rfl) (Hq [4, 5, 6, 7] rfl) ?_; refine L.call (js := []) (js' := [0, 1]) (layout_c z p qq r) rfl rfl rfl (by decide) trivial rfl ?_
  rintro _ _ _ ⟨rfl, rfl, rfl⟩
  refine L.norm (H' := [_, _]) [1, 0] ⟨rfl, rfl, trivial⟩ (by decide) ?_; refine L.nm (by kernel_rfl) ?_
  rotate_left
  refine L.alloc rfl rfl rfl (fun A6 => ?_)
  refine L.nm (by kernel_rfl) ?_; refine LM.a2 1 5 (by kernel_rfl) (Hq [0, 1, 2, 3] rfl) rfl rfl ?_ ?_; refine L.callR (js := []) (js' := [0]) (flash_c z p qq r) rfl rfl rfl (by decide) trivial rfl ?_
  rintro _ _ _ ⟨a, hb, hc, rfl, rfl, rfl⟩
  refine L.nm (by kernel_rfl) ?_; refine LM.a2 3 5 (by kernel_rfl) (Hq [4, 5, 6, 7] rfl) rfl rfl ?_ ?_; refine L.call (js := []) (js' := [0]) (layout_c z p qq r) rfl rfl rfl (by decide) trivial rfl ?_
  rintro _ _ _ ⟨rfl, rfl, rfl⟩
  refine L.nm (by kernel_rfl) ?_; refine LM.f 5 rfl (by kernel_rfl) (Hq [4, 5, 6, 7] rfl) ?_
  refine L.alloc rfl rfl rfl (fun A7 => ?_)
  refine L.norm (H' := [_, _]) [0, 1] ⟨rfl, rfl, trivial⟩ (by decide) ?_; refine L.nm (by kernel_rfl) ?_
  rotate_left
  refine L.alloc rfl rfl rfl (fun A7 => ?_)
  refine L.nm (by kernel_rfl) ?_; refine LM.f 3 rfl (by kernel_rfl) (Hq [4, 5, 6, 7] rfl) ?_; refine L.call (js := []) (js' := [0, 1]) (layout_c z p qq r) rfl rfl rfl (by decide) trivial rfl ?_
  rintro _ _ _ ⟨rfl, rfl, rfl⟩
  refine L.norm (H' := [_, _]) [0, 1] ⟨rfl, rfl, trivial⟩ (by decide) ?_; refine L.nm (by kernel_rfl) ?_
  rotate_left
  refine L.alloc rfl rfl rfl (fun A7 => ?_)
  refine L.nm (by kernel_rfl) ?_; refine LM.f 1 rfl (by kernel_rfl) (Hq [0, 1, 2, 3] rfl) ?_; refine L.callR (js := []) (js' := [0, 1]) (flash_c z p qq r) rfl rfl rfl (by decide) trivial rfl ?_
  rintro _ _ _ ⟨a, hb, hc, rfl, rfl, rfl⟩
  refine L.nm (by kernel_rfl) ?_; refine LM.f 3 rfl (by kernel_rfl) (Hq [4, 5, 6, 7] rfl) ?_; refine L.call (js := []) (js' := [0, 1]) (layout_c z p qq r) rfl rfl rfl (by decide) trivial rfl ?_
  rintro _ _ _ ⟨rfl, rfl, rfl⟩
  refine L.norm (H' := [_, _]) [0, 1] ⟨rfl, rfl, trivial⟩ (by decide) ?_; refine L.nm (by kernel_rfl) ?_
  rotate_left
  refine L.alloc rfl rfl rfl (fun A7 => ?_)
  refine L.nm (by kernel_rfl) ?_; refine LM.a2 1 4 (by kernel_rfl) (Hq [0, 1, 2, 3] rfl) rfl rfl ?_ ?_; refine L.callR (js := []) (js' := [0]) (flash_c z p qq r) rfl rfl rfl (by decide) trivial rfl ?_
  rintro _ _ _ ⟨a, hb, hc, rfl, rfl, rfl⟩
  refine L.nm (by kernel_rfl) ?_; refine LM.a2 3 4 (by kernel_rfl) (Hq [4, 5, 6, 7] rfl) rfl rfl ?_ ?_; refine L.call (js := []) (js' := [0]) (layout_c z p qq r) rfl rfl rfl (by decide) trivial rfl ?_
  rintro _ _ _ ⟨rfl, rfl, rfl⟩
  refine L.nm (by kernel_rfl) ?_; refine LM.f 4 rfl (by kernel_rfl) (Hq [4, 5, 6, 7] rfl) ?_
  refine L.alloc rfl rfl rfl (fun A6 => ?_)
  refine L.norm (H' := [_, _]) [1, 0] ⟨rfl, rfl, trivial⟩ (by decide) ?_; refine L.nm (by kernel_rfl) ?_
  rotate_left
  refine L.alloc rfl rfl rfl (fun A6 => ?_)
  refine L.nm (by kernel_rfl) ?_; refine LM.f 3 rfl (by kernel_rfl) (Hq [4, 5, 6, 7] rfl) ?_; refine L.call (js := []) (js' := [0, 1]) (layout_c z p qq r) rfl rfl rfl (by decide) trivial rfl ?_
  rintro _ _ _ ⟨rfl, rfl, rfl⟩
  refine L.norm (H' := [_, _]) [1, 0] ⟨rfl, rfl, trivial⟩ (by decide) ?_; refine L.nm (by kernel_rfl) ?_
  rotate_left
  refine L.alloc rfl rfl rfl (fun A6 => ?_)
  refine L.nm (by kernel_rfl) ?_; refine LM.f 1 rfl (by kernel_rfl) (Hq [0, 1, 2, 3] rfl) ?_; refine L.callR (js := []) (js' := [0, 1]) (flash_c z p qq r) rfl rfl rfl (by decide) trivial rfl ?_
  rintro _ _ _ ⟨a, hb, hc, rfl, rfl, rfl⟩
  refine L.nm (by kernel_rfl) ?_; refine LM.f 3 rfl (by kernel_rfl) (Hq [4, 5, 6, 7] rfl) ?_; refine L.call (js := []) (js' := [0, 1]) (layout_c z p qq r) rfl rfl rfl (by decide) trivial rfl ?_
  rintro _ _ _ ⟨rfl, rfl, rfl⟩
  refine L.norm (H' := [_, _]) [1, 0] ⟨rfl, rfl, trivial⟩ (by decide) ?_; refine L.nm (by kernel_rfl) ?_
  rotate_left
  all_goals (
    refine LM.cut [] (by kernel_rfl) (Hq [4, 5, 6, 7] rfl) ?_; refine LM.f 6 rfl (by kernel_rfl) trivial ?_; refine L.storeA (j := 0) rfl rfl rfl rfl rfl (Nat.zero_lt_succ _) rfl rfl ?_
    refine L.nil (QE.m (by kernel_rfl) ?_)
    refine LM.f 7 rfl (by kernel_rfl) trivial ?_; refine L.storeA (j := 1) rfl rfl rfl rfl rfl (Nat.zero_lt_succ _) rfl rfl ?_
    refine L.nil (QE.m (by kernel_rfl) ?_)
    refine LM.f 8 rfl (by kernel_rfl) trivial ?_; refine Lpu rfl rfl ?_
    refine L.nil (QE.m (by kernel_rfl) ?_)
    refine LM.nil (by kernel_rfl) trivial ?_
    refine QE.joined ((a, A6, A7)) (by exact ⟨hb, hc⟩) (by exact Le.mk' (rs := [0, 1, 2, 3, 4, 5, 6, 7]) (hs := [0, 1]) ⟨rfl, rfl, rfl, rfl, rfl, rfl, trivial⟩ ⟨rfl, rfl, rfl, rfl, rfl, rfl, rfl, rfl, trivial⟩ ⟨rfl, rfl, trivial⟩ (by decide)))
 ·
  rintro ⟨a, A6, A7⟩ ⟨hb, hc⟩
  dsimp only at hb hc ⊢
  refine QE.seq ?_; refine C.seqJ (fun q : Unit => [(5, .bool true)]) (fun q : Unit => []) (fun q : Unit => []) (fun q : Unit => True) ?_ ?_
  ·
   refine C.seq (C.region ?_); refine Lpu rfl rfl ?_; refine L.nil (QE.seq (C.block ?_)); refine C.loop (fun q : Nat × Nat × Fl × Fa => [(1, .slice LA l.length lc), (2, ptrOf A2 0), (5, .bool true), (6, ptrOf A6 0), (7, ptrOf A7 0), (8, .int .i64 (q.2.1 : Int)), (9, .int .i64 (q.1 : Int))]) (fun q : Nat × Nat × Fl × Fa => [Rd q.2.2.2.D (rowsV q.2.2.2.hs (B8 q.2.2.1.data)), KidsR q.2.2.2.hs (B8 q.2.2.1.data), Rd q.2.2.2.W (I64 q.2.2.1.wear), Rd q.2.2.2.E (Bs q.2.2.1.dead), Rd A2 [.int .u8 (z.toNat : Int), .int .u8 (p.toNat : Int), .int .u8 (qq.toNat : Int), .int .u8 (((r).getD 0 0).toNat : Int), .int .u8 (((r).getD 1 0).toNat : Int), .int .u8 (((r).getD 2 0).toNat : Int), .int .u8 (((r).getD 3 0).toNat : Int), .int .u8 (((r).getD 4 0).toNat : Int), .int .u8 (((r).getD 5 0).toNat : Int), .int .u8 (((r).getD 6 0).toNat : Int), .int .u8 (((r).getD 7 0).toNat : Int), .int .u8 (((r).getD 8 0).toNat : Int)], Rd LA (wrV l), KidsR (wrT l) (wrR l), KidsA (wrA l) (wrB l)]) (fun q : Nat × Nat × Fl × Fa => [Own 35 5 A6 1 1 (flL q.2.2.1 q.2.2.2), Own 39 8 A7 1 1 [.int .i64 0, .int .i64 (laA p), .int .i64 (laB p qq), .int .i64 0, .int .i64 0, .slice none 0 0, .slice none 0 0, .slice none 0 0]]) (fun q : Nat × Nat × Fl × Fa => q.1 ≤ 6 ∧ q.1 ≤ l.length ∧ q.2.1 ≤ 7 * q.1 ∧ JR (fl1 z) q.2.2.1 (yJ p qq).a (yJ p qq).b (stAt r l q.1) q.2.1 (q.1 + 1) (7 * (q.1 : Int) + 1) ∧ q.2.2.2.hs.length = q.2.2.1.data.length ∧ Caps q.2.2.1 q.2.2.2) (fun q : Nat × Nat × Fl × Fa => 6 - q.1) (0, 0, (flJ z p qq r), a) ⟨Nat.zero_le _, Nat.zero_le _, Nat.zero_le _, flJ_rest z p qq r, hb, hc⟩ (by exact Le.mk' (rs := [0, 1, 2, 3, 4, 5, 6, 7]) (hs := [0, 1]) ⟨rfl, rfl, rfl, rfl, rfl, rfl, rfl, trivial⟩ ⟨rfl, rfl, rfl, rfl, rfl, rfl, rfl, rfl, trivial⟩ ⟨rfl, rfl, trivial⟩ (by decide)) ?_
   rintro ⟨i, T0, g, b⟩ ⟨hi6, hi, hT, hJ0, hb, hc⟩
   dsimp only at hi6 hi hT hJ0 hb hc ⊢
   refine C.seq (C.seq (C.region ?_)); refine Lpu rfl rfl ?_; refine Lpu rfl rfl ?_; refine Lpu rfl rfl ?_; refine Lpu rfl rfl ?_; refine Lpu rfl rfl ?_
   refine L.bool 25 rfl (fun hg25 => ?_) (fun hg25 => ?_)
   ·
    replace hg25 := of_decide_eq_true hg25
    have hkl : i < l.length := by omega
    refine L.yes rfl ?_; refine Lpu rfl rfl ?_; refine L.yes rfl ?_; refine Lpu rfl rfl ?_; refine Lpu rfl rfl ?_; refine L.nil (QE.seq ?_)
    refine C.condB 28 rfl (fun hc28 => ?_) (fun hc28 => ?_)
    ·
     replace hc28 := of_decide_eq_true hc28
     refine C.skip (QE.seq (C.seq (C.block (C.seq ?_)))); refine C.more (r := Rd (l.getD i Wr.zero).T (rowsV (l.getD i Wr.zero).ths (B8 (l.getD i Wr.zero).ts))) ((Has.wrT 6 rfl hkl)) ?_; refine C.more (r := KidsR (l.getD i Wr.zero).ths (B8 (l.getD i Wr.zero).ts)) ((Has.wrA 8 rfl hkl)) ?_; refine C.region ?_; refine Lpu rfl rfl ?_; refine Lpu rfl rfl ?_; refine L.step (Ev.idx (k := i) (m := i * 10) rfl rfl rfl rfl rfl rfl hkl (Src.r 7 rfl) (by rw [wrV_len]; omega) rfl) rfl ?_; refine L.step (Ev.fieldAddr rfl rfl rfl rfl rfl rfl (Src.r 7 rfl) (by rw [wrV_len]; omega) rfl) rfl ?_; refine L.step (Ev.loadA (k := i * 10) rfl rfl rfl (Src.r 7 rfl) (wrV_at9 l i hkl) rfl (by decide)) rfl ?_; refine L.call (js := []) (js' := [0, 1]) (made_c (l.getD i Wr.zero).r) rfl rfl rfl (by decide) trivial rfl ?_
     rintro _ _ _ ⟨rfl, rfl, rfl⟩
     refine L.norm (H' := [_, _]) [0, 1] ⟨rfl, rfl, trivial⟩ (by decide) ?_
     refine L.alloc rfl rfl rfl (fun A10 => ?_)
     refine L.storeA (j := 2) rfl rfl rfl rfl rfl (Nat.zero_lt_succ _) rfl rfl ?_; refine L.nil (QE.seq (C.seq (C.seq ?_))); refine C.freeze 2 rfl [0, 1] (by decide) (by decide) ?_; refine C.norm (H' := [_, _]) [0, 1] ⟨rfl, rfl, trivial⟩ (by decide) ?_; refine C.region ?_; refine Lpu rfl rfl ?_; refine L.nil (QE.seq (C.block ?_)); refine C.loop (fun q : Nat × Nat × Fl × Fa => [(1, .slice LA l.length lc), (2, ptrOf A2 0), (5, .bool true), (6, ptrOf A6 0), (7, ptrOf A7 0), (8, .int .i64 (q.2.1 : Int)), (9, .int .i64 (i : Int)), (10, ptrOf A10 0), (11, .int .i64 (q.1 : Int))]) (fun q : Nat × Nat × Fl × Fa => [Rd q.2.2.2.D (rowsV q.2.2.2.hs (B8 q.2.2.1.data)), KidsR q.2.2.2.hs (B8 q.2.2.1.data), Rd q.2.2.2.W (I64 q.2.2.1.wear), Rd q.2.2.2.E (Bs q.2.2.1.dead), Rd A2 [.int .u8 (z.toNat : Int), .int .u8 (p.toNat : Int), .int .u8 (qq.toNat : Int), .int .u8 (((r).getD 0 0).toNat : Int), .int .u8 (((r).getD 1 0).toNat : Int), .int .u8 (((r).getD 2 0).toNat : Int), .int .u8 (((r).getD 3 0).toNat : Int), .int .u8 (((r).getD 4 0).toNat : Int), .int .u8 (((r).getD 5 0).toNat : Int), .int .u8 (((r).getD 6 0).toNat : Int), .int .u8 (((r).getD 7 0).toNat : Int), .int .u8 (((r).getD 8 0).toNat : Int)], Rd LA (wrV l), KidsR (wrT l) (wrR l), KidsA (wrA l) (wrB l), Rd (l.getD i Wr.zero).T (rowsV (l.getD i Wr.zero).ths (B8 (l.getD i Wr.zero).ts)), KidsR (l.getD i Wr.zero).ths (B8 (l.getD i Wr.zero).ts), Rd A10 (st9 (madeS (l.getD i Wr.zero).r))]) (fun q : Nat × Nat × Fl × Fa => [Own 35 5 A6 1 1 (flL q.2.2.1 q.2.2.2), Own 39 8 A7 1 1 [.int .i64 0, .int .i64 (laA p), .int .i64 (laB p qq), .int .i64 0, .int .i64 0, .slice none 0 0, .slice none 0 0, .slice none 0 0]]) (fun q : Nat × Nat × Fl × Fa => q.1 ≤ 7 ∧ q.2.1 ≤ T0 + q.1 ∧ Wy (fl1 z) q.2.2.1 (yJ p qq).a (yJ p qq).b (stAt r l i) (madeS (l.getD i Wr.zero).r) q.2.1 (i + 1) (if q.1 < 4 then 3 else 7 - q.1) (7 * (i : Int) + 1 + (q.1 : Int)) ∧ q.2.2.2.hs.length = q.2.2.1.data.length ∧ Caps q.2.2.1 q.2.2.2) (fun q : Nat × Nat × Fl × Fa => 9 - q.1) (0, T0, g, b) ⟨Nat.zero_le _, Nat.le_refl _, (hJ0.way (madeS (l.getD i Wr.zero).r)).mono (Nat.le_refl _) (Nat.le_refl _) (by omega), hb, hc⟩ (by exact Le.mk' (rs := [3, 4, 5, 6, 7, 8, 9, 10, 2, 1, 0]) (hs := [0, 1]) ⟨rfl, rfl, rfl, rfl, rfl, rfl, rfl, rfl, rfl, trivial⟩ ⟨rfl, rfl, rfl, rfl, rfl, rfl, rfl, rfl, rfl, rfl, rfl, trivial⟩ ⟨rfl, rfl, trivial⟩ (by decide)) ?_
     rintro ⟨k, T, g, b⟩ ⟨hk7, hT1, hW, hb, hc⟩
     dsimp only at hk7 hT1 hW hb hc ⊢
     have hok := hW.ok
     have hG : i + 1 + 2 < 4294967296 := by omega
     refine C.seq (C.seq (C.region ?_)); refine Lpu rfl rfl ?_; refine Lpu rfl rfl ?_; refine L.nil (QE.seq ?_)
     refine C.condB 38 rfl (fun hc38 => ?_) (fun hc38 => ?_)
     ·
      replace hc38 := of_decide_eq_true hc38
      refine C.skip (QE.seq (C.seq (C.block (C.seq (C.region ?_))))); refine L.step (Ev.loadA rfl rfl rfl (Src.o 0 rfl) rfl rfl (by decide)) rfl ?_; refine L.step (Ev.loadA rfl rfl rfl (Src.o 1 rfl) rfl rfl (by decide)) rfl ?_; refine L.step (Ev.loadA rfl rfl rfl (Src.r 10 rfl) rfl rfl (by decide)) rfl ?_; refine L.callR (js := []) (js' := [0, 1]) (lnext_c g b hok hb (yJ p qq) hc (madeS (l.getD i Wr.zero).r) rfl) rfl rfl rfl (by decide) (Hq [0, 1, 2, 3] rfl) rfl ?_
      rintro _ _ _ ⟨O1, c1, rfl, rfl, rfl⟩
      refine L.norm (H' := [_, _]) [0, 1] ⟨rfl, rfl, trivial⟩ (by decide) ?_
      refine L.alloc rfl rfl rfl (fun A12 => ?_)
      refine L.storeA (j := 2) rfl rfl rfl rfl rfl (Nat.zero_lt_succ _) rfl rfl ?_; refine L.nil (QE.seq (C.seq (C.seq (C.region ?_)))); refine L.step (Ev.fieldAddr rfl rfl rfl rfl rfl rfl (Src.o 2 rfl) (Nat.zero_lt_succ _) rfl) rfl ?_; refine L.step (Ev.load rfl rfl rfl (Src.o 2 rfl) rfl) rfl ?_; refine Lpu rfl rfl ?_; refine L.nil (QE.seq ?_)
      refine C.condB 47 rfl (fun hc47 => ?_) (fun hc47 => ?_)
      ·
       replace hc47 := b_ne hc47
       exact absurd (hW.e hG rfl (made_right _) (by show _ < (60 : Int); omega)) hc47
      ·
       replace hc47 := b_eq hc47
       refine C.skip (QE.seq (C.seq (C.seq (C.region ?_)))); refine L.step (Ev.fieldAddr rfl rfl rfl rfl rfl rfl (Src.o 2 rfl) (Nat.zero_lt_succ _) rfl) rfl ?_; refine L.step (Ev.load rfl rfl rfl (Src.o 2 rfl) rfl) rfl ?_; refine L.nil (QE.seq ?_)
       refine C.condB 49 rfl (fun hc49 => ?_) (fun hc49 => ?_)
       ·
        refine C.exit ?_; refine QE.tX ?_; refine QE.blkX rfl ?_; refine QE.tX ?_; refine QE.tX ?_; refine QE.blk ?_; refine QE.seq (C.seq ?_)
        have hJ := hW.done hG rfl (made_right _) (by show _ < (60 : Int); omega) hc49
        have hrd := hJ.read (by omega)
        refine C.region ?_; refine L.step (Ev.loadA rfl rfl rfl (Src.o 0 rfl) rfl rfl (by decide)) rfl ?_; refine L.step (Ev.loadA rfl rfl rfl (Src.o 1 rfl) rfl rfl (by decide)) rfl ?_; refine L.call (js := []) (js' := [0, 1, 2]) (lread_c g b hok hb (yJ p qq) hc) rfl rfl rfl (by decide) (Hq [1, 2, 3, 4] rfl) rfl ?_
        rintro _ _ _ ⟨rfl, rfl, rfl⟩
        refine L.norm (H' := [_, _, _]) [0, 1, 2] ⟨rfl, rfl, rfl, trivial⟩ (by decide) ?_
        refine L.alloc rfl rfl rfl (fun A15 => ?_)
        refine L.storeA (j := 3) rfl rfl rfl rfl rfl (Nat.zero_lt_succ _) rfl rfl ?_; refine L.nil (QE.seq (C.seq (C.region ?_))); refine L.step (Ev.fieldAddr rfl rfl rfl rfl rfl rfl (Src.o 3 rfl) (Nat.zero_lt_succ _) rfl) rfl ?_; refine L.step (Ev.load rfl rfl rfl (Src.o 3 rfl) rfl) rfl ?_; refine Lpu rfl rfl ?_; refine Lpu rfl rfl ?_
        refine L.bool 113 rfl (fun hg113 => ?_) (fun hg113 => ?_)
        ·
         replace hg113 := b_ne hg113
         exact absurd hrd.1 hg113
        ·
         replace hg113 := b_eq hg113
         refine L.yes rfl ?_; refine L.step (Ev.fieldAddr rfl rfl rfl rfl rfl rfl (Src.o 3 rfl) (Nat.zero_lt_succ _) rfl) rfl ?_; refine L.yes rfl ?_; refine L.step (Ev.loadA rfl rfl rfl (Src.o 3 rfl) rfl rfl (by decide)) rfl ?_; refine L.yes rfl ?_; refine L.step (Ev.loadA rfl rfl rfl (Src.r 11 rfl) rfl rfl (by decide)) rfl ?_; refine L.yes rfl ?_; refine L.step (Ev.neS9 (xs := (readF g (yJ p qq).a (yJ p qq).b).1) (ys := (madeS (l.getD i Wr.zero).r)) rfl rfl (by kernel_rfl) (by kernel_rfl) rfl rfl rfl rfl (readF_len _ _ _) rfl) rfl ?_; refine Lpu rfl rfl ?_; refine Lpu rfl rfl ?_
         refine L.bool 119 rfl (fun hg119 => ?_) (fun hg119 => ?_)
         ·
          rw [hrd.2.1] at hg119; simp at hg119
         ·
          refine L.yes rfl ?_; refine L.step (Ev.fieldAddr rfl rfl rfl rfl rfl rfl (Src.o 3 rfl) (Nat.zero_lt_succ _) rfl) rfl ?_; refine L.yes rfl ?_; refine L.step (Ev.load rfl rfl rfl (Src.o 3 rfl) rfl) rfl ?_; refine L.yes rfl ?_; refine Lpu rfl rfl ?_; refine L.yes rfl ?_; refine Lpu rfl rfl ?_; refine Lpu rfl rfl ?_; refine L.nil (QE.seq ?_)
          refine C.condB 124 rfl (fun hc124 => ?_) (fun hc124 => ?_)
          ·
           replace hc124 := of_decide_eq_true hc124
           have := hrd.2.2.1; omega
          ·
           replace hc124 := of_decide_eq_false hc124
           refine C.skip ?_; refine QE.blkN ?_; refine QE.seq (C.region ?_); refine Lpu rfl rfl ?_; refine L.step (Ev.add rfl rfl (by omega) (by omega)) rfl ?_; refine Lpu rfl rfl ?_; refine L.nil ?_
           refine QE.round (i := (i, T0, g, b)) ((i + 1, T, g, b)) (by exact ⟨by dsimp only; omega, by dsimp only; omega, by dsimp only; omega, hJ.mono (by dsimp only; omega), hb, hc⟩) (by dsimp only; omega) (by exact Le.mk' (rs := [1, 2, 3, 4, 5, 6, 7, 8]) (hs := [0, 1]) ⟨rfl, rfl, rfl, rfl, rfl, rfl, rfl, trivial⟩ ⟨rfl, rfl, rfl, rfl, rfl, rfl, rfl, rfl, trivial⟩ ⟨rfl, rfl, trivial⟩ (by decide))
       ·
        obtain ⟨hE, hsec, hkind, hm1, hgo⟩ := hW.go hG rfl (made_right _) (by show _ < (60 : Int); omega) hc49
        have hnl := Nat.le_trans (nextF_len hok (yJ p qq).a (yJ p qq).b (madeS (l.getD i Wr.zero).r)) (show 5000 ≤ 9223372036854775807 by decide)
        have hW1 := (hgo (fun _ => 255)).2 (fun _ => rfl)
        have hW2 := (hgo (fun j => ((l.getD i Wr.zero).ts.getD k []).getD j 0)).1
        refine C.skip (QE.seq (C.seq (C.region ?_))); refine L.step (Ev.loadA rfl rfl rfl (Src.o 0 rfl) rfl rfl (by decide)) rfl ?_; refine L.step (Ev.fieldAddr rfl rfl rfl rfl rfl rfl (Src.o 2 rfl) (Nat.zero_lt_succ _) rfl) rfl ?_; refine L.step (Ev.loadA rfl rfl rfl (Src.o 2 rfl) rfl rfl (by decide)) rfl ?_; refine L.callR (js := []) (js' := [0, 1, 2]) (do2_c g b hok hb (nextF g (yJ p qq).a (yJ p qq).b (madeS (l.getD i Wr.zero).r)).x O1 c1 hnl hc) rfl rfl rfl (by decide) (Hq [1, 2, 3, 4, 0] rfl) rfl ?_
        rintro _ _ _ ⟨b1, hb1, rfl, rfl, rfl⟩
        refine L.norm (H' := [_, _, _]) [0, 1, 2] ⟨rfl, rfl, rfl, trivial⟩ (by decide) ?_; refine Lpu rfl rfl ?_; refine Lpu rfl rfl ?_; refine Lpu rfl rfl ?_
        refine L.alloc rfl rfl rfl (fun A13 => ?_)
        refine L.storeA (j := 3) rfl rfl rfl rfl rfl (Nat.zero_lt_succ _) rfl rfl ?_; refine Lpu rfl rfl ?_; refine L.nil (QE.seq (C.seq (C.seq (C.region ?_)))); refine Lpu rfl rfl ?_; refine Lpu rfl rfl ?_; refine Lpu rfl rfl ?_; refine L.step (Ev.idx (k := i) (m := i * 10) rfl rfl rfl rfl rfl rfl hkl (Src.r 10 rfl) (by rw [wrV_len]; omega) rfl) rfl ?_; refine L.step (Ev.fieldAddr rfl rfl rfl rfl rfl rfl (Src.r 10 rfl) (by rw [wrV_len]; omega) rfl) rfl ?_; refine L.step (Ev.load rfl rfl rfl (Src.r 10 rfl) ((wrV_get l i 9 hkl (by decide)).trans rfl)) rfl ?_; refine Lpu rfl rfl ?_; refine Lpu rfl rfl ?_; refine Lpu rfl rfl ?_
        refine L.bool 65 rfl (fun hg65 => ?_) (fun hg65 => ?_)
        ·
         replace hg65 := of_decide_eq_true hg65
         refine L.yes rfl ?_; refine Lpu rfl rfl ?_; refine L.yes rfl ?_; refine Lpu rfl rfl ?_; refine Lpu rfl rfl ?_; refine L.nil (QE.seq ?_)
         refine C.condB 68 rfl (fun hc68 => ?_) (fun hc68 => ?_)
         ·
          replace hc68 := of_decide_eq_true hc68
          refine C.seq ?_; refine C.regionM [Rd b.D (rowsV b.hs (B8 g.data)), KidsR b.hs (B8 g.data), Rd b.W (I64 g.wear), Rd b.E (Bs g.dead), Rd LA (wrV l), KidsR (wrT l) (wrR l), KidsA (wrA l) (wrB l), Rd (l.getD i Wr.zero).T (rowsV (l.getD i Wr.zero).ths (B8 (l.getD i Wr.zero).ts)), KidsR (l.getD i Wr.zero).ths (B8 (l.getD i Wr.zero).ts), Rd A6 (flL g b), Rd A12 [.int .i64 (nextF g (yJ p qq).a (yJ p qq).b (madeS (l.getD i Wr.zero).r)).x.kind, .int .i64 (nextF g (yJ p qq).a (yJ p qq).b (madeS (l.getD i Wr.zero).r)).x.sec, .int .i64 (nextF g (yJ p qq).a (yJ p qq).b (madeS (l.getD i Wr.zero).r)).x.at_, .slice O1 (nextF g (yJ p qq).a (yJ p qq).b (madeS (l.getD i Wr.zero).r)).x.data.length c1, .bool (nextF g (yJ p qq).a (yJ p qq).b (madeS (l.getD i Wr.zero).r)).done, .int .i64 (nextF g (yJ p qq).a (yJ p qq).b (madeS (l.getD i Wr.zero).r)).e], Rd O1 (U8 (nextF g (yJ p qq).a (yJ p qq).b (madeS (l.getD i Wr.zero).r)).x.data)] ⟨Has.r 5 rfl, Has.r 6 rfl, Has.r 7 rfl, Has.r 8 rfl, Has.r 10 rfl, Has.r 11 rfl, Has.r 12 rfl, Has.r 13 rfl, Has.r 14 rfl, Has.o 0 rfl, Has.o 2 rfl, Has.r 4 rfl, trivial⟩ ?_; refine LM.q 0 rfl (by kernel_rfl) (Ev.loadA rfl rfl rfl (Src.r 9 rfl) rfl rfl (by decide)) rfl ⟨Has.r 5 rfl, Has.r 6 rfl, Has.r 7 rfl, Has.r 8 rfl, Has.r 10 rfl, Has.r 11 rfl, Has.r 12 rfl, Has.r 13 rfl, Has.r 14 rfl, Has.o 0 rfl, Has.o 2 rfl, Has.r 4 rfl, trivial⟩ ?_; refine LM.q 1 rfl (by kernel_rfl) (Ev.fieldAddr rfl rfl rfl rfl rfl rfl (Src.r 10 rfl) (Nat.zero_lt_succ _) rfl) rfl ⟨Has.r 5 rfl, Has.r 6 rfl, Has.r 7 rfl, Has.r 8 rfl, Has.r 10 rfl, Has.r 11 rfl, Has.r 12 rfl, Has.r 13 rfl, Has.r 14 rfl, Has.o 0 rfl, Has.o 2 rfl, Has.r 4 rfl, trivial⟩ ?_; refine LM.q 2 rfl (by kernel_rfl) (Ev.loadA rfl rfl rfl (Src.r 10 rfl) rfl rfl (by decide)) rfl ⟨Has.r 5 rfl, Has.r 6 rfl, Has.r 7 rfl, Has.r 8 rfl, Has.r 10 rfl, Has.r 11 rfl, Has.r 12 rfl, Has.r 13 rfl, Has.r 14 rfl, Has.o 0 rfl, Has.o 2 rfl, Has.r 4 rfl, trivial⟩ ?_; refine LM.q 3 rfl (by kernel_rfl) (Ev.pure rfl) rfl ⟨Has.r 5 rfl, Has.r 6 rfl, Has.r 7 rfl, Has.r 8 rfl, Has.r 10 rfl, Has.r 11 rfl, Has.r 12 rfl, Has.r 13 rfl, Has.r 14 rfl, Has.o 0 rfl, Has.o 2 rfl, Has.r 4 rfl, trivial⟩ ?_; refine LM.q 4 rfl (by kernel_rfl) (Ev.pure rfl) rfl ⟨Has.r 5 rfl, Has.r 6 rfl, Has.r 7 rfl, Has.r 8 rfl, Has.r 10 rfl, Has.r 11 rfl, Has.r 12 rfl, Has.r 13 rfl, Has.r 14 rfl, Has.o 0 rfl, Has.o 2 rfl, Has.r 4 rfl, trivial⟩ ?_; refine LM.q 5 rfl (by kernel_rfl) (Ev.idx (k := i) (m := i * 10) rfl rfl rfl rfl rfl rfl hkl (Src.r 4 rfl) (by rw [wrV_len]; omega) rfl) rfl ⟨Has.r 5 rfl, Has.r 6 rfl, Has.r 7 rfl, Has.r 8 rfl, Has.r 10 rfl, Has.r 11 rfl, Has.r 12 rfl, Has.r 13 rfl, Has.r 14 rfl, Has.o 0 rfl, Has.o 2 rfl, Has.r 4 rfl, trivial⟩ ?_; refine LM.q 6 rfl (by kernel_rfl) (Ev.fieldAddr rfl rfl rfl rfl rfl rfl (Src.r 4 rfl) (by rw [wrV_len]; omega) rfl) rfl ⟨Has.r 5 rfl, Has.r 6 rfl, Has.r 7 rfl, Has.r 8 rfl, Has.r 10 rfl, Has.r 11 rfl, Has.r 12 rfl, Has.r 13 rfl, Has.r 14 rfl, Has.o 0 rfl, Has.o 2 rfl, Has.r 4 rfl, trivial⟩ ?_; refine LM.q 7 rfl (by kernel_rfl) (Ev.load rfl rfl rfl (Src.r 4 rfl) ((wrV_get l i 9 hkl (by decide)).trans rfl)) rfl ⟨Has.r 5 rfl, Has.r 6 rfl, Has.r 7 rfl, Has.r 8 rfl, Has.r 10 rfl, Has.r 11 rfl, Has.r 12 rfl, Has.r 13 rfl, Has.r 14 rfl, Has.o 0 rfl, Has.o 2 rfl, Has.r 4 rfl, trivial⟩ ?_; refine LM.q 8 rfl (by kernel_rfl) (Ev.pure rfl) rfl ⟨Has.r 5 rfl, Has.r 6 rfl, Has.r 7 rfl, Has.r 8 rfl, Has.r 10 rfl, Has.r 11 rfl, Has.r 12 rfl, Has.r 13 rfl, Has.r 14 rfl, Has.o 0 rfl, Has.o 2 rfl, Has.r 4 rfl, trivial⟩ ?_; refine LM.q 9 rfl (by kernel_rfl) (Ev.idx1 (k := k) rfl rfl rfl rfl rfl rfl rfl (by omega) (Src.r 7 rfl) (by rw [rowsV_len (by rw [B8_len]; exact (hlo i).h), B8_len]; omega)) rfl ⟨Has.r 5 rfl, Has.r 6 rfl, Has.r 7 rfl, Has.r 8 rfl, Has.r 10 rfl, Has.r 11 rfl, Has.r 12 rfl, Has.r 13 rfl, Has.r 14 rfl, Has.o 0 rfl, Has.o 2 rfl, Has.r 4 rfl, trivial⟩ ?_; refine LM.q 10 rfl (by kernel_rfl) (Ev.load rfl rfl rfl (Src.r 7 rfl) (rows8_get (hlo i).h (by omega))) rfl ⟨Has.r 5 rfl, Has.r 6 rfl, Has.r 7 rfl, Has.r 8 rfl, Has.r 10 rfl, Has.r 11 rfl, Has.r 12 rfl, Has.r 13 rfl, Has.r 14 rfl, Has.o 0 rfl, Has.o 2 rfl, Has.r 4 rfl, trivial⟩ ?_; refine LM.f 11 rfl (by kernel_rfl) ⟨Has.r 5 rfl, Has.r 6 rfl, Has.r 7 rfl, Has.r 8 rfl, Has.r 10 rfl, Has.r 11 rfl, Has.r 12 rfl, Has.r 13 rfl, Has.r 14 rfl, Has.o 0 rfl, Has.o 2 rfl, Has.r 4 rfl, trivial⟩ ?_; refine L.callR (js := []) (js' := [0, 1, 2, 3]) (cut2_c g b hok hb (nextF g (yJ p qq).a (yJ p qq).b (madeS (l.getD i Wr.zero).r)).x O1 c1 hnl ((l.getD i Wr.zero).ts.getD k []) ((l.getD i Wr.zero).ths.getD k (none, 0)).1 ((l.getD i Wr.zero).ts.getD k []).length ((l.getD i Wr.zero).ths.getD k (none, 0)).2 rfl ((hlo i).r k) hc) rfl rfl rfl (by decide) ⟨(Has.r 5 rfl), (Has.r 6 rfl), (Has.r 7 rfl), (Has.r 8 rfl), (Has.r 4 rfl), ((Has.kid 14 rfl (by rw [B8_len]; exact (hlo i).h) k (by rw [B8_len]; omega)).cast (B8_get _)), trivial⟩ rfl ?_
          rintro _ _ _ ⟨b2, hb2, rfl, rfl, rfl⟩
          refine L.norm (H' := [_, _, _, _]) [0, 1, 2, 3] ⟨rfl, rfl, rfl, rfl, trivial⟩ (by decide) ?_
          refine L.nil (QE.m (by kernel_rfl) ?_)
          refine LM.cut [] (by kernel_rfl) ⟨Has.r 9 rfl, Has.r 10 rfl, Has.r 11 rfl, Has.r 12 rfl, Has.r 14 rfl, Has.r 15 rfl, Has.r 16 rfl, Has.r 17 rfl, Has.r 18 rfl, Has.o 0 rfl, Has.o 2 rfl, Has.r 8 rfl, trivial⟩ ?_; refine LM.q 12 rfl (by kernel_rfl) (Ev.pure rfl) rfl trivial ?_; refine LM.q 13 rfl (by kernel_rfl) (Ev.pure rfl) rfl trivial ?_; refine LM.q 14 rfl (by kernel_rfl) (Ev.pure rfl) rfl trivial ?_; refine LM.f 15 rfl (by kernel_rfl) trivial ?_; refine L.storeA (j := 3) rfl rfl rfl rfl rfl (Nat.zero_lt_succ _) rfl rfl ?_
          refine L.nil (QE.m (by kernel_rfl) ?_)
          refine LM.f 16 rfl (by kernel_rfl) trivial ?_; refine Lpu rfl rfl ?_
          refine L.nil (QE.m (by kernel_rfl) ?_)
          refine LM.nil (by kernel_rfl) trivial ?_; refine QE.seq (C.region ?_); refine Lpu rfl rfl ?_; refine L.step (Ev.add rfl rfl (by omega) (by omega)) rfl ?_; refine Lpu rfl rfl ?_; refine L.nil (QE.seq (C.seq (C.seq (C.region ?_)))); refine Lpu rfl rfl ?_; refine Lpu rfl rfl ?_; refine Lpu rfl rfl ?_
          refine L.bool 88 rfl (fun hg88 => ?_) (fun hg88 => ?_)
          ·
           replace hg88 := b_ne hg88
           exact absurd hE hg88
          ·
           replace hg88 := b_eq hg88
           refine L.yes rfl ?_; refine L.step (Ev.loadA rfl rfl rfl (Src.o 3 rfl) rfl rfl (by decide)) rfl ?_; refine L.yes rfl ?_; refine L.call (js := []) (js' := [0, 1, 2, 3]) (Ctr.tbJ true (valid17_c ((cutR g (nextF g (yJ p qq).a (yJ p qq).b (madeS (l.getD i Wr.zero).r)).x (fun j => ((l.getD i Wr.zero).ts.getD k []).getD j 0)).size : Int) (cutR g (nextF g (yJ p qq).a (yJ p qq).b (madeS (l.getD i Wr.zero).r)).x (fun j => ((l.getD i Wr.zero).ts.getD k []).getD j 0)) b2 hb2.1 (by rw [hW2.n]; show 4 ≤ 9223372036854775807; decide)) (okB_okJ hW2.ok)) rfl rfl rfl (by decide) (Hq [0, 1, 2, 3] rfl) rfl ?_
           rintro _ _ _ ⟨rfl, rfl, rfl⟩
           refine L.norm (H' := [_, _, _, _]) [0, 1, 2, 3] ⟨rfl, rfl, rfl, rfl, trivial⟩ (by decide) ?_; refine L.yes rfl ?_; refine Lpu rfl rfl ?_; refine Lpu rfl rfl ?_; refine Lpu rfl rfl ?_; refine L.yes rfl ?_; refine L.step (Ev.fieldAddr rfl rfl rfl rfl rfl rfl (Src.o 3 rfl) (Nat.zero_lt_succ _) rfl) rfl ?_; refine L.yes rfl ?_; refine L.step (Ev.load rfl rfl rfl (Src.o 3 rfl) rfl) rfl ?_; refine L.yes rfl ?_; refine Lpu rfl rfl ?_; refine L.yes rfl ?_; refine Lpu rfl rfl ?_; refine Lpu rfl rfl ?_; refine Lpu rfl rfl ?_
           refine L.bool 99 rfl (fun hg99 => ?_) (fun hg99 => ?_)
           ·
            replace hg99 := b_ne hg99
            exact absurd (by rw [hW2.n]; rfl) hg99
           ·
            replace hg99 := b_eq hg99
            refine L.yes rfl ?_; refine L.step (Ev.fieldAddr rfl rfl rfl rfl rfl rfl (Src.o 3 rfl) (Nat.zero_lt_succ _) rfl) rfl ?_; refine L.yes rfl ?_; refine L.step (Ev.load rfl rfl rfl (Src.o 3 rfl) rfl) rfl ?_; refine L.yes rfl ?_; refine L.step (Ev.fieldAddr rfl rfl rfl rfl rfl rfl (Src.o 0 rfl) (Nat.zero_lt_succ _) rfl) rfl ?_; refine L.yes rfl ?_; refine L.step (Ev.load rfl rfl rfl (Src.o 0 rfl) rfl) rfl ?_; refine L.yes rfl ?_; refine Lpu rfl rfl ?_; refine Lpu rfl rfl ?_; refine L.nil (QE.seq ?_)
            refine C.condB 105 rfl (fun hc105 => ?_) (fun hc105 => ?_)
            ·
             replace hc105 := b_ne hc105
             exact absurd (by rw [hW2.s, hW.s]) hc105
            ·
             replace hc105 := b_eq hc105
             refine C.skip (QE.seq (C.region ?_)); refine L.step (Ev.loadA rfl rfl rfl (Src.o 3 rfl) rfl rfl (by decide)) rfl ?_; refine L.storeA (j := 0) rfl rfl rfl rfl rfl (Nat.zero_lt_succ _) rfl rfl ?_; refine L.nil ?_; refine QE.blkN ?_; refine QE.seq (C.region ?_); refine Lpu rfl rfl ?_; refine L.step (Ev.add rfl rfl (by omega) (by omega)) rfl ?_; refine Lpu rfl rfl ?_; refine L.nil ?_
             refine QE.round (i := (k, T, g, b)) ((k + 1, T + 1, (cutR g (nextF g (yJ p qq).a (yJ p qq).b (madeS (l.getD i Wr.zero).r)).x (fun j => ((l.getD i Wr.zero).ts.getD k []).getD j 0)), b2)) (by exact ⟨by dsimp only; split at hm1 <;> omega, by dsimp only; omega, by dsimp only; rw [show 7 * (i : Int) + 1 + ((k + 1 : Nat) : Int) = 7 * (i : Int) + 1 + (k : Int) + 1 by omega]; exact hW2.mono (Nat.le_refl _) (by split at hm1 <;> split <;> first | omega | (split <;> omega)) (Int.le_refl _), hb2.1, hb2.2⟩) (by dsimp only; split at hm1 <;> omega) (by exact Le.mk' (rs := [0, 1, 2, 3, 13, 14, 15, 16, 17, 18, 19]) (hs := [0, 1]) ⟨rfl, rfl, rfl, rfl, rfl, rfl, rfl, rfl, rfl, trivial⟩ ⟨rfl, rfl, rfl, rfl, rfl, rfl, rfl, rfl, rfl, rfl, rfl, trivial⟩ ⟨rfl, rfl, trivial⟩ (by decide))
         ·
          replace hc68 := of_decide_eq_false hc68
          refine C.skip (QE.seq (C.seq (C.seq (C.region ?_)))); refine Lpu rfl rfl ?_; refine Lpu rfl rfl ?_; refine Lpu rfl rfl ?_
          refine L.bool 88 rfl (fun hg88 => ?_) (fun hg88 => ?_)
          ·
           replace hg88 := b_ne hg88
           exact absurd hE hg88
          ·
           replace hg88 := b_eq hg88
           refine L.yes rfl ?_; refine L.step (Ev.loadA rfl rfl rfl (Src.o 3 rfl) rfl rfl (by decide)) rfl ?_; refine L.yes rfl ?_; refine L.call (js := []) (js' := [0, 1, 2, 3]) (Ctr.tbJ true (valid17_c ((cutR g (nextF g (yJ p qq).a (yJ p qq).b (madeS (l.getD i Wr.zero).r)).x (fun _ => 255)).size : Int) (cutR g (nextF g (yJ p qq).a (yJ p qq).b (madeS (l.getD i Wr.zero).r)).x (fun _ => 255)) b1 hb1.1 (by rw [hW1.n]; show 4 ≤ 9223372036854775807; decide)) (okB_okJ hW1.ok)) rfl rfl rfl (by decide) (Hq [0, 1, 2, 3] rfl) rfl ?_
           rintro _ _ _ ⟨rfl, rfl, rfl⟩
           refine L.norm (H' := [_, _, _, _]) [0, 1, 2, 3] ⟨rfl, rfl, rfl, rfl, trivial⟩ (by decide) ?_; refine L.yes rfl ?_; refine Lpu rfl rfl ?_; refine Lpu rfl rfl ?_; refine Lpu rfl rfl ?_; refine L.yes rfl ?_; refine L.step (Ev.fieldAddr rfl rfl rfl rfl rfl rfl (Src.o 3 rfl) (Nat.zero_lt_succ _) rfl) rfl ?_; refine L.yes rfl ?_; refine L.step (Ev.load rfl rfl rfl (Src.o 3 rfl) rfl) rfl ?_; refine L.yes rfl ?_; refine Lpu rfl rfl ?_; refine L.yes rfl ?_; refine Lpu rfl rfl ?_; refine Lpu rfl rfl ?_; refine Lpu rfl rfl ?_
           refine L.bool 99 rfl (fun hg99 => ?_) (fun hg99 => ?_)
           ·
            replace hg99 := b_ne hg99
            exact absurd (by rw [hW1.n]; rfl) hg99
           ·
            replace hg99 := b_eq hg99
            refine L.yes rfl ?_; refine L.step (Ev.fieldAddr rfl rfl rfl rfl rfl rfl (Src.o 3 rfl) (Nat.zero_lt_succ _) rfl) rfl ?_; refine L.yes rfl ?_; refine L.step (Ev.load rfl rfl rfl (Src.o 3 rfl) rfl) rfl ?_; refine L.yes rfl ?_; refine L.step (Ev.fieldAddr rfl rfl rfl rfl rfl rfl (Src.o 0 rfl) (Nat.zero_lt_succ _) rfl) rfl ?_; refine L.yes rfl ?_; refine L.step (Ev.load rfl rfl rfl (Src.o 0 rfl) rfl) rfl ?_; refine L.yes rfl ?_; refine Lpu rfl rfl ?_; refine Lpu rfl rfl ?_; refine L.nil (QE.seq ?_)
            refine C.condB 105 rfl (fun hc105 => ?_) (fun hc105 => ?_)
            ·
             replace hc105 := b_ne hc105
             exact absurd (by rw [hW1.s, hW.s]) hc105
            ·
             replace hc105 := b_eq hc105
             refine C.skip (QE.seq (C.region ?_)); refine L.step (Ev.loadA rfl rfl rfl (Src.o 3 rfl) rfl rfl (by decide)) rfl ?_; refine L.storeA (j := 0) rfl rfl rfl rfl rfl (Nat.zero_lt_succ _) rfl rfl ?_; refine L.nil ?_; refine QE.blkN ?_; refine QE.seq (C.region ?_); refine Lpu rfl rfl ?_; refine L.step (Ev.add rfl rfl (by omega) (by omega)) rfl ?_; refine Lpu rfl rfl ?_; refine L.nil ?_
             refine QE.round (i := (k, T, g, b)) ((k + 1, T, (cutR g (nextF g (yJ p qq).a (yJ p qq).b (madeS (l.getD i Wr.zero).r)).x (fun _ => 255)), b1)) (by exact ⟨by dsimp only; split at hm1 <;> omega, by dsimp only; omega, by dsimp only; rw [show 7 * (i : Int) + 1 + ((k + 1 : Nat) : Int) = 7 * (i : Int) + 1 + (k : Int) + 1 by omega]; exact hW1.mono (Nat.le_refl _) (by split at hm1 <;> split <;> first | omega | (split <;> omega)) (Int.le_refl _), hb1.1, hb1.2⟩) (by dsimp only; split at hm1 <;> omega) (by exact Le.mk' (rs := [0, 1, 2, 3, 9, 10, 11, 12, 13, 14, 15]) (hs := [0, 1]) ⟨rfl, rfl, rfl, rfl, rfl, rfl, rfl, rfl, rfl, trivial⟩ ⟨rfl, rfl, rfl, rfl, rfl, rfl, rfl, rfl, rfl, rfl, rfl, trivial⟩ ⟨rfl, rfl, trivial⟩ (by decide))
        ·
         replace hg65 := of_decide_eq_false hg65
         refine L.no rfl rfl rfl ?_; refine L.no rfl rfl rfl ?_; refine Lpu rfl rfl ?_; refine L.nil (QE.seq ?_)
         refine C.cond rfl (fun h => by cases h) (fun _ => ?_)
         refine C.skip (QE.seq (C.seq (C.seq (C.region ?_)))); refine Lpu rfl rfl ?_; refine Lpu rfl rfl ?_; refine Lpu rfl rfl ?_
         refine L.bool 88 rfl (fun hg88 => ?_) (fun hg88 => ?_)
         ·
          replace hg88 := b_ne hg88
          exact absurd hE hg88
         ·
          replace hg88 := b_eq hg88
          refine L.yes rfl ?_; refine L.step (Ev.loadA rfl rfl rfl (Src.o 3 rfl) rfl rfl (by decide)) rfl ?_; refine L.yes rfl ?_; refine L.call (js := []) (js' := [0, 1, 2, 3]) (Ctr.tbJ true (valid17_c ((cutR g (nextF g (yJ p qq).a (yJ p qq).b (madeS (l.getD i Wr.zero).r)).x (fun _ => 255)).size : Int) (cutR g (nextF g (yJ p qq).a (yJ p qq).b (madeS (l.getD i Wr.zero).r)).x (fun _ => 255)) b1 hb1.1 (by rw [hW1.n]; show 4 ≤ 9223372036854775807; decide)) (okB_okJ hW1.ok)) rfl rfl rfl (by decide) (Hq [0, 1, 2, 3] rfl) rfl ?_
          rintro _ _ _ ⟨rfl, rfl, rfl⟩
          refine L.norm (H' := [_, _, _, _]) [0, 1, 2, 3] ⟨rfl, rfl, rfl, rfl, trivial⟩ (by decide) ?_; refine L.yes rfl ?_; refine Lpu rfl rfl ?_; refine Lpu rfl rfl ?_; refine Lpu rfl rfl ?_; refine L.yes rfl ?_; refine L.step (Ev.fieldAddr rfl rfl rfl rfl rfl rfl (Src.o 3 rfl) (Nat.zero_lt_succ _) rfl) rfl ?_; refine L.yes rfl ?_; refine L.step (Ev.load rfl rfl rfl (Src.o 3 rfl) rfl) rfl ?_; refine L.yes rfl ?_; refine Lpu rfl rfl ?_; refine L.yes rfl ?_; refine Lpu rfl rfl ?_; refine Lpu rfl rfl ?_; refine Lpu rfl rfl ?_
          refine L.bool 99 rfl (fun hg99 => ?_) (fun hg99 => ?_)
          ·
           replace hg99 := b_ne hg99
           exact absurd (by rw [hW1.n]; rfl) hg99
          ·
           replace hg99 := b_eq hg99
           refine L.yes rfl ?_; refine L.step (Ev.fieldAddr rfl rfl rfl rfl rfl rfl (Src.o 3 rfl) (Nat.zero_lt_succ _) rfl) rfl ?_; refine L.yes rfl ?_; refine L.step (Ev.load rfl rfl rfl (Src.o 3 rfl) rfl) rfl ?_; refine L.yes rfl ?_; refine L.step (Ev.fieldAddr rfl rfl rfl rfl rfl rfl (Src.o 0 rfl) (Nat.zero_lt_succ _) rfl) rfl ?_; refine L.yes rfl ?_; refine L.step (Ev.load rfl rfl rfl (Src.o 0 rfl) rfl) rfl ?_; refine L.yes rfl ?_; refine Lpu rfl rfl ?_; refine Lpu rfl rfl ?_; refine L.nil (QE.seq ?_)
           refine C.condB 105 rfl (fun hc105 => ?_) (fun hc105 => ?_)
           ·
            replace hc105 := b_ne hc105
            exact absurd (by rw [hW1.s, hW.s]) hc105
           ·
            replace hc105 := b_eq hc105
            refine C.skip (QE.seq (C.region ?_)); refine L.step (Ev.loadA rfl rfl rfl (Src.o 3 rfl) rfl rfl (by decide)) rfl ?_; refine L.storeA (j := 0) rfl rfl rfl rfl rfl (Nat.zero_lt_succ _) rfl rfl ?_; refine L.nil ?_; refine QE.blkN ?_; refine QE.seq (C.region ?_); refine Lpu rfl rfl ?_; refine L.step (Ev.add rfl rfl (by omega) (by omega)) rfl ?_; refine Lpu rfl rfl ?_; refine L.nil ?_
            refine QE.round (i := (k, T, g, b)) ((k + 1, T, (cutR g (nextF g (yJ p qq).a (yJ p qq).b (madeS (l.getD i Wr.zero).r)).x (fun _ => 255)), b1)) (by exact ⟨by dsimp only; split at hm1 <;> omega, by dsimp only; omega, by dsimp only; rw [show 7 * (i : Int) + 1 + ((k + 1 : Nat) : Int) = 7 * (i : Int) + 1 + (k : Int) + 1 by omega]; exact hW1.mono (Nat.le_refl _) (by split at hm1 <;> split <;> first | omega | (split <;> omega)) (Int.le_refl _), hb1.1, hb1.2⟩) (by dsimp only; split at hm1 <;> omega) (by exact Le.mk' (rs := [0, 1, 2, 3, 9, 10, 11, 12, 13, 14, 15]) (hs := [0, 1]) ⟨rfl, rfl, rfl, rfl, rfl, rfl, rfl, rfl, rfl, trivial⟩ ⟨rfl, rfl, rfl, rfl, rfl, rfl, rfl, rfl, rfl, rfl, rfl, trivial⟩ ⟨rfl, rfl, trivial⟩ (by decide))
     ·
      replace hc38 := of_decide_eq_false hc38
      omega
    ·
     replace hc28 := of_decide_eq_false hc28
     refine C.exit ?_; refine QE.tX ?_; refine QE.tX ?_; refine QE.blk ?_
     refine QE.join (()) (by exact trivial) (by exact Le.mk' (rs := []) (hs := []) ⟨rfl, trivial⟩ trivial trivial (by decide))
   ·
    replace hg25 := of_decide_eq_false hg25
    refine L.no rfl rfl rfl ?_; refine L.no rfl rfl rfl ?_; refine Lpu rfl rfl ?_; refine L.nil (QE.seq ?_)
    refine C.cond rfl (fun h => by cases h) (fun _ => ?_)
    refine C.exit ?_; refine QE.tX ?_; refine QE.tX ?_; refine QE.blk ?_
    refine QE.join (()) (by exact trivial) (by exact Le.mk' (rs := []) (hs := []) ⟨rfl, trivial⟩ trivial trivial (by decide))
  ·
   rintro _ _
   refine C.seq (C.region ?_); refine Lpu rfl rfl ?_; refine Lpu rfl rfl ?_; refine L.nil (QE.seq (C.ret ?_)); refine QE.ret (js := []) (hs := []) (vs := [_]) rfl ⟨rfl, trivial⟩ (by decide) ?_
   exact ⟨rfl, rfl, rfl⟩

end Go.Proofs.Ytmbjknampholjaa
