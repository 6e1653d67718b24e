/-
  The contract of the law JournalRefuses.
-/
import Derived.Test.YtmbjknampholjaaEWJoP
import Derived.Test.YtmbjknampholjaaEJd
import Derived.Test.YtmbjknampholjaaELi
import Derived.Test.YtmbjknampholjaaESlL
import Derived.Test.YtmbjknampholjaaEJm
namespace Go.Proofs.Ytmbjknampholjaa
open Go.Sl

theorem tiny_ok : (fl0 37 4 60).Ok := by
 refine ⟨by decide, by decide, by decide, by decide, rfl, rfl, fun i hi => ?_, by decide, by decide, fun i hi => ?_⟩
 · replace hi : i < 4 := hi
   match i, hi with
   | 0, _ | 1, _ | 2, _ | 3, _ => rfl
 · replace hi : i < 4 := hi
   match i, hi with
   | 0, _ | 1, _ | 2, _ | 3, _ => show (0 : Int) ≤ 0 ∧ (0 : Int) ≤ 60; decide
theorem tiny_no (a b : Int) (s : List Int) : (formatF (fl0 37 4 60) a b s).2 = 200 := by
 rw [formatF_1 (.inl (decide_eq_false fun h => absurd h.2.2.2.2.2 (by decide)))]
theorem fits_uv {f : Fl} {u v : Int} (hn : f.data.length = 4) (hz : 38 ≤ f.size) : fitsF f (yB u v).a (yB u v).b = decide (u ≠ v ∧ 0 ≤ u ∧ 0 ≤ v ∧ u < 4 ∧ v < 4) := by
 unfold fitsF yB
 dsimp only
 rw [hn, decide_eq_decide]
 omega

theorem lread_fl (f g : Fl) (a : Fa) (ok : g.Ok) (hh : a.hs.length = g.data.length) (y : Ly) (hc : Caps g a) (e1 : g.size = f.size) (e2 : g.data.length = f.data.length) (e3 : g.wear.length = f.wear.length) (e4 : g.limit = f.limit) (e5 : g.dead.length = f.dead.length) :
   Ctr X 17 [.agg (List.toArray [.int .i64 (f.size : Int), .slice a.D f.data.length a.cD, .slice a.W f.wear.length a.cW, .int .i64 f.limit, .slice a.E f.dead.length a.cE]), .agg (List.toArray [.int .i64 y.n, .int .i64 y.a, .int .i64 y.b, .int .i64 y.s0, .int .i64 y.s1, .slice y.T y.tn y.tc, .slice y.U y.un y.uc, .slice y.V y.vn y.vc])] [Rd a.D (rowsV a.hs (B8 g.data)), KidsR a.hs (B8 g.data), Rd a.W (I64 g.wear), Rd a.E (Bs g.dead)] [] (fun v R' H' => v = .agg (List.toArray [.int .i64 ((readF g y.a y.b).1.getD 0 0), .int .i64 ((readF g y.a y.b).1.getD 1 0), .int .i64 ((readF g y.a y.b).1.getD 2 0), .int .i64 ((readF g y.a y.b).1.getD 3 0), .int .i64 ((readF g y.a y.b).1.getD 4 0), .int .i64 ((readF g y.a y.b).1.getD 5 0), .int .i64 ((readF g y.a y.b).1.getD 6 0), .int .i64 ((readF g y.a y.b).1.getD 7 0), .int .i64 ((readF g y.a y.b).1.getD 8 0), .int .i64 ((readF g y.a y.b).2.1 : Int), .int .i64 (readF g y.a y.b).2.2]) ∧ R' = [] ∧ H' = []) := by
 have h := lread_c g a ok hh y hc
 rw [e1, e2, e3, e4, e5] at h
 exact h
theorem lnext_fl (f g : Fl) (a : Fa) (ok : g.Ok) (hh : a.hs.length = g.data.length) (y : Ly) (hc : Caps g a) (s : List Int) (hs : s.length = 9) (e1 : g.size = f.size) (e2 : g.data.length = f.data.length) (e3 : g.wear.length = f.wear.length) (e4 : g.limit = f.limit) (e5 : g.dead.length = f.dead.length) :
   Ctr X 20 [.agg (List.toArray [.int .i64 (f.size : Int), .slice a.D f.data.length a.cD, .slice a.W f.wear.length a.cW, .int .i64 f.limit, .slice a.E f.dead.length a.cE]), .agg (List.toArray [.int .i64 y.n, .int .i64 y.a, .int .i64 y.b, .int .i64 y.s0, .int .i64 y.s1, .slice y.T y.tn y.tc, .slice y.U y.un y.uc, .slice y.V y.vn y.vc]), .agg (List.toArray (st9 s))] [Rd a.D (rowsV a.hs (B8 g.data)), KidsR a.hs (B8 g.data), Rd a.W (I64 g.wear), Rd a.E (Bs g.dead)] [] (fun v R' H' => ∃ O oc, v = .agg (List.toArray [.int .i64 (nextF g y.a y.b s).x.kind, .int .i64 (nextF g y.a y.b s).x.sec, .int .i64 (nextF g y.a y.b s).x.at_, .slice O (nextF g y.a y.b s).x.data.length oc, .bool (nextF g y.a y.b s).done, .int .i64 (nextF g y.a y.b s).e]) ∧ R' = [Rd O (U8 (nextF g y.a y.b s).x.data)] ∧ H' = []) := by
 have h := lnext_c g a ok hh y hc s hs
 rw [e1, e2, e3, e4, e5] at h
 exact h
set_option maxHeartbeats 8000000 in
theorem jRefuses_c (z p qq : UInt8) (r : List UInt8) (u v : Int) (hu : -32768 ≤ u ∧ u ≤ 32767) (hv : -32768 ≤ v ∧ v ≤ 32767) (kk : UInt8) :
   Ctr X 7 [.agg (List.toArray [.int .u8 (z.toNat : Int), .int .u8 (p.toNat : Int), .int .u8 (qq.toNat : Int), .int .u8 (((r).getD 0 0).toNat : Int), .int .u8 (((r).getD 1 0).toNat : Int), .int .u8 (((r).getD 2 0).toNat : Int), .int .u8 (((r).getD 3 0).toNat : Int), .int .u8 (((r).getD 4 0).toNat : Int), .int .u8 (((r).getD 5 0).toNat : Int), .int .u8 (((r).getD 6 0).toNat : Int), .int .u8 (((r).getD 7 0).toNat : Int), .int .u8 (((r).getD 8 0).toNat : Int)]), .agg (List.toArray [.int .i16 u, .int .i16 v]), .int .u8 (kk.toNat : Int)] [] [] (fun v R' H' => v = .bool true ∧ R' = [] ∧ H' = []) := by
 have hr2 := UInt8.toNat_lt (r.getD 2 0)
 have hkk := UInt8.toNat_lt kk
 have hla : 0 ≤ laA p ∧ laA p < 4 := by unfold laA; omega
 have hlb : 0 ≤ laB p qq ∧ laB p qq < 4 := by unfold laB laA; omega
 obtain ⟨hok, hn4, hsz⟩ := flJ_ok z p qq r
 have hFr := (flJ_fresh z p qq r).2
 have hszl := szJ_le z
 have hrow : ((flJ z p qq r).data.getD (laA p).toNat []).length = szJ z := by rw [← hsz]; exact hok.rows _ (by omega)
 have hdl : (flJ z p qq r).dead.length = 4 := by rw [hok.dl]; exact hn4
 have hfit := la_fits z p qq
 have hot : rightS ((madeS r).set 2 (255 - ((r.getD 2 0).toNat : Int))) = true := by rw [← othR_made]; exact made_right _
 refine Ctr.of (X := X) (fn := Try.f7) Try.func7 rfl (by kernel_rfl) rfl ?_
 intro β
 refine C.seq (C.region ?_)
 refine L.boxA rfl rfl (fun A3 => ?_)
 refine L.boxA rfl rfl (fun A4 => ?_)
 refine Lpu rfl rfl ?_; refine L.nil (QE.seq (C.seq ?_)); refine C.freeze 0 rfl [1] (by decide) (by decide) ?_; refine C.norm (H' := [_]) [0] ⟨rfl, trivial⟩ (by decide) ?_; refine C.freeze 0 rfl [] (by decide) (by decide) ?_; refine C.region ?_; refine L.call (js := []) (js' := []) (sanityJ_c) rfl rfl rfl (by decide) trivial rfl ?_
 rintro _ _ _ ⟨rfl, rfl, rfl⟩
 refine Lpu rfl rfl ?_; refine L.nil (QE.seq (C.seq ?_)); refine C.join (fun q : Fa × Option Addr × Option Addr × Option Addr => [(2, .int .u8 (kk.toNat : Int)), (4, ptrOf A4 0), (7, .bool true), (8, ptrOf q.2.1 0), (9, ptrOf q.2.2.1 0), (10, ptrOf q.2.2.2 0)]) (fun q : Fa × Option Addr × Option Addr × Option Addr => [Rd q.1.D (rowsV q.1.hs (B8 (flJ z p qq r).data)), KidsR q.1.hs (B8 (flJ z p qq r).data), Rd q.1.W (I64 (flJ z p qq r).wear), Rd q.1.E (Bs (flJ z p qq r).dead), Rd A4 [.int .i16 u, .int .i16 v]]) (fun q : Fa × Option Addr × Option Addr × Option Addr => [Own 35 5 q.2.1 1 1 (flL (flJ z p qq r) q.1), Own 39 8 q.2.2.1 1 1 [.int .i64 0, .int .i64 (laA p), .int .i64 (laB p qq), .int .i64 0, .int .i64 0, .slice none 0 0, .slice none 0 0, .slice none 0 0], Own 29 9 q.2.2.2 1 1 (st9 (madeS r))]) (fun q : Fa × Option Addr × Option Addr × Option Addr => q.1.hs.length = (flJ z p qq r).data.length ∧ Caps (flJ z p qq r) q.1) ?_ ?_
 ·
  refine C.regionM [Rd A3 [.int .u8 (z.toNat : Int), .int .u8 (p.toNat : Int), .int .u8 (qq.toNat : Int), .int .u8 (((r).getD 0 0).toNat : Int), .int .u8 (((r).getD 1 0).toNat : Int), .int .u8 (((r).getD 2 0).toNat : Int), .int .u8 (((r).getD 3 0).toNat : Int), .int .u8 (((r).getD 4 0).toNat : Int), .int .u8 (((r).getD 5 0).toNat : Int), .int .u8 (((r).getD 6 0).toNat : Int), .int .u8 (((r).getD 7 0).toNat : Int), .int .u8 (((r).getD 8 0).toNat : Int)], Rd A4 [.int .i16 u, .int .i16 v]] (Hq [1, 0] rfl) ?_; refine LM.q 0 rfl (by kernel_rfl) (Ev.loadA rfl rfl rfl (Src.r 0 rfl) rfl rfl (by decide)) rfl (Hq [1, 0] rfl) ?_; refine LM.q 2 rfl (by kernel_rfl) (Ev.loadA rfl rfl rfl (Src.r 0 rfl) rfl rfl (by decide)) rfl (Hq [1, 0] rfl) ?_; refine LM.q 4 rfl (by kernel_rfl) (Ev.fieldAddr rfl rfl rfl rfl rfl rfl (Src.r 0 rfl) (Nat.zero_lt_succ _) rfl) rfl (Hq [1, 0] rfl) ?_; refine LM.q 5 rfl (by kernel_rfl) (Ev.loadA rfl rfl rfl (Src.r 0 rfl) (show _ = u9 r from rfl) rfl (by decide)) rfl (Hq [1, 0] rfl) ?_; refine LM.a4 1 7 8 9 (by kernel_rfl) (Hq [1, 0] rfl) rfl rfl rfl rfl ?_ ?_ ?_ ?_; refine L.callR (js := []) (js' := []) (flash_c z p qq r) rfl rfl rfl (by decide) trivial rfl ?_
  rintro _ _ _ ⟨a, hb, hc, rfl, rfl, rfl⟩
  refine L.nm (by kernel_rfl) ?_; refine LM.a4 3 7 8 9 (by kernel_rfl) (Hq [5, 4] rfl) rfl rfl rfl rfl ?_ ?_ ?_ ?_; refine L.call (js := []) (js' := []) (layout_c z p qq r) rfl rfl rfl (by decide) trivial rfl ?_
  rintro _ _ _ ⟨rfl, rfl, rfl⟩
  refine L.nm (by kernel_rfl) ?_; refine LM.a4 6 7 8 9 (by kernel_rfl) (Hq [5, 4] rfl) rfl rfl rfl rfl ?_ ?_ ?_ ?_; refine L.call (js := []) (js' := []) (made_c r) rfl rfl rfl (by decide) trivial rfl ?_
  rintro _ _ _ ⟨rfl, rfl, rfl⟩
  refine L.nm (by kernel_rfl) ?_; refine LM.a3 7 8 9 (by kernel_rfl) (Hq [5, 4] rfl) rfl rfl rfl ?_ ?_ ?_
  refine L.alloc rfl rfl rfl (fun A8 => ?_)
  refine L.nm (by kernel_rfl) ?_; refine LM.a2 8 9 (by kernel_rfl) (Hq [5, 4] rfl) rfl rfl ?_ ?_
  refine L.alloc rfl rfl rfl (fun A9 => ?_)
  refine L.nm (by kernel_rfl) ?_; refine LM.f 9 rfl (by kernel_rfl) (Hq [5, 4] rfl) ?_
  refine L.alloc rfl rfl rfl (fun A10 => ?_)
  refine L.norm (H' := [_, _, _]) [0, 1, 2] ⟨rfl, rfl, rfl, trivial⟩ (by decide) ?_; refine L.nm (by kernel_rfl) ?_
  rotate_left
  refine L.alloc rfl rfl rfl (fun A10 => ?_)
  refine L.nm (by kernel_rfl) ?_; refine LM.f 8 rfl (by kernel_rfl) (Hq [5, 4] rfl) ?_
  refine L.alloc rfl rfl rfl (fun A9 => ?_)
  refine L.norm (H' := [_, _, _]) [0, 2, 1] ⟨rfl, rfl, rfl, trivial⟩ (by decide) ?_; refine L.nm (by kernel_rfl) ?_
  rotate_left
  refine L.alloc rfl rfl rfl (fun A9 => ?_)
  refine L.nm (by kernel_rfl) ?_; refine LM.a2 7 9 (by kernel_rfl) (Hq [5, 4] rfl) rfl rfl ?_ ?_
  refine L.alloc rfl rfl rfl (fun A8 => ?_)
  refine L.nm (by kernel_rfl) ?_; refine LM.f 9 rfl (by kernel_rfl) (Hq [5, 4] rfl) ?_
  refine L.alloc rfl rfl rfl (fun A10 => ?_)
  refine L.norm (H' := [_, _, _]) [1, 0, 2] ⟨rfl, rfl, rfl, trivial⟩ (by decide) ?_; refine L.nm (by kernel_rfl) ?_
  rotate_left
  refine L.alloc rfl rfl rfl (fun A10 => ?_)
  refine L.nm (by kernel_rfl) ?_; refine LM.f 7 rfl (by kernel_rfl) (Hq [5, 4] rfl) ?_
  refine L.alloc rfl rfl rfl (fun A8 => ?_)
  refine L.norm (H' := [_, _, _]) [2, 0, 1] ⟨rfl, rfl, rfl, trivial⟩ (by decide) ?_; refine L.nm (by kernel_rfl) ?_
  rotate_left
  refine L.alloc rfl rfl rfl (fun A10 => ?_)
  refine L.nm (by kernel_rfl) ?_; refine LM.a2 7 8 (by kernel_rfl) (Hq [5, 4] rfl) rfl rfl ?_ ?_
  refine L.alloc rfl rfl rfl (fun A8 => ?_)
  refine L.nm (by kernel_rfl) ?_; refine LM.f 8 rfl (by kernel_rfl) (Hq [5, 4] rfl) ?_
  refine L.alloc rfl rfl rfl (fun A9 => ?_)
  refine L.norm (H' := [_, _, _]) [1, 2, 0] ⟨rfl, rfl, rfl, trivial⟩ (by decide) ?_; refine L.nm (by kernel_rfl) ?_
  rotate_left
  refine L.alloc rfl rfl rfl (fun A9 => ?_)
  refine L.nm (by kernel_rfl) ?_; refine LM.f 7 rfl (by kernel_rfl) (Hq [5, 4] rfl) ?_
  refine L.alloc rfl rfl rfl (fun A8 => ?_)
  refine L.norm (H' := [_, _, _]) [2, 1, 0] ⟨rfl, rfl, rfl, trivial⟩ (by decide) ?_; refine L.nm (by kernel_rfl) ?_
  rotate_left
  refine L.alloc rfl rfl rfl (fun A8 => ?_)
  refine L.nm (by kernel_rfl) ?_; refine LM.a3 6 8 9 (by kernel_rfl) (Hq [5, 4] rfl) rfl rfl rfl ?_ ?_ ?_; refine L.call (js := []) (js' := [0]) (made_c r) rfl rfl rfl (by decide) trivial rfl ?_
  rintro _ _ _ ⟨rfl, rfl, rfl⟩
  refine L.nm (by kernel_rfl) ?_; refine LM.a2 8 9 (by kernel_rfl) (Hq [5, 4] rfl) rfl rfl ?_ ?_
  refine L.alloc rfl rfl rfl (fun A9 => ?_)
  refine L.nm (by kernel_rfl) ?_; refine LM.f 9 rfl (by kernel_rfl) (Hq [5, 4] rfl) ?_
  refine L.alloc rfl rfl rfl (fun A10 => ?_)
  refine L.norm (H' := [_, _, _]) [0, 1, 2] ⟨rfl, rfl, rfl, trivial⟩ (by decide) ?_; refine L.nm (by kernel_rfl) ?_
  rotate_left
  refine L.alloc rfl rfl rfl (fun A10 => ?_)
  refine L.nm (by kernel_rfl) ?_; refine LM.f 8 rfl (by kernel_rfl) (Hq [5, 4] rfl) ?_
  refine L.alloc rfl rfl rfl (fun A9 => ?_)
  refine L.norm (H' := [_, _, _]) [0, 2, 1] ⟨rfl, rfl, rfl, trivial⟩ (by decide) ?_; refine L.nm (by kernel_rfl) ?_
  rotate_left
  refine L.alloc rfl rfl rfl (fun A9 => ?_)
  refine L.nm (by kernel_rfl) ?_; refine LM.a2 6 9 (by kernel_rfl) (Hq [5, 4] rfl) rfl rfl ?_ ?_; refine L.call (js := []) (js' := [0, 1]) (made_c r) rfl rfl rfl (by decide) trivial rfl ?_
  rintro _ _ _ ⟨rfl, rfl, rfl⟩
  refine L.nm (by kernel_rfl) ?_; refine LM.f 9 rfl (by kernel_rfl) (Hq [5, 4] rfl) ?_
  refine L.alloc rfl rfl rfl (fun A10 => ?_)
  refine L.norm (H' := [_, _, _]) [0, 1, 2] ⟨rfl, rfl, rfl, trivial⟩ (by decide) ?_; refine L.nm (by kernel_rfl) ?_
  rotate_left
  refine L.alloc rfl rfl rfl (fun A10 => ?_)
  refine L.nm (by kernel_rfl) ?_; refine LM.f 6 rfl (by kernel_rfl) (Hq [5, 4] rfl) ?_; refine L.call (js := []) (js' := [0, 1, 2]) (made_c r) rfl rfl rfl (by decide) trivial rfl ?_
  rintro _ _ _ ⟨rfl, rfl, rfl⟩
  refine L.norm (H' := [_, _, _]) [0, 1, 2] ⟨rfl, rfl, rfl, trivial⟩ (by decide) ?_; refine L.nm (by kernel_rfl) ?_
  rotate_left
  refine L.alloc rfl rfl rfl (fun A10 => ?_)
  refine L.nm (by kernel_rfl) ?_; refine LM.a2 6 8 (by kernel_rfl) (Hq [5, 4] rfl) rfl rfl ?_ ?_; refine L.call (js := []) (js' := [0, 1]) (made_c r) rfl rfl rfl (by decide) trivial rfl ?_
  rintro _ _ _ ⟨rfl, rfl, rfl⟩
  refine L.nm (by kernel_rfl) ?_; refine LM.f 8 rfl (by kernel_rfl) (Hq [5, 4] rfl) ?_
  refine L.alloc rfl rfl rfl (fun A9 => ?_)
  refine L.norm (H' := [_, _, _]) [0, 2, 1] ⟨rfl, rfl, rfl, trivial⟩ (by decide) ?_; refine L.nm (by kernel_rfl) ?_
  rotate_left
  refine L.alloc rfl rfl rfl (fun A9 => ?_)
  refine L.nm (by kernel_rfl) ?_; refine LM.f 6 rfl (by kernel_rfl) (Hq [5, 4] rfl) ?_; refine L.call (js := []) (js' := [0, 1, 2]) (made_c r) rfl rfl rfl (by decide) trivial rfl ?_
  rintro _ _ _ ⟨rfl, rfl, rfl⟩
  refine L.norm (H' := [_, _, _]) [0, 2, 1] ⟨rfl, rfl, rfl, trivial⟩ (by decide) ?_; refine L.nm (by kernel_rfl) ?_
  rotate_left
  refine L.alloc rfl rfl rfl (fun A9 => ?_)
  refine L.nm (by kernel_rfl) ?_; refine LM.a3 6 7 9 (by kernel_rfl) (Hq [5, 4] rfl) rfl rfl rfl ?_ ?_ ?_; refine L.call (js := []) (js' := [0]) (made_c r) rfl rfl rfl (by decide) trivial rfl ?_
  rintro _ _ _ ⟨rfl, rfl, rfl⟩
  refine L.nm (by kernel_rfl) ?_; refine LM.a2 7 9 (by kernel_rfl) (Hq [5, 4] rfl) rfl rfl ?_ ?_
  refine L.alloc rfl rfl rfl (fun A8 => ?_)
  refine L.nm (by kernel_rfl) ?_; refine LM.f 9 rfl (by kernel_rfl) (Hq [5, 4] rfl) ?_
  refine L.alloc rfl rfl rfl (fun A10 => ?_)
  refine L.norm (H' := [_, _, _]) [1, 0, 2] ⟨rfl, rfl, rfl, trivial⟩ (by decide) ?_; refine L.nm (by kernel_rfl) ?_
  rotate_left
  refine L.alloc rfl rfl rfl (fun A10 => ?_)
  refine L.nm (by kernel_rfl) ?_; refine LM.f 7 rfl (by kernel_rfl) (Hq [5, 4] rfl) ?_
  refine L.alloc rfl rfl rfl (fun A8 => ?_)
  refine L.norm (H' := [_, _, _]) [2, 0, 1] ⟨rfl, rfl, rfl, trivial⟩ (by decide) ?_; refine L.nm (by kernel_rfl) ?_
  rotate_left
  refine L.alloc rfl rfl rfl (fun A8 => ?_)
  refine L.nm (by kernel_rfl) ?_; refine LM.a2 6 9 (by kernel_rfl) (Hq [5, 4] rfl) rfl rfl ?_ ?_; refine L.call (js := []) (js' := [0, 1]) (made_c r) rfl rfl rfl (by decide) trivial rfl ?_
  rintro _ _ _ ⟨rfl, rfl, rfl⟩
  refine L.nm (by kernel_rfl) ?_; refine LM.f 9 rfl (by kernel_rfl) (Hq [5, 4] rfl) ?_
  refine L.alloc rfl rfl rfl (fun A10 => ?_)
  refine L.norm (H' := [_, _, _]) [1, 0, 2] ⟨rfl, rfl, rfl, trivial⟩ (by decide) ?_; refine L.nm (by kernel_rfl) ?_
  rotate_left
  refine L.alloc rfl rfl rfl (fun A10 => ?_)
  refine L.nm (by kernel_rfl) ?_; refine LM.f 6 rfl (by kernel_rfl) (Hq [5, 4] rfl) ?_; refine L.call (js := []) (js' := [0, 1, 2]) (made_c r) rfl rfl rfl (by decide) trivial rfl ?_
  rintro _ _ _ ⟨rfl, rfl, rfl⟩
  refine L.norm (H' := [_, _, _]) [1, 0, 2] ⟨rfl, rfl, rfl, trivial⟩ (by decide) ?_; refine L.nm (by kernel_rfl) ?_
  rotate_left
  refine L.alloc rfl rfl rfl (fun A10 => ?_)
  refine L.nm (by kernel_rfl) ?_; refine LM.a2 6 7 (by kernel_rfl) (Hq [5, 4] rfl) rfl rfl ?_ ?_; refine L.call (js := []) (js' := [0, 1]) (made_c r) rfl rfl rfl (by decide) trivial rfl ?_
  rintro _ _ _ ⟨rfl, rfl, rfl⟩
  refine L.nm (by kernel_rfl) ?_; refine LM.f 7 rfl (by kernel_rfl) (Hq [5, 4] rfl) ?_
  refine L.alloc rfl rfl rfl (fun A8 => ?_)
  refine L.norm (H' := [_, _, _]) [2, 0, 1] ⟨rfl, rfl, rfl, trivial⟩ (by decide) ?_; refine L.nm (by kernel_rfl) ?_
  rotate_left
  refine L.alloc rfl rfl rfl (fun A8 => ?_)
  refine L.nm (by kernel_rfl) ?_; refine LM.f 6 rfl (by kernel_rfl) (Hq [5, 4] rfl) ?_; refine L.call (js := []) (js' := [0, 1, 2]) (made_c r) rfl rfl rfl (by decide) trivial rfl ?_
  rintro _ _ _ ⟨rfl, rfl, rfl⟩
  refine L.norm (H' := [_, _, _]) [2, 0, 1] ⟨rfl, rfl, rfl, trivial⟩ (by decide) ?_; refine L.nm (by kernel_rfl) ?_
  rotate_left
  refine L.alloc rfl rfl rfl (fun A10 => ?_)
  refine L.nm (by kernel_rfl) ?_; refine LM.a3 6 7 8 (by kernel_rfl) (Hq [5, 4] rfl) rfl rfl rfl ?_ ?_ ?_; refine L.call (js := []) (js' := [0]) (made_c r) rfl rfl rfl (by decide) trivial rfl ?_
  rintro _ _ _ ⟨rfl, rfl, rfl⟩
  refine L.nm (by kernel_rfl) ?_; refine LM.a2 7 8 (by kernel_rfl) (Hq [5, 4] rfl) rfl rfl ?_ ?_
  refine L.alloc rfl rfl rfl (fun A8 => ?_)
  refine L.nm (by kernel_rfl) ?_; refine LM.f 8 rfl (by kernel_rfl) (Hq [5, 4] rfl) ?_
  refine L.alloc rfl rfl rfl (fun A9 => ?_)
  refine L.norm (H' := [_, _, _]) [1, 2, 0] ⟨rfl, rfl, rfl, trivial⟩ (by decide) ?_; refine L.nm (by kernel_rfl) ?_
  rotate_left
  refine L.alloc rfl rfl rfl (fun A9 => ?_)
  refine L.nm (by kernel_rfl) ?_; refine LM.f 7 rfl (by kernel_rfl) (Hq [5, 4] rfl) ?_
  refine L.alloc rfl rfl rfl (fun A8 => ?_)
  refine L.norm (H' := [_, _, _]) [2, 1, 0] ⟨rfl, rfl, rfl, trivial⟩ (by decide) ?_; refine L.nm (by kernel_rfl) ?_
  rotate_left
  refine L.alloc rfl rfl rfl (fun A8 => ?_)
  refine L.nm (by kernel_rfl) ?_; refine LM.a2 6 8 (by kernel_rfl) (Hq [5, 4] rfl) rfl rfl ?_ ?_; refine L.call (js := []) (js' := [0, 1]) (made_c r) rfl rfl rfl (by decide) trivial rfl ?_
  rintro _ _ _ ⟨rfl, rfl, rfl⟩
  refine L.nm (by kernel_rfl) ?_; refine LM.f 8 rfl (by kernel_rfl) (Hq [5, 4] rfl) ?_
  refine L.alloc rfl rfl rfl (fun A9 => ?_)
  refine L.norm (H' := [_, _, _]) [1, 2, 0] ⟨rfl, rfl, rfl, trivial⟩ (by decide) ?_; refine L.nm (by kernel_rfl) ?_
  rotate_left
  refine L.alloc rfl rfl rfl (fun A9 => ?_)
  refine L.nm (by kernel_rfl) ?_; refine LM.f 6 rfl (by kernel_rfl) (Hq [5, 4] rfl) ?_; refine L.call (js := []) (js' := [0, 1, 2]) (made_c r) rfl rfl rfl (by decide) trivial rfl ?_
  rintro _ _ _ ⟨rfl, rfl, rfl⟩
  refine L.norm (H' := [_, _, _]) [1, 2, 0] ⟨rfl, rfl, rfl, trivial⟩ (by decide) ?_; refine L.nm (by kernel_rfl) ?_
  rotate_left
  refine L.alloc rfl rfl rfl (fun A9 => ?_)
  refine L.nm (by kernel_rfl) ?_; refine LM.a2 6 7 (by kernel_rfl) (Hq [5, 4] rfl) rfl rfl ?_ ?_; refine L.call (js := []) (js' := [0, 1]) (made_c r) rfl rfl rfl (by decide) trivial rfl ?_
  rintro _ _ _ ⟨rfl, rfl, rfl⟩
  refine L.nm (by kernel_rfl) ?_; refine LM.f 7 rfl (by kernel_rfl) (Hq [5, 4] rfl) ?_
  refine L.alloc rfl rfl rfl (fun A8 => ?_)
  refine L.norm (H' := [_, _, _]) [2, 1, 0] ⟨rfl, rfl, rfl, trivial⟩ (by decide) ?_; refine L.nm (by kernel_rfl) ?_
  rotate_left
  refine L.alloc rfl rfl rfl (fun A8 => ?_)
  refine L.nm (by kernel_rfl) ?_; refine LM.f 6 rfl (by kernel_rfl) (Hq [5, 4] rfl) ?_; refine L.call (js := []) (js' := [0, 1, 2]) (made_c r) rfl rfl rfl (by decide) trivial rfl ?_
  rintro _ _ _ ⟨rfl, rfl, rfl⟩
  refine L.norm (H' := [_, _, _]) [2, 1, 0] ⟨rfl, rfl, rfl, trivial⟩ (by decide) ?_; refine L.nm (by kernel_rfl) ?_
  rotate_left
  refine L.alloc rfl rfl rfl (fun A8 => ?_)
  refine L.nm (by kernel_rfl) ?_; refine LM.a3 3 8 9 (by kernel_rfl) (Hq [5, 4] rfl) rfl rfl rfl ?_ ?_ ?_; refine L.call (js := []) (js' := [0]) (layout_c z p qq r) rfl rfl rfl (by decide) trivial rfl ?_
  rintro _ _ _ ⟨rfl, rfl, rfl⟩
  refine L.nm (by kernel_rfl) ?_; refine LM.a3 6 8 9 (by kernel_rfl) (Hq [5, 4] rfl) rfl rfl rfl ?_ ?_ ?_; refine L.call (js := []) (js' := [0]) (made_c r) rfl rfl rfl (by decide) trivial rfl ?_
  rintro _ _ _ ⟨rfl, rfl, rfl⟩
  refine L.nm (by kernel_rfl) ?_; refine LM.a2 8 9 (by kernel_rfl) (Hq [5, 4] rfl) rfl rfl ?_ ?_
  refine L.alloc rfl rfl rfl (fun A9 => ?_)
  refine L.nm (by kernel_rfl) ?_; refine LM.f 9 rfl (by kernel_rfl) (Hq [5, 4] rfl) ?_
  refine L.alloc rfl rfl rfl (fun A10 => ?_)
  refine L.norm (H' := [_, _, _]) [0, 1, 2] ⟨rfl, rfl, rfl, trivial⟩ (by decide) ?_; refine L.nm (by kernel_rfl) ?_
  rotate_left
  refine L.alloc rfl rfl rfl (fun A10 => ?_)
  refine L.nm (by kernel_rfl) ?_; refine LM.f 8 rfl (by kernel_rfl) (Hq [5, 4] rfl) ?_
  refine L.alloc rfl rfl rfl (fun A9 => ?_)
  refine L.norm (H' := [_, _, _]) [0, 2, 1] ⟨rfl, rfl, rfl, trivial⟩ (by decide) ?_; refine L.nm (by kernel_rfl) ?_
  rotate_left
  refine L.alloc rfl rfl rfl (fun A9 => ?_)
  refine L.nm (by kernel_rfl) ?_; refine LM.a2 6 9 (by kernel_rfl) (Hq [5, 4] rfl) rfl rfl ?_ ?_; refine L.call (js := []) (js' := [0, 1]) (made_c r) rfl rfl rfl (by decide) trivial rfl ?_
  rintro _ _ _ ⟨rfl, rfl, rfl⟩
  refine L.nm (by kernel_rfl) ?_; refine LM.f 9 rfl (by kernel_rfl) (Hq [5, 4] rfl) ?_
  refine L.alloc rfl rfl rfl (fun A10 => ?_)
  refine L.norm (H' := [_, _, _]) [0, 1, 2] ⟨rfl, rfl, rfl, trivial⟩ (by decide) ?_; refine L.nm (by kernel_rfl) ?_
  rotate_left
  refine L.alloc rfl rfl rfl (fun A10 => ?_)
  refine L.nm (by kernel_rfl) ?_; refine LM.f 6 rfl (by kernel_rfl) (Hq [5, 4] rfl) ?_; refine L.call (js := []) (js' := [0, 1, 2]) (made_c r) rfl rfl rfl (by decide) trivial rfl ?_
  rintro _ _ _ ⟨rfl, rfl, rfl⟩
  refine L.norm (H' := [_, _, _]) [0, 1, 2] ⟨rfl, rfl, rfl, trivial⟩ (by decide) ?_; refine L.nm (by kernel_rfl) ?_
  rotate_left
  refine L.alloc rfl rfl rfl (fun A10 => ?_)
  refine L.nm (by kernel_rfl) ?_; refine LM.a2 6 8 (by kernel_rfl) (Hq [5, 4] rfl) rfl rfl ?_ ?_; refine L.call (js := []) (js' := [0, 1]) (made_c r) rfl rfl rfl (by decide) trivial rfl ?_
  rintro _ _ _ ⟨rfl, rfl, rfl⟩
  refine L.nm (by kernel_rfl) ?_; refine LM.f 8 rfl (by kernel_rfl) (Hq [5, 4] rfl) ?_
  refine L.alloc rfl rfl rfl (fun A9 => ?_)
  refine L.norm (H' := [_, _, _]) [0, 2, 1] ⟨rfl, rfl, rfl, trivial⟩ (by decide) ?_; refine L.nm (by kernel_rfl) ?_
  rotate_left
  refine L.alloc rfl rfl rfl (fun A9 => ?_)
  refine L.nm (by kernel_rfl) ?_; refine LM.f 6 rfl (by kernel_rfl) (Hq [5, 4] rfl) ?_; refine L.call (js := []) (js' := [0, 1, 2]) (made_c r) rfl rfl rfl (by decide) trivial rfl ?_
  rintro _ _ _ ⟨rfl, rfl, rfl⟩
  refine L.norm (H' := [_, _, _]) [0, 2, 1] ⟨rfl, rfl, rfl, trivial⟩ (by decide) ?_; refine L.nm (by kernel_rfl) ?_
  rotate_left
  refine L.alloc rfl rfl rfl (fun A9 => ?_)
  refine L.nm (by kernel_rfl) ?_; refine LM.a2 3 9 (by kernel_rfl) (Hq [5, 4] rfl) rfl rfl ?_ ?_; refine L.call (js := []) (js' := [0, 1]) (layout_c z p qq r) rfl rfl rfl (by decide) trivial rfl ?_
  rintro _ _ _ ⟨rfl, rfl, rfl⟩
  refine L.nm (by kernel_rfl) ?_; refine LM.a2 6 9 (by kernel_rfl) (Hq [5, 4] rfl) rfl rfl ?_ ?_; refine L.call (js := []) (js' := [0, 1]) (made_c r) rfl rfl rfl (by decide) trivial rfl ?_
  rintro _ _ _ ⟨rfl, rfl, rfl⟩
  refine L.nm (by kernel_rfl) ?_; refine LM.f 9 rfl (by kernel_rfl) (Hq [5, 4] rfl) ?_
  refine L.alloc rfl rfl rfl (fun A10 => ?_)
  refine L.norm (H' := [_, _, _]) [0, 1, 2] ⟨rfl, rfl, rfl, trivial⟩ (by decide) ?_; refine L.nm (by kernel_rfl) ?_
  rotate_left
  refine L.alloc rfl rfl rfl (fun A10 => ?_)
  refine L.nm (by kernel_rfl) ?_; refine LM.f 6 rfl (by kernel_rfl) (Hq [5, 4] rfl) ?_; refine L.call (js := []) (js' := [0, 1, 2]) (made_c r) rfl rfl rfl (by decide) trivial rfl ?_
  rintro _ _ _ ⟨rfl, rfl, rfl⟩
  refine L.norm (H' := [_, _, _]) [0, 1, 2] ⟨rfl, rfl, rfl, trivial⟩ (by decide) ?_; refine L.nm (by kernel_rfl) ?_
  rotate_left
  refine L.alloc rfl rfl rfl (fun A10 => ?_)
  refine L.nm (by kernel_rfl) ?_; refine LM.f 3 rfl (by kernel_rfl) (Hq [5, 4] rfl) ?_; refine L.call (js := []) (js' := [0, 1, 2]) (layout_c z p qq r) rfl rfl rfl (by decide) trivial rfl ?_
  rintro _ _ _ ⟨rfl, rfl, rfl⟩
  refine L.nm (by kernel_rfl) ?_; refine LM.f 6 rfl (by kernel_rfl) (Hq [5, 4] rfl) ?_; refine L.call (js := []) (js' := [0, 1, 2]) (made_c r) rfl rfl rfl (by decide) trivial rfl ?_
  rintro _ _ _ ⟨rfl, rfl, rfl⟩
  refine L.norm (H' := [_, _, _]) [0, 1, 2] ⟨rfl, rfl, rfl, trivial⟩ (by decide) ?_; refine L.nm (by kernel_rfl) ?_
  rotate_left
  refine L.alloc rfl rfl rfl (fun A10 => ?_)
  refine L.nm (by kernel_rfl) ?_; refine LM.a2 3 8 (by kernel_rfl) (Hq [5, 4] rfl) rfl rfl ?_ ?_; refine L.call (js := []) (js' := [0, 1]) (layout_c z p qq r) rfl rfl rfl (by decide) trivial rfl ?_
  rintro _ _ _ ⟨rfl, rfl, rfl⟩
  refine L.nm (by kernel_rfl) ?_; refine LM.a2 6 8 (by kernel_rfl) (Hq [5, 4] rfl) rfl rfl ?_ ?_; refine L.call (js := []) (js' := [0, 1]) (made_c r) rfl rfl rfl (by decide) trivial rfl ?_
  rintro _ _ _ ⟨rfl, rfl, rfl⟩
  refine L.nm (by kernel_rfl) ?_; refine LM.f 8 rfl (by kernel_rfl) (Hq [5, 4] rfl) ?_
  refine L.alloc rfl rfl rfl (fun A9 => ?_)
  refine L.norm (H' := [_, _, _]) [0, 2, 1] ⟨rfl, rfl, rfl, trivial⟩ (by decide) ?_; refine L.nm (by kernel_rfl) ?_
  rotate_left
  refine L.alloc rfl rfl rfl (fun A9 => ?_)
  refine L.nm (by kernel_rfl) ?_; refine LM.f 6 rfl (by kernel_rfl) (Hq [5, 4] rfl) ?_; refine L.call (js := []) (js' := [0, 1, 2]) (made_c r) rfl rfl rfl (by decide) trivial rfl ?_
  rintro _ _ _ ⟨rfl, rfl, rfl⟩
  refine L.norm (H' := [_, _, _]) [0, 2, 1] ⟨rfl, rfl, rfl, trivial⟩ (by decide) ?_; refine L.nm (by kernel_rfl) ?_
  rotate_left
  refine L.alloc rfl rfl rfl (fun A9 => ?_)
  refine L.nm (by kernel_rfl) ?_; refine LM.f 3 rfl (by kernel_rfl) (Hq [5, 4] rfl) ?_; refine L.call (js := []) (js' := [0, 1, 2]) (layout_c z p qq r) rfl rfl rfl (by decide) trivial rfl ?_
  rintro _ _ _ ⟨rfl, rfl, rfl⟩
  refine L.nm (by kernel_rfl) ?_; refine LM.f 6 rfl (by kernel_rfl) (Hq [5, 4] rfl) ?_; refine L.call (js := []) (js' := [0, 1, 2]) (made_c r) rfl rfl rfl (by decide) trivial rfl ?_
  rintro _ _ _ ⟨rfl, rfl, rfl⟩
  refine L.norm (H' := [_, _, _]) [0, 2, 1] ⟨rfl, rfl, rfl, trivial⟩ (by decide) ?_; refine L.nm (by kernel_rfl) ?_
  rotate_left
  refine L.alloc rfl rfl rfl (fun A9 => ?_)
  refine L.nm (by kernel_rfl) ?_; refine LM.a3 3 7 9 (by kernel_rfl) (Hq [5, 4] rfl) rfl rfl rfl ?_ ?_ ?_; refine L.call (js := []) (js' := [0]) (layout_c z p qq r) rfl rfl rfl (by decide) trivial rfl ?_
  rintro _ _ _ ⟨rfl, rfl, rfl⟩
  refine L.nm (by kernel_rfl) ?_; refine LM.a3 6 7 9 (by kernel_rfl) (Hq [5, 4] rfl) rfl rfl rfl ?_ ?_ ?_; refine L.call (js := []) (js' := [0]) (made_c r) rfl rfl rfl (by decide) trivial rfl ?_
  rintro _ _ _ ⟨rfl, rfl, rfl⟩
  refine L.nm (by kernel_rfl) ?_; refine LM.a2 7 9 (by kernel_rfl) (Hq [5, 4] rfl) rfl rfl ?_ ?_
  refine L.alloc rfl rfl rfl (fun A8 => ?_)
  refine L.nm (by kernel_rfl) ?_; refine LM.f 9 rfl (by kernel_rfl) (Hq [5, 4] rfl) ?_
  refine L.alloc rfl rfl rfl (fun A10 => ?_)
  refine L.norm (H' := [_, _, _]) [1, 0, 2] ⟨rfl, rfl, rfl, trivial⟩ (by decide) ?_; refine L.nm (by kernel_rfl) ?_
  rotate_left
  refine L.alloc rfl rfl rfl (fun A10 => ?_)
  refine L.nm (by kernel_rfl) ?_; refine LM.f 7 rfl (by kernel_rfl) (Hq [5, 4] rfl) ?_
  refine L.alloc rfl rfl rfl (fun A8 => ?_)
  refine L.norm (H' := [_, _, _]) [2, 0, 1] ⟨rfl, rfl, rfl, trivial⟩ (by decide) ?_; refine L.nm (by kernel_rfl) ?_
  rotate_left
  refine L.alloc rfl rfl rfl (fun A8 => ?_)
  refine L.nm (by kernel_rfl) ?_; refine LM.a2 6 9 (by kernel_rfl) (Hq [5, 4] rfl) rfl rfl ?_ ?_; refine L.call (js := []) (js' := [0, 1]) (made_c r) rfl rfl rfl (by decide) trivial rfl ?_
  rintro _ _ _ ⟨rfl, rfl, rfl⟩
  refine L.nm (by kernel_rfl) ?_; refine LM.f 9 rfl (by kernel_rfl) (Hq [5, 4] rfl) ?_
  refine L.alloc rfl rfl rfl (fun A10 => ?_)
  refine L.norm (H' := [_, _, _]) [1, 0, 2] ⟨rfl, rfl, rfl, trivial⟩ (by decide) ?_; refine L.nm (by kernel_rfl) ?_
  rotate_left
  refine L.alloc rfl rfl rfl (fun A10 => ?_)
  refine L.nm (by kernel_rfl) ?_; refine LM.f 6 rfl (by kernel_rfl) (Hq [5, 4] rfl) ?_; refine L.call (js := []) (js' := [0, 1, 2]) (made_c r) rfl rfl rfl (by decide) trivial rfl ?_
  rintro _ _ _ ⟨rfl, rfl, rfl⟩
  refine L.norm (H' := [_, _, _]) [1, 0, 2] ⟨rfl, rfl, rfl, trivial⟩ (by decide) ?_; refine L.nm (by kernel_rfl) ?_
  rotate_left
  refine L.alloc rfl rfl rfl (fun A10 => ?_)
  refine L.nm (by kernel_rfl) ?_; refine LM.a2 6 7 (by kernel_rfl) (Hq [5, 4] rfl) rfl rfl ?_ ?_; refine L.call (js := []) (js' := [0, 1]) (made_c r) rfl rfl rfl (by decide) trivial rfl ?_
  rintro _ _ _ ⟨rfl, rfl, rfl⟩
  refine L.nm (by kernel_rfl) ?_; refine LM.f 7 rfl (by kernel_rfl) (Hq [5, 4] rfl) ?_
  refine L.alloc rfl rfl rfl (fun A8 => ?_)
  refine L.norm (H' := [_, _, _]) [2, 0, 1] ⟨rfl, rfl, rfl, trivial⟩ (by decide) ?_; refine L.nm (by kernel_rfl) ?_
  rotate_left
  refine L.alloc rfl rfl rfl (fun A8 => ?_)
  refine L.nm (by kernel_rfl) ?_; refine LM.f 6 rfl (by kernel_rfl) (Hq [5, 4] rfl) ?_; refine L.call (js := []) (js' := [0, 1, 2]) (made_c r) rfl rfl rfl (by decide) trivial rfl ?_
  rintro _ _ _ ⟨rfl, rfl, rfl⟩
  refine L.norm (H' := [_, _, _]) [2, 0, 1] ⟨rfl, rfl, rfl, trivial⟩ (by decide) ?_; refine L.nm (by kernel_rfl) ?_
  rotate_left
  refine L.alloc rfl rfl rfl (fun A8 => ?_)
  refine L.nm (by kernel_rfl) ?_; refine LM.a2 3 9 (by kernel_rfl) (Hq [5, 4] rfl) rfl rfl ?_ ?_; refine L.call (js := []) (js' := [0, 1]) (layout_c z p qq r) rfl rfl rfl (by decide) trivial rfl ?_
  rintro _ _ _ ⟨rfl, rfl, rfl⟩
  refine L.nm (by kernel_rfl) ?_; refine LM.a2 6 9 (by kernel_rfl) (Hq [5, 4] rfl) rfl rfl ?_ ?_; refine L.call (js := []) (js' := [0, 1]) (made_c r) rfl rfl rfl (by decide) trivial rfl ?_
  rintro _ _ _ ⟨rfl, rfl, rfl⟩
  refine L.nm (by kernel_rfl) ?_; refine LM.f 9 rfl (by kernel_rfl) (Hq [5, 4] rfl) ?_
  refine L.alloc rfl rfl rfl (fun A10 => ?_)
  refine L.norm (H' := [_, _, _]) [1, 0, 2] ⟨rfl, rfl, rfl, trivial⟩ (by decide) ?_; refine L.nm (by kernel_rfl) ?_
  rotate_left
  refine L.alloc rfl rfl rfl (fun A10 => ?_)
  refine L.nm (by kernel_rfl) ?_; refine LM.f 6 rfl (by kernel_rfl) (Hq [5, 4] rfl) ?_; refine L.call (js := []) (js' := [0, 1, 2]) (made_c r) rfl rfl rfl (by decide) trivial rfl ?_
  rintro _ _ _ ⟨rfl, rfl, rfl⟩
  refine L.norm (H' := [_, _, _]) [1, 0, 2] ⟨rfl, rfl, rfl, trivial⟩ (by decide) ?_; refine L.nm (by kernel_rfl) ?_
  rotate_left
  refine L.alloc rfl rfl rfl (fun A10 => ?_)
  refine L.nm (by kernel_rfl) ?_; refine LM.f 3 rfl (by kernel_rfl) (Hq [5, 4] rfl) ?_; refine L.call (js := []) (js' := [0, 1, 2]) (layout_c z p qq r) rfl rfl rfl (by decide) trivial rfl ?_
  rintro _ _ _ ⟨rfl, rfl, rfl⟩
  refine L.nm (by kernel_rfl) ?_; refine LM.f 6 rfl (by kernel_rfl) (Hq [5, 4] rfl) ?_; refine L.call (js := []) (js' := [0, 1, 2]) (made_c r) rfl rfl rfl (by decide) trivial rfl ?_
  rintro _ _ _ ⟨rfl, rfl, rfl⟩
  refine L.norm (H' := [_, _, _]) [1, 0, 2] ⟨rfl, rfl, rfl, trivial⟩ (by decide) ?_; refine L.nm (by kernel_rfl) ?_
  rotate_left
  refine L.alloc rfl rfl rfl (fun A10 => ?_)
  refine L.nm (by kernel_rfl) ?_; refine LM.a2 3 7 (by kernel_rfl) (Hq [5, 4] rfl) rfl rfl ?_ ?_; refine L.call (js := []) (js' := [0, 1]) (layout_c z p qq r) rfl rfl rfl (by decide) trivial rfl ?_
  rintro _ _ _ ⟨rfl, rfl, rfl⟩
  refine L.nm (by kernel_rfl) ?_; refine LM.a2 6 7 (by kernel_rfl) (Hq [5, 4] rfl) rfl rfl ?_ ?_; refine L.call (js := []) (js' := [0, 1]) (made_c r) rfl rfl rfl (by decide) trivial rfl ?_
  rintro _ _ _ ⟨rfl, rfl, rfl⟩
  refine L.nm (by kernel_rfl) ?_; refine LM.f 7 rfl (by kernel_rfl) (Hq [5, 4] rfl) ?_
  refine L.alloc rfl rfl rfl (fun A8 => ?_)
  refine L.norm (H' := [_, _, _]) [2, 0, 1] ⟨rfl, rfl, rfl, trivial⟩ (by decide) ?_; refine L.nm (by kernel_rfl) ?_
  rotate_left
  refine L.alloc rfl rfl rfl (fun A8 => ?_)
  refine L.nm (by kernel_rfl) ?_; refine LM.f 6 rfl (by kernel_rfl) (Hq [5, 4] rfl) ?_; refine L.call (js := []) (js' := [0, 1, 2]) (made_c r) rfl rfl rfl (by decide) trivial rfl ?_
  rintro _ _ _ ⟨rfl, rfl, rfl⟩
  refine L.norm (H' := [_, _, _]) [2, 0, 1] ⟨rfl, rfl, rfl, trivial⟩ (by decide) ?_; refine L.nm (by kernel_rfl) ?_
  rotate_left
  refine L.alloc rfl rfl rfl (fun A8 => ?_)
  refine L.nm (by kernel_rfl) ?_; refine LM.f 3 rfl (by kernel_rfl) (Hq [5, 4] rfl) ?_; refine L.call (js := []) (js' := [0, 1, 2]) (layout_c z p qq r) rfl rfl rfl (by decide) trivial rfl ?_
  rintro _ _ _ ⟨rfl, rfl, rfl⟩
  refine L.nm (by kernel_rfl) ?_; refine LM.f 6 rfl (by kernel_rfl) (Hq [5, 4] rfl) ?_; refine L.call (js := []) (js' := [0, 1, 2]) (made_c r) rfl rfl rfl (by decide) trivial rfl ?_
  rintro _ _ _ ⟨rfl, rfl, rfl⟩
  refine L.norm (H' := [_, _, _]) [2, 0, 1] ⟨rfl, rfl, rfl, trivial⟩ (by decide) ?_; refine L.nm (by kernel_rfl) ?_
  rotate_left
  refine L.alloc rfl rfl rfl (fun A10 => ?_)
  refine L.nm (by kernel_rfl) ?_; refine LM.a3 3 7 8 (by kernel_rfl) (Hq [5, 4] rfl) rfl rfl rfl ?_ ?_ ?_; refine L.call (js := []) (js' := [0]) (layout_c z p qq r) rfl rfl rfl (by decide) trivial rfl ?_
  rintro _ _ _ ⟨rfl, rfl, rfl⟩
  refine L.nm (by kernel_rfl) ?_; refine LM.a3 6 7 8 (by kernel_rfl) (Hq [5, 4] rfl) rfl rfl rfl ?_ ?_ ?_; refine L.call (js := []) (js' := [0]) (made_c r) rfl rfl rfl (by decide) trivial rfl ?_
  rintro _ _ _ ⟨rfl, rfl, rfl⟩
  refine L.nm (by kernel_rfl) ?_; refine LM.a2 7 8 (by kernel_rfl) (Hq [5, 4] rfl) rfl rfl ?_ ?_
  refine L.alloc rfl rfl rfl (fun A8 => ?_)
  refine L.nm (by kernel_rfl) ?_; refine LM.f 8 rfl (by kernel_rfl) (Hq [5, 4] rfl) ?_
  refine L.alloc rfl rfl rfl (fun A9 => ?_)
  refine L.norm (H' := [_, _, _]) [1, 2, 0] ⟨rfl, rfl, rfl, trivial⟩ (by decide) ?_; refine L.nm (by kernel_rfl) ?_
  rotate_left
  refine L.alloc rfl rfl rfl (fun A9 => ?_)
  refine L.nm (by kernel_rfl) ?_; refine LM.f 7 rfl (by kernel_rfl) (Hq [5, 4] rfl) ?_
  refine L.alloc rfl rfl rfl (fun A8 => ?_)
  refine L.norm (H' := [_, _, _]) [2, 1, 0] ⟨rfl, rfl, rfl, trivial⟩ (by decide) ?_; refine L.nm (by kernel_rfl) ?_
  rotate_left
  refine L.alloc rfl rfl rfl (fun A8 => ?_)
  refine L.nm (by kernel_rfl) ?_; refine LM.a2 6 8 (by kernel_rfl) (Hq [5, 4] rfl) rfl rfl ?_ ?_; refine L.call (js := []) (js' := [0, 1]) (made_c r) rfl rfl rfl (by decide) trivial rfl ?_
  rintro _ _ _ ⟨rfl, rfl, rfl⟩
  refine L.nm (by kernel_rfl) ?_; refine LM.f 8 rfl (by kernel_rfl) (Hq [5, 4] rfl) ?_
  refine L.alloc rfl rfl rfl (fun A9 => ?_)
  refine L.norm (H' := [_, _, _]) [1, 2, 0] ⟨rfl, rfl, rfl, trivial⟩ (by decide) ?_; refine L.nm (by kernel_rfl) ?_
  rotate_left
  refine L.alloc rfl rfl rfl (fun A9 => ?_)
  refine L.nm (by kernel_rfl) ?_; refine LM.f 6 rfl (by kernel_rfl) (Hq [5, 4] rfl) ?_; refine L.call (js := []) (js' := [0, 1, 2]) (made_c r) rfl rfl rfl (by decide) trivial rfl ?_
  rintro _ _ _ ⟨rfl, rfl, rfl⟩
  refine L.norm (H' := [_, _, _]) [1, 2, 0] ⟨rfl, rfl, rfl, trivial⟩ (by decide) ?_; refine L.nm (by kernel_rfl) ?_
  rotate_left
  refine L.alloc rfl rfl rfl (fun A9 => ?_)
  refine L.nm (by kernel_rfl) ?_; refine LM.a2 6 7 (by kernel_rfl) (Hq [5, 4] rfl) rfl rfl ?_ ?_; refine L.call (js := []) (js' := [0, 1]) (made_c r) rfl rfl rfl (by decide) trivial rfl ?_
  rintro _ _ _ ⟨rfl, rfl, rfl⟩
  refine L.nm (by kernel_rfl) ?_; refine LM.f 7 rfl (by kernel_rfl) (Hq [5, 4] rfl) ?_
  refine L.alloc rfl rfl rfl (fun A8 => ?_)
  refine L.norm (H' := [_, _, _]) [2, 1, 0] ⟨rfl, rfl, rfl, trivial⟩ (by decide) ?_; refine L.nm (by kernel_rfl) ?_
  rotate_left
  refine L.alloc rfl rfl rfl (fun A8 => ?_)
  refine L.nm (by kernel_rfl) ?_; refine LM.f 6 rfl (by kernel_rfl) (Hq [5, 4] rfl) ?_; refine L.call (js := []) (js' := [0, 1, 2]) (made_c r) rfl rfl rfl (by decide) trivial rfl ?_
  rintro _ _ _ ⟨rfl, rfl, rfl⟩
  refine L.norm (H' := [_, _, _]) [2, 1, 0] ⟨rfl, rfl, rfl, trivial⟩ (by decide) ?_; refine L.nm (by kernel_rfl) ?_
  rotate_left
  refine L.alloc rfl rfl rfl (fun A8 => ?_)
  refine L.nm (by kernel_rfl) ?_; refine LM.a2 3 8 (by kernel_rfl) (Hq [5, 4] rfl) rfl rfl ?_ ?_; refine L.call (js := []) (js' := [0, 1]) (layout_c z p qq r) rfl rfl rfl (by decide) trivial rfl ?_
  rintro _ _ _ ⟨rfl, rfl, rfl⟩
  refine L.nm (by kernel_rfl) ?_; refine LM.a2 6 8 (by kernel_rfl) (Hq [5, 4] rfl) rfl rfl ?_ ?_; refine L.call (js := []) (js' := [0, 1]) (made_c r) rfl rfl rfl (by decide) trivial rfl ?_
  rintro _ _ _ ⟨rfl, rfl, rfl⟩
  refine L.nm (by kernel_rfl) ?_; refine LM.f 8 rfl (by kernel_rfl) (Hq [5, 4] rfl) ?_
  refine L.alloc rfl rfl rfl (fun A9 => ?_)
  refine L.norm (H' := [_, _, _]) [1, 2, 0] ⟨rfl, rfl, rfl, trivial⟩ (by decide) ?_; refine L.nm (by kernel_rfl) ?_
  rotate_left
  refine L.alloc rfl rfl rfl (fun A9 => ?_)
  refine L.nm (by kernel_rfl) ?_; refine LM.f 6 rfl (by kernel_rfl) (Hq [5, 4] rfl) ?_; refine L.call (js := []) (js' := [0, 1, 2]) (made_c r) rfl rfl rfl (by decide) trivial rfl ?_
  rintro _ _ _ ⟨rfl, rfl, rfl⟩
  refine L.norm (H' := [_, _, _]) [1, 2, 0] ⟨rfl, rfl, rfl, trivial⟩ (by decide) ?_; refine L.nm (by kernel_rfl) ?_
  rotate_left
  refine L.alloc rfl rfl rfl (fun A9 => ?_)
  refine L.nm (by kernel_rfl) ?_; refine LM.f 3 rfl (by kernel_rfl) (Hq [5, 4] rfl) ?_; refine L.call (js := []) (js' := [0, 1, 2]) (layout_c z p qq r) rfl rfl rfl (by decide) trivial rfl ?_
  rintro _ _ _ ⟨rfl, rfl, rfl⟩
  refine L.nm (by kernel_rfl) ?_; refine LM.f 6 rfl (by kernel_rfl) (Hq [5, 4] rfl) ?_; refine L.call (js := []) (js' := [0, 1, 2]) (made_c r) rfl rfl rfl (by decide) trivial rfl ?_
  rintro _ _ _ ⟨rfl, rfl, rfl⟩
  refine L.norm (H' := [_, _, _]) [1, 2, 0] ⟨rfl, rfl, rfl, trivial⟩ (by decide) ?_; refine L.nm (by kernel_rfl) ?_
  rotate_left
  refine L.alloc rfl rfl rfl (fun A9 => ?_)
  refine L.nm (by kernel_rfl) ?_; refine LM.a2 3 7 (by kernel_rfl) (Hq [5, 4] rfl) rfl rfl ?_ ?_; refine L.call (js := []) (js' := [0, 1]) (layout_c z p qq r) rfl rfl rfl (by decide) trivial rfl ?_
  rintro _ _ _ ⟨rfl, rfl, rfl⟩
  refine L.nm (by kernel_rfl) ?_; refine LM.a2 6 7 (by kernel_rfl) (Hq [5, 4] rfl) rfl rfl ?_ ?_; refine L.call (js := []) (js' := [0, 1]) (made_c r) rfl rfl rfl (by decide) trivial rfl ?_
  rintro _ _ _ ⟨rfl, rfl, rfl⟩
  refine L.nm (by kernel_rfl) ?_; refine LM.f 7 rfl (by kernel_rfl) (Hq [5, 4] rfl) ?_
  refine L.alloc rfl rfl rfl (fun A8 => ?_)
  refine L.norm (H' := [_, _, _]) [2, 1, 0] ⟨rfl, rfl, rfl, trivial⟩ (by decide) ?_; refine L.nm (by kernel_rfl) ?_
  rotate_left
  refine L.alloc rfl rfl rfl (fun A8 => ?_)
  refine L.nm (by kernel_rfl) ?_; refine LM.f 6 rfl (by kernel_rfl) (Hq [5, 4] rfl) ?_; refine L.call (js := []) (js' := [0, 1, 2]) (made_c r) rfl rfl rfl (by decide) trivial rfl ?_
  rintro _ _ _ ⟨rfl, rfl, rfl⟩
  refine L.norm (H' := [_, _, _]) [2, 1, 0] ⟨rfl, rfl, rfl, trivial⟩ (by decide) ?_; refine L.nm (by kernel_rfl) ?_
  rotate_left
  refine L.alloc rfl rfl rfl (fun A8 => ?_)
  refine L.nm (by kernel_rfl) ?_; refine LM.f 3 rfl (by kernel_rfl) (Hq [5, 4] rfl) ?_; refine L.call (js := []) (js' := [0, 1, 2]) (layout_c z p qq r) rfl rfl rfl (by decide) trivial rfl ?_
  rintro _ _ _ ⟨rfl, rfl, rfl⟩
  refine L.nm (by kernel_rfl) ?_; refine LM.f 6 rfl (by kernel_rfl) (Hq [5, 4] rfl) ?_; refine L.call (js := []) (js' := [0, 1, 2]) (made_c r) rfl rfl rfl (by decide) trivial rfl ?_
  rintro _ _ _ ⟨rfl, rfl, rfl⟩
  refine L.norm (H' := [_, _, _]) [2, 1, 0] ⟨rfl, rfl, rfl, trivial⟩ (by decide) ?_; refine L.nm (by kernel_rfl) ?_
  rotate_left
  refine L.alloc rfl rfl rfl (fun A8 => ?_)
  refine L.nm (by kernel_rfl) ?_; refine LM.a3 1 8 9 (by kernel_rfl) (Hq [1, 0] rfl) rfl rfl rfl ?_ ?_ ?_; refine L.callR (js := []) (js' := [0]) (flash_c z p qq r) rfl rfl rfl (by decide) trivial rfl ?_
  rintro _ _ _ ⟨a, hb, hc, rfl, rfl, rfl⟩
  refine L.nm (by kernel_rfl) ?_; refine LM.a3 3 8 9 (by kernel_rfl) (Hq [5, 4] rfl) rfl rfl rfl ?_ ?_ ?_; refine L.call (js := []) (js' := [0]) (layout_c z p qq r) rfl rfl rfl (by decide) trivial rfl ?_
  rintro _ _ _ ⟨rfl, rfl, rfl⟩
  refine L.nm (by kernel_rfl) ?_; refine LM.a3 6 8 9 (by kernel_rfl) (Hq [5, 4] rfl) rfl rfl rfl ?_ ?_ ?_; refine L.call (js := []) (js' := [0]) (made_c r) rfl rfl rfl (by decide) trivial rfl ?_
  rintro _ _ _ ⟨rfl, rfl, rfl⟩
  refine L.nm (by kernel_rfl) ?_; refine LM.a2 8 9 (by kernel_rfl) (Hq [5, 4] rfl) rfl rfl ?_ ?_
  refine L.alloc rfl rfl rfl (fun A9 => ?_)
  refine L.nm (by kernel_rfl) ?_; refine LM.f 9 rfl (by kernel_rfl) (Hq [5, 4] rfl) ?_
  refine L.alloc rfl rfl rfl (fun A10 => ?_)
  refine L.norm (H' := [_, _, _]) [0, 1, 2] ⟨rfl, rfl, rfl, trivial⟩ (by decide) ?_; refine L.nm (by kernel_rfl) ?_
  rotate_left
  refine L.alloc rfl rfl rfl (fun A10 => ?_)
  refine L.nm (by kernel_rfl) ?_; refine LM.f 8 rfl (by kernel_rfl) (Hq [5, 4] rfl) ?_
  refine L.alloc rfl rfl rfl (fun A9 => ?_)
  refine L.norm (H' := [_, _, _]) [0, 2, 1] ⟨rfl, rfl, rfl, trivial⟩ (by decide) ?_; refine L.nm (by kernel_rfl) ?_
  rotate_left
  refine L.alloc rfl rfl rfl (fun A9 => ?_)
  refine L.nm (by kernel_rfl) ?_; refine LM.a2 6 9 (by kernel_rfl) (Hq [5, 4] rfl) rfl rfl ?_ ?_; refine L.call (js := []) (js' := [0, 1]) (made_c r) rfl rfl rfl (by decide) trivial rfl ?_
  rintro _ _ _ ⟨rfl, rfl, rfl⟩
  refine L.nm (by kernel_rfl) ?_; refine LM.f 9 rfl (by kernel_rfl) (Hq [5, 4] rfl) ?_
  refine L.alloc rfl rfl rfl (fun A10 => ?_)
  refine L.norm (H' := [_, _, _]) [0, 1, 2] ⟨rfl, rfl, rfl, trivial⟩ (by decide) ?_; refine L.nm (by kernel_rfl) ?_
  rotate_left
  refine L.alloc rfl rfl rfl (fun A10 => ?_)
  refine L.nm (by kernel_rfl) ?_; refine LM.f 6 rfl (by kernel_rfl) (Hq [5, 4] rfl) ?_; refine L.call (js := []) (js' := [0, 1, 2]) (made_c r) rfl rfl rfl (by decide) trivial rfl ?_
  rintro _ _ _ ⟨rfl, rfl, rfl⟩
  refine L.norm (H' := [_, _, _]) [0, 1, 2] ⟨rfl, rfl, rfl, trivial⟩ (by decide) ?_; refine L.nm (by kernel_rfl) ?_
  rotate_left
  refine L.alloc rfl rfl rfl (fun A10 => ?_)
  refine L.nm (by kernel_rfl) ?_; refine LM.a2 6 8 (by kernel_rfl) (Hq [5, 4] rfl) rfl rfl ?_ ?_; refine L.call (js := []) (js' := [0, 1]) (made_c r) rfl rfl rfl (by decide) trivial rfl ?_
  rintro _ _ _ ⟨rfl, rfl, rfl⟩
  refine L.nm (by kernel_rfl) ?_; refine LM.f 8 rfl (by kernel_rfl) (Hq [5, 4] rfl) ?_
  refine L.alloc rfl rfl rfl (fun A9 => ?_)
  refine L.norm (H' := [_, _, _]) [0, 2, 1] ⟨rfl, rfl, rfl, trivial⟩ (by decide) ?_; refine L.nm (by kernel_rfl) ?_
  rotate_left
  refine L.alloc rfl rfl rfl (fun A9 => ?_)
  refine L.nm (by kernel_rfl) ?_; refine LM.f 6 rfl (by kernel_rfl) (Hq [5, 4] rfl) ?_; refine L.call (js := []) (js' := [0, 1, 2]) (made_c r) rfl rfl rfl (by decide) trivial rfl ?_
  rintro _ _ _ ⟨rfl, rfl, rfl⟩
  refine L.norm (H' := [_, _, _]) [0, 2, 1] ⟨rfl, rfl, rfl, trivial⟩ (by decide) ?_; refine L.nm (by kernel_rfl) ?_
  rotate_left
  refine L.alloc rfl rfl rfl (fun A9 => ?_)
  refine L.nm (by kernel_rfl) ?_; refine LM.a2 3 9 (by kernel_rfl) (Hq [5, 4] rfl) rfl rfl ?_ ?_; refine L.call (js := []) (js' := [0, 1]) (layout_c z p qq r) rfl rfl rfl (by decide) trivial rfl ?_
  rintro _ _ _ ⟨rfl, rfl, rfl⟩
  refine L.nm (by kernel_rfl) ?_; refine LM.a2 6 9 (by kernel_rfl) (Hq [5, 4] rfl) rfl rfl ?_ ?_; refine L.call (js := []) (js' := [0, 1]) (made_c r) rfl rfl rfl (by decide) trivial rfl ?_
  rintro _ _ _ ⟨rfl, rfl, rfl⟩
  refine L.nm (by kernel_rfl) ?_; refine LM.f 9 rfl (by kernel_rfl) (Hq [5, 4] rfl) ?_
  refine L.alloc rfl rfl rfl (fun A10 => ?_)
  refine L.norm (H' := [_, _, _]) [0, 1, 2] ⟨rfl, rfl, rfl, trivial⟩ (by decide) ?_; refine L.nm (by kernel_rfl) ?_
  rotate_left
  refine L.alloc rfl rfl rfl (fun A10 => ?_)
  refine L.nm (by kernel_rfl) ?_; refine LM.f 6 rfl (by kernel_rfl) (Hq [5, 4] rfl) ?_; refine L.call (js := []) (js' := [0, 1, 2]) (made_c r) rfl rfl rfl (by decide) trivial rfl ?_
  rintro _ _ _ ⟨rfl, rfl, rfl⟩
  refine L.norm (H' := [_, _, _]) [0, 1, 2] ⟨rfl, rfl, rfl, trivial⟩ (by decide) ?_; refine L.nm (by kernel_rfl) ?_
  rotate_left
  refine L.alloc rfl rfl rfl (fun A10 => ?_)
  refine L.nm (by kernel_rfl) ?_; refine LM.f 3 rfl (by kernel_rfl) (Hq [5, 4] rfl) ?_; refine L.call (js := []) (js' := [0, 1, 2]) (layout_c z p qq r) rfl rfl rfl (by decide) trivial rfl ?_
  rintro _ _ _ ⟨rfl, rfl, rfl⟩
  refine L.nm (by kernel_rfl) ?_; refine LM.f 6 rfl (by kernel_rfl) (Hq [5, 4] rfl) ?_; refine L.call (js := []) (js' := [0, 1, 2]) (made_c r) rfl rfl rfl (by decide) trivial rfl ?_
  rintro _ _ _ ⟨rfl, rfl, rfl⟩
  refine L.norm (H' := [_, _, _]) [0, 1, 2] ⟨rfl, rfl, rfl, trivial⟩ (by decide) ?_; refine L.nm (by kernel_rfl) ?_
  rotate_left
  refine L.alloc rfl rfl rfl (fun A10 => ?_)
  refine L.nm (by kernel_rfl) ?_; refine LM.a2 3 8 (by kernel_rfl) (Hq [5, 4] rfl) rfl rfl ?_ ?_; refine L.call (js := []) (js' := [0, 1]) (layout_c z p qq r) rfl rfl rfl (by decide) trivial rfl ?_
  rintro _ _ _ ⟨rfl, rfl, rfl⟩
  refine L.nm (by kernel_rfl) ?_; refine LM.a2 6 8 (by kernel_rfl) (Hq [5, 4] rfl) rfl rfl ?_ ?_; refine L.call (js := []) (js' := [0, 1]) (made_c r) rfl rfl rfl (by decide) trivial rfl ?_
  rintro _ _ _ ⟨rfl, rfl, rfl⟩
  refine L.nm (by kernel_rfl) ?_; refine LM.f 8 rfl (by kernel_rfl) (Hq [5, 4] rfl) ?_
  refine L.alloc rfl rfl rfl (fun A9 => ?_)
  refine L.norm (H' := [_, _, _]) [0, 2, 1] ⟨rfl, rfl, rfl, trivial⟩ (by decide) ?_; refine L.nm (by kernel_rfl) ?_
  rotate_left
  refine L.alloc rfl rfl rfl (fun A9 => ?_)
  refine L.nm (by kernel_rfl) ?_; refine LM.f 6 rfl (by kernel_rfl) (Hq [5, 4] rfl) ?_; refine L.call (js := []) (js' := [0, 1, 2]) (made_c r) rfl rfl rfl (by decide) trivial rfl ?_
  rintro _ _ _ ⟨rfl, rfl, rfl⟩
  refine L.norm (H' := [_, _, _]) [0, 2, 1] ⟨rfl, rfl, rfl, trivial⟩ (by decide) ?_; refine L.nm (by kernel_rfl) ?_
  rotate_left
  refine L.alloc rfl rfl rfl (fun A9 => ?_)
  refine L.nm (by kernel_rfl) ?_; refine LM.f 3 rfl (by kernel_rfl) (Hq [5, 4] rfl) ?_; refine L.call (js := []) (js' := [0, 1, 2]) (layout_c z p qq r) rfl rfl rfl (by decide) trivial rfl ?_
  rintro _ _ _ ⟨rfl, rfl, rfl⟩
  refine L.nm (by kernel_rfl) ?_; refine LM.f 6 rfl (by kernel_rfl) (Hq [5, 4] rfl) ?_; refine L.call (js := []) (js' := [0, 1, 2]) (made_c r) rfl rfl rfl (by decide) trivial rfl ?_
  rintro _ _ _ ⟨rfl, rfl, rfl⟩
  refine L.norm (H' := [_, _, _]) [0, 2, 1] ⟨rfl, rfl, rfl, trivial⟩ (by decide) ?_; refine L.nm (by kernel_rfl) ?_
  rotate_left
  refine L.alloc rfl rfl rfl (fun A9 => ?_)
  refine L.nm (by kernel_rfl) ?_; refine LM.a2 1 9 (by kernel_rfl) (Hq [1, 0] rfl) rfl rfl ?_ ?_; refine L.callR (js := []) (js' := [0, 1]) (flash_c z p qq r) rfl rfl rfl (by decide) trivial rfl ?_
  rintro _ _ _ ⟨a, hb, hc, rfl, rfl, rfl⟩
  refine L.nm (by kernel_rfl) ?_; refine LM.a2 3 9 (by kernel_rfl) (Hq [5, 4] rfl) rfl rfl ?_ ?_; refine L.call (js := []) (js' := [0, 1]) (layout_c z p qq r) rfl rfl rfl (by decide) trivial rfl ?_
  rintro _ _ _ ⟨rfl, rfl, rfl⟩
  refine L.nm (by kernel_rfl) ?_; refine LM.a2 6 9 (by kernel_rfl) (Hq [5, 4] rfl) rfl rfl ?_ ?_; refine L.call (js := []) (js' := [0, 1]) (made_c r) rfl rfl rfl (by decide) trivial rfl ?_
  rintro _ _ _ ⟨rfl, rfl, rfl⟩
  refine L.nm (by kernel_rfl) ?_; refine LM.f 9 rfl (by kernel_rfl) (Hq [5, 4] rfl) ?_
  refine L.alloc rfl rfl rfl (fun A10 => ?_)
  refine L.norm (H' := [_, _, _]) [0, 1, 2] ⟨rfl, rfl, rfl, trivial⟩ (by decide) ?_; refine L.nm (by kernel_rfl) ?_
  rotate_left
  refine L.alloc rfl rfl rfl (fun A10 => ?_)
  refine L.nm (by kernel_rfl) ?_; refine LM.f 6 rfl (by kernel_rfl) (Hq [5, 4] rfl) ?_; refine L.call (js := []) (js' := [0, 1, 2]) (made_c r) rfl rfl rfl (by decide) trivial rfl ?_
  rintro _ _ _ ⟨rfl, rfl, rfl⟩
  refine L.norm (H' := [_, _, _]) [0, 1, 2] ⟨rfl, rfl, rfl, trivial⟩ (by decide) ?_; refine L.nm (by kernel_rfl) ?_
  rotate_left
  refine L.alloc rfl rfl rfl (fun A10 => ?_)
  refine L.nm (by kernel_rfl) ?_; refine LM.f 3 rfl (by kernel_rfl) (Hq [5, 4] rfl) ?_; refine L.call (js := []) (js' := [0, 1, 2]) (layout_c z p qq r) rfl rfl rfl (by decide) trivial rfl ?_
  rintro _ _ _ ⟨rfl, rfl, rfl⟩
  refine L.nm (by kernel_rfl) ?_; refine LM.f 6 rfl (by kernel_rfl) (Hq [5, 4] rfl) ?_; refine L.call (js := []) (js' := [0, 1, 2]) (made_c r) rfl rfl rfl (by decide) trivial rfl ?_
  rintro _ _ _ ⟨rfl, rfl, rfl⟩
  refine L.norm (H' := [_, _, _]) [0, 1, 2] ⟨rfl, rfl, rfl, trivial⟩ (by decide) ?_; refine L.nm (by kernel_rfl) ?_
  rotate_left
  refine L.alloc rfl rfl rfl (fun A10 => ?_)
  refine L.nm (by kernel_rfl) ?_; refine LM.f 1 rfl (by kernel_rfl) (Hq [1, 0] rfl) ?_; refine L.callR (js := []) (js' := [0, 1, 2]) (flash_c z p qq r) rfl rfl rfl (by decide) trivial rfl ?_
  rintro _ _ _ ⟨a, hb, hc, rfl, rfl, rfl⟩
  refine L.nm (by kernel_rfl) ?_; refine LM.f 3 rfl (by kernel_rfl) (Hq [5, 4] rfl) ?_; refine L.call (js := []) (js' := [0, 1, 2]) (layout_c z p qq r) rfl rfl rfl (by decide) trivial rfl ?_
  rintro _ _ _ ⟨rfl, rfl, rfl⟩
  refine L.nm (by kernel_rfl) ?_; refine LM.f 6 rfl (by kernel_rfl) (Hq [5, 4] rfl) ?_; refine L.call (js := []) (js' := [0, 1, 2]) (made_c r) rfl rfl rfl (by decide) trivial rfl ?_
  rintro _ _ _ ⟨rfl, rfl, rfl⟩
  refine L.norm (H' := [_, _, _]) [0, 1, 2] ⟨rfl, rfl, rfl, trivial⟩ (by decide) ?_; refine L.nm (by kernel_rfl) ?_
  rotate_left
  refine L.alloc rfl rfl rfl (fun A10 => ?_)
  refine L.nm (by kernel_rfl) ?_; refine LM.a2 1 8 (by kernel_rfl) (Hq [1, 0] rfl) rfl rfl ?_ ?_; refine L.callR (js := []) (js' := [0, 1]) (flash_c z p qq r) rfl rfl rfl (by decide) trivial rfl ?_
  rintro _ _ _ ⟨a, hb, hc, rfl, rfl, rfl⟩
  refine L.nm (by kernel_rfl) ?_; refine LM.a2 3 8 (by kernel_rfl) (Hq [5, 4] rfl) rfl rfl ?_ ?_; refine L.call (js := []) (js' := [0, 1]) (layout_c z p qq r) rfl rfl rfl (by decide) trivial rfl ?_
  rintro _ _ _ ⟨rfl, rfl, rfl⟩
  refine L.nm (by kernel_rfl) ?_; refine LM.a2 6 8 (by kernel_rfl) (Hq [5, 4] rfl) rfl rfl ?_ ?_; refine L.call (js := []) (js' := [0, 1]) (made_c r) rfl rfl rfl (by decide) trivial rfl ?_
  rintro _ _ _ ⟨rfl, rfl, rfl⟩
  refine L.nm (by kernel_rfl) ?_; refine LM.f 8 rfl (by kernel_rfl) (Hq [5, 4] rfl) ?_
  refine L.alloc rfl rfl rfl (fun A9 => ?_)
  refine L.norm (H' := [_, _, _]) [0, 2, 1] ⟨rfl, rfl, rfl, trivial⟩ (by decide) ?_; refine L.nm (by kernel_rfl) ?_
  rotate_left
  refine L.alloc rfl rfl rfl (fun A9 => ?_)
  refine L.nm (by kernel_rfl) ?_; refine LM.f 6 rfl (by kernel_rfl) (Hq [5, 4] rfl) ?_; refine L.call (js := []) (js' := [0, 1, 2]) (made_c r) rfl rfl rfl (by decide) trivial rfl ?_
  rintro _ _ _ ⟨rfl, rfl, rfl⟩
  refine L.norm (H' := [_, _, _]) [0, 2, 1] ⟨rfl, rfl, rfl, trivial⟩ (by decide) ?_; refine L.nm (by kernel_rfl) ?_
  rotate_left
  refine L.alloc rfl rfl rfl (fun A9 => ?_)
  refine L.nm (by kernel_rfl) ?_; refine LM.f 3 rfl (by kernel_rfl) (Hq [5, 4] rfl) ?_; refine L.call (js := []) (js' := [0, 1, 2]) (layout_c z p qq r) rfl rfl rfl (by decide) trivial rfl ?_
  rintro _ _ _ ⟨rfl, rfl, rfl⟩
  refine L.nm (by kernel_rfl) ?_; refine LM.f 6 rfl (by kernel_rfl) (Hq [5, 4] rfl) ?_; refine L.call (js := []) (js' := [0, 1, 2]) (made_c r) rfl rfl rfl (by decide) trivial rfl ?_
  rintro _ _ _ ⟨rfl, rfl, rfl⟩
  refine L.norm (H' := [_, _, _]) [0, 2, 1] ⟨rfl, rfl, rfl, trivial⟩ (by decide) ?_; refine L.nm (by kernel_rfl) ?_
  rotate_left
  refine L.alloc rfl rfl rfl (fun A9 => ?_)
  refine L.nm (by kernel_rfl) ?_; refine LM.f 1 rfl (by kernel_rfl) (Hq [1, 0] rfl) ?_; refine L.callR (js := []) (js' := [0, 1, 2]) (flash_c z p qq r) rfl rfl rfl (by decide) trivial rfl ?_
  rintro _ _ _ ⟨a, hb, hc, rfl, rfl, rfl⟩
  refine L.nm (by kernel_rfl) ?_; refine LM.f 3 rfl (by kernel_rfl) (Hq [5, 4] rfl) ?_; refine L.call (js := []) (js' := [0, 1, 2]) (layout_c z p qq r) rfl rfl rfl (by decide) trivial rfl ?_
  rintro _ _ _ ⟨rfl, rfl, rfl⟩
  refine L.nm (by kernel_rfl) ?_; refine LM.f 6 rfl (by kernel_rfl) (Hq [5, 4] rfl) ?_; refine L.call (js := []) (js' := [0, 1, 2]) (made_c r) rfl rfl rfl (by decide) trivial rfl ?_
  rintro _ _ _ ⟨rfl, rfl, rfl⟩
  refine L.norm (H' := [_, _, _]) [0, 2, 1] ⟨rfl, rfl, rfl, trivial⟩ (by decide) ?_; refine L.nm (by kernel_rfl) ?_
  rotate_left
  refine L.alloc rfl rfl rfl (fun A9 => ?_)
  refine L.nm (by kernel_rfl) ?_; refine LM.a3 1 7 9 (by kernel_rfl) (Hq [1, 0] rfl) rfl rfl rfl ?_ ?_ ?_; refine L.callR (js := []) (js' := [0]) (flash_c z p qq r) rfl rfl rfl (by decide) trivial rfl ?_
  rintro _ _ _ ⟨a, hb, hc, rfl, rfl, rfl⟩
  refine L.nm (by kernel_rfl) ?_; refine LM.a3 3 7 9 (by kernel_rfl) (Hq [5, 4] rfl) rfl rfl rfl ?_ ?_ ?_; refine L.call (js := []) (js' := [0]) (layout_c z p qq r) rfl rfl rfl (by decide) trivial rfl ?_
  rintro _ _ _ ⟨rfl, rfl, rfl⟩
  refine L.nm (by kernel_rfl) ?_; refine LM.a3 6 7 9 (by kernel_rfl) (Hq [5, 4] rfl) rfl rfl rfl ?_ ?_ ?_; refine L.call (js := []) (js' := [0]) (made_c r) rfl rfl rfl (by decide) trivial rfl ?_
  rintro _ _ _ ⟨rfl, rfl, rfl⟩
  refine L.nm (by kernel_rfl) ?_; refine LM.a2 7 9 (by kernel_rfl) (Hq [5, 4] rfl) rfl rfl ?_ ?_
  refine L.alloc rfl rfl rfl (fun A8 => ?_)
  refine L.nm (by kernel_rfl) ?_; refine LM.f 9 rfl (by kernel_rfl) (Hq [5, 4] rfl) ?_
  refine L.alloc rfl rfl rfl (fun A10 => ?_)
  refine L.norm (H' := [_, _, _]) [1, 0, 2] ⟨rfl, rfl, rfl, trivial⟩ (by decide) ?_; refine L.nm (by kernel_rfl) ?_
  rotate_left
  refine L.alloc rfl rfl rfl (fun A10 => ?_)
  refine L.nm (by kernel_rfl) ?_; refine LM.f 7 rfl (by kernel_rfl) (Hq [5, 4] rfl) ?_
  refine L.alloc rfl rfl rfl (fun A8 => ?_)
  refine L.norm (H' := [_, _, _]) [2, 0, 1] ⟨rfl, rfl, rfl, trivial⟩ (by decide) ?_; refine L.nm (by kernel_rfl) ?_
  rotate_left
  refine L.alloc rfl rfl rfl (fun A8 => ?_)
  refine L.nm (by kernel_rfl) ?_; refine LM.a2 6 9 (by kernel_rfl) (Hq [5, 4] rfl) rfl rfl ?_ ?_; refine L.call (js := []) (js' := [0, 1]) (made_c r) rfl rfl rfl (by decide) trivial rfl ?_
  rintro _ _ _ ⟨rfl, rfl, rfl⟩
  refine L.nm (by kernel_rfl) ?_; refine LM.f 9 rfl (by kernel_rfl) (Hq [5, 4] rfl) ?_
  refine L.alloc rfl rfl rfl (fun A10 => ?_)
  refine L.norm (H' := [_, _, _]) [1, 0, 2] ⟨rfl, rfl, rfl, trivial⟩ (by decide) ?_; refine L.nm (by kernel_rfl) ?_
  rotate_left
  refine L.alloc rfl rfl rfl (fun A10 => ?_)
  refine L.nm (by kernel_rfl) ?_; refine LM.f 6 rfl (by kernel_rfl) (Hq [5, 4] rfl) ?_; refine L.call (js := []) (js' := [0, 1, 2]) (made_c r) rfl rfl rfl (by decide) trivial rfl ?_
  rintro _ _ _ ⟨rfl, rfl, rfl⟩
  refine L.norm (H' := [_, _, _]) [1, 0, 2] ⟨rfl, rfl, rfl, trivial⟩ (by decide) ?_; refine L.nm (by kernel_rfl) ?_
  rotate_left
  refine L.alloc rfl rfl rfl (fun A10 => ?_)
  refine L.nm (by kernel_rfl) ?_; refine LM.a2 6 7 (by kernel_rfl) (Hq [5, 4] rfl) rfl rfl ?_ ?_; refine L.call (js := []) (js' := [0, 1]) (made_c r) rfl rfl rfl (by decide) trivial rfl ?_
  rintro _ _ _ ⟨rfl, rfl, rfl⟩
  refine L.nm (by kernel_rfl) ?_; refine LM.f 7 rfl (by kernel_rfl) (Hq [5, 4] rfl) ?_
  refine L.alloc rfl rfl rfl (fun A8 => ?_)
  refine L.norm (H' := [_, _, _]) [2, 0, 1] ⟨rfl, rfl, rfl, trivial⟩ (by decide) ?_; refine L.nm (by kernel_rfl) ?_
  rotate_left
  refine L.alloc rfl rfl rfl (fun A8 => ?_)
  refine L.nm (by kernel_rfl) ?_; refine LM.f 6 rfl (by kernel_rfl) (Hq [5, 4] rfl) ?_; refine L.call (js := []) (js' := [0, 1, 2]) (made_c r) rfl rfl rfl (by decide) trivial rfl ?_
  rintro _ _ _ ⟨rfl, rfl, rfl⟩
  refine L.norm (H' := [_, _, _]) [2, 0, 1] ⟨rfl, rfl, rfl, trivial⟩ (by decide) ?_; refine L.nm (by kernel_rfl) ?_
  rotate_left
  refine L.alloc rfl rfl rfl (fun A8 => ?_)
  refine L.nm (by kernel_rfl) ?_; refine LM.a2 3 9 (by kernel_rfl) (Hq [5, 4] rfl) rfl rfl ?_ ?_; refine L.call (js := []) (js' := [0, 1]) (layout_c z p qq r) rfl rfl rfl (by decide) trivial rfl ?_
  rintro _ _ _ ⟨rfl, rfl, rfl⟩
  refine L.nm (by kernel_rfl) ?_; refine LM.a2 6 9 (by kernel_rfl) (Hq [5, 4] rfl) rfl rfl ?_ ?_; refine L.call (js := []) (js' := [0, 1]) (made_c r) rfl rfl rfl (by decide) trivial rfl ?_
  rintro _ _ _ ⟨rfl, rfl, rfl⟩
  refine L.nm (by kernel_rfl) ?_; refine LM.f 9 rfl (by kernel_rfl) (Hq [5, 4] rfl) ?_
  refine L.alloc rfl rfl rfl (fun A10 => ?_)
  refine L.norm (H' := [_, _, _]) [1, 0, 2] ⟨rfl, rfl, rfl, trivial⟩ (by decide) ?_; refine L.nm (by kernel_rfl) ?_
  rotate_left
  refine L.alloc rfl rfl rfl (fun A10 => ?_)
  refine L.nm (by kernel_rfl) ?_; refine LM.f 6 rfl (by kernel_rfl) (Hq [5, 4] rfl) ?_; refine L.call (js := []) (js' := [0, 1, 2]) (made_c r) rfl rfl rfl (by decide) trivial rfl ?_
  rintro _ _ _ ⟨rfl, rfl, rfl⟩
  refine L.norm (H' := [_, _, _]) [1, 0, 2] ⟨rfl, rfl, rfl, trivial⟩ (by decide) ?_; refine L.nm (by kernel_rfl) ?_
  rotate_left
  refine L.alloc rfl rfl rfl (fun A10 => ?_)
  refine L.nm (by kernel_rfl) ?_; refine LM.f 3 rfl (by kernel_rfl) (Hq [5, 4] rfl) ?_; refine L.call (js := []) (js' := [0, 1, 2]) (layout_c z p qq r) rfl rfl rfl (by decide) trivial rfl ?_
  rintro _ _ _ ⟨rfl, rfl, rfl⟩
  refine L.nm (by kernel_rfl) ?_; refine LM.f 6 rfl (by kernel_rfl) (Hq [5, 4] rfl) ?_; refine L.call (js := []) (js' := [0, 1, 2]) (made_c r) rfl rfl rfl (by decide) trivial rfl ?_
  rintro _ _ _ ⟨rfl, rfl, rfl⟩
  refine L.norm (H' := [_, _, _]) [1, 0, 2] ⟨rfl, rfl, rfl, trivial⟩ (by decide) ?_; refine L.nm (by kernel_rfl) ?_
  rotate_left
  refine L.alloc rfl rfl rfl (fun A10 => ?_)
  refine L.nm (by kernel_rfl) ?_; refine LM.a2 3 7 (by kernel_rfl) (Hq [5, 4] rfl) rfl rfl ?_ ?_; refine L.call (js := []) (js' := [0, 1]) (layout_c z p qq r) rfl rfl rfl (by decide) trivial rfl ?_
  rintro _ _ _ ⟨rfl, rfl, rfl⟩
  refine L.nm (by kernel_rfl) ?_; refine LM.a2 6 7 (by kernel_rfl) (Hq [5, 4] rfl) rfl rfl ?_ ?_; refine L.call (js := []) (js' := [0, 1]) (made_c r) rfl rfl rfl (by decide) trivial rfl ?_
  rintro _ _ _ ⟨rfl, rfl, rfl⟩
  refine L.nm (by kernel_rfl) ?_; refine LM.f 7 rfl (by kernel_rfl) (Hq [5, 4] rfl) ?_
  refine L.alloc rfl rfl rfl (fun A8 => ?_)
  refine L.norm (H' := [_, _, _]) [2, 0, 1] ⟨rfl, rfl, rfl, trivial⟩ (by decide) ?_; refine L.nm (by kernel_rfl) ?_
  rotate_left
  refine L.alloc rfl rfl rfl (fun A8 => ?_)
  refine L.nm (by kernel_rfl) ?_; refine LM.f 6 rfl (by kernel_rfl) (Hq [5, 4] rfl) ?_; refine L.call (js := []) (js' := [0, 1, 2]) (made_c r) rfl rfl rfl (by decide) trivial rfl ?_
  rintro _ _ _ ⟨rfl, rfl, rfl⟩
  refine L.norm (H' := [_, _, _]) [2, 0, 1] ⟨rfl, rfl, rfl, trivial⟩ (by decide) ?_; refine L.nm (by kernel_rfl) ?_
  rotate_left
  refine L.alloc rfl rfl rfl (fun A8 => ?_)
  refine L.nm (by kernel_rfl) ?_; refine LM.f 3 rfl (by kernel_rfl) (Hq [5, 4] rfl) ?_; refine L.call (js := []) (js' := [0, 1, 2]) (layout_c z p qq r) rfl rfl rfl (by decide) trivial rfl ?_
  rintro _ _ _ ⟨rfl, rfl, rfl⟩
  refine L.nm (by kernel_rfl) ?_; refine LM.f 6 rfl (by kernel_rfl) (Hq [5, 4] rfl) ?_; refine L.call (js := []) (js' := [0, 1, 2]) (made_c r) rfl rfl rfl (by decide) trivial rfl ?_
  rintro _ _ _ ⟨rfl, rfl, rfl⟩
  refine L.norm (H' := [_, _, _]) [2, 0, 1] ⟨rfl, rfl, rfl, trivial⟩ (by decide) ?_; refine L.nm (by kernel_rfl) ?_
  rotate_left
  refine L.alloc rfl rfl rfl (fun A8 => ?_)
  refine L.nm (by kernel_rfl) ?_; refine LM.a2 1 9 (by kernel_rfl) (Hq [1, 0] rfl) rfl rfl ?_ ?_; refine L.callR (js := []) (js' := [0, 1]) (flash_c z p qq r) rfl rfl rfl (by decide) trivial rfl ?_
  rintro _ _ _ ⟨a, hb, hc, rfl, rfl, rfl⟩
  refine L.nm (by kernel_rfl) ?_; refine LM.a2 3 9 (by kernel_rfl) (Hq [5, 4] rfl) rfl rfl ?_ ?_; refine L.call (js := []) (js' := [0, 1]) (layout_c z p qq r) rfl rfl rfl (by decide) trivial rfl ?_
  rintro _ _ _ ⟨rfl, rfl, rfl⟩
  refine L.nm (by kernel_rfl) ?_; refine LM.a2 6 9 (by kernel_rfl) (Hq [5, 4] rfl) rfl rfl ?_ ?_; refine L.call (js := []) (js' := [0, 1]) (made_c r) rfl rfl rfl (by decide) trivial rfl ?_
  rintro _ _ _ ⟨rfl, rfl, rfl⟩
  refine L.nm (by kernel_rfl) ?_; refine LM.f 9 rfl (by kernel_rfl) (Hq [5, 4] rfl) ?_
  refine L.alloc rfl rfl rfl (fun A10 => ?_)
  refine L.norm (H' := [_, _, _]) [1, 0, 2] ⟨rfl, rfl, rfl, trivial⟩ (by decide) ?_; refine L.nm (by kernel_rfl) ?_
  rotate_left
  refine L.alloc rfl rfl rfl (fun A10 => ?_)
  refine L.nm (by kernel_rfl) ?_; refine LM.f 6 rfl (by kernel_rfl) (Hq [5, 4] rfl) ?_; refine L.call (js := []) (js' := [0, 1, 2]) (made_c r) rfl rfl rfl (by decide) trivial rfl ?_
  rintro _ _ _ ⟨rfl, rfl, rfl⟩
  refine L.norm (H' := [_, _, _]) [1, 0, 2] ⟨rfl, rfl, rfl, trivial⟩ (by decide) ?_; refine L.nm (by kernel_rfl) ?_
  rotate_left
  refine L.alloc rfl rfl rfl (fun A10 => ?_)
  refine L.nm (by kernel_rfl) ?_; refine LM.f 3 rfl (by kernel_rfl) (Hq [5, 4] rfl) ?_; refine L.call (js := []) (js' := [0, 1, 2]) (layout_c z p qq r) rfl rfl rfl (by decide) trivial rfl ?_
  rintro _ _ _ ⟨rfl, rfl, rfl⟩
  refine L.nm (by kernel_rfl) ?_; refine LM.f 6 rfl (by kernel_rfl) (Hq [5, 4] rfl) ?_; refine L.call (js := []) (js' := [0, 1, 2]) (made_c r) rfl rfl rfl (by decide) trivial rfl ?_
  rintro _ _ _ ⟨rfl, rfl, rfl⟩
  refine L.norm (H' := [_, _, _]) [1, 0, 2] ⟨rfl, rfl, rfl, trivial⟩ (by decide) ?_; refine L.nm (by kernel_rfl) ?_
  rotate_left
  refine L.alloc rfl rfl rfl (fun A10 => ?_)
  refine L.nm (by kernel_rfl) ?_; refine LM.f 1 rfl (by kernel_rfl) (Hq [1, 0] rfl) ?_; refine L.callR (js := []) (js' := [0, 1, 2]) (flash_c z p qq r) rfl rfl rfl (by decide) trivial rfl ?_
  rintro _ _ _ ⟨a, hb, hc, rfl, rfl, rfl⟩
  refine L.nm (by kernel_rfl) ?_; refine LM.f 3 rfl (by kernel_rfl) (Hq [5, 4] rfl) ?_; refine L.call (js := []) (js' := [0, 1, 2]) (layout_c z p qq r) rfl rfl rfl (by decide) trivial rfl ?_
  rintro _ _ _ ⟨rfl, rfl, rfl⟩
  refine L.nm (by kernel_rfl) ?_; refine LM.f 6 rfl (by kernel_rfl) (Hq [5, 4] rfl) ?_; refine L.call (js := []) (js' := [0, 1, 2]) (made_c r) rfl rfl rfl (by decide) trivial rfl ?_
  rintro _ _ _ ⟨rfl, rfl, rfl⟩
  refine L.norm (H' := [_, _, _]) [1, 0, 2] ⟨rfl, rfl, rfl, trivial⟩ (by decide) ?_; refine L.nm (by kernel_rfl) ?_
  rotate_left
  refine L.alloc rfl rfl rfl (fun A10 => ?_)
  refine L.nm (by kernel_rfl) ?_; refine LM.a2 1 7 (by kernel_rfl) (Hq [1, 0] rfl) rfl rfl ?_ ?_; refine L.callR (js := []) (js' := [0, 1]) (flash_c z p qq r) rfl rfl rfl (by decide) trivial rfl ?_
  rintro _ _ _ ⟨a, hb, hc, rfl, rfl, rfl⟩
  refine L.nm (by kernel_rfl) ?_; refine LM.a2 3 7 (by kernel_rfl) (Hq [5, 4] rfl) rfl rfl ?_ ?_; refine L.call (js := []) (js' := [0, 1]) (layout_c z p qq r) rfl rfl rfl (by decide) trivial rfl ?_
  rintro _ _ _ ⟨rfl, rfl, rfl⟩
  refine L.nm (by kernel_rfl) ?_; refine LM.a2 6 7 (by kernel_rfl) (Hq [5, 4] rfl) rfl rfl ?_ ?_; refine L.call (js := []) (js' := [0, 1]) (made_c r) rfl rfl rfl (by decide) trivial rfl ?_
  rintro _ _ _ ⟨rfl, rfl, rfl⟩
  refine L.nm (by kernel_rfl) ?_; refine LM.f 7 rfl (by kernel_rfl) (Hq [5, 4] rfl) ?_
  refine L.alloc rfl rfl rfl (fun A8 => ?_)
  refine L.norm (H' := [_, _, _]) [2, 0, 1] ⟨rfl, rfl, rfl, trivial⟩ (by decide) ?_; refine L.nm (by kernel_rfl) ?_
  rotate_left
  refine L.alloc rfl rfl rfl (fun A8 => ?_)
  refine L.nm (by kernel_rfl) ?_; refine LM.f 6 rfl (by kernel_rfl) (Hq [5, 4] rfl) ?_; refine L.call (js := []) (js' := [0, 1, 2]) (made_c r) rfl rfl rfl (by decide) trivial rfl ?_
  rintro _ _ _ ⟨rfl, rfl, rfl⟩
  refine L.norm (H' := [_, _, _]) [2, 0, 1] ⟨rfl, rfl, rfl, trivial⟩ (by decide) ?_; refine L.nm (by kernel_rfl) ?_
  rotate_left
  refine L.alloc rfl rfl rfl (fun A8 => ?_)
  refine L.nm (by kernel_rfl) ?_; refine LM.f 3 rfl (by kernel_rfl) (Hq [5, 4] rfl) ?_; refine L.call (js := []) (js' := [0, 1, 2]) (layout_c z p qq r) rfl rfl rfl (by decide) trivial rfl ?_
  rintro _ _ _ ⟨rfl, rfl, rfl⟩
  refine L.nm (by kernel_rfl) ?_; refine LM.f 6 rfl (by kernel_rfl) (Hq [5, 4] rfl) ?_; refine L.call (js := []) (js' := [0, 1, 2]) (made_c r) rfl rfl rfl (by decide) trivial rfl ?_
  rintro _ _ _ ⟨rfl, rfl, rfl⟩
  refine L.norm (H' := [_, _, _]) [2, 0, 1] ⟨rfl, rfl, rfl, trivial⟩ (by decide) ?_; refine L.nm (by kernel_rfl) ?_
  rotate_left
  refine L.alloc rfl rfl rfl (fun A8 => ?_)
  refine L.nm (by kernel_rfl) ?_; refine LM.f 1 rfl (by kernel_rfl) (Hq [1, 0] rfl) ?_; refine L.callR (js := []) (js' := [0, 1, 2]) (flash_c z p qq r) rfl rfl rfl (by decide) trivial rfl ?_
  rintro _ _ _ ⟨a, hb, hc, rfl, rfl, rfl⟩
  refine L.nm (by kernel_rfl) ?_; refine LM.f 3 rfl (by kernel_rfl) (Hq [5, 4] rfl) ?_; refine L.call (js := []) (js' := [0, 1, 2]) (layout_c z p qq r) rfl rfl rfl (by decide) trivial rfl ?_
  rintro _ _ _ ⟨rfl, rfl, rfl⟩
  refine L.nm (by kernel_rfl) ?_; refine LM.f 6 rfl (by kernel_rfl) (Hq [5, 4] rfl) ?_; refine L.call (js := []) (js' := [0, 1, 2]) (made_c r) rfl rfl rfl (by decide) trivial rfl ?_
  rintro _ _ _ ⟨rfl, rfl, rfl⟩
  refine L.norm (H' := [_, _, _]) [2, 0, 1] ⟨rfl, rfl, rfl, trivial⟩ (by decide) ?_; refine L.nm (by kernel_rfl) ?_
  rotate_left
  refine L.alloc rfl rfl rfl (fun A10 => ?_)
  refine L.nm (by kernel_rfl) ?_; refine LM.a3 1 7 8 (by kernel_rfl) (Hq [1, 0] rfl) rfl rfl rfl ?_ ?_ ?_; refine L.callR (js := []) (js' := [0]) (flash_c z p qq r) rfl rfl rfl (by decide) trivial rfl ?_
  rintro _ _ _ ⟨a, hb, hc, rfl, rfl, rfl⟩
  refine L.nm (by kernel_rfl) ?_; refine LM.a3 3 7 8 (by kernel_rfl) (Hq [5, 4] rfl) rfl rfl rfl ?_ ?_ ?_; refine L.call (js := []) (js' := [0]) (layout_c z p qq r) rfl rfl rfl (by decide) trivial rfl ?_
  rintro _ _ _ ⟨rfl, rfl, rfl⟩
  refine L.nm (by kernel_rfl) ?_; refine LM.a3 6 7 8 (by kernel_rfl) (Hq [5, 4] rfl) rfl rfl rfl ?_ ?_ ?_; refine L.call (js := []) (js' := [0]) (made_c r) rfl rfl rfl (by decide) trivial rfl ?_
  rintro _ _ _ ⟨rfl, rfl, rfl⟩
  refine L.nm (by kernel_rfl) ?_; refine LM.a2 7 8 (by kernel_rfl) (Hq [5, 4] rfl) rfl rfl ?_ ?_
  refine L.alloc rfl rfl rfl (fun A8 => ?_)
  refine L.nm (by kernel_rfl) ?_; refine LM.f 8 rfl (by kernel_rfl) (Hq [5, 4] rfl) ?_
  refine L.alloc rfl rfl rfl (fun A9 => ?_)
  refine L.norm (H' := [_, _, _]) [1, 2, 0] ⟨rfl, rfl, rfl, trivial⟩ (by decide) ?_; refine L.nm (by kernel_rfl) ?_
  rotate_left
  refine L.alloc rfl rfl rfl (fun A9 => ?_)
  refine L.nm (by kernel_rfl) ?_; refine LM.f 7 rfl (by kernel_rfl) (Hq [5, 4] rfl) ?_
  refine L.alloc rfl rfl rfl (fun A8 => ?_)
  refine L.norm (H' := [_, _, _]) [2, 1, 0] ⟨rfl, rfl, rfl, trivial⟩ (by decide) ?_; refine L.nm (by kernel_rfl) ?_
  rotate_left
  refine L.alloc rfl rfl rfl (fun A8 => ?_)
  refine L.nm (by kernel_rfl) ?_; refine LM.a2 6 8 (by kernel_rfl) (Hq [5, 4] rfl) rfl rfl ?_ ?_; refine L.call (js := []) (js' := [0, 1]) (made_c r) rfl rfl rfl (by decide) trivial rfl ?_
  rintro _ _ _ ⟨rfl, rfl, rfl⟩
  refine L.nm (by kernel_rfl) ?_; refine LM.f 8 rfl (by kernel_rfl) (Hq [5, 4] rfl) ?_
  refine L.alloc rfl rfl rfl (fun A9 => ?_)
  refine L.norm (H' := [_, _, _]) [1, 2, 0] ⟨rfl, rfl, rfl, trivial⟩ (by decide) ?_; refine L.nm (by kernel_rfl) ?_
  rotate_left
  refine L.alloc rfl rfl rfl (fun A9 => ?_)
  refine L.nm (by kernel_rfl) ?_; refine LM.f 6 rfl (by kernel_rfl) (Hq [5, 4] rfl) ?_; refine L.call (js := []) (js' := [0, 1, 2]) (made_c r) rfl rfl rfl (by decide) trivial rfl ?_
  rintro _ _ _ ⟨rfl, rfl, rfl⟩
  refine L.norm (H' := [_, _, _]) [1, 2, 0] ⟨rfl, rfl, rfl, trivial⟩ (by decide) ?_; refine L.nm (by kernel_rfl) ?_
  rotate_left
  refine L.alloc rfl rfl rfl (fun A9 => ?_)
  refine L.nm (by kernel_rfl) ?_; refine LM.a2 6 7 (by kernel_rfl) (Hq [5, 4] rfl) rfl rfl ?_ ?_; refine L.call (js := []) (js' := [0, 1]) (made_c r) rfl rfl rfl (by decide) trivial rfl ?_
  rintro _ _ _ ⟨rfl, rfl, rfl⟩
  refine L.nm (by kernel_rfl) ?_; refine LM.f 7 rfl (by kernel_rfl) (Hq [5, 4] rfl) ?_
  refine L.alloc rfl rfl rfl (fun A8 => ?_)
  refine L.norm (H' := [_, _, _]) [2, 1, 0] ⟨rfl, rfl, rfl, trivial⟩ (by decide) ?_; refine L.nm (by kernel_rfl) ?_
  rotate_left
  refine L.alloc rfl rfl rfl (fun A8 => ?_)
  refine L.nm (by kernel_rfl) ?_; refine LM.f 6 rfl (by kernel_rfl) (Hq [5, 4] rfl) ?_; refine L.call (js := []) (js' := [0, 1, 2]) (made_c r) rfl rfl rfl (by decide) trivial rfl ?_
  rintro _ _ _ ⟨rfl, rfl, rfl⟩
  refine L.norm (H' := [_, _, _]) [2, 1, 0] ⟨rfl, rfl, rfl, trivial⟩ (by decide) ?_; refine L.nm (by kernel_rfl) ?_
  rotate_left
  refine L.alloc rfl rfl rfl (fun A8 => ?_)
  refine L.nm (by kernel_rfl) ?_; refine LM.a2 3 8 (by kernel_rfl) (Hq [5, 4] rfl) rfl rfl ?_ ?_; refine L.call (js := []) (js' := [0, 1]) (layout_c z p qq r) rfl rfl rfl (by decide) trivial rfl ?_
  rintro _ _ _ ⟨rfl, rfl, rfl⟩
  refine L.nm (by kernel_rfl) ?_; refine LM.a2 6 8 (by kernel_rfl) (Hq [5, 4] rfl) rfl rfl ?_ ?_; refine L.call (js := []) (js' := [0, 1]) (made_c r) rfl rfl rfl (by decide) trivial rfl ?_
  rintro _ _ _ ⟨rfl, rfl, rfl⟩
  refine L.nm (by kernel_rfl) ?_; refine LM.f 8 rfl (by kernel_rfl) (Hq [5, 4] rfl) ?_
  refine L.alloc rfl rfl rfl (fun A9 => ?_)
  refine L.norm (H' := [_, _, _]) [1, 2, 0] ⟨rfl, rfl, rfl, trivial⟩ (by decide) ?_; refine L.nm (by kernel_rfl) ?_
  rotate_left
  refine L.alloc rfl rfl rfl (fun A9 => ?_)
  refine L.nm (by kernel_rfl) ?_; refine LM.f 6 rfl (by kernel_rfl) (Hq [5, 4] rfl) ?_; refine L.call (js := []) (js' := [0, 1, 2]) (made_c r) rfl rfl rfl (by decide) trivial rfl ?_
  rintro _ _ _ ⟨rfl, rfl, rfl⟩
  refine L.norm (H' := [_, _, _]) [1, 2, 0] ⟨rfl, rfl, rfl, trivial⟩ (by decide) ?_; refine L.nm (by kernel_rfl) ?_
  rotate_left
  refine L.alloc rfl rfl rfl (fun A9 => ?_)
  refine L.nm (by kernel_rfl) ?_; refine LM.f 3 rfl (by kernel_rfl) (Hq [5, 4] rfl) ?_; refine L.call (js := []) (js' := [0, 1, 2]) (layout_c z p qq r) rfl rfl rfl (by decide) trivial rfl ?_
  rintro _ _ _ ⟨rfl, rfl, rfl⟩
  refine L.nm (by kernel_rfl) ?_; refine LM.f 6 rfl (by kernel_rfl) (Hq [5, 4] rfl) ?_; refine L.call (js := []) (js' := [0, 1, 2]) (made_c r) rfl rfl rfl (by decide) trivial rfl ?_
  rintro _ _ _ ⟨rfl, rfl, rfl⟩
  refine L.norm (H' := [_, _, _]) [1, 2, 0] ⟨rfl, rfl, rfl, trivial⟩ (by decide) ?_; refine L.nm (by kernel_rfl) ?_
  rotate_left
  refine L.alloc rfl rfl rfl (fun A9 => ?_)
  refine L.nm (by kernel_rfl) ?_; refine LM.a2 3 7 (by kernel_rfl) (Hq [5, 4] rfl) rfl rfl ?_ ?_; refine L.call (js := []) (js' := [0, 1]) (layout_c z p qq r) rfl rfl rfl (by decide) trivial rfl ?_
  rintro _ _ _ ⟨rfl, rfl, rfl⟩
  refine L.nm (by kernel_rfl) ?_; refine LM.a2 6 7 (by kernel_rfl) (Hq [5, 4] rfl) rfl rfl ?_ ?_; refine L.call (js := []) (js' := [0, 1]) (made_c r) rfl rfl rfl (by decide) trivial rfl ?_
  rintro _ _ _ ⟨rfl, rfl, rfl⟩
  refine L.nm (by kernel_rfl) ?_; refine LM.f 7 rfl (by kernel_rfl) (Hq [5, 4] rfl) ?_
  refine L.alloc rfl rfl rfl (fun A8 => ?_)
  refine L.norm (H' := [_, _, _]) [2, 1, 0] ⟨rfl, rfl, rfl, trivial⟩ (by decide) ?_; refine L.nm (by kernel_rfl) ?_
  rotate_left
  refine L.alloc rfl rfl rfl (fun A8 => ?_)
  refine L.nm (by kernel_rfl) ?_; refine LM.f 6 rfl (by kernel_rfl) (Hq [5, 4] rfl) ?_; refine L.call (js := []) (js' := [0, 1, 2]) (made_c r) rfl rfl rfl (by decide) trivial rfl ?_
  rintro _ _ _ ⟨rfl, rfl, rfl⟩
  refine L.norm (H' := [_, _, _]) [2, 1, 0] ⟨rfl, rfl, rfl, trivial⟩ (by decide) ?_; refine L.nm (by kernel_rfl) ?_
  rotate_left
  refine L.alloc rfl rfl rfl (fun A8 => ?_)
  refine L.nm (by kernel_rfl) ?_; refine LM.f 3 rfl (by kernel_rfl) (Hq [5, 4] rfl) ?_; refine L.call (js := []) (js' := [0, 1, 2]) (layout_c z p qq r) rfl rfl rfl (by decide) trivial rfl ?_
  rintro _ _ _ ⟨rfl, rfl, rfl⟩
  refine L.nm (by kernel_rfl) ?_; refine LM.f 6 rfl (by kernel_rfl) (Hq [5, 4] rfl) ?_; refine L.call (js := []) (js' := [0, 1, 2]) (made_c r) rfl rfl rfl (by decide) trivial rfl ?_
  rintro _ _ _ ⟨rfl, rfl, rfl⟩
  refine L.norm (H' := [_, _, _]) [2, 1, 0] ⟨rfl, rfl, rfl, trivial⟩ (by decide) ?_; refine L.nm (by kernel_rfl) ?_
  rotate_left
  refine L.alloc rfl rfl rfl (fun A8 => ?_)
  refine L.nm (by kernel_rfl) ?_; refine LM.a2 1 8 (by kernel_rfl) (Hq [1, 0] rfl) rfl rfl ?_ ?_; refine L.callR (js := []) (js' := [0, 1]) (flash_c z p qq r) rfl rfl rfl (by decide) trivial rfl ?_
  rintro _ _ _ ⟨a, hb, hc, rfl, rfl, rfl⟩
  refine L.nm (by kernel_rfl) ?_; refine LM.a2 3 8 (by kernel_rfl) (Hq [5, 4] rfl) rfl rfl ?_ ?_; refine L.call (js := []) (js' := [0, 1]) (layout_c z p qq r) rfl rfl rfl (by decide) trivial rfl ?_
  rintro _ _ _ ⟨rfl, rfl, rfl⟩
  refine L.nm (by kernel_rfl) ?_; refine LM.a2 6 8 (by kernel_rfl) (Hq [5, 4] rfl) rfl rfl ?_ ?_; refine L.call (js := []) (js' := [0, 1]) (made_c r) rfl rfl rfl (by decide) trivial rfl ?_
  rintro _ _ _ ⟨rfl, rfl, rfl⟩
  refine L.nm (by kernel_rfl) ?_; refine LM.f 8 rfl (by kernel_rfl) (Hq [5, 4] rfl) ?_
  refine L.alloc rfl rfl rfl (fun A9 => ?_)
  refine L.norm (H' := [_, _, _]) [1, 2, 0] ⟨rfl, rfl, rfl, trivial⟩ (by decide) ?_; refine L.nm (by kernel_rfl) ?_
  rotate_left
  refine L.alloc rfl rfl rfl (fun A9 => ?_)
  refine L.nm (by kernel_rfl) ?_; refine LM.f 6 rfl (by kernel_rfl) (Hq [5, 4] rfl) ?_; refine L.call (js := []) (js' := [0, 1, 2]) (made_c r) rfl rfl rfl (by decide) trivial rfl ?_
  rintro _ _ _ ⟨rfl, rfl, rfl⟩
  refine L.norm (H' := [_, _, _]) [1, 2, 0] ⟨rfl, rfl, rfl, trivial⟩ (by decide) ?_; refine L.nm (by kernel_rfl) ?_
  rotate_left
  refine L.alloc rfl rfl rfl (fun A9 => ?_)
  refine L.nm (by kernel_rfl) ?_; refine LM.f 3 rfl (by kernel_rfl) (Hq [5, 4] rfl) ?_; refine L.call (js := []) (js' := [0, 1, 2]) (layout_c z p qq r) rfl rfl rfl (by decide) trivial rfl ?_
  rintro _ _ _ ⟨rfl, rfl, rfl⟩
  refine L.nm (by kernel_rfl) ?_; refine LM.f 6 rfl (by kernel_rfl) (Hq [5, 4] rfl) ?_; refine L.call (js := []) (js' := [0, 1, 2]) (made_c r) rfl rfl rfl (by decide) trivial rfl ?_
  rintro _ _ _ ⟨rfl, rfl, rfl⟩
  refine L.norm (H' := [_, _, _]) [1, 2, 0] ⟨rfl, rfl, rfl, trivial⟩ (by decide) ?_; refine L.nm (by kernel_rfl) ?_
  rotate_left
  refine L.alloc rfl rfl rfl (fun A9 => ?_)
  refine L.nm (by kernel_rfl) ?_; refine LM.f 1 rfl (by kernel_rfl) (Hq [1, 0] rfl) ?_; refine L.callR (js := []) (js' := [0, 1, 2]) (flash_c z p qq r) rfl rfl rfl (by decide) trivial rfl ?_
  rintro _ _ _ ⟨a, hb, hc, rfl, rfl, rfl⟩
  refine L.nm (by kernel_rfl) ?_; refine LM.f 3 rfl (by kernel_rfl) (Hq [5, 4] rfl) ?_; refine L.call (js := []) (js' := [0, 1, 2]) (layout_c z p qq r) rfl rfl rfl (by decide) trivial rfl ?_
  rintro _ _ _ ⟨rfl, rfl, rfl⟩
  refine L.nm (by kernel_rfl) ?_; refine LM.f 6 rfl (by kernel_rfl) (Hq [5, 4] rfl) ?_; refine L.call (js := []) (js' := [0, 1, 2]) (made_c r) rfl rfl rfl (by decide) trivial rfl ?_
  rintro _ _ _ ⟨rfl, rfl, rfl⟩
  refine L.norm (H' := [_, _, _]) [1, 2, 0] ⟨rfl, rfl, rfl, trivial⟩ (by decide) ?_; refine L.nm (by kernel_rfl) ?_
  rotate_left
  refine L.alloc rfl rfl rfl (fun A9 => ?_)
  refine L.nm (by kernel_rfl) ?_; refine LM.a2 1 7 (by kernel_rfl) (Hq [1, 0] rfl) rfl rfl ?_ ?_; refine L.callR (js := []) (js' := [0, 1]) (flash_c z p qq r) rfl rfl rfl (by decide) trivial rfl ?_
  rintro _ _ _ ⟨a, hb, hc, rfl, rfl, rfl⟩
  refine L.nm (by kernel_rfl) ?_; refine LM.a2 3 7 (by kernel_rfl) (Hq [5, 4] rfl) rfl rfl ?_ ?_; refine L.call (js := []) (js' := [0, 1]) (layout_c z p qq r) rfl rfl rfl (by decide) trivial rfl ?_
  rintro _ _ _ ⟨rfl, rfl, rfl⟩
  refine L.nm (by kernel_rfl) ?_; refine LM.a2 6 7 (by kernel_rfl) (Hq [5, 4] rfl) rfl rfl ?_ ?_; refine L.call (js := []) (js' := [0, 1]) (made_c r) rfl rfl rfl (by decide) trivial rfl ?_
  rintro _ _ _ ⟨rfl, rfl, rfl⟩
  refine L.nm (by kernel_rfl) ?_; refine LM.f 7 rfl (by kernel_rfl) (Hq [5, 4] rfl) ?_
  refine L.alloc rfl rfl rfl (fun A8 => ?_)
  refine L.norm (H' := [_, _, _]) [2, 1, 0] ⟨rfl, rfl, rfl, trivial⟩ (by decide) ?_; refine L.nm (by kernel_rfl) ?_
  rotate_left
  refine L.alloc rfl rfl rfl (fun A8 => ?_)
  refine L.nm (by kernel_rfl) ?_; refine LM.f 6 rfl (by kernel_rfl) (Hq [5, 4] rfl) ?_; refine L.call (js := []) (js' := [0, 1, 2]) (made_c r) rfl rfl rfl (by decide) trivial rfl ?_
  rintro _ _ _ ⟨rfl, rfl, rfl⟩
  refine L.norm (H' := [_, _, _]) [2, 1, 0] ⟨rfl, rfl, rfl, trivial⟩ (by decide) ?_; refine L.nm (by kernel_rfl) ?_
  rotate_left
  refine L.alloc rfl rfl rfl (fun A8 => ?_)
  refine L.nm (by kernel_rfl) ?_; refine LM.f 3 rfl (by kernel_rfl) (Hq [5, 4] rfl) ?_; refine L.call (js := []) (js' := [0, 1, 2]) (layout_c z p qq r) rfl rfl rfl (by decide) trivial rfl ?_
  rintro _ _ _ ⟨rfl, rfl, rfl⟩
  refine L.nm (by kernel_rfl) ?_; refine LM.f 6 rfl (by kernel_rfl) (Hq [5, 4] rfl) ?_; refine L.call (js := []) (js' := [0, 1, 2]) (made_c r) rfl rfl rfl (by decide) trivial rfl ?_
  rintro _ _ _ ⟨rfl, rfl, rfl⟩
  refine L.norm (H' := [_, _, _]) [2, 1, 0] ⟨rfl, rfl, rfl, trivial⟩ (by decide) ?_; refine L.nm (by kernel_rfl) ?_
  rotate_left
  refine L.alloc rfl rfl rfl (fun A8 => ?_)
  refine L.nm (by kernel_rfl) ?_; refine LM.f 1 rfl (by kernel_rfl) (Hq [1, 0] rfl) ?_; refine L.callR (js := []) (js' := [0, 1, 2]) (flash_c z p qq r) rfl rfl rfl (by decide) trivial rfl ?_
  rintro _ _ _ ⟨a, hb, hc, rfl, rfl, rfl⟩
  refine L.nm (by kernel_rfl) ?_; refine LM.f 3 rfl (by kernel_rfl) (Hq [5, 4] rfl) ?_; refine L.call (js := []) (js' := [0, 1, 2]) (layout_c z p qq r) rfl rfl rfl (by decide) trivial rfl ?_
  rintro _ _ _ ⟨rfl, rfl, rfl⟩
  refine L.nm (by kernel_rfl) ?_; refine LM.f 6 rfl (by kernel_rfl) (Hq [5, 4] rfl) ?_; refine L.call (js := []) (js' := [0, 1, 2]) (made_c r) rfl rfl rfl (by decide) trivial rfl ?_
  rintro _ _ _ ⟨rfl, rfl, rfl⟩
  refine L.norm (H' := [_, _, _]) [2, 1, 0] ⟨rfl, rfl, rfl, trivial⟩ (by decide) ?_; refine L.nm (by kernel_rfl) ?_
  rotate_left
  all_goals (
    refine LM.cut [] (by kernel_rfl) (Hq [5, 4] rfl) ?_; refine LM.f 10 rfl (by kernel_rfl) trivial ?_; refine L.storeA (j := 0) rfl rfl rfl rfl rfl (Nat.zero_lt_succ _) rfl rfl ?_
    refine L.nil (QE.m (by kernel_rfl) ?_)
    refine LM.f 11 rfl (by kernel_rfl) trivial ?_; refine L.storeA (j := 1) rfl rfl rfl rfl rfl (Nat.zero_lt_succ _) rfl rfl ?_
    refine L.nil (QE.m (by kernel_rfl) ?_)
    refine LM.f 12 rfl (by kernel_rfl) trivial ?_; refine L.storeA (j := 2) rfl rfl rfl rfl rfl (Nat.zero_lt_succ _) rfl rfl ?_
    refine L.nil (QE.m (by kernel_rfl) ?_)
    refine LM.nil (by kernel_rfl) trivial ?_
    refine QE.joined ((a, A8, A9, A10)) (by exact ⟨hb, hc⟩) (by exact Le.mk' (rs := [0, 1, 2, 3, 4]) (hs := [0, 1, 2]) ⟨rfl, rfl, rfl, rfl, rfl, rfl, trivial⟩ ⟨rfl, rfl, rfl, rfl, rfl, trivial⟩ ⟨rfl, rfl, rfl, trivial⟩ (by decide)))
 ·
  rintro ⟨a, A8, A9, A10⟩ ⟨hb, hc⟩
  dsimp only at hb hc ⊢
  refine QE.seq (C.seq ?_); refine C.freeze 0 rfl [1, 2] (by decide) (by decide) ?_; refine C.norm (H' := [_, _]) [0, 1] ⟨rfl, rfl, trivial⟩ (by decide) ?_; refine C.freeze 0 rfl [1] (by decide) (by decide) ?_; refine C.norm (H' := [_]) [0] ⟨rfl, trivial⟩ (by decide) ?_; refine C.freeze 0 rfl [] (by decide) (by decide) ?_; refine C.region ?_; refine L.step (Ev.loadA rfl rfl rfl (Src.r 0 rfl) rfl rfl (by decide)) rfl ?_
  refine L.alloc rfl rfl rfl (fun A11 => ?_)
  refine L.storeA (j := 0) rfl rfl rfl rfl rfl (Nat.zero_lt_succ _) rfl rfl ?_; refine L.nil (QE.seq (C.seq (C.region ?_))); refine L.step (Ev.fieldAddr rfl rfl rfl rfl rfl rfl (Src.r 0 rfl) (Nat.zero_lt_succ _) rfl) rfl ?_; refine L.step (Ev.load rfl rfl rfl (Src.r 0 rfl) (show _ = some (.int .i64 ((r.getD 2 0).toNat : Int)) from rfl)) rfl ?_; refine L.step (Ev.sub rfl rfl (by omega) (by omega)) rfl ?_; refine L.step (Ev.fieldAddr rfl rfl rfl rfl rfl rfl (Src.o 0 rfl) (Nat.zero_lt_succ _) rfl) rfl ?_; refine L.store (j := 0) rfl rfl rfl rfl rfl rfl rfl rfl ?_; refine L.nil (QE.seq (C.seq ?_)); refine C.freeze 0 rfl [] (by decide) (by decide) ?_; refine C.region ?_; refine L.step (Ev.idxArr (k := 0) (m := 0) rfl rfl rfl rfl rfl rfl (by decide) (Src.r 8 rfl) (by exact Nat.zero_lt_succ _) rfl) rfl ?_; refine L.step (Ev.load rfl rfl rfl (Src.r 8 rfl) rfl) rfl ?_; refine L.step (Ev.toInt rfl rfl rfl rfl (by omega) (by omega)) rfl ?_; refine L.step (Ev.idxArr (k := 1) (m := 1) rfl rfl rfl rfl rfl rfl (by decide) (Src.r 8 rfl) (by exact Nat.zero_lt_succ _) rfl) rfl ?_; refine L.step (Ev.load rfl rfl rfl (Src.r 8 rfl) rfl) rfl ?_; refine L.step (Ev.toInt rfl rfl rfl rfl (by omega) (by omega)) rfl ?_; refine L.step (Ev.buildArr rfl rfl rfl rfl rfl rfl rfl) rfl ?_; refine L.step (Ev.build rfl rfl rfl rfl rfl rfl rfl) rfl ?_
  refine L.alloc rfl rfl rfl (fun A12 => ?_)
  refine L.storeA (j := 0) rfl rfl rfl rfl rfl (Nat.zero_lt_succ _) rfl rfl ?_; refine L.nil (QE.seq ?_); refine C.seqJ (fun q : Bool => [(2, .int .u8 (kk.toNat : Int)), (7, .bool true), (8, ptrOf A8 0), (9, ptrOf A9 0), (10, ptrOf A10 0), (11, ptrOf A11 0), (12, ptrOf A12 0), (13, .bool q)]) (fun q : Bool => [Rd a.D (rowsV a.hs (B8 (flJ z p qq r).data)), KidsR a.hs (B8 (flJ z p qq r).data), Rd a.W (I64 (flJ z p qq r).wear), Rd a.E (Bs (flJ z p qq r).dead), Rd A8 (flL (flJ z p qq r) a), Rd A9 [.int .i64 0, .int .i64 (laA p), .int .i64 (laB p qq), .int .i64 0, .int .i64 0, .slice none 0 0, .slice none 0 0, .slice none 0 0], Rd A10 (st9 (madeS r)), Rd A4 [.int .i16 u, .int .i16 v], Rd A11 (st9 ((madeS r).set 2 (255 - ((r.getD 2 0).toNat : Int)))), Rd A12 [.int .i64 0, .int .i64 u, .int .i64 v, .int .i64 0, .int .i64 0, .slice none 0 0, .slice none 0 0, .slice none 0 0]]) (fun q : Bool => []) (fun q : Bool => q = fitsF (flJ z p qq r) (yB u v).a (yB u v).b) ?_ ?_
  ·
   refine C.freeze 0 rfl [] (by decide) (by decide) ?_; refine C.region ?_; refine L.step (Ev.idxArr (k := 0) (m := 0) rfl rfl rfl rfl rfl rfl (by decide) (Src.r 9 rfl) (by exact Nat.zero_lt_succ _) rfl) rfl ?_; refine L.step (Ev.load rfl rfl rfl (Src.r 9 rfl) rfl) rfl ?_; refine Lpu rfl rfl ?_; refine Lpu rfl rfl ?_
   refine L.bool 50 rfl (fun hg50 => ?_) (fun hg50 => ?_)
   ·
    replace hg50 := of_decide_eq_true hg50
    refine L.yes rfl ?_; refine L.step (Ev.idxArr (k := 0) (m := 0) rfl rfl rfl rfl rfl rfl (by decide) (Src.r 9 rfl) (by exact Nat.zero_lt_succ _) rfl) rfl ?_; refine L.yes rfl ?_; refine L.step (Ev.load rfl rfl rfl (Src.r 9 rfl) rfl) rfl ?_; refine L.yes rfl ?_; refine Lpu rfl rfl ?_; refine Lpu rfl rfl ?_; refine Lpu rfl rfl ?_
    refine L.bool 55 rfl (fun hg55 => ?_) (fun hg55 => ?_)
    ·
     replace hg55 := of_decide_eq_true hg55
     refine L.yes rfl ?_; refine L.step (Ev.idxArr (k := 1) (m := 1) rfl rfl rfl rfl rfl rfl (by decide) (Src.r 9 rfl) (by exact Nat.zero_lt_succ _) rfl) rfl ?_; refine L.yes rfl ?_; refine L.step (Ev.load rfl rfl rfl (Src.r 9 rfl) rfl) rfl ?_; refine L.yes rfl ?_; refine Lpu rfl rfl ?_; refine Lpu rfl rfl ?_; refine Lpu rfl rfl ?_
     refine L.bool 60 rfl (fun hg60 => ?_) (fun hg60 => ?_)
     ·
      replace hg60 := of_decide_eq_true hg60
      refine L.yes rfl ?_; refine L.step (Ev.idxArr (k := 1) (m := 1) rfl rfl rfl rfl rfl rfl (by decide) (Src.r 9 rfl) (by exact Nat.zero_lt_succ _) rfl) rfl ?_; refine L.yes rfl ?_; refine L.step (Ev.load rfl rfl rfl (Src.r 9 rfl) rfl) rfl ?_; refine L.yes rfl ?_; refine Lpu rfl rfl ?_; refine Lpu rfl rfl ?_; refine Lpu rfl rfl ?_
      refine L.bool 65 rfl (fun hg65 => ?_) (fun hg65 => ?_)
      ·
       replace hg65 := of_decide_eq_true hg65
       refine L.yes rfl ?_; refine L.step (Ev.idxArr (k := 0) (m := 0) rfl rfl rfl rfl rfl rfl (by decide) (Src.r 9 rfl) (by exact Nat.zero_lt_succ _) rfl) rfl ?_; refine L.yes rfl ?_; refine L.step (Ev.load rfl rfl rfl (Src.r 9 rfl) rfl) rfl ?_; refine L.yes rfl ?_; refine L.step (Ev.idxArr (k := 1) (m := 1) rfl rfl rfl rfl rfl rfl (by decide) (Src.r 9 rfl) (by exact Nat.zero_lt_succ _) rfl) rfl ?_; refine L.yes rfl ?_; refine L.step (Ev.load rfl rfl rfl (Src.r 9 rfl) rfl) rfl ?_; refine L.yes rfl ?_; refine Lpu rfl rfl ?_; refine Lpu rfl rfl ?_; refine Lpu rfl rfl ?_; refine L.nil ?_
       refine QE.join ((u != v)) (by exact by rw [fits_uv hn4 (by omega), Bool.eq_iff_iff, bne_iff_ne, decide_eq_true_iff]; exact ⟨fun h => ⟨h, by omega, by omega, by omega, by omega⟩, fun h => h.1⟩) (by exact Le.mk' (rs := [5, 6, 7, 8, 4, 3, 2, 9, 1, 0]) (hs := []) ⟨rfl, rfl, rfl, rfl, rfl, rfl, rfl, rfl, trivial⟩ ⟨rfl, rfl, rfl, rfl, rfl, rfl, rfl, rfl, rfl, rfl, trivial⟩ trivial (by decide))
      ·
       replace hg65 := of_decide_eq_false hg65
       refine L.no rfl rfl rfl ?_; refine L.no rfl rfl rfl ?_; refine L.no rfl rfl rfl ?_; refine L.no rfl rfl rfl ?_; refine L.no rfl rfl rfl ?_; refine Lpu rfl rfl ?_; refine Lpu rfl rfl ?_; refine L.nil ?_
       refine QE.join (false) (by exact by rw [fits_uv hn4 (by omega)]; simp; omega) (by exact Le.mk' (rs := [5, 6, 7, 8, 4, 3, 2, 9, 1, 0]) (hs := []) ⟨rfl, rfl, rfl, rfl, rfl, rfl, rfl, rfl, trivial⟩ ⟨rfl, rfl, rfl, rfl, rfl, rfl, rfl, rfl, rfl, rfl, trivial⟩ trivial (by decide))
     ·
      replace hg60 := of_decide_eq_false hg60
      refine L.no rfl rfl rfl ?_; refine L.no rfl rfl rfl ?_; refine L.no rfl rfl rfl ?_; refine Lpu rfl rfl ?_; refine Lpu rfl rfl ?_; refine L.no rfl rfl rfl ?_; refine L.no rfl rfl rfl ?_; refine L.no rfl rfl rfl ?_; refine L.no rfl rfl rfl ?_; refine L.no rfl rfl rfl ?_; refine Lpu rfl rfl ?_; refine Lpu rfl rfl ?_; refine L.nil ?_
      refine QE.join (false) (by exact by rw [fits_uv hn4 (by omega)]; simp; omega) (by exact Le.mk' (rs := [5, 6, 7, 8, 4, 3, 2, 9, 1, 0]) (hs := []) ⟨rfl, rfl, rfl, rfl, rfl, rfl, rfl, rfl, trivial⟩ ⟨rfl, rfl, rfl, rfl, rfl, rfl, rfl, rfl, rfl, rfl, trivial⟩ trivial (by decide))
    ·
     replace hg55 := of_decide_eq_false hg55
     refine L.no rfl rfl rfl ?_; refine L.no rfl rfl rfl ?_; refine L.no rfl rfl rfl ?_; refine Lpu rfl rfl ?_; refine Lpu rfl rfl ?_; refine L.no rfl rfl rfl ?_; refine L.no rfl rfl rfl ?_; refine L.no rfl rfl rfl ?_; refine Lpu rfl rfl ?_; refine Lpu rfl rfl ?_; refine L.no rfl rfl rfl ?_; refine L.no rfl rfl rfl ?_; refine L.no rfl rfl rfl ?_; refine L.no rfl rfl rfl ?_; refine L.no rfl rfl rfl ?_; refine Lpu rfl rfl ?_; refine Lpu rfl rfl ?_; refine L.nil ?_
     refine QE.join (false) (by exact by rw [fits_uv hn4 (by omega)]; simp; omega) (by exact Le.mk' (rs := [5, 6, 7, 8, 4, 3, 2, 9, 1, 0]) (hs := []) ⟨rfl, rfl, rfl, rfl, rfl, rfl, rfl, rfl, trivial⟩ ⟨rfl, rfl, rfl, rfl, rfl, rfl, rfl, rfl, rfl, rfl, trivial⟩ trivial (by decide))
   ·
    replace hg50 := of_decide_eq_false hg50
    refine L.no rfl rfl rfl ?_; refine L.no rfl rfl rfl ?_; refine L.no rfl rfl rfl ?_; refine Lpu rfl rfl ?_; refine Lpu rfl rfl ?_; refine L.no rfl rfl rfl ?_; refine L.no rfl rfl rfl ?_; refine L.no rfl rfl rfl ?_; refine Lpu rfl rfl ?_; refine Lpu rfl rfl ?_; refine L.no rfl rfl rfl ?_; refine L.no rfl rfl rfl ?_; refine L.no rfl rfl rfl ?_; refine Lpu rfl rfl ?_; refine Lpu rfl rfl ?_; refine L.no rfl rfl rfl ?_; refine L.no rfl rfl rfl ?_; refine L.no rfl rfl rfl ?_; refine L.no rfl rfl rfl ?_; refine L.no rfl rfl rfl ?_; refine Lpu rfl rfl ?_; refine Lpu rfl rfl ?_; refine L.nil ?_
    refine QE.join (false) (by exact by rw [fits_uv hn4 (by omega)]; simp; omega) (by exact Le.mk' (rs := [5, 6, 7, 8, 4, 3, 2, 9, 1, 0]) (hs := []) ⟨rfl, rfl, rfl, rfl, rfl, rfl, rfl, rfl, trivial⟩ ⟨rfl, rfl, rfl, rfl, rfl, rfl, rfl, rfl, rfl, rfl, trivial⟩ trivial (by decide))
  ·
   intro fv hfv
   refine C.seq (C.region ?_); refine L.step (Ev.loadA rfl rfl rfl (Src.r 4 rfl) rfl rfl (by decide)) rfl ?_; refine L.step (Ev.loadA rfl rfl rfl (Src.r 9 rfl) rfl rfl (by decide)) rfl ?_; refine L.step (Ev.loadA rfl rfl rfl (Src.r 6 rfl) rfl rfl (by decide)) rfl ?_; refine L.callR (js := []) (js' := []) (formatP_c (flJ z p qq r) a hok hb (yB u v) hc (madeS r) rfl) rfl rfl rfl (by decide) (Hq [0, 1, 2, 3] rfl) rfl ?_
   rintro _ _ _ ⟨b1, hb1, kb1, rfl, rfl, rfl⟩
   refine Lpu rfl rfl ?_; refine Lpu rfl rfl ?_; refine Lpu rfl rfl ?_
   refine L.alloc rfl rfl rfl (fun A14 => ?_)
   refine L.storeA (j := 0) rfl rfl rfl rfl rfl (Nat.zero_lt_succ _) rfl rfl ?_; refine Lpu rfl rfl ?_; refine L.nil (QE.seq ?_); refine C.seqJ (fun q : Unit => [(2, .int .u8 (kk.toNat : Int)), (7, .bool true), (8, ptrOf A8 0), (9, ptrOf A9 0), (10, ptrOf A10 0), (11, ptrOf A11 0)]) (fun q : Unit => [Rd a.D (rowsV a.hs (B8 (flJ z p qq r).data)), KidsR a.hs (B8 (flJ z p qq r).data), Rd a.W (I64 (flJ z p qq r).wear), Rd a.E (Bs (flJ z p qq r).dead), Rd A8 (flL (flJ z p qq r) a), Rd A9 [.int .i64 0, .int .i64 (laA p), .int .i64 (laB p qq), .int .i64 0, .int .i64 0, .slice none 0 0, .slice none 0 0, .slice none 0 0], Rd A10 (st9 (madeS r)), Rd A4 [.int .i16 u, .int .i16 v], Rd A11 (st9 ((madeS r).set 2 (255 - ((r.getD 2 0).toNat : Int))))]) (fun q : Unit => []) (fun q : Unit => True) ?_ ?_
   ·
    refine C.seq (C.region ?_); refine Lpu rfl rfl ?_; refine Lpu rfl rfl ?_; refine Lpu rfl rfl ?_; refine L.step (Ev.eqBool rfl rfl rfl rfl) rfl ?_; refine Lpu rfl rfl ?_
    refine L.bool 83 rfl (fun hg83 => ?_) (fun hg83 => ?_)
    ·
     rw [hfv, formatF_bad (made_right r)] at hg83; exact absurd hg83 (by cases fitsF (flJ z p qq r) (yB u v).a (yB u v).b <;> decide)
    ·
     refine L.yes rfl ?_; refine Lpu rfl rfl ?_; refine L.yes rfl ?_; refine Lpu rfl rfl ?_; refine L.yes rfl ?_; refine Lpu rfl rfl ?_
     refine L.bool 86 rfl (fun hg86 => ?_) (fun hg86 => ?_)
     ·
      have hno : fitsF (flJ z p qq r) (yB u v).a (yB u v).b = false := by rw [← hfv]; simpa using hg86
      refine L.yes rfl ?_; refine L.step (Ev.loadA rfl rfl rfl (Src.r 8 rfl) rfl rfl (by decide)) rfl ?_; refine L.yes rfl ?_; refine L.step (Ev.loadA rfl rfl rfl (Src.r 13 rfl) rfl rfl (by decide)) rfl ?_; refine L.yes rfl ?_; refine L.call (js := []) (js' := [0]) (lread_c (flJ z p qq r) a hok hb (yB u v) hc) rfl rfl rfl (by decide) (Hq [4, 5, 6, 7] rfl) rfl ?_
      rintro _ _ _ ⟨rfl, rfl, rfl⟩
      refine L.norm (H' := [_]) [0] ⟨rfl, trivial⟩ (by decide) ?_; refine L.yes rfl ?_; refine Lpu rfl rfl ?_; refine L.yes rfl ?_; refine Lpu rfl rfl ?_; refine L.yes rfl ?_; refine Lpu rfl rfl ?_
      refine L.bool 92 rfl (fun hg92 => ?_) (fun hg92 => ?_)
      ·
       replace hg92 := b_ne hg92
       exact absurd (readF_bad (findF_no hno)) hg92
      ·
       replace hg92 := b_eq hg92
       refine L.yes rfl ?_; refine L.step (Ev.loadA rfl rfl rfl (Src.r 8 rfl) rfl rfl (by decide)) rfl ?_; refine L.yes rfl ?_; refine L.step (Ev.loadA rfl rfl rfl (Src.r 13 rfl) rfl rfl (by decide)) rfl ?_; refine L.yes rfl ?_; refine L.step (Ev.loadA rfl rfl rfl (Src.r 10 rfl) rfl rfl (by decide)) rfl ?_; refine L.yes rfl ?_; refine L.callR (js := []) (js' := [0]) (lnext_c (flJ z p qq r) a hok hb (yB u v) hc (madeS r) rfl) rfl rfl rfl (by decide) (Hq [4, 5, 6, 7] rfl) rfl ?_
       rintro _ _ _ ⟨O1, c1, rfl, rfl, rfl⟩
       refine L.norm (H' := [_]) [0] ⟨rfl, trivial⟩ (by decide) ?_; refine L.yes rfl ?_; refine Lpu rfl rfl ?_; refine L.yes rfl ?_; refine Lpu rfl rfl ?_; refine L.yes rfl ?_; refine Lpu rfl rfl ?_; refine L.yes rfl ?_; refine Lpu rfl rfl ?_; refine Lpu rfl rfl ?_; refine L.nil (QE.seq ?_)
       refine C.condB 101 rfl (fun hc101 => ?_) (fun hc101 => ?_)
       ·
        replace hc101 := b_ne hc101
        exact absurd (nextF_bad (.inl (findF_no hno))) hc101
       ·
        replace hc101 := b_eq hc101
        refine C.skip ?_
        refine QE.join (()) (by exact trivial) (by exact Le.mk' (rs := [5, 6, 7, 8, 9, 10, 11, 12, 13]) (hs := []) ⟨rfl, rfl, rfl, rfl, rfl, rfl, trivial⟩ ⟨rfl, rfl, rfl, rfl, rfl, rfl, rfl, rfl, rfl, trivial⟩ trivial (by decide))
     ·
      refine L.no rfl rfl rfl ?_; refine L.no rfl rfl rfl ?_; refine L.no rfl rfl rfl ?_; refine L.no rfl rfl rfl ?_; refine L.no rfl rfl rfl ?_; refine L.no rfl rfl rfl ?_; refine L.no rfl rfl rfl ?_; refine L.no rfl rfl rfl ?_; refine L.no rfl rfl rfl ?_; refine L.no rfl rfl rfl ?_; refine L.no rfl rfl rfl ?_; refine L.no rfl rfl rfl ?_; refine L.no rfl rfl rfl ?_; refine L.yes rfl ?_; refine Lpu rfl rfl ?_; refine Lpu rfl rfl ?_; refine L.nil (QE.seq ?_)
      refine C.cond rfl (fun h => by cases h) (fun _ => ?_)
      refine C.skip ?_
      refine QE.join (()) (by exact trivial) (by exact Le.mk' (rs := [4, 5, 6, 7, 8, 9, 10, 11, 12]) (hs := []) ⟨rfl, rfl, rfl, rfl, rfl, rfl, trivial⟩ ⟨rfl, rfl, rfl, rfl, rfl, rfl, rfl, rfl, rfl, trivial⟩ trivial (by decide))
   ·
    rintro _ _
    refine C.seq (C.region ?_); refine L.call (js := []) (js' := []) (new17_c 37 4 60 (by decide) (by decide) (by decide) (by decide) (by decide) (by decide)) rfl rfl rfl (by decide) trivial rfl ?_
    rintro _ _ _ ⟨b2, rfl, rfl, rfl, hb2⟩
    refine L.kcaps 1 rfl (fun hkT => ?_)
    refine L.norm (H' := [_, _, _, _]) [0, 1, 2, 3] ⟨rfl, rfl, rfl, rfl, trivial⟩ (by decide) ?_; refine Lpu rfl rfl ?_; refine Lpu rfl rfl ?_; refine Lpu rfl rfl ?_
    refine L.alloc rfl rfl rfl (fun A16 => ?_)
    refine L.storeA (j := 4) rfl rfl rfl rfl rfl (Nat.zero_lt_succ _) rfl rfl ?_; refine Lpu rfl rfl ?_; refine L.nil (QE.seq (C.seq ?_))
    have hcT : Caps (fl0 37 4 60) b2 := fun i hi => by
      have e := hkT i hi
      rw [tiny_ok.rows i hi] at e
      exact e
    refine C.freeze 0 rfl [1, 2, 3, 4] (by decide) (by decide) ?_; refine C.norm (H' := [_, _, _, _]) [0, 1, 2, 3] ⟨rfl, rfl, rfl, rfl, trivial⟩ (by decide) ?_; refine C.freezeKids 0 rfl [1, 2, 3] (by decide) (by decide) ?_; refine C.norm (H' := [_, _, _]) [0, 1, 2] ⟨rfl, rfl, rfl, trivial⟩ (by decide) ?_; refine C.freeze 0 rfl [1, 2] (by decide) (by decide) ?_; refine C.norm (H' := [_, _]) [0, 1] ⟨rfl, rfl, trivial⟩ (by decide) ?_; refine C.freeze 0 rfl [1] (by decide) (by decide) ?_; refine C.norm (H' := [_]) [0] ⟨rfl, trivial⟩ (by decide) ?_; refine C.region ?_; refine L.step (Ev.loadA rfl rfl rfl (Src.o 0 rfl) rfl rfl (by decide)) rfl ?_; refine L.step (Ev.loadA rfl rfl rfl (Src.r 9 rfl) rfl rfl (by decide)) rfl ?_; refine L.step (Ev.loadA rfl rfl rfl (Src.r 10 rfl) rfl rfl (by decide)) rfl ?_; refine L.callR (js := []) (js' := [0]) (formatP_c (fl0 37 4 60) b2 tiny_ok hb2 (yJ p qq) hcT (madeS r) rfl) rfl rfl rfl (by decide) (Hq [3, 2, 1, 0] rfl) rfl ?_
    rintro _ _ _ ⟨b3, hb3, kb3, rfl, rfl, rfl⟩
    refine L.norm (H' := [_]) [0] ⟨rfl, trivial⟩ (by decide) ?_; refine Lpu rfl rfl ?_; refine Lpu rfl rfl ?_; refine Lpu rfl rfl ?_
    refine L.alloc rfl rfl rfl (fun A18 => ?_)
    refine L.storeA (j := 1) rfl rfl rfl rfl rfl (Nat.zero_lt_succ _) rfl rfl ?_; refine Lpu rfl rfl ?_; refine L.nil (QE.seq (C.seq (C.region ?_))); refine L.step (Ev.loadA rfl rfl rfl (Src.r 14 rfl) rfl rfl (by decide)) rfl ?_
    refine L.alloc rfl rfl rfl (fun A20 => ?_)
    refine L.storeA (j := 2) rfl rfl rfl rfl rfl (Nat.zero_lt_succ _) rfl rfl ?_; refine L.nil (QE.seq ?_); refine C.seqJ (fun q : List Int => [(2, .int .u8 (kk.toNat : Int)), (7, .bool true), (8, ptrOf A8 0), (9, ptrOf A9 0), (10, ptrOf A10 0), (11, ptrOf A11 0), (19, .int .i64 (formatF (fl0 37 4 60) (yJ p qq).a (yJ p qq).b (madeS r)).2), (20, ptrOf A20 0)]) (fun q : List Int => [Rd a.D (rowsV a.hs (B8 (flJ z p qq r).data)), KidsR a.hs (B8 (flJ z p qq r).data), Rd a.W (I64 (flJ z p qq r).wear), Rd a.E (Bs (flJ z p qq r).dead), Rd A8 (flL (flJ z p qq r) a), Rd A9 [.int .i64 0, .int .i64 (laA p), .int .i64 (laB p qq), .int .i64 0, .int .i64 0, .slice none 0 0, .slice none 0 0, .slice none 0 0], Rd A10 (st9 (madeS r)), Rd A4 [.int .i16 u, .int .i16 v], Rd A11 (st9 ((madeS r).set 2 (255 - ((r.getD 2 0).toNat : Int))))]) (fun q : List Int => [Own 29 9 A20 1 1 (st9 q)]) (fun q : List Int => q.length = 9 ∧ rightS q = false) ?_ ?_
    ·
     refine C.seq (C.region ?_); refine Lpu rfl rfl ?_; refine L.step (Ev.rem rfl rfl (by omega) (by decide)) rfl ?_; refine L.nil (QE.seq (C.block (C.seq (C.region ?_)))); refine Lpu rfl rfl ?_; refine Lpu rfl rfl ?_; refine L.nil (QE.seq ?_)
     refine C.condB 117 rfl (fun hc117 => ?_) (fun hc117 => ?_)
     ·
      replace hc117 := i_eq hc117
      refine C.region ?_; refine L.step (Ev.fieldAddr rfl rfl rfl rfl rfl rfl (Src.o 2 rfl) (Nat.zero_lt_succ _) rfl) rfl ?_; refine L.store (j := 2) rfl rfl rfl rfl rfl rfl rfl rfl ?_; refine L.nil ?_; refine QE.blkN ?_
      refine QE.join (((madeS r).set 0 256)) (by exact ⟨rfl, wrong_no r (by decide) (by decide)⟩) (by exact Le.mk' (rs := [8, 9, 10, 11, 12, 13, 14, 15, 16]) (hs := [2]) ⟨rfl, rfl, rfl, rfl, rfl, rfl, rfl, rfl, trivial⟩ ⟨rfl, rfl, rfl, rfl, rfl, rfl, rfl, rfl, rfl, trivial⟩ ⟨rfl, trivial⟩ (by decide))
     ·
      replace hc117 := i_ne hc117
      refine C.seq (C.region ?_); refine Lpu rfl rfl ?_; refine Lpu rfl rfl ?_; refine L.nil (QE.seq ?_)
      refine C.condB 120 rfl (fun hc120 => ?_) (fun hc120 => ?_)
      ·
       replace hc120 := i_eq hc120
       refine C.region ?_; refine L.step (Ev.fieldAddr rfl rfl rfl rfl rfl rfl (Src.o 2 rfl) (Nat.zero_lt_succ _) rfl) rfl ?_; refine L.store (j := 2) rfl rfl rfl rfl rfl rfl rfl rfl ?_; refine L.nil ?_; refine QE.blkN ?_
       refine QE.join (((madeS r).set 1 65536)) (by exact ⟨rfl, wrong_no r (by decide) (by decide)⟩) (by exact Le.mk' (rs := [8, 9, 10, 11, 12, 13, 14, 15, 16]) (hs := [2]) ⟨rfl, rfl, rfl, rfl, rfl, rfl, rfl, rfl, trivial⟩ ⟨rfl, rfl, rfl, rfl, rfl, rfl, rfl, rfl, rfl, trivial⟩ ⟨rfl, trivial⟩ (by decide))
      ·
       replace hc120 := i_ne hc120
       refine C.seq (C.region ?_); refine Lpu rfl rfl ?_; refine Lpu rfl rfl ?_; refine L.nil (QE.seq ?_)
       refine C.condB 123 rfl (fun hc123 => ?_) (fun hc123 => ?_)
       ·
        replace hc123 := i_eq hc123
        refine C.region ?_; refine L.step (Ev.fieldAddr rfl rfl rfl rfl rfl rfl (Src.o 2 rfl) (Nat.zero_lt_succ _) rfl) rfl ?_; refine L.store (j := 2) rfl rfl rfl rfl rfl rfl rfl rfl ?_; refine L.nil ?_; refine QE.blkN ?_
        refine QE.join (((madeS r).set 3 4294967296)) (by exact ⟨rfl, wrong_no r (by decide) (by decide)⟩) (by exact Le.mk' (rs := [8, 9, 10, 11, 12, 13, 14, 15, 16]) (hs := [2]) ⟨rfl, rfl, rfl, rfl, rfl, rfl, rfl, rfl, trivial⟩ ⟨rfl, rfl, rfl, rfl, rfl, rfl, rfl, rfl, rfl, trivial⟩ ⟨rfl, trivial⟩ (by decide))
       ·
        replace hc123 := i_ne hc123
        refine C.region ?_; refine L.step (Ev.fieldAddr rfl rfl rfl rfl rfl rfl (Src.o 2 rfl) (Nat.zero_lt_succ _) rfl) rfl ?_; refine L.store (j := 2) rfl rfl rfl rfl rfl rfl rfl rfl ?_; refine L.nil ?_; refine QE.blkN ?_
        refine QE.join (((madeS r).set 8 (-1))) (by exact ⟨rfl, wrong_no r (by decide) (by decide)⟩) (by exact Le.mk' (rs := [8, 9, 10, 11, 12, 13, 14, 15, 16]) (hs := [2]) ⟨rfl, rfl, rfl, rfl, rfl, rfl, rfl, rfl, trivial⟩ ⟨rfl, rfl, rfl, rfl, rfl, rfl, rfl, rfl, rfl, trivial⟩ ⟨rfl, trivial⟩ (by decide))
    ·
     intro wr hwr
     refine C.seq ?_; refine C.freeze 0 rfl [] (by decide) (by decide) ?_; refine C.region ?_; refine L.step (Ev.loadA rfl rfl rfl (Src.r 5 rfl) rfl rfl (by decide)) rfl ?_; refine L.step (Ev.loadA rfl rfl rfl (Src.r 6 rfl) rfl rfl (by decide)) rfl ?_; refine L.step (Ev.loadA rfl rfl rfl (Src.r 0 rfl) rfl rfl (by decide)) rfl ?_; refine L.callR (js := []) (js' := []) (formatP_c (flJ z p qq r) a hok hb (yJ p qq) hc wr hwr.1) rfl rfl rfl (by decide) (Hq [1, 2, 3, 4] rfl) rfl ?_
     rintro _ _ _ ⟨b4, hb4, kb4, rfl, rfl, rfl⟩
     refine Lpu rfl rfl ?_; refine Lpu rfl rfl ?_; refine Lpu rfl rfl ?_
     refine L.alloc rfl rfl rfl (fun A21 => ?_)
     refine L.storeA (j := 0) rfl rfl rfl rfl rfl (Nat.zero_lt_succ _) rfl rfl ?_; refine Lpu rfl rfl ?_; refine L.nil (QE.seq (C.seq ?_))
     have cp := copied_c (flJ z p qq r) a hok hb
     refine C.join (fun q : (Fa × Fa × Fa) × Option Addr × Option Addr × Option Addr => [(2, .int .u8 (kk.toNat : Int)), (7, .bool true), (8, ptrOf A8 0), (9, ptrOf A9 0), (10, ptrOf A10 0), (11, ptrOf A11 0), (19, .int .i64 (formatF (fl0 37 4 60) (yJ p qq).a (yJ p qq).b (madeS r)).2), (20, ptrOf A20 0), (22, .int .i64 (formatF (flJ z p qq r) (yJ p qq).a (yJ p qq).b wr).2), (23, ptrOf q.2.1 0), (24, ptrOf q.2.2.1 0), (25, ptrOf q.2.2.2 0)]) (fun q : (Fa × Fa × Fa) × Option Addr × Option Addr × Option Addr => [Rd a.D (rowsV a.hs (B8 (flJ z p qq r).data)), KidsR a.hs (B8 (flJ z p qq r).data), Rd a.W (I64 (flJ z p qq r).wear), Rd a.E (Bs (flJ z p qq r).dead), Rd A8 (flL (flJ z p qq r) a), Rd A9 [.int .i64 0, .int .i64 (laA p), .int .i64 (laB p qq), .int .i64 0, .int .i64 0, .slice none 0 0, .slice none 0 0, .slice none 0 0], Rd A10 (st9 (madeS r)), Rd A4 [.int .i16 u, .int .i16 v], Rd A11 (st9 ((madeS r).set 2 (255 - ((r.getD 2 0).toNat : Int)))), Rd A20 (st9 wr)]) (fun q : (Fa × Fa × Fa) × Option Addr × Option Addr × Option Addr => [Own 35 5 q.2.1 1 1 (flL (flJ z p qq r) q.1.1), Own 35 5 q.2.2.1 1 1 (flL (flJ z p qq r) q.1.2.1), Own 35 5 q.2.2.2 1 1 (flL (flJ z p qq r) q.1.2.2), Own 45 1 q.1.1.D (flJ z p qq r).data.length q.1.1.cD (rowsV q.1.1.hs (B8 (flJ z p qq r).data)), OwnKids 5 q.1.1.hs (B8 (flJ z p qq r).data), Own 3 1 q.1.1.W (flJ z p qq r).wear.length q.1.1.cW (I64 (flJ z p qq r).wear), Own 4 1 q.1.1.E (flJ z p qq r).dead.length q.1.1.cE (Bs (flJ z p qq r).dead), Own 45 1 q.1.2.1.D (flJ z p qq r).data.length q.1.2.1.cD (rowsV q.1.2.1.hs (B8 (flJ z p qq r).data)), OwnKids 5 q.1.2.1.hs (B8 (flJ z p qq r).data), Own 3 1 q.1.2.1.W (flJ z p qq r).wear.length q.1.2.1.cW (I64 (flJ z p qq r).wear), Own 4 1 q.1.2.1.E (flJ z p qq r).dead.length q.1.2.1.cE (Bs (flJ z p qq r).dead), Own 45 1 q.1.2.2.D (flJ z p qq r).data.length q.1.2.2.cD (rowsV q.1.2.2.hs (B8 (flJ z p qq r).data)), OwnKids 5 q.1.2.2.hs (B8 (flJ z p qq r).data), Own 3 1 q.1.2.2.W (flJ z p qq r).wear.length q.1.2.2.cW (I64 (flJ z p qq r).wear), Own 4 1 q.1.2.2.E (flJ z p qq r).dead.length q.1.2.2.cE (Bs (flJ z p qq r).dead)]) (fun q : (Fa × Fa × Fa) × Option Addr × Option Addr × Option Addr => q.1.1.hs.length = (flJ z p qq r).data.length ∧ (∀ i, i < (flJ z p qq r).data.length → ((flJ z p qq r).data.getD i []).length ≤ (q.1.1.hs.getD i (none, 0)).2) ∧ q.1.2.1.hs.length = (flJ z p qq r).data.length ∧ (∀ i, i < (flJ z p qq r).data.length → ((flJ z p qq r).data.getD i []).length ≤ (q.1.2.1.hs.getD i (none, 0)).2) ∧ q.1.2.2.hs.length = (flJ z p qq r).data.length ∧ (∀ i, i < (flJ z p qq r).data.length → ((flJ z p qq r).data.getD i []).length ≤ (q.1.2.2.hs.getD i (none, 0)).2)) ?_ ?_
     ·
      refine C.regionM [Rd a.D (rowsV a.hs (B8 (flJ z p qq r).data)), KidsR a.hs (B8 (flJ z p qq r).data), Rd a.W (I64 (flJ z p qq r).wear), Rd a.E (Bs (flJ z p qq r).dead), Rd A8 (flL (flJ z p qq r) a), Rd A9 [.int .i64 0, .int .i64 (laA p), .int .i64 (laB p qq), .int .i64 0, .int .i64 0, .slice none 0 0, .slice none 0 0, .slice none 0 0], Rd A10 (st9 (madeS r)), Rd A4 [.int .i16 u, .int .i16 v], Rd A11 (st9 ((madeS r).set 2 (255 - ((r.getD 2 0).toNat : Int)))), Rd A20 (st9 wr)] (Hq [5, 6, 7, 8, 9, 10, 11, 12, 13, 4] rfl) ?_; refine LM.q 0 rfl (by kernel_rfl) (Ev.loadA rfl rfl rfl (Src.r 4 rfl) rfl rfl (by decide)) rfl (Hq [5, 6, 7, 8, 9, 10, 11, 12, 13, 4] rfl) ?_; refine LM.q 2 rfl (by kernel_rfl) (Ev.loadA rfl rfl rfl (Src.r 4 rfl) rfl rfl (by decide)) rfl (Hq [5, 6, 7, 8, 9, 10, 11, 12, 13, 4] rfl) ?_; refine LM.q 4 rfl (by kernel_rfl) (Ev.loadA rfl rfl rfl (Src.r 4 rfl) rfl rfl (by decide)) rfl (Hq [5, 6, 7, 8, 9, 10, 11, 12, 13, 4] rfl) ?_; refine LM.a4 1 6 7 8 (by kernel_rfl) (Hq [5, 6, 7, 8, 9, 10, 11, 12, 13, 4] rfl) rfl rfl rfl rfl ?_ ?_ ?_ ?_; refine L.call (js := []) (js' := [0]) (cp) rfl rfl rfl (by decide) (Hq [5, 6, 7, 8] rfl) rfl ?_
      rintro _ _ _ ⟨x1, rfl, rfl, rfl, hx1⟩
      refine L.kcaps 1 rfl (fun hk1 => ?_)
      refine L.norm (H' := [_, _, _, _, _]) [0, 1, 2, 3, 4] ⟨rfl, rfl, rfl, rfl, rfl, trivial⟩ (by decide) ?_; refine L.nm (by kernel_rfl) ?_; refine LM.a4 3 6 7 8 (by kernel_rfl) (Hq [5, 6, 7, 8, 9, 10, 11, 12, 13, 4] rfl) rfl rfl rfl rfl ?_ ?_ ?_ ?_; refine L.call (js := []) (js' := [0, 1, 2, 3, 4]) (cp) rfl rfl rfl (by decide) (Hq [5, 6, 7, 8] rfl) rfl ?_
      rintro _ _ _ ⟨x2, rfl, rfl, rfl, hx2⟩
      refine L.kcaps 1 rfl (fun hk2 => ?_)
      refine L.norm (H' := [_, _, _, _, _, _, _, _, _]) [0, 1, 2, 3, 4, 5, 6, 7, 8] ⟨rfl, rfl, rfl, rfl, rfl, rfl, rfl, rfl, rfl, trivial⟩ (by decide) ?_; refine L.nm (by kernel_rfl) ?_; refine LM.a4 5 6 7 8 (by kernel_rfl) (Hq [5, 6, 7, 8, 9, 10, 11, 12, 13, 4] rfl) rfl rfl rfl rfl ?_ ?_ ?_ ?_; refine L.call (js := []) (js' := [0, 1, 2, 3, 4, 5, 6, 7, 8]) (cp) rfl rfl rfl (by decide) (Hq [5, 6, 7, 8] rfl) rfl ?_
      rintro _ _ _ ⟨x3, rfl, rfl, rfl, hx3⟩
      refine L.kcaps 1 rfl (fun hk3 => ?_)
      refine L.norm (H' := [_, _, _, _, _, _, _, _, _, _, _, _, _]) [0, 1, 2, 3, 4, 5, 6, 7, 8, 9, 10, 11, 12] ⟨rfl, rfl, rfl, rfl, rfl, rfl, rfl, rfl, rfl, rfl, rfl, rfl, rfl, trivial⟩ (by decide) ?_; refine L.nm (by kernel_rfl) ?_; refine LM.a3 6 7 8 (by kernel_rfl) (Hq [5, 6, 7, 8, 9, 10, 11, 12, 13, 4] rfl) rfl rfl rfl ?_ ?_ ?_
      refine L.alloc rfl rfl rfl (fun A23 => ?_)
      refine L.nm (by kernel_rfl) ?_; refine LM.a2 7 8 (by kernel_rfl) (Hq [5, 6, 7, 8, 9, 10, 11, 12, 13, 4] rfl) rfl rfl ?_ ?_
      refine L.alloc rfl rfl rfl (fun A24 => ?_)
      refine L.nm (by kernel_rfl) ?_; refine LM.f 8 rfl (by kernel_rfl) (Hq [5, 6, 7, 8, 9, 10, 11, 12, 13, 4] rfl) ?_
      refine L.alloc rfl rfl rfl (fun A25 => ?_)
      refine L.norm (H' := [_, _, _, _, _, _, _, _, _, _, _, _, _, _, _, _]) [12, 13, 14, 15, 8, 9, 10, 11, 4, 5, 6, 7, 0, 1, 2, 3] ⟨rfl, rfl, rfl, rfl, rfl, rfl, rfl, rfl, rfl, rfl, rfl, rfl, rfl, rfl, rfl, rfl, trivial⟩ (by decide) ?_; refine L.nm (by kernel_rfl) ?_
      rotate_left
      refine L.alloc rfl rfl rfl (fun A25 => ?_)
      refine L.nm (by kernel_rfl) ?_; refine LM.f 7 rfl (by kernel_rfl) (Hq [5, 6, 7, 8, 9, 10, 11, 12, 13, 4] rfl) ?_
      refine L.alloc rfl rfl rfl (fun A24 => ?_)
      refine L.norm (H' := [_, _, _, _, _, _, _, _, _, _, _, _, _, _, _, _]) [12, 13, 15, 14, 8, 9, 10, 11, 4, 5, 6, 7, 0, 1, 2, 3] ⟨rfl, rfl, rfl, rfl, rfl, rfl, rfl, rfl, rfl, rfl, rfl, rfl, rfl, rfl, rfl, rfl, trivial⟩ (by decide) ?_; refine L.nm (by kernel_rfl) ?_
      rotate_left
      refine L.alloc rfl rfl rfl (fun A24 => ?_)
      refine L.nm (by kernel_rfl) ?_; refine LM.a2 6 8 (by kernel_rfl) (Hq [5, 6, 7, 8, 9, 10, 11, 12, 13, 4] rfl) rfl rfl ?_ ?_
      refine L.alloc rfl rfl rfl (fun A23 => ?_)
      refine L.nm (by kernel_rfl) ?_; refine LM.f 8 rfl (by kernel_rfl) (Hq [5, 6, 7, 8, 9, 10, 11, 12, 13, 4] rfl) ?_
      refine L.alloc rfl rfl rfl (fun A25 => ?_)
      refine L.norm (H' := [_, _, _, _, _, _, _, _, _, _, _, _, _, _, _, _]) [12, 14, 13, 15, 8, 9, 10, 11, 4, 5, 6, 7, 0, 1, 2, 3] ⟨rfl, rfl, rfl, rfl, rfl, rfl, rfl, rfl, rfl, rfl, rfl, rfl, rfl, rfl, rfl, rfl, trivial⟩ (by decide) ?_; refine L.nm (by kernel_rfl) ?_
      rotate_left
      refine L.alloc rfl rfl rfl (fun A25 => ?_)
      refine L.nm (by kernel_rfl) ?_; refine LM.f 6 rfl (by kernel_rfl) (Hq [5, 6, 7, 8, 9, 10, 11, 12, 13, 4] rfl) ?_
      refine L.alloc rfl rfl rfl (fun A23 => ?_)
      refine L.norm (H' := [_, _, _, _, _, _, _, _, _, _, _, _, _, _, _, _]) [12, 15, 13, 14, 8, 9, 10, 11, 4, 5, 6, 7, 0, 1, 2, 3] ⟨rfl, rfl, rfl, rfl, rfl, rfl, rfl, rfl, rfl, rfl, rfl, rfl, rfl, rfl, rfl, rfl, trivial⟩ (by decide) ?_; refine L.nm (by kernel_rfl) ?_
      rotate_left
      refine L.alloc rfl rfl rfl (fun A25 => ?_)
      refine L.nm (by kernel_rfl) ?_; refine LM.a2 6 7 (by kernel_rfl) (Hq [5, 6, 7, 8, 9, 10, 11, 12, 13, 4] rfl) rfl rfl ?_ ?_
      refine L.alloc rfl rfl rfl (fun A23 => ?_)
      refine L.nm (by kernel_rfl) ?_; refine LM.f 7 rfl (by kernel_rfl) (Hq [5, 6, 7, 8, 9, 10, 11, 12, 13, 4] rfl) ?_
      refine L.alloc rfl rfl rfl (fun A24 => ?_)
      refine L.norm (H' := [_, _, _, _, _, _, _, _, _, _, _, _, _, _, _, _]) [12, 14, 15, 13, 8, 9, 10, 11, 4, 5, 6, 7, 0, 1, 2, 3] ⟨rfl, rfl, rfl, rfl, rfl, rfl, rfl, rfl, rfl, rfl, rfl, rfl, rfl, rfl, rfl, rfl, trivial⟩ (by decide) ?_; refine L.nm (by kernel_rfl) ?_
      rotate_left
      refine L.alloc rfl rfl rfl (fun A24 => ?_)
      refine L.nm (by kernel_rfl) ?_; refine LM.f 6 rfl (by kernel_rfl) (Hq [5, 6, 7, 8, 9, 10, 11, 12, 13, 4] rfl) ?_
      refine L.alloc rfl rfl rfl (fun A23 => ?_)
      refine L.norm (H' := [_, _, _, _, _, _, _, _, _, _, _, _, _, _, _, _]) [12, 15, 14, 13, 8, 9, 10, 11, 4, 5, 6, 7, 0, 1, 2, 3] ⟨rfl, rfl, rfl, rfl, rfl, rfl, rfl, rfl, rfl, rfl, rfl, rfl, rfl, rfl, rfl, rfl, trivial⟩ (by decide) ?_; refine L.nm (by kernel_rfl) ?_
      rotate_left
      refine L.alloc rfl rfl rfl (fun A23 => ?_)
      refine L.nm (by kernel_rfl) ?_; refine LM.a3 5 7 8 (by kernel_rfl) (Hq [5, 6, 7, 8, 9, 10, 11, 12, 13, 4] rfl) rfl rfl rfl ?_ ?_ ?_; refine L.call (js := []) (js' := [0, 1, 2, 3, 4, 5, 6, 7, 8, 9]) (cp) rfl rfl rfl (by decide) (Hq [5, 6, 7, 8] rfl) rfl ?_
      rintro _ _ _ ⟨x3, rfl, rfl, rfl, hx3⟩
      refine L.kcaps 1 rfl (fun hk3 => ?_)
      refine L.norm (H' := [_, _, _, _, _, _, _, _, _, _, _, _, _, _]) [0, 1, 2, 3, 4, 5, 6, 7, 8, 9, 10, 11, 12, 13] ⟨rfl, rfl, rfl, rfl, rfl, rfl, rfl, rfl, rfl, rfl, rfl, rfl, rfl, rfl, trivial⟩ (by decide) ?_; refine L.nm (by kernel_rfl) ?_; refine LM.a2 7 8 (by kernel_rfl) (Hq [5, 6, 7, 8, 9, 10, 11, 12, 13, 4] rfl) rfl rfl ?_ ?_
      refine L.alloc rfl rfl rfl (fun A24 => ?_)
      refine L.nm (by kernel_rfl) ?_; refine LM.f 8 rfl (by kernel_rfl) (Hq [5, 6, 7, 8, 9, 10, 11, 12, 13, 4] rfl) ?_
      refine L.alloc rfl rfl rfl (fun A25 => ?_)
      refine L.norm (H' := [_, _, _, _, _, _, _, _, _, _, _, _, _, _, _, _]) [12, 13, 14, 15, 8, 9, 10, 11, 4, 5, 6, 7, 0, 1, 2, 3] ⟨rfl, rfl, rfl, rfl, rfl, rfl, rfl, rfl, rfl, rfl, rfl, rfl, rfl, rfl, rfl, rfl, trivial⟩ (by decide) ?_; refine L.nm (by kernel_rfl) ?_
      rotate_left
      refine L.alloc rfl rfl rfl (fun A25 => ?_)
      refine L.nm (by kernel_rfl) ?_; refine LM.f 7 rfl (by kernel_rfl) (Hq [5, 6, 7, 8, 9, 10, 11, 12, 13, 4] rfl) ?_
      refine L.alloc rfl rfl rfl (fun A24 => ?_)
      refine L.norm (H' := [_, _, _, _, _, _, _, _, _, _, _, _, _, _, _, _]) [12, 13, 15, 14, 8, 9, 10, 11, 4, 5, 6, 7, 0, 1, 2, 3] ⟨rfl, rfl, rfl, rfl, rfl, rfl, rfl, rfl, rfl, rfl, rfl, rfl, rfl, rfl, rfl, rfl, trivial⟩ (by decide) ?_; refine L.nm (by kernel_rfl) ?_
      rotate_left
      refine L.alloc rfl rfl rfl (fun A24 => ?_)
      refine L.nm (by kernel_rfl) ?_; refine LM.a2 5 8 (by kernel_rfl) (Hq [5, 6, 7, 8, 9, 10, 11, 12, 13, 4] rfl) rfl rfl ?_ ?_; refine L.call (js := []) (js' := [0, 1, 2, 3, 4, 5, 6, 7, 8, 9, 10]) (cp) rfl rfl rfl (by decide) (Hq [5, 6, 7, 8] rfl) rfl ?_
      rintro _ _ _ ⟨x3, rfl, rfl, rfl, hx3⟩
      refine L.kcaps 1 rfl (fun hk3 => ?_)
      refine L.norm (H' := [_, _, _, _, _, _, _, _, _, _, _, _, _, _, _]) [0, 1, 2, 3, 4, 5, 6, 7, 8, 9, 10, 11, 12, 13, 14] ⟨rfl, rfl, rfl, rfl, rfl, rfl, rfl, rfl, rfl, rfl, rfl, rfl, rfl, rfl, rfl, trivial⟩ (by decide) ?_; refine L.nm (by kernel_rfl) ?_; refine LM.f 8 rfl (by kernel_rfl) (Hq [5, 6, 7, 8, 9, 10, 11, 12, 13, 4] rfl) ?_
      refine L.alloc rfl rfl rfl (fun A25 => ?_)
      refine L.norm (H' := [_, _, _, _, _, _, _, _, _, _, _, _, _, _, _, _]) [12, 13, 14, 15, 8, 9, 10, 11, 4, 5, 6, 7, 0, 1, 2, 3] ⟨rfl, rfl, rfl, rfl, rfl, rfl, rfl, rfl, rfl, rfl, rfl, rfl, rfl, rfl, rfl, rfl, trivial⟩ (by decide) ?_; refine L.nm (by kernel_rfl) ?_
      rotate_left
      refine L.alloc rfl rfl rfl (fun A25 => ?_)
      refine L.nm (by kernel_rfl) ?_; refine LM.f 5 rfl (by kernel_rfl) (Hq [5, 6, 7, 8, 9, 10, 11, 12, 13, 4] rfl) ?_; refine L.call (js := []) (js' := [0, 1, 2, 3, 4, 5, 6, 7, 8, 9, 10, 11]) (cp) rfl rfl rfl (by decide) (Hq [5, 6, 7, 8] rfl) rfl ?_
      rintro _ _ _ ⟨x3, rfl, rfl, rfl, hx3⟩
      refine L.kcaps 1 rfl (fun hk3 => ?_)
      refine L.norm (H' := [_, _, _, _, _, _, _, _, _, _, _, _, _, _, _, _]) [0, 1, 2, 3, 4, 5, 6, 7, 8, 9, 10, 11, 12, 13, 14, 15] ⟨rfl, rfl, rfl, rfl, rfl, rfl, rfl, rfl, rfl, rfl, rfl, rfl, rfl, rfl, rfl, rfl, trivial⟩ (by decide) ?_; refine L.norm (H' := [_, _, _, _, _, _, _, _, _, _, _, _, _, _, _, _]) [12, 13, 14, 15, 8, 9, 10, 11, 4, 5, 6, 7, 0, 1, 2, 3] ⟨rfl, rfl, rfl, rfl, rfl, rfl, rfl, rfl, rfl, rfl, rfl, rfl, rfl, rfl, rfl, rfl, trivial⟩ (by decide) ?_; refine L.nm (by kernel_rfl) ?_
      rotate_left
      refine L.alloc rfl rfl rfl (fun A25 => ?_)
      refine L.nm (by kernel_rfl) ?_; refine LM.a2 5 7 (by kernel_rfl) (Hq [5, 6, 7, 8, 9, 10, 11, 12, 13, 4] rfl) rfl rfl ?_ ?_; refine L.call (js := []) (js' := [0, 1, 2, 3, 4, 5, 6, 7, 8, 9, 10]) (cp) rfl rfl rfl (by decide) (Hq [5, 6, 7, 8] rfl) rfl ?_
      rintro _ _ _ ⟨x3, rfl, rfl, rfl, hx3⟩
      refine L.kcaps 1 rfl (fun hk3 => ?_)
      refine L.norm (H' := [_, _, _, _, _, _, _, _, _, _, _, _, _, _, _]) [0, 1, 2, 3, 4, 5, 6, 7, 8, 9, 10, 11, 12, 13, 14] ⟨rfl, rfl, rfl, rfl, rfl, rfl, rfl, rfl, rfl, rfl, rfl, rfl, rfl, rfl, rfl, trivial⟩ (by decide) ?_; refine L.nm (by kernel_rfl) ?_; refine LM.f 7 rfl (by kernel_rfl) (Hq [5, 6, 7, 8, 9, 10, 11, 12, 13, 4] rfl) ?_
      refine L.alloc rfl rfl rfl (fun A24 => ?_)
      refine L.norm (H' := [_, _, _, _, _, _, _, _, _, _, _, _, _, _, _, _]) [12, 13, 15, 14, 8, 9, 10, 11, 4, 5, 6, 7, 0, 1, 2, 3] ⟨rfl, rfl, rfl, rfl, rfl, rfl, rfl, rfl, rfl, rfl, rfl, rfl, rfl, rfl, rfl, rfl, trivial⟩ (by decide) ?_; refine L.nm (by kernel_rfl) ?_
      rotate_left
      refine L.alloc rfl rfl rfl (fun A24 => ?_)
      refine L.nm (by kernel_rfl) ?_; refine LM.f 5 rfl (by kernel_rfl) (Hq [5, 6, 7, 8, 9, 10, 11, 12, 13, 4] rfl) ?_; refine L.call (js := []) (js' := [0, 1, 2, 3, 4, 5, 6, 7, 8, 9, 10, 11]) (cp) rfl rfl rfl (by decide) (Hq [5, 6, 7, 8] rfl) rfl ?_
      rintro _ _ _ ⟨x3, rfl, rfl, rfl, hx3⟩
      refine L.kcaps 1 rfl (fun hk3 => ?_)
      refine L.norm (H' := [_, _, _, _, _, _, _, _, _, _, _, _, _, _, _, _]) [0, 1, 2, 3, 4, 5, 6, 7, 8, 9, 10, 11, 12, 13, 14, 15] ⟨rfl, rfl, rfl, rfl, rfl, rfl, rfl, rfl, rfl, rfl, rfl, rfl, rfl, rfl, rfl, rfl, trivial⟩ (by decide) ?_; refine L.norm (H' := [_, _, _, _, _, _, _, _, _, _, _, _, _, _, _, _]) [12, 13, 15, 14, 8, 9, 10, 11, 4, 5, 6, 7, 0, 1, 2, 3] ⟨rfl, rfl, rfl, rfl, rfl, rfl, rfl, rfl, rfl, rfl, rfl, rfl, rfl, rfl, rfl, rfl, trivial⟩ (by decide) ?_; refine L.nm (by kernel_rfl) ?_
      rotate_left
      refine L.alloc rfl rfl rfl (fun A24 => ?_)
      refine L.nm (by kernel_rfl) ?_; refine LM.a3 5 6 8 (by kernel_rfl) (Hq [5, 6, 7, 8, 9, 10, 11, 12, 13, 4] rfl) rfl rfl rfl ?_ ?_ ?_; refine L.call (js := []) (js' := [0, 1, 2, 3, 4, 5, 6, 7, 8, 9]) (cp) rfl rfl rfl (by decide) (Hq [5, 6, 7, 8] rfl) rfl ?_
      rintro _ _ _ ⟨x3, rfl, rfl, rfl, hx3⟩
      refine L.kcaps 1 rfl (fun hk3 => ?_)
      refine L.norm (H' := [_, _, _, _, _, _, _, _, _, _, _, _, _, _]) [0, 1, 2, 3, 4, 5, 6, 7, 8, 9, 10, 11, 12, 13] ⟨rfl, rfl, rfl, rfl, rfl, rfl, rfl, rfl, rfl, rfl, rfl, rfl, rfl, rfl, trivial⟩ (by decide) ?_; refine L.nm (by kernel_rfl) ?_; refine LM.a2 6 8 (by kernel_rfl) (Hq [5, 6, 7, 8, 9, 10, 11, 12, 13, 4] rfl) rfl rfl ?_ ?_
      refine L.alloc rfl rfl rfl (fun A23 => ?_)
      refine L.nm (by kernel_rfl) ?_; refine LM.f 8 rfl (by kernel_rfl) (Hq [5, 6, 7, 8, 9, 10, 11, 12, 13, 4] rfl) ?_
      refine L.alloc rfl rfl rfl (fun A25 => ?_)
      refine L.norm (H' := [_, _, _, _, _, _, _, _, _, _, _, _, _, _, _, _]) [12, 14, 13, 15, 8, 9, 10, 11, 4, 5, 6, 7, 0, 1, 2, 3] ⟨rfl, rfl, rfl, rfl, rfl, rfl, rfl, rfl, rfl, rfl, rfl, rfl, rfl, rfl, rfl, rfl, trivial⟩ (by decide) ?_; refine L.nm (by kernel_rfl) ?_
      rotate_left
      refine L.alloc rfl rfl rfl (fun A25 => ?_)
      refine L.nm (by kernel_rfl) ?_; refine LM.f 6 rfl (by kernel_rfl) (Hq [5, 6, 7, 8, 9, 10, 11, 12, 13, 4] rfl) ?_
      refine L.alloc rfl rfl rfl (fun A23 => ?_)
      refine L.norm (H' := [_, _, _, _, _, _, _, _, _, _, _, _, _, _, _, _]) [12, 15, 13, 14, 8, 9, 10, 11, 4, 5, 6, 7, 0, 1, 2, 3] ⟨rfl, rfl, rfl, rfl, rfl, rfl, rfl, rfl, rfl, rfl, rfl, rfl, rfl, rfl, rfl, rfl, trivial⟩ (by decide) ?_; refine L.nm (by kernel_rfl) ?_
      rotate_left
      refine L.alloc rfl rfl rfl (fun A23 => ?_)
      refine L.nm (by kernel_rfl) ?_; refine LM.a2 5 8 (by kernel_rfl) (Hq [5, 6, 7, 8, 9, 10, 11, 12, 13, 4] rfl) rfl rfl ?_ ?_; refine L.call (js := []) (js' := [0, 1, 2, 3, 4, 5, 6, 7, 8, 9, 10]) (cp) rfl rfl rfl (by decide) (Hq [5, 6, 7, 8] rfl) rfl ?_
      rintro _ _ _ ⟨x3, rfl, rfl, rfl, hx3⟩
      refine L.kcaps 1 rfl (fun hk3 => ?_)
      refine L.norm (H' := [_, _, _, _, _, _, _, _, _, _, _, _, _, _, _]) [0, 1, 2, 3, 4, 5, 6, 7, 8, 9, 10, 11, 12, 13, 14] ⟨rfl, rfl, rfl, rfl, rfl, rfl, rfl, rfl, rfl, rfl, rfl, rfl, rfl, rfl, rfl, trivial⟩ (by decide) ?_; refine L.nm (by kernel_rfl) ?_; refine LM.f 8 rfl (by kernel_rfl) (Hq [5, 6, 7, 8, 9, 10, 11, 12, 13, 4] rfl) ?_
      refine L.alloc rfl rfl rfl (fun A25 => ?_)
      refine L.norm (H' := [_, _, _, _, _, _, _, _, _, _, _, _, _, _, _, _]) [12, 14, 13, 15, 8, 9, 10, 11, 4, 5, 6, 7, 0, 1, 2, 3] ⟨rfl, rfl, rfl, rfl, rfl, rfl, rfl, rfl, rfl, rfl, rfl, rfl, rfl, rfl, rfl, rfl, trivial⟩ (by decide) ?_; refine L.nm (by kernel_rfl) ?_
      rotate_left
      refine L.alloc rfl rfl rfl (fun A25 => ?_)
      refine L.nm (by kernel_rfl) ?_; refine LM.f 5 rfl (by kernel_rfl) (Hq [5, 6, 7, 8, 9, 10, 11, 12, 13, 4] rfl) ?_; refine L.call (js := []) (js' := [0, 1, 2, 3, 4, 5, 6, 7, 8, 9, 10, 11]) (cp) rfl rfl rfl (by decide) (Hq [5, 6, 7, 8] rfl) rfl ?_
      rintro _ _ _ ⟨x3, rfl, rfl, rfl, hx3⟩
      refine L.kcaps 1 rfl (fun hk3 => ?_)
      refine L.norm (H' := [_, _, _, _, _, _, _, _, _, _, _, _, _, _, _, _]) [0, 1, 2, 3, 4, 5, 6, 7, 8, 9, 10, 11, 12, 13, 14, 15] ⟨rfl, rfl, rfl, rfl, rfl, rfl, rfl, rfl, rfl, rfl, rfl, rfl, rfl, rfl, rfl, rfl, trivial⟩ (by decide) ?_; refine L.norm (H' := [_, _, _, _, _, _, _, _, _, _, _, _, _, _, _, _]) [12, 14, 13, 15, 8, 9, 10, 11, 4, 5, 6, 7, 0, 1, 2, 3] ⟨rfl, rfl, rfl, rfl, rfl, rfl, rfl, rfl, rfl, rfl, rfl, rfl, rfl, rfl, rfl, rfl, trivial⟩ (by decide) ?_; refine L.nm (by kernel_rfl) ?_
      rotate_left
      refine L.alloc rfl rfl rfl (fun A25 => ?_)
      refine L.nm (by kernel_rfl) ?_; refine LM.a2 5 6 (by kernel_rfl) (Hq [5, 6, 7, 8, 9, 10, 11, 12, 13, 4] rfl) rfl rfl ?_ ?_; refine L.call (js := []) (js' := [0, 1, 2, 3, 4, 5, 6, 7, 8, 9, 10]) (cp) rfl rfl rfl (by decide) (Hq [5, 6, 7, 8] rfl) rfl ?_
      rintro _ _ _ ⟨x3, rfl, rfl, rfl, hx3⟩
      refine L.kcaps 1 rfl (fun hk3 => ?_)
      refine L.norm (H' := [_, _, _, _, _, _, _, _, _, _, _, _, _, _, _]) [0, 1, 2, 3, 4, 5, 6, 7, 8, 9, 10, 11, 12, 13, 14] ⟨rfl, rfl, rfl, rfl, rfl, rfl, rfl, rfl, rfl, rfl, rfl, rfl, rfl, rfl, rfl, trivial⟩ (by decide) ?_; refine L.nm (by kernel_rfl) ?_; refine LM.f 6 rfl (by kernel_rfl) (Hq [5, 6, 7, 8, 9, 10, 11, 12, 13, 4] rfl) ?_
      refine L.alloc rfl rfl rfl (fun A23 => ?_)
      refine L.norm (H' := [_, _, _, _, _, _, _, _, _, _, _, _, _, _, _, _]) [12, 15, 13, 14, 8, 9, 10, 11, 4, 5, 6, 7, 0, 1, 2, 3] ⟨rfl, rfl, rfl, rfl, rfl, rfl, rfl, rfl, rfl, rfl, rfl, rfl, rfl, rfl, rfl, rfl, trivial⟩ (by decide) ?_; refine L.nm (by kernel_rfl) ?_
      rotate_left
      refine L.alloc rfl rfl rfl (fun A23 => ?_)
      refine L.nm (by kernel_rfl) ?_; refine LM.f 5 rfl (by kernel_rfl) (Hq [5, 6, 7, 8, 9, 10, 11, 12, 13, 4] rfl) ?_; refine L.call (js := []) (js' := [0, 1, 2, 3, 4, 5, 6, 7, 8, 9, 10, 11]) (cp) rfl rfl rfl (by decide) (Hq [5, 6, 7, 8] rfl) rfl ?_
      rintro _ _ _ ⟨x3, rfl, rfl, rfl, hx3⟩
      refine L.kcaps 1 rfl (fun hk3 => ?_)
      refine L.norm (H' := [_, _, _, _, _, _, _, _, _, _, _, _, _, _, _, _]) [0, 1, 2, 3, 4, 5, 6, 7, 8, 9, 10, 11, 12, 13, 14, 15] ⟨rfl, rfl, rfl, rfl, rfl, rfl, rfl, rfl, rfl, rfl, rfl, rfl, rfl, rfl, rfl, rfl, trivial⟩ (by decide) ?_; refine L.norm (H' := [_, _, _, _, _, _, _, _, _, _, _, _, _, _, _, _]) [12, 15, 13, 14, 8, 9, 10, 11, 4, 5, 6, 7, 0, 1, 2, 3] ⟨rfl, rfl, rfl, rfl, rfl, rfl, rfl, rfl, rfl, rfl, rfl, rfl, rfl, rfl, rfl, rfl, trivial⟩ (by decide) ?_; refine L.nm (by kernel_rfl) ?_
      rotate_left
      refine L.alloc rfl rfl rfl (fun A25 => ?_)
      refine L.nm (by kernel_rfl) ?_; refine LM.a3 5 6 7 (by kernel_rfl) (Hq [5, 6, 7, 8, 9, 10, 11, 12, 13, 4] rfl) rfl rfl rfl ?_ ?_ ?_; refine L.call (js := []) (js' := [0, 1, 2, 3, 4, 5, 6, 7, 8, 9]) (cp) rfl rfl rfl (by decide) (Hq [5, 6, 7, 8] rfl) rfl ?_
      rintro _ _ _ ⟨x3, rfl, rfl, rfl, hx3⟩
      refine L.kcaps 1 rfl (fun hk3 => ?_)
      refine L.norm (H' := [_, _, _, _, _, _, _, _, _, _, _, _, _, _]) [0, 1, 2, 3, 4, 5, 6, 7, 8, 9, 10, 11, 12, 13] ⟨rfl, rfl, rfl, rfl, rfl, rfl, rfl, rfl, rfl, rfl, rfl, rfl, rfl, rfl, trivial⟩ (by decide) ?_; refine L.nm (by kernel_rfl) ?_; refine LM.a2 6 7 (by kernel_rfl) (Hq [5, 6, 7, 8, 9, 10, 11, 12, 13, 4] rfl) rfl rfl ?_ ?_
      refine L.alloc rfl rfl rfl (fun A23 => ?_)
      refine L.nm (by kernel_rfl) ?_; refine LM.f 7 rfl (by kernel_rfl) (Hq [5, 6, 7, 8, 9, 10, 11, 12, 13, 4] rfl) ?_
      refine L.alloc rfl rfl rfl (fun A24 => ?_)
      refine L.norm (H' := [_, _, _, _, _, _, _, _, _, _, _, _, _, _, _, _]) [12, 14, 15, 13, 8, 9, 10, 11, 4, 5, 6, 7, 0, 1, 2, 3] ⟨rfl, rfl, rfl, rfl, rfl, rfl, rfl, rfl, rfl, rfl, rfl, rfl, rfl, rfl, rfl, rfl, trivial⟩ (by decide) ?_; refine L.nm (by kernel_rfl) ?_
      rotate_left
      refine L.alloc rfl rfl rfl (fun A24 => ?_)
      refine L.nm (by kernel_rfl) ?_; refine LM.f 6 rfl (by kernel_rfl) (Hq [5, 6, 7, 8, 9, 10, 11, 12, 13, 4] rfl) ?_
      refine L.alloc rfl rfl rfl (fun A23 => ?_)
      refine L.norm (H' := [_, _, _, _, _, _, _, _, _, _, _, _, _, _, _, _]) [12, 15, 14, 13, 8, 9, 10, 11, 4, 5, 6, 7, 0, 1, 2, 3] ⟨rfl, rfl, rfl, rfl, rfl, rfl, rfl, rfl, rfl, rfl, rfl, rfl, rfl, rfl, rfl, rfl, trivial⟩ (by decide) ?_; refine L.nm (by kernel_rfl) ?_
      rotate_left
      refine L.alloc rfl rfl rfl (fun A23 => ?_)
      refine L.nm (by kernel_rfl) ?_; refine LM.a2 5 7 (by kernel_rfl) (Hq [5, 6, 7, 8, 9, 10, 11, 12, 13, 4] rfl) rfl rfl ?_ ?_; refine L.call (js := []) (js' := [0, 1, 2, 3, 4, 5, 6, 7, 8, 9, 10]) (cp) rfl rfl rfl (by decide) (Hq [5, 6, 7, 8] rfl) rfl ?_
      rintro _ _ _ ⟨x3, rfl, rfl, rfl, hx3⟩
      refine L.kcaps 1 rfl (fun hk3 => ?_)
      refine L.norm (H' := [_, _, _, _, _, _, _, _, _, _, _, _, _, _, _]) [0, 1, 2, 3, 4, 5, 6, 7, 8, 9, 10, 11, 12, 13, 14] ⟨rfl, rfl, rfl, rfl, rfl, rfl, rfl, rfl, rfl, rfl, rfl, rfl, rfl, rfl, rfl, trivial⟩ (by decide) ?_; refine L.nm (by kernel_rfl) ?_; refine LM.f 7 rfl (by kernel_rfl) (Hq [5, 6, 7, 8, 9, 10, 11, 12, 13, 4] rfl) ?_
      refine L.alloc rfl rfl rfl (fun A24 => ?_)
      refine L.norm (H' := [_, _, _, _, _, _, _, _, _, _, _, _, _, _, _, _]) [12, 14, 15, 13, 8, 9, 10, 11, 4, 5, 6, 7, 0, 1, 2, 3] ⟨rfl, rfl, rfl, rfl, rfl, rfl, rfl, rfl, rfl, rfl, rfl, rfl, rfl, rfl, rfl, rfl, trivial⟩ (by decide) ?_; refine L.nm (by kernel_rfl) ?_
      rotate_left
      refine L.alloc rfl rfl rfl (fun A24 => ?_)
      refine L.nm (by kernel_rfl) ?_; refine LM.f 5 rfl (by kernel_rfl) (Hq [5, 6, 7, 8, 9, 10, 11, 12, 13, 4] rfl) ?_; refine L.call (js := []) (js' := [0, 1, 2, 3, 4, 5, 6, 7, 8, 9, 10, 11]) (cp) rfl rfl rfl (by decide) (Hq [5, 6, 7, 8] rfl) rfl ?_
      rintro _ _ _ ⟨x3, rfl, rfl, rfl, hx3⟩
      refine L.kcaps 1 rfl (fun hk3 => ?_)
      refine L.norm (H' := [_, _, _, _, _, _, _, _, _, _, _, _, _, _, _, _]) [0, 1, 2, 3, 4, 5, 6, 7, 8, 9, 10, 11, 12, 13, 14, 15] ⟨rfl, rfl, rfl, rfl, rfl, rfl, rfl, rfl, rfl, rfl, rfl, rfl, rfl, rfl, rfl, rfl, trivial⟩ (by decide) ?_; refine L.norm (H' := [_, _, _, _, _, _, _, _, _, _, _, _, _, _, _, _]) [12, 14, 15, 13, 8, 9, 10, 11, 4, 5, 6, 7, 0, 1, 2, 3] ⟨rfl, rfl, rfl, rfl, rfl, rfl, rfl, rfl, rfl, rfl, rfl, rfl, rfl, rfl, rfl, rfl, trivial⟩ (by decide) ?_; refine L.nm (by kernel_rfl) ?_
      rotate_left
      refine L.alloc rfl rfl rfl (fun A24 => ?_)
      refine L.nm (by kernel_rfl) ?_; refine LM.a2 5 6 (by kernel_rfl) (Hq [5, 6, 7, 8, 9, 10, 11, 12, 13, 4] rfl) rfl rfl ?_ ?_; refine L.call (js := []) (js' := [0, 1, 2, 3, 4, 5, 6, 7, 8, 9, 10]) (cp) rfl rfl rfl (by decide) (Hq [5, 6, 7, 8] rfl) rfl ?_
      rintro _ _ _ ⟨x3, rfl, rfl, rfl, hx3⟩
      refine L.kcaps 1 rfl (fun hk3 => ?_)
      refine L.norm (H' := [_, _, _, _, _, _, _, _, _, _, _, _, _, _, _]) [0, 1, 2, 3, 4, 5, 6, 7, 8, 9, 10, 11, 12, 13, 14] ⟨rfl, rfl, rfl, rfl, rfl, rfl, rfl, rfl, rfl, rfl, rfl, rfl, rfl, rfl, rfl, trivial⟩ (by decide) ?_; refine L.nm (by kernel_rfl) ?_; refine LM.f 6 rfl (by kernel_rfl) (Hq [5, 6, 7, 8, 9, 10, 11, 12, 13, 4] rfl) ?_
      refine L.alloc rfl rfl rfl (fun A23 => ?_)
      refine L.norm (H' := [_, _, _, _, _, _, _, _, _, _, _, _, _, _, _, _]) [12, 15, 14, 13, 8, 9, 10, 11, 4, 5, 6, 7, 0, 1, 2, 3] ⟨rfl, rfl, rfl, rfl, rfl, rfl, rfl, rfl, rfl, rfl, rfl, rfl, rfl, rfl, rfl, rfl, trivial⟩ (by decide) ?_; refine L.nm (by kernel_rfl) ?_
      rotate_left
      refine L.alloc rfl rfl rfl (fun A23 => ?_)
      refine L.nm (by kernel_rfl) ?_; refine LM.f 5 rfl (by kernel_rfl) (Hq [5, 6, 7, 8, 9, 10, 11, 12, 13, 4] rfl) ?_; refine L.call (js := []) (js' := [0, 1, 2, 3, 4, 5, 6, 7, 8, 9, 10, 11]) (cp) rfl rfl rfl (by decide) (Hq [5, 6, 7, 8] rfl) rfl ?_
      rintro _ _ _ ⟨x3, rfl, rfl, rfl, hx3⟩
      refine L.kcaps 1 rfl (fun hk3 => ?_)
      refine L.norm (H' := [_, _, _, _, _, _, _, _, _, _, _, _, _, _, _, _]) [0, 1, 2, 3, 4, 5, 6, 7, 8, 9, 10, 11, 12, 13, 14, 15] ⟨rfl, rfl, rfl, rfl, rfl, rfl, rfl, rfl, rfl, rfl, rfl, rfl, rfl, rfl, rfl, rfl, trivial⟩ (by decide) ?_; refine L.norm (H' := [_, _, _, _, _, _, _, _, _, _, _, _, _, _, _, _]) [12, 15, 14, 13, 8, 9, 10, 11, 4, 5, 6, 7, 0, 1, 2, 3] ⟨rfl, rfl, rfl, rfl, rfl, rfl, rfl, rfl, rfl, rfl, rfl, rfl, rfl, rfl, rfl, rfl, trivial⟩ (by decide) ?_; refine L.nm (by kernel_rfl) ?_
      rotate_left
      refine L.alloc rfl rfl rfl (fun A23 => ?_)
      refine L.nm (by kernel_rfl) ?_; refine LM.a3 3 7 8 (by kernel_rfl) (Hq [5, 6, 7, 8, 9, 10, 11, 12, 13, 4] rfl) rfl rfl rfl ?_ ?_ ?_; refine L.call (js := []) (js' := [0, 1, 2, 3, 4, 5]) (cp) rfl rfl rfl (by decide) (Hq [5, 6, 7, 8] rfl) rfl ?_
      rintro _ _ _ ⟨x2, rfl, rfl, rfl, hx2⟩
      refine L.kcaps 1 rfl (fun hk2 => ?_)
      refine L.norm (H' := [_, _, _, _, _, _, _, _, _, _]) [0, 1, 2, 3, 4, 5, 6, 7, 8, 9] ⟨rfl, rfl, rfl, rfl, rfl, rfl, rfl, rfl, rfl, rfl, trivial⟩ (by decide) ?_; refine L.nm (by kernel_rfl) ?_; refine LM.a3 5 7 8 (by kernel_rfl) (Hq [5, 6, 7, 8, 9, 10, 11, 12, 13, 4] rfl) rfl rfl rfl ?_ ?_ ?_; refine L.call (js := []) (js' := [0, 1, 2, 3, 4, 5, 6, 7, 8, 9]) (cp) rfl rfl rfl (by decide) (Hq [5, 6, 7, 8] rfl) rfl ?_
      rintro _ _ _ ⟨x3, rfl, rfl, rfl, hx3⟩
      refine L.kcaps 1 rfl (fun hk3 => ?_)
      refine L.norm (H' := [_, _, _, _, _, _, _, _, _, _, _, _, _, _]) [0, 1, 2, 3, 4, 5, 6, 7, 8, 9, 10, 11, 12, 13] ⟨rfl, rfl, rfl, rfl, rfl, rfl, rfl, rfl, rfl, rfl, rfl, rfl, rfl, rfl, trivial⟩ (by decide) ?_; refine L.nm (by kernel_rfl) ?_; refine LM.a2 7 8 (by kernel_rfl) (Hq [5, 6, 7, 8, 9, 10, 11, 12, 13, 4] rfl) rfl rfl ?_ ?_
      refine L.alloc rfl rfl rfl (fun A24 => ?_)
      refine L.nm (by kernel_rfl) ?_; refine LM.f 8 rfl (by kernel_rfl) (Hq [5, 6, 7, 8, 9, 10, 11, 12, 13, 4] rfl) ?_
      refine L.alloc rfl rfl rfl (fun A25 => ?_)
      refine L.norm (H' := [_, _, _, _, _, _, _, _, _, _, _, _, _, _, _, _]) [12, 13, 14, 15, 8, 9, 10, 11, 4, 5, 6, 7, 0, 1, 2, 3] ⟨rfl, rfl, rfl, rfl, rfl, rfl, rfl, rfl, rfl, rfl, rfl, rfl, rfl, rfl, rfl, rfl, trivial⟩ (by decide) ?_; refine L.nm (by kernel_rfl) ?_
      rotate_left
      refine L.alloc rfl rfl rfl (fun A25 => ?_)
      refine L.nm (by kernel_rfl) ?_; refine LM.f 7 rfl (by kernel_rfl) (Hq [5, 6, 7, 8, 9, 10, 11, 12, 13, 4] rfl) ?_
      refine L.alloc rfl rfl rfl (fun A24 => ?_)
      refine L.norm (H' := [_, _, _, _, _, _, _, _, _, _, _, _, _, _, _, _]) [12, 13, 15, 14, 8, 9, 10, 11, 4, 5, 6, 7, 0, 1, 2, 3] ⟨rfl, rfl, rfl, rfl, rfl, rfl, rfl, rfl, rfl, rfl, rfl, rfl, rfl, rfl, rfl, rfl, trivial⟩ (by decide) ?_; refine L.nm (by kernel_rfl) ?_
      rotate_left
      refine L.alloc rfl rfl rfl (fun A24 => ?_)
      refine L.nm (by kernel_rfl) ?_; refine LM.a2 5 8 (by kernel_rfl) (Hq [5, 6, 7, 8, 9, 10, 11, 12, 13, 4] rfl) rfl rfl ?_ ?_; refine L.call (js := []) (js' := [0, 1, 2, 3, 4, 5, 6, 7, 8, 9, 10]) (cp) rfl rfl rfl (by decide) (Hq [5, 6, 7, 8] rfl) rfl ?_
      rintro _ _ _ ⟨x3, rfl, rfl, rfl, hx3⟩
      refine L.kcaps 1 rfl (fun hk3 => ?_)
      refine L.norm (H' := [_, _, _, _, _, _, _, _, _, _, _, _, _, _, _]) [0, 1, 2, 3, 4, 5, 6, 7, 8, 9, 10, 11, 12, 13, 14] ⟨rfl, rfl, rfl, rfl, rfl, rfl, rfl, rfl, rfl, rfl, rfl, rfl, rfl, rfl, rfl, trivial⟩ (by decide) ?_; refine L.nm (by kernel_rfl) ?_; refine LM.f 8 rfl (by kernel_rfl) (Hq [5, 6, 7, 8, 9, 10, 11, 12, 13, 4] rfl) ?_
      refine L.alloc rfl rfl rfl (fun A25 => ?_)
      refine L.norm (H' := [_, _, _, _, _, _, _, _, _, _, _, _, _, _, _, _]) [12, 13, 14, 15, 8, 9, 10, 11, 4, 5, 6, 7, 0, 1, 2, 3] ⟨rfl, rfl, rfl, rfl, rfl, rfl, rfl, rfl, rfl, rfl, rfl, rfl, rfl, rfl, rfl, rfl, trivial⟩ (by decide) ?_; refine L.nm (by kernel_rfl) ?_
      rotate_left
      refine L.alloc rfl rfl rfl (fun A25 => ?_)
      refine L.nm (by kernel_rfl) ?_; refine LM.f 5 rfl (by kernel_rfl) (Hq [5, 6, 7, 8, 9, 10, 11, 12, 13, 4] rfl) ?_; refine L.call (js := []) (js' := [0, 1, 2, 3, 4, 5, 6, 7, 8, 9, 10, 11]) (cp) rfl rfl rfl (by decide) (Hq [5, 6, 7, 8] rfl) rfl ?_
      rintro _ _ _ ⟨x3, rfl, rfl, rfl, hx3⟩
      refine L.kcaps 1 rfl (fun hk3 => ?_)
      refine L.norm (H' := [_, _, _, _, _, _, _, _, _, _, _, _, _, _, _, _]) [0, 1, 2, 3, 4, 5, 6, 7, 8, 9, 10, 11, 12, 13, 14, 15] ⟨rfl, rfl, rfl, rfl, rfl, rfl, rfl, rfl, rfl, rfl, rfl, rfl, rfl, rfl, rfl, rfl, trivial⟩ (by decide) ?_; refine L.norm (H' := [_, _, _, _, _, _, _, _, _, _, _, _, _, _, _, _]) [12, 13, 14, 15, 8, 9, 10, 11, 4, 5, 6, 7, 0, 1, 2, 3] ⟨rfl, rfl, rfl, rfl, rfl, rfl, rfl, rfl, rfl, rfl, rfl, rfl, rfl, rfl, rfl, rfl, trivial⟩ (by decide) ?_; refine L.nm (by kernel_rfl) ?_
      rotate_left
      refine L.alloc rfl rfl rfl (fun A25 => ?_)
      refine L.nm (by kernel_rfl) ?_; refine LM.a2 5 7 (by kernel_rfl) (Hq [5, 6, 7, 8, 9, 10, 11, 12, 13, 4] rfl) rfl rfl ?_ ?_; refine L.call (js := []) (js' := [0, 1, 2, 3, 4, 5, 6, 7, 8, 9, 10]) (cp) rfl rfl rfl (by decide) (Hq [5, 6, 7, 8] rfl) rfl ?_
      rintro _ _ _ ⟨x3, rfl, rfl, rfl, hx3⟩
      refine L.kcaps 1 rfl (fun hk3 => ?_)
      refine L.norm (H' := [_, _, _, _, _, _, _, _, _, _, _, _, _, _, _]) [0, 1, 2, 3, 4, 5, 6, 7, 8, 9, 10, 11, 12, 13, 14] ⟨rfl, rfl, rfl, rfl, rfl, rfl, rfl, rfl, rfl, rfl, rfl, rfl, rfl, rfl, rfl, trivial⟩ (by decide) ?_; refine L.nm (by kernel_rfl) ?_; refine LM.f 7 rfl (by kernel_rfl) (Hq [5, 6, 7, 8, 9, 10, 11, 12, 13, 4] rfl) ?_
      refine L.alloc rfl rfl rfl (fun A24 => ?_)
      refine L.norm (H' := [_, _, _, _, _, _, _, _, _, _, _, _, _, _, _, _]) [12, 13, 15, 14, 8, 9, 10, 11, 4, 5, 6, 7, 0, 1, 2, 3] ⟨rfl, rfl, rfl, rfl, rfl, rfl, rfl, rfl, rfl, rfl, rfl, rfl, rfl, rfl, rfl, rfl, trivial⟩ (by decide) ?_; refine L.nm (by kernel_rfl) ?_
      rotate_left
      refine L.alloc rfl rfl rfl (fun A24 => ?_)
      refine L.nm (by kernel_rfl) ?_; refine LM.f 5 rfl (by kernel_rfl) (Hq [5, 6, 7, 8, 9, 10, 11, 12, 13, 4] rfl) ?_; refine L.call (js := []) (js' := [0, 1, 2, 3, 4, 5, 6, 7, 8, 9, 10, 11]) (cp) rfl rfl rfl (by decide) (Hq [5, 6, 7, 8] rfl) rfl ?_
      rintro _ _ _ ⟨x3, rfl, rfl, rfl, hx3⟩
      refine L.kcaps 1 rfl (fun hk3 => ?_)
      refine L.norm (H' := [_, _, _, _, _, _, _, _, _, _, _, _, _, _, _, _]) [0, 1, 2, 3, 4, 5, 6, 7, 8, 9, 10, 11, 12, 13, 14, 15] ⟨rfl, rfl, rfl, rfl, rfl, rfl, rfl, rfl, rfl, rfl, rfl, rfl, rfl, rfl, rfl, rfl, trivial⟩ (by decide) ?_; refine L.norm (H' := [_, _, _, _, _, _, _, _, _, _, _, _, _, _, _, _]) [12, 13, 15, 14, 8, 9, 10, 11, 4, 5, 6, 7, 0, 1, 2, 3] ⟨rfl, rfl, rfl, rfl, rfl, rfl, rfl, rfl, rfl, rfl, rfl, rfl, rfl, rfl, rfl, rfl, trivial⟩ (by decide) ?_; refine L.nm (by kernel_rfl) ?_
      rotate_left
      refine L.alloc rfl rfl rfl (fun A24 => ?_)
      refine L.nm (by kernel_rfl) ?_; refine LM.a2 3 8 (by kernel_rfl) (Hq [5, 6, 7, 8, 9, 10, 11, 12, 13, 4] rfl) rfl rfl ?_ ?_; refine L.call (js := []) (js' := [0, 1, 2, 3, 4, 5, 6]) (cp) rfl rfl rfl (by decide) (Hq [5, 6, 7, 8] rfl) rfl ?_
      rintro _ _ _ ⟨x2, rfl, rfl, rfl, hx2⟩
      refine L.kcaps 1 rfl (fun hk2 => ?_)
      refine L.norm (H' := [_, _, _, _, _, _, _, _, _, _, _]) [0, 1, 2, 3, 4, 5, 6, 7, 8, 9, 10] ⟨rfl, rfl, rfl, rfl, rfl, rfl, rfl, rfl, rfl, rfl, rfl, trivial⟩ (by decide) ?_; refine L.nm (by kernel_rfl) ?_; refine LM.a2 5 8 (by kernel_rfl) (Hq [5, 6, 7, 8, 9, 10, 11, 12, 13, 4] rfl) rfl rfl ?_ ?_; refine L.call (js := []) (js' := [0, 1, 2, 3, 4, 5, 6, 7, 8, 9, 10]) (cp) rfl rfl rfl (by decide) (Hq [5, 6, 7, 8] rfl) rfl ?_
      rintro _ _ _ ⟨x3, rfl, rfl, rfl, hx3⟩
      refine L.kcaps 1 rfl (fun hk3 => ?_)
      refine L.norm (H' := [_, _, _, _, _, _, _, _, _, _, _, _, _, _, _]) [0, 1, 2, 3, 4, 5, 6, 7, 8, 9, 10, 11, 12, 13, 14] ⟨rfl, rfl, rfl, rfl, rfl, rfl, rfl, rfl, rfl, rfl, rfl, rfl, rfl, rfl, rfl, trivial⟩ (by decide) ?_; refine L.nm (by kernel_rfl) ?_; refine LM.f 8 rfl (by kernel_rfl) (Hq [5, 6, 7, 8, 9, 10, 11, 12, 13, 4] rfl) ?_
      refine L.alloc rfl rfl rfl (fun A25 => ?_)
      refine L.norm (H' := [_, _, _, _, _, _, _, _, _, _, _, _, _, _, _, _]) [12, 13, 14, 15, 8, 9, 10, 11, 4, 5, 6, 7, 0, 1, 2, 3] ⟨rfl, rfl, rfl, rfl, rfl, rfl, rfl, rfl, rfl, rfl, rfl, rfl, rfl, rfl, rfl, rfl, trivial⟩ (by decide) ?_; refine L.nm (by kernel_rfl) ?_
      rotate_left
      refine L.alloc rfl rfl rfl (fun A25 => ?_)
      refine L.nm (by kernel_rfl) ?_; refine LM.f 5 rfl (by kernel_rfl) (Hq [5, 6, 7, 8, 9, 10, 11, 12, 13, 4] rfl) ?_; refine L.call (js := []) (js' := [0, 1, 2, 3, 4, 5, 6, 7, 8, 9, 10, 11]) (cp) rfl rfl rfl (by decide) (Hq [5, 6, 7, 8] rfl) rfl ?_
      rintro _ _ _ ⟨x3, rfl, rfl, rfl, hx3⟩
      refine L.kcaps 1 rfl (fun hk3 => ?_)
      refine L.norm (H' := [_, _, _, _, _, _, _, _, _, _, _, _, _, _, _, _]) [0, 1, 2, 3, 4, 5, 6, 7, 8, 9, 10, 11, 12, 13, 14, 15] ⟨rfl, rfl, rfl, rfl, rfl, rfl, rfl, rfl, rfl, rfl, rfl, rfl, rfl, rfl, rfl, rfl, trivial⟩ (by decide) ?_; refine L.norm (H' := [_, _, _, _, _, _, _, _, _, _, _, _, _, _, _, _]) [12, 13, 14, 15, 8, 9, 10, 11, 4, 5, 6, 7, 0, 1, 2, 3] ⟨rfl, rfl, rfl, rfl, rfl, rfl, rfl, rfl, rfl, rfl, rfl, rfl, rfl, rfl, rfl, rfl, trivial⟩ (by decide) ?_; refine L.nm (by kernel_rfl) ?_
      rotate_left
      refine L.alloc rfl rfl rfl (fun A25 => ?_)
      refine L.nm (by kernel_rfl) ?_; refine LM.f 3 rfl (by kernel_rfl) (Hq [5, 6, 7, 8, 9, 10, 11, 12, 13, 4] rfl) ?_; refine L.call (js := []) (js' := [0, 1, 2, 3, 4, 5, 6, 7]) (cp) rfl rfl rfl (by decide) (Hq [5, 6, 7, 8] rfl) rfl ?_
      rintro _ _ _ ⟨x2, rfl, rfl, rfl, hx2⟩
      refine L.kcaps 1 rfl (fun hk2 => ?_)
      refine L.norm (H' := [_, _, _, _, _, _, _, _, _, _, _, _]) [0, 1, 2, 3, 4, 5, 6, 7, 8, 9, 10, 11] ⟨rfl, rfl, rfl, rfl, rfl, rfl, rfl, rfl, rfl, rfl, rfl, rfl, trivial⟩ (by decide) ?_; refine L.nm (by kernel_rfl) ?_; refine LM.f 5 rfl (by kernel_rfl) (Hq [5, 6, 7, 8, 9, 10, 11, 12, 13, 4] rfl) ?_; refine L.call (js := []) (js' := [0, 1, 2, 3, 4, 5, 6, 7, 8, 9, 10, 11]) (cp) rfl rfl rfl (by decide) (Hq [5, 6, 7, 8] rfl) rfl ?_
      rintro _ _ _ ⟨x3, rfl, rfl, rfl, hx3⟩
      refine L.kcaps 1 rfl (fun hk3 => ?_)
      refine L.norm (H' := [_, _, _, _, _, _, _, _, _, _, _, _, _, _, _, _]) [0, 1, 2, 3, 4, 5, 6, 7, 8, 9, 10, 11, 12, 13, 14, 15] ⟨rfl, rfl, rfl, rfl, rfl, rfl, rfl, rfl, rfl, rfl, rfl, rfl, rfl, rfl, rfl, rfl, trivial⟩ (by decide) ?_; refine L.norm (H' := [_, _, _, _, _, _, _, _, _, _, _, _, _, _, _, _]) [12, 13, 14, 15, 8, 9, 10, 11, 4, 5, 6, 7, 0, 1, 2, 3] ⟨rfl, rfl, rfl, rfl, rfl, rfl, rfl, rfl, rfl, rfl, rfl, rfl, rfl, rfl, rfl, rfl, trivial⟩ (by decide) ?_; refine L.nm (by kernel_rfl) ?_
      rotate_left
      refine L.alloc rfl rfl rfl (fun A25 => ?_)
      refine L.nm (by kernel_rfl) ?_; refine LM.a2 3 7 (by kernel_rfl) (Hq [5, 6, 7, 8, 9, 10, 11, 12, 13, 4] rfl) rfl rfl ?_ ?_; refine L.call (js := []) (js' := [0, 1, 2, 3, 4, 5, 6]) (cp) rfl rfl rfl (by decide) (Hq [5, 6, 7, 8] rfl) rfl ?_
      rintro _ _ _ ⟨x2, rfl, rfl, rfl, hx2⟩
      refine L.kcaps 1 rfl (fun hk2 => ?_)
      refine L.norm (H' := [_, _, _, _, _, _, _, _, _, _, _]) [0, 1, 2, 3, 4, 5, 6, 7, 8, 9, 10] ⟨rfl, rfl, rfl, rfl, rfl, rfl, rfl, rfl, rfl, rfl, rfl, trivial⟩ (by decide) ?_; refine L.nm (by kernel_rfl) ?_; refine LM.a2 5 7 (by kernel_rfl) (Hq [5, 6, 7, 8, 9, 10, 11, 12, 13, 4] rfl) rfl rfl ?_ ?_; refine L.call (js := []) (js' := [0, 1, 2, 3, 4, 5, 6, 7, 8, 9, 10]) (cp) rfl rfl rfl (by decide) (Hq [5, 6, 7, 8] rfl) rfl ?_
      rintro _ _ _ ⟨x3, rfl, rfl, rfl, hx3⟩
      refine L.kcaps 1 rfl (fun hk3 => ?_)
      refine L.norm (H' := [_, _, _, _, _, _, _, _, _, _, _, _, _, _, _]) [0, 1, 2, 3, 4, 5, 6, 7, 8, 9, 10, 11, 12, 13, 14] ⟨rfl, rfl, rfl, rfl, rfl, rfl, rfl, rfl, rfl, rfl, rfl, rfl, rfl, rfl, rfl, trivial⟩ (by decide) ?_; refine L.nm (by kernel_rfl) ?_; refine LM.f 7 rfl (by kernel_rfl) (Hq [5, 6, 7, 8, 9, 10, 11, 12, 13, 4] rfl) ?_
      refine L.alloc rfl rfl rfl (fun A24 => ?_)
      refine L.norm (H' := [_, _, _, _, _, _, _, _, _, _, _, _, _, _, _, _]) [12, 13, 15, 14, 8, 9, 10, 11, 4, 5, 6, 7, 0, 1, 2, 3] ⟨rfl, rfl, rfl, rfl, rfl, rfl, rfl, rfl, rfl, rfl, rfl, rfl, rfl, rfl, rfl, rfl, trivial⟩ (by decide) ?_; refine L.nm (by kernel_rfl) ?_
      rotate_left
      refine L.alloc rfl rfl rfl (fun A24 => ?_)
      refine L.nm (by kernel_rfl) ?_; refine LM.f 5 rfl (by kernel_rfl) (Hq [5, 6, 7, 8, 9, 10, 11, 12, 13, 4] rfl) ?_; refine L.call (js := []) (js' := [0, 1, 2, 3, 4, 5, 6, 7, 8, 9, 10, 11]) (cp) rfl rfl rfl (by decide) (Hq [5, 6, 7, 8] rfl) rfl ?_
      rintro _ _ _ ⟨x3, rfl, rfl, rfl, hx3⟩
      refine L.kcaps 1 rfl (fun hk3 => ?_)
      refine L.norm (H' := [_, _, _, _, _, _, _, _, _, _, _, _, _, _, _, _]) [0, 1, 2, 3, 4, 5, 6, 7, 8, 9, 10, 11, 12, 13, 14, 15] ⟨rfl, rfl, rfl, rfl, rfl, rfl, rfl, rfl, rfl, rfl, rfl, rfl, rfl, rfl, rfl, rfl, trivial⟩ (by decide) ?_; refine L.norm (H' := [_, _, _, _, _, _, _, _, _, _, _, _, _, _, _, _]) [12, 13, 15, 14, 8, 9, 10, 11, 4, 5, 6, 7, 0, 1, 2, 3] ⟨rfl, rfl, rfl, rfl, rfl, rfl, rfl, rfl, rfl, rfl, rfl, rfl, rfl, rfl, rfl, rfl, trivial⟩ (by decide) ?_; refine L.nm (by kernel_rfl) ?_
      rotate_left
      refine L.alloc rfl rfl rfl (fun A24 => ?_)
      refine L.nm (by kernel_rfl) ?_; refine LM.f 3 rfl (by kernel_rfl) (Hq [5, 6, 7, 8, 9, 10, 11, 12, 13, 4] rfl) ?_; refine L.call (js := []) (js' := [0, 1, 2, 3, 4, 5, 6, 7]) (cp) rfl rfl rfl (by decide) (Hq [5, 6, 7, 8] rfl) rfl ?_
      rintro _ _ _ ⟨x2, rfl, rfl, rfl, hx2⟩
      refine L.kcaps 1 rfl (fun hk2 => ?_)
      refine L.norm (H' := [_, _, _, _, _, _, _, _, _, _, _, _]) [0, 1, 2, 3, 4, 5, 6, 7, 8, 9, 10, 11] ⟨rfl, rfl, rfl, rfl, rfl, rfl, rfl, rfl, rfl, rfl, rfl, rfl, trivial⟩ (by decide) ?_; refine L.nm (by kernel_rfl) ?_; refine LM.f 5 rfl (by kernel_rfl) (Hq [5, 6, 7, 8, 9, 10, 11, 12, 13, 4] rfl) ?_; refine L.call (js := []) (js' := [0, 1, 2, 3, 4, 5, 6, 7, 8, 9, 10, 11]) (cp) rfl rfl rfl (by decide) (Hq [5, 6, 7, 8] rfl) rfl ?_
      rintro _ _ _ ⟨x3, rfl, rfl, rfl, hx3⟩
      refine L.kcaps 1 rfl (fun hk3 => ?_)
      refine L.norm (H' := [_, _, _, _, _, _, _, _, _, _, _, _, _, _, _, _]) [0, 1, 2, 3, 4, 5, 6, 7, 8, 9, 10, 11, 12, 13, 14, 15] ⟨rfl, rfl, rfl, rfl, rfl, rfl, rfl, rfl, rfl, rfl, rfl, rfl, rfl, rfl, rfl, rfl, trivial⟩ (by decide) ?_; refine L.norm (H' := [_, _, _, _, _, _, _, _, _, _, _, _, _, _, _, _]) [12, 13, 15, 14, 8, 9, 10, 11, 4, 5, 6, 7, 0, 1, 2, 3] ⟨rfl, rfl, rfl, rfl, rfl, rfl, rfl, rfl, rfl, rfl, rfl, rfl, rfl, rfl, rfl, rfl, trivial⟩ (by decide) ?_; refine L.nm (by kernel_rfl) ?_
      rotate_left
      refine L.alloc rfl rfl rfl (fun A24 => ?_)
      refine L.nm (by kernel_rfl) ?_; refine LM.a3 3 6 8 (by kernel_rfl) (Hq [5, 6, 7, 8, 9, 10, 11, 12, 13, 4] rfl) rfl rfl rfl ?_ ?_ ?_; refine L.call (js := []) (js' := [0, 1, 2, 3, 4, 5]) (cp) rfl rfl rfl (by decide) (Hq [5, 6, 7, 8] rfl) rfl ?_
      rintro _ _ _ ⟨x2, rfl, rfl, rfl, hx2⟩
      refine L.kcaps 1 rfl (fun hk2 => ?_)
      refine L.norm (H' := [_, _, _, _, _, _, _, _, _, _]) [0, 1, 2, 3, 4, 5, 6, 7, 8, 9] ⟨rfl, rfl, rfl, rfl, rfl, rfl, rfl, rfl, rfl, rfl, trivial⟩ (by decide) ?_; refine L.nm (by kernel_rfl) ?_; refine LM.a3 5 6 8 (by kernel_rfl) (Hq [5, 6, 7, 8, 9, 10, 11, 12, 13, 4] rfl) rfl rfl rfl ?_ ?_ ?_; refine L.call (js := []) (js' := [0, 1, 2, 3, 4, 5, 6, 7, 8, 9]) (cp) rfl rfl rfl (by decide) (Hq [5, 6, 7, 8] rfl) rfl ?_
      rintro _ _ _ ⟨x3, rfl, rfl, rfl, hx3⟩
      refine L.kcaps 1 rfl (fun hk3 => ?_)
      refine L.norm (H' := [_, _, _, _, _, _, _, _, _, _, _, _, _, _]) [0, 1, 2, 3, 4, 5, 6, 7, 8, 9, 10, 11, 12, 13] ⟨rfl, rfl, rfl, rfl, rfl, rfl, rfl, rfl, rfl, rfl, rfl, rfl, rfl, rfl, trivial⟩ (by decide) ?_; refine L.nm (by kernel_rfl) ?_; refine LM.a2 6 8 (by kernel_rfl) (Hq [5, 6, 7, 8, 9, 10, 11, 12, 13, 4] rfl) rfl rfl ?_ ?_
      refine L.alloc rfl rfl rfl (fun A23 => ?_)
      refine L.nm (by kernel_rfl) ?_; refine LM.f 8 rfl (by kernel_rfl) (Hq [5, 6, 7, 8, 9, 10, 11, 12, 13, 4] rfl) ?_
      refine L.alloc rfl rfl rfl (fun A25 => ?_)
      refine L.norm (H' := [_, _, _, _, _, _, _, _, _, _, _, _, _, _, _, _]) [12, 14, 13, 15, 8, 9, 10, 11, 4, 5, 6, 7, 0, 1, 2, 3] ⟨rfl, rfl, rfl, rfl, rfl, rfl, rfl, rfl, rfl, rfl, rfl, rfl, rfl, rfl, rfl, rfl, trivial⟩ (by decide) ?_; refine L.nm (by kernel_rfl) ?_
      rotate_left
      refine L.alloc rfl rfl rfl (fun A25 => ?_)
      refine L.nm (by kernel_rfl) ?_; refine LM.f 6 rfl (by kernel_rfl) (Hq [5, 6, 7, 8, 9, 10, 11, 12, 13, 4] rfl) ?_
      refine L.alloc rfl rfl rfl (fun A23 => ?_)
      refine L.norm (H' := [_, _, _, _, _, _, _, _, _, _, _, _, _, _, _, _]) [12, 15, 13, 14, 8, 9, 10, 11, 4, 5, 6, 7, 0, 1, 2, 3] ⟨rfl, rfl, rfl, rfl, rfl, rfl, rfl, rfl, rfl, rfl, rfl, rfl, rfl, rfl, rfl, rfl, trivial⟩ (by decide) ?_; refine L.nm (by kernel_rfl) ?_
      rotate_left
      refine L.alloc rfl rfl rfl (fun A23 => ?_)
      refine L.nm (by kernel_rfl) ?_; refine LM.a2 5 8 (by kernel_rfl) (Hq [5, 6, 7, 8, 9, 10, 11, 12, 13, 4] rfl) rfl rfl ?_ ?_; refine L.call (js := []) (js' := [0, 1, 2, 3, 4, 5, 6, 7, 8, 9, 10]) (cp) rfl rfl rfl (by decide) (Hq [5, 6, 7, 8] rfl) rfl ?_
      rintro _ _ _ ⟨x3, rfl, rfl, rfl, hx3⟩
      refine L.kcaps 1 rfl (fun hk3 => ?_)
      refine L.norm (H' := [_, _, _, _, _, _, _, _, _, _, _, _, _, _, _]) [0, 1, 2, 3, 4, 5, 6, 7, 8, 9, 10, 11, 12, 13, 14] ⟨rfl, rfl, rfl, rfl, rfl, rfl, rfl, rfl, rfl, rfl, rfl, rfl, rfl, rfl, rfl, trivial⟩ (by decide) ?_; refine L.nm (by kernel_rfl) ?_; refine LM.f 8 rfl (by kernel_rfl) (Hq [5, 6, 7, 8, 9, 10, 11, 12, 13, 4] rfl) ?_
      refine L.alloc rfl rfl rfl (fun A25 => ?_)
      refine L.norm (H' := [_, _, _, _, _, _, _, _, _, _, _, _, _, _, _, _]) [12, 14, 13, 15, 8, 9, 10, 11, 4, 5, 6, 7, 0, 1, 2, 3] ⟨rfl, rfl, rfl, rfl, rfl, rfl, rfl, rfl, rfl, rfl, rfl, rfl, rfl, rfl, rfl, rfl, trivial⟩ (by decide) ?_; refine L.nm (by kernel_rfl) ?_
      rotate_left
      refine L.alloc rfl rfl rfl (fun A25 => ?_)
      refine L.nm (by kernel_rfl) ?_; refine LM.f 5 rfl (by kernel_rfl) (Hq [5, 6, 7, 8, 9, 10, 11, 12, 13, 4] rfl) ?_; refine L.call (js := []) (js' := [0, 1, 2, 3, 4, 5, 6, 7, 8, 9, 10, 11]) (cp) rfl rfl rfl (by decide) (Hq [5, 6, 7, 8] rfl) rfl ?_
      rintro _ _ _ ⟨x3, rfl, rfl, rfl, hx3⟩
      refine L.kcaps 1 rfl (fun hk3 => ?_)
      refine L.norm (H' := [_, _, _, _, _, _, _, _, _, _, _, _, _, _, _, _]) [0, 1, 2, 3, 4, 5, 6, 7, 8, 9, 10, 11, 12, 13, 14, 15] ⟨rfl, rfl, rfl, rfl, rfl, rfl, rfl, rfl, rfl, rfl, rfl, rfl, rfl, rfl, rfl, rfl, trivial⟩ (by decide) ?_; refine L.norm (H' := [_, _, _, _, _, _, _, _, _, _, _, _, _, _, _, _]) [12, 14, 13, 15, 8, 9, 10, 11, 4, 5, 6, 7, 0, 1, 2, 3] ⟨rfl, rfl, rfl, rfl, rfl, rfl, rfl, rfl, rfl, rfl, rfl, rfl, rfl, rfl, rfl, rfl, trivial⟩ (by decide) ?_; refine L.nm (by kernel_rfl) ?_
      rotate_left
      refine L.alloc rfl rfl rfl (fun A25 => ?_)
      refine L.nm (by kernel_rfl) ?_; refine LM.a2 5 6 (by kernel_rfl) (Hq [5, 6, 7, 8, 9, 10, 11, 12, 13, 4] rfl) rfl rfl ?_ ?_; refine L.call (js := []) (js' := [0, 1, 2, 3, 4, 5, 6, 7, 8, 9, 10]) (cp) rfl rfl rfl (by decide) (Hq [5, 6, 7, 8] rfl) rfl ?_
      rintro _ _ _ ⟨x3, rfl, rfl, rfl, hx3⟩
      refine L.kcaps 1 rfl (fun hk3 => ?_)
      refine L.norm (H' := [_, _, _, _, _, _, _, _, _, _, _, _, _, _, _]) [0, 1, 2, 3, 4, 5, 6, 7, 8, 9, 10, 11, 12, 13, 14] ⟨rfl, rfl, rfl, rfl, rfl, rfl, rfl, rfl, rfl, rfl, rfl, rfl, rfl, rfl, rfl, trivial⟩ (by decide) ?_; refine L.nm (by kernel_rfl) ?_; refine LM.f 6 rfl (by kernel_rfl) (Hq [5, 6, 7, 8, 9, 10, 11, 12, 13, 4] rfl) ?_
      refine L.alloc rfl rfl rfl (fun A23 => ?_)
      refine L.norm (H' := [_, _, _, _, _, _, _, _, _, _, _, _, _, _, _, _]) [12, 15, 13, 14, 8, 9, 10, 11, 4, 5, 6, 7, 0, 1, 2, 3] ⟨rfl, rfl, rfl, rfl, rfl, rfl, rfl, rfl, rfl, rfl, rfl, rfl, rfl, rfl, rfl, rfl, trivial⟩ (by decide) ?_; refine L.nm (by kernel_rfl) ?_
      rotate_left
      refine L.alloc rfl rfl rfl (fun A23 => ?_)
      refine L.nm (by kernel_rfl) ?_; refine LM.f 5 rfl (by kernel_rfl) (Hq [5, 6, 7, 8, 9, 10, 11, 12, 13, 4] rfl) ?_; refine L.call (js := []) (js' := [0, 1, 2, 3, 4, 5, 6, 7, 8, 9, 10, 11]) (cp) rfl rfl rfl (by decide) (Hq [5, 6, 7, 8] rfl) rfl ?_
      rintro _ _ _ ⟨x3, rfl, rfl, rfl, hx3⟩
      refine L.kcaps 1 rfl (fun hk3 => ?_)
      refine L.norm (H' := [_, _, _, _, _, _, _, _, _, _, _, _, _, _, _, _]) [0, 1, 2, 3, 4, 5, 6, 7, 8, 9, 10, 11, 12, 13, 14, 15] ⟨rfl, rfl, rfl, rfl, rfl, rfl, rfl, rfl, rfl, rfl, rfl, rfl, rfl, rfl, rfl, rfl, trivial⟩ (by decide) ?_; refine L.norm (H' := [_, _, _, _, _, _, _, _, _, _, _, _, _, _, _, _]) [12, 15, 13, 14, 8, 9, 10, 11, 4, 5, 6, 7, 0, 1, 2, 3] ⟨rfl, rfl, rfl, rfl, rfl, rfl, rfl, rfl, rfl, rfl, rfl, rfl, rfl, rfl, rfl, rfl, trivial⟩ (by decide) ?_; refine L.nm (by kernel_rfl) ?_
      rotate_left
      refine L.alloc rfl rfl rfl (fun A23 => ?_)
      refine L.nm (by kernel_rfl) ?_; refine LM.a2 3 8 (by kernel_rfl) (Hq [5, 6, 7, 8, 9, 10, 11, 12, 13, 4] rfl) rfl rfl ?_ ?_; refine L.call (js := []) (js' := [0, 1, 2, 3, 4, 5, 6]) (cp) rfl rfl rfl (by decide) (Hq [5, 6, 7, 8] rfl) rfl ?_
      rintro _ _ _ ⟨x2, rfl, rfl, rfl, hx2⟩
      refine L.kcaps 1 rfl (fun hk2 => ?_)
      refine L.norm (H' := [_, _, _, _, _, _, _, _, _, _, _]) [0, 1, 2, 3, 4, 5, 6, 7, 8, 9, 10] ⟨rfl, rfl, rfl, rfl, rfl, rfl, rfl, rfl, rfl, rfl, rfl, trivial⟩ (by decide) ?_; refine L.nm (by kernel_rfl) ?_; refine LM.a2 5 8 (by kernel_rfl) (Hq [5, 6, 7, 8, 9, 10, 11, 12, 13, 4] rfl) rfl rfl ?_ ?_; refine L.call (js := []) (js' := [0, 1, 2, 3, 4, 5, 6, 7, 8, 9, 10]) (cp) rfl rfl rfl (by decide) (Hq [5, 6, 7, 8] rfl) rfl ?_
      rintro _ _ _ ⟨x3, rfl, rfl, rfl, hx3⟩
      refine L.kcaps 1 rfl (fun hk3 => ?_)
      refine L.norm (H' := [_, _, _, _, _, _, _, _, _, _, _, _, _, _, _]) [0, 1, 2, 3, 4, 5, 6, 7, 8, 9, 10, 11, 12, 13, 14] ⟨rfl, rfl, rfl, rfl, rfl, rfl, rfl, rfl, rfl, rfl, rfl, rfl, rfl, rfl, rfl, trivial⟩ (by decide) ?_; refine L.nm (by kernel_rfl) ?_; refine LM.f 8 rfl (by kernel_rfl) (Hq [5, 6, 7, 8, 9, 10, 11, 12, 13, 4] rfl) ?_
      refine L.alloc rfl rfl rfl (fun A25 => ?_)
      refine L.norm (H' := [_, _, _, _, _, _, _, _, _, _, _, _, _, _, _, _]) [12, 14, 13, 15, 8, 9, 10, 11, 4, 5, 6, 7, 0, 1, 2, 3] ⟨rfl, rfl, rfl, rfl, rfl, rfl, rfl, rfl, rfl, rfl, rfl, rfl, rfl, rfl, rfl, rfl, trivial⟩ (by decide) ?_; refine L.nm (by kernel_rfl) ?_
      rotate_left
      refine L.alloc rfl rfl rfl (fun A25 => ?_)
      refine L.nm (by kernel_rfl) ?_; refine LM.f 5 rfl (by kernel_rfl) (Hq [5, 6, 7, 8, 9, 10, 11, 12, 13, 4] rfl) ?_; refine L.call (js := []) (js' := [0, 1, 2, 3, 4, 5, 6, 7, 8, 9, 10, 11]) (cp) rfl rfl rfl (by decide) (Hq [5, 6, 7, 8] rfl) rfl ?_
      rintro _ _ _ ⟨x3, rfl, rfl, rfl, hx3⟩
      refine L.kcaps 1 rfl (fun hk3 => ?_)
      refine L.norm (H' := [_, _, _, _, _, _, _, _, _, _, _, _, _, _, _, _]) [0, 1, 2, 3, 4, 5, 6, 7, 8, 9, 10, 11, 12, 13, 14, 15] ⟨rfl, rfl, rfl, rfl, rfl, rfl, rfl, rfl, rfl, rfl, rfl, rfl, rfl, rfl, rfl, rfl, trivial⟩ (by decide) ?_; refine L.norm (H' := [_, _, _, _, _, _, _, _, _, _, _, _, _, _, _, _]) [12, 14, 13, 15, 8, 9, 10, 11, 4, 5, 6, 7, 0, 1, 2, 3] ⟨rfl, rfl, rfl, rfl, rfl, rfl, rfl, rfl, rfl, rfl, rfl, rfl, rfl, rfl, rfl, rfl, trivial⟩ (by decide) ?_; refine L.nm (by kernel_rfl) ?_
      rotate_left
      refine L.alloc rfl rfl rfl (fun A25 => ?_)
      refine L.nm (by kernel_rfl) ?_; refine LM.f 3 rfl (by kernel_rfl) (Hq [5, 6, 7, 8, 9, 10, 11, 12, 13, 4] rfl) ?_; refine L.call (js := []) (js' := [0, 1, 2, 3, 4, 5, 6, 7]) (cp) rfl rfl rfl (by decide) (Hq [5, 6, 7, 8] rfl) rfl ?_
      rintro _ _ _ ⟨x2, rfl, rfl, rfl, hx2⟩
      refine L.kcaps 1 rfl (fun hk2 => ?_)
      refine L.norm (H' := [_, _, _, _, _, _, _, _, _, _, _, _]) [0, 1, 2, 3, 4, 5, 6, 7, 8, 9, 10, 11] ⟨rfl, rfl, rfl, rfl, rfl, rfl, rfl, rfl, rfl, rfl, rfl, rfl, trivial⟩ (by decide) ?_; refine L.nm (by kernel_rfl) ?_; refine LM.f 5 rfl (by kernel_rfl) (Hq [5, 6, 7, 8, 9, 10, 11, 12, 13, 4] rfl) ?_; refine L.call (js := []) (js' := [0, 1, 2, 3, 4, 5, 6, 7, 8, 9, 10, 11]) (cp) rfl rfl rfl (by decide) (Hq [5, 6, 7, 8] rfl) rfl ?_
      rintro _ _ _ ⟨x3, rfl, rfl, rfl, hx3⟩
      refine L.kcaps 1 rfl (fun hk3 => ?_)
      refine L.norm (H' := [_, _, _, _, _, _, _, _, _, _, _, _, _, _, _, _]) [0, 1, 2, 3, 4, 5, 6, 7, 8, 9, 10, 11, 12, 13, 14, 15] ⟨rfl, rfl, rfl, rfl, rfl, rfl, rfl, rfl, rfl, rfl, rfl, rfl, rfl, rfl, rfl, rfl, trivial⟩ (by decide) ?_; refine L.norm (H' := [_, _, _, _, _, _, _, _, _, _, _, _, _, _, _, _]) [12, 14, 13, 15, 8, 9, 10, 11, 4, 5, 6, 7, 0, 1, 2, 3] ⟨rfl, rfl, rfl, rfl, rfl, rfl, rfl, rfl, rfl, rfl, rfl, rfl, rfl, rfl, rfl, rfl, trivial⟩ (by decide) ?_; refine L.nm (by kernel_rfl) ?_
      rotate_left
      refine L.alloc rfl rfl rfl (fun A25 => ?_)
      refine L.nm (by kernel_rfl) ?_; refine LM.a2 3 6 (by kernel_rfl) (Hq [5, 6, 7, 8, 9, 10, 11, 12, 13, 4] rfl) rfl rfl ?_ ?_; refine L.call (js := []) (js' := [0, 1, 2, 3, 4, 5, 6]) (cp) rfl rfl rfl (by decide) (Hq [5, 6, 7, 8] rfl) rfl ?_
      rintro _ _ _ ⟨x2, rfl, rfl, rfl, hx2⟩
      refine L.kcaps 1 rfl (fun hk2 => ?_)
      refine L.norm (H' := [_, _, _, _, _, _, _, _, _, _, _]) [0, 1, 2, 3, 4, 5, 6, 7, 8, 9, 10] ⟨rfl, rfl, rfl, rfl, rfl, rfl, rfl, rfl, rfl, rfl, rfl, trivial⟩ (by decide) ?_; refine L.nm (by kernel_rfl) ?_; refine LM.a2 5 6 (by kernel_rfl) (Hq [5, 6, 7, 8, 9, 10, 11, 12, 13, 4] rfl) rfl rfl ?_ ?_; refine L.call (js := []) (js' := [0, 1, 2, 3, 4, 5, 6, 7, 8, 9, 10]) (cp) rfl rfl rfl (by decide) (Hq [5, 6, 7, 8] rfl) rfl ?_
      rintro _ _ _ ⟨x3, rfl, rfl, rfl, hx3⟩
      refine L.kcaps 1 rfl (fun hk3 => ?_)
      refine L.norm (H' := [_, _, _, _, _, _, _, _, _, _, _, _, _, _, _]) [0, 1, 2, 3, 4, 5, 6, 7, 8, 9, 10, 11, 12, 13, 14] ⟨rfl, rfl, rfl, rfl, rfl, rfl, rfl, rfl, rfl, rfl, rfl, rfl, rfl, rfl, rfl, trivial⟩ (by decide) ?_; refine L.nm (by kernel_rfl) ?_; refine LM.f 6 rfl (by kernel_rfl) (Hq [5, 6, 7, 8, 9, 10, 11, 12, 13, 4] rfl) ?_
      refine L.alloc rfl rfl rfl (fun A23 => ?_)
      refine L.norm (H' := [_, _, _, _, _, _, _, _, _, _, _, _, _, _, _, _]) [12, 15, 13, 14, 8, 9, 10, 11, 4, 5, 6, 7, 0, 1, 2, 3] ⟨rfl, rfl, rfl, rfl, rfl, rfl, rfl, rfl, rfl, rfl, rfl, rfl, rfl, rfl, rfl, rfl, trivial⟩ (by decide) ?_; refine L.nm (by kernel_rfl) ?_
      rotate_left
      refine L.alloc rfl rfl rfl (fun A23 => ?_)
      refine L.nm (by kernel_rfl) ?_; refine LM.f 5 rfl (by kernel_rfl) (Hq [5, 6, 7, 8, 9, 10, 11, 12, 13, 4] rfl) ?_; refine L.call (js := []) (js' := [0, 1, 2, 3, 4, 5, 6, 7, 8, 9, 10, 11]) (cp) rfl rfl rfl (by decide) (Hq [5, 6, 7, 8] rfl) rfl ?_
      rintro _ _ _ ⟨x3, rfl, rfl, rfl, hx3⟩
      refine L.kcaps 1 rfl (fun hk3 => ?_)
      refine L.norm (H' := [_, _, _, _, _, _, _, _, _, _, _, _, _, _, _, _]) [0, 1, 2, 3, 4, 5, 6, 7, 8, 9, 10, 11, 12, 13, 14, 15] ⟨rfl, rfl, rfl, rfl, rfl, rfl, rfl, rfl, rfl, rfl, rfl, rfl, rfl, rfl, rfl, rfl, trivial⟩ (by decide) ?_; refine L.norm (H' := [_, _, _, _, _, _, _, _, _, _, _, _, _, _, _, _]) [12, 15, 13, 14, 8, 9, 10, 11, 4, 5, 6, 7, 0, 1, 2, 3] ⟨rfl, rfl, rfl, rfl, rfl, rfl, rfl, rfl, rfl, rfl, rfl, rfl, rfl, rfl, rfl, rfl, trivial⟩ (by decide) ?_; refine L.nm (by kernel_rfl) ?_
      rotate_left
      refine L.alloc rfl rfl rfl (fun A23 => ?_)
      refine L.nm (by kernel_rfl) ?_; refine LM.f 3 rfl (by kernel_rfl) (Hq [5, 6, 7, 8, 9, 10, 11, 12, 13, 4] rfl) ?_; refine L.call (js := []) (js' := [0, 1, 2, 3, 4, 5, 6, 7]) (cp) rfl rfl rfl (by decide) (Hq [5, 6, 7, 8] rfl) rfl ?_
      rintro _ _ _ ⟨x2, rfl, rfl, rfl, hx2⟩
      refine L.kcaps 1 rfl (fun hk2 => ?_)
      refine L.norm (H' := [_, _, _, _, _, _, _, _, _, _, _, _]) [0, 1, 2, 3, 4, 5, 6, 7, 8, 9, 10, 11] ⟨rfl, rfl, rfl, rfl, rfl, rfl, rfl, rfl, rfl, rfl, rfl, rfl, trivial⟩ (by decide) ?_; refine L.nm (by kernel_rfl) ?_; refine LM.f 5 rfl (by kernel_rfl) (Hq [5, 6, 7, 8, 9, 10, 11, 12, 13, 4] rfl) ?_; refine L.call (js := []) (js' := [0, 1, 2, 3, 4, 5, 6, 7, 8, 9, 10, 11]) (cp) rfl rfl rfl (by decide) (Hq [5, 6, 7, 8] rfl) rfl ?_
      rintro _ _ _ ⟨x3, rfl, rfl, rfl, hx3⟩
      refine L.kcaps 1 rfl (fun hk3 => ?_)
      refine L.norm (H' := [_, _, _, _, _, _, _, _, _, _, _, _, _, _, _, _]) [0, 1, 2, 3, 4, 5, 6, 7, 8, 9, 10, 11, 12, 13, 14, 15] ⟨rfl, rfl, rfl, rfl, rfl, rfl, rfl, rfl, rfl, rfl, rfl, rfl, rfl, rfl, rfl, rfl, trivial⟩ (by decide) ?_; refine L.norm (H' := [_, _, _, _, _, _, _, _, _, _, _, _, _, _, _, _]) [12, 15, 13, 14, 8, 9, 10, 11, 4, 5, 6, 7, 0, 1, 2, 3] ⟨rfl, rfl, rfl, rfl, rfl, rfl, rfl, rfl, rfl, rfl, rfl, rfl, rfl, rfl, rfl, rfl, trivial⟩ (by decide) ?_; refine L.nm (by kernel_rfl) ?_
      rotate_left
      refine L.alloc rfl rfl rfl (fun A25 => ?_)
      refine L.nm (by kernel_rfl) ?_; refine LM.a3 3 6 7 (by kernel_rfl) (Hq [5, 6, 7, 8, 9, 10, 11, 12, 13, 4] rfl) rfl rfl rfl ?_ ?_ ?_; refine L.call (js := []) (js' := [0, 1, 2, 3, 4, 5]) (cp) rfl rfl rfl (by decide) (Hq [5, 6, 7, 8] rfl) rfl ?_
      rintro _ _ _ ⟨x2, rfl, rfl, rfl, hx2⟩
      refine L.kcaps 1 rfl (fun hk2 => ?_)
      refine L.norm (H' := [_, _, _, _, _, _, _, _, _, _]) [0, 1, 2, 3, 4, 5, 6, 7, 8, 9] ⟨rfl, rfl, rfl, rfl, rfl, rfl, rfl, rfl, rfl, rfl, trivial⟩ (by decide) ?_; refine L.nm (by kernel_rfl) ?_; refine LM.a3 5 6 7 (by kernel_rfl) (Hq [5, 6, 7, 8, 9, 10, 11, 12, 13, 4] rfl) rfl rfl rfl ?_ ?_ ?_; refine L.call (js := []) (js' := [0, 1, 2, 3, 4, 5, 6, 7, 8, 9]) (cp) rfl rfl rfl (by decide) (Hq [5, 6, 7, 8] rfl) rfl ?_
      rintro _ _ _ ⟨x3, rfl, rfl, rfl, hx3⟩
      refine L.kcaps 1 rfl (fun hk3 => ?_)
      refine L.norm (H' := [_, _, _, _, _, _, _, _, _, _, _, _, _, _]) [0, 1, 2, 3, 4, 5, 6, 7, 8, 9, 10, 11, 12, 13] ⟨rfl, rfl, rfl, rfl, rfl, rfl, rfl, rfl, rfl, rfl, rfl, rfl, rfl, rfl, trivial⟩ (by decide) ?_; refine L.nm (by kernel_rfl) ?_; refine LM.a2 6 7 (by kernel_rfl) (Hq [5, 6, 7, 8, 9, 10, 11, 12, 13, 4] rfl) rfl rfl ?_ ?_
      refine L.alloc rfl rfl rfl (fun A23 => ?_)
      refine L.nm (by kernel_rfl) ?_; refine LM.f 7 rfl (by kernel_rfl) (Hq [5, 6, 7, 8, 9, 10, 11, 12, 13, 4] rfl) ?_
      refine L.alloc rfl rfl rfl (fun A24 => ?_)
      refine L.norm (H' := [_, _, _, _, _, _, _, _, _, _, _, _, _, _, _, _]) [12, 14, 15, 13, 8, 9, 10, 11, 4, 5, 6, 7, 0, 1, 2, 3] ⟨rfl, rfl, rfl, rfl, rfl, rfl, rfl, rfl, rfl, rfl, rfl, rfl, rfl, rfl, rfl, rfl, trivial⟩ (by decide) ?_; refine L.nm (by kernel_rfl) ?_
      rotate_left
      refine L.alloc rfl rfl rfl (fun A24 => ?_)
      refine L.nm (by kernel_rfl) ?_; refine LM.f 6 rfl (by kernel_rfl) (Hq [5, 6, 7, 8, 9, 10, 11, 12, 13, 4] rfl) ?_
      refine L.alloc rfl rfl rfl (fun A23 => ?_)
      refine L.norm (H' := [_, _, _, _, _, _, _, _, _, _, _, _, _, _, _, _]) [12, 15, 14, 13, 8, 9, 10, 11, 4, 5, 6, 7, 0, 1, 2, 3] ⟨rfl, rfl, rfl, rfl, rfl, rfl, rfl, rfl, rfl, rfl, rfl, rfl, rfl, rfl, rfl, rfl, trivial⟩ (by decide) ?_; refine L.nm (by kernel_rfl) ?_
      rotate_left
      refine L.alloc rfl rfl rfl (fun A23 => ?_)
      refine L.nm (by kernel_rfl) ?_; refine LM.a2 5 7 (by kernel_rfl) (Hq [5, 6, 7, 8, 9, 10, 11, 12, 13, 4] rfl) rfl rfl ?_ ?_; refine L.call (js := []) (js' := [0, 1, 2, 3, 4, 5, 6, 7, 8, 9, 10]) (cp) rfl rfl rfl (by decide) (Hq [5, 6, 7, 8] rfl) rfl ?_
      rintro _ _ _ ⟨x3, rfl, rfl, rfl, hx3⟩
      refine L.kcaps 1 rfl (fun hk3 => ?_)
      refine L.norm (H' := [_, _, _, _, _, _, _, _, _, _, _, _, _, _, _]) [0, 1, 2, 3, 4, 5, 6, 7, 8, 9, 10, 11, 12, 13, 14] ⟨rfl, rfl, rfl, rfl, rfl, rfl, rfl, rfl, rfl, rfl, rfl, rfl, rfl, rfl, rfl, trivial⟩ (by decide) ?_; refine L.nm (by kernel_rfl) ?_; refine LM.f 7 rfl (by kernel_rfl) (Hq [5, 6, 7, 8, 9, 10, 11, 12, 13, 4] rfl) ?_
      refine L.alloc rfl rfl rfl (fun A24 => ?_)
      refine L.norm (H' := [_, _, _, _, _, _, _, _, _, _, _, _, _, _, _, _]) [12, 14, 15, 13, 8, 9, 10, 11, 4, 5, 6, 7, 0, 1, 2, 3] ⟨rfl, rfl, rfl, rfl, rfl, rfl, rfl, rfl, rfl, rfl, rfl, rfl, rfl, rfl, rfl, rfl, trivial⟩ (by decide) ?_; refine L.nm (by kernel_rfl) ?_
      rotate_left
      refine L.alloc rfl rfl rfl (fun A24 => ?_)
      refine L.nm (by kernel_rfl) ?_; refine LM.f 5 rfl (by kernel_rfl) (Hq [5, 6, 7, 8, 9, 10, 11, 12, 13, 4] rfl) ?_; refine L.call (js := []) (js' := [0, 1, 2, 3, 4, 5, 6, 7, 8, 9, 10, 11]) (cp) rfl rfl rfl (by decide) (Hq [5, 6, 7, 8] rfl) rfl ?_
      rintro _ _ _ ⟨x3, rfl, rfl, rfl, hx3⟩
      refine L.kcaps 1 rfl (fun hk3 => ?_)
      refine L.norm (H' := [_, _, _, _, _, _, _, _, _, _, _, _, _, _, _, _]) [0, 1, 2, 3, 4, 5, 6, 7, 8, 9, 10, 11, 12, 13, 14, 15] ⟨rfl, rfl, rfl, rfl, rfl, rfl, rfl, rfl, rfl, rfl, rfl, rfl, rfl, rfl, rfl, rfl, trivial⟩ (by decide) ?_; refine L.norm (H' := [_, _, _, _, _, _, _, _, _, _, _, _, _, _, _, _]) [12, 14, 15, 13, 8, 9, 10, 11, 4, 5, 6, 7, 0, 1, 2, 3] ⟨rfl, rfl, rfl, rfl, rfl, rfl, rfl, rfl, rfl, rfl, rfl, rfl, rfl, rfl, rfl, rfl, trivial⟩ (by decide) ?_; refine L.nm (by kernel_rfl) ?_
      rotate_left
      refine L.alloc rfl rfl rfl (fun A24 => ?_)
      refine L.nm (by kernel_rfl) ?_; refine LM.a2 5 6 (by kernel_rfl) (Hq [5, 6, 7, 8, 9, 10, 11, 12, 13, 4] rfl) rfl rfl ?_ ?_; refine L.call (js := []) (js' := [0, 1, 2, 3, 4, 5, 6, 7, 8, 9, 10]) (cp) rfl rfl rfl (by decide) (Hq [5, 6, 7, 8] rfl) rfl ?_
      rintro _ _ _ ⟨x3, rfl, rfl, rfl, hx3⟩
      refine L.kcaps 1 rfl (fun hk3 => ?_)
      refine L.norm (H' := [_, _, _, _, _, _, _, _, _, _, _, _, _, _, _]) [0, 1, 2, 3, 4, 5, 6, 7, 8, 9, 10, 11, 12, 13, 14] ⟨rfl, rfl, rfl, rfl, rfl, rfl, rfl, rfl, rfl, rfl, rfl, rfl, rfl, rfl, rfl, trivial⟩ (by decide) ?_; refine L.nm (by kernel_rfl) ?_; refine LM.f 6 rfl (by kernel_rfl) (Hq [5, 6, 7, 8, 9, 10, 11, 12, 13, 4] rfl) ?_
      refine L.alloc rfl rfl rfl (fun A23 => ?_)
      refine L.norm (H' := [_, _, _, _, _, _, _, _, _, _, _, _, _, _, _, _]) [12, 15, 14, 13, 8, 9, 10, 11, 4, 5, 6, 7, 0, 1, 2, 3] ⟨rfl, rfl, rfl, rfl, rfl, rfl, rfl, rfl, rfl, rfl, rfl, rfl, rfl, rfl, rfl, rfl, trivial⟩ (by decide) ?_; refine L.nm (by kernel_rfl) ?_
      rotate_left
      refine L.alloc rfl rfl rfl (fun A23 => ?_)
      refine L.nm (by kernel_rfl) ?_; refine LM.f 5 rfl (by kernel_rfl) (Hq [5, 6, 7, 8, 9, 10, 11, 12, 13, 4] rfl) ?_; refine L.call (js := []) (js' := [0, 1, 2, 3, 4, 5, 6, 7, 8, 9, 10, 11]) (cp) rfl rfl rfl (by decide) (Hq [5, 6, 7, 8] rfl) rfl ?_
      rintro _ _ _ ⟨x3, rfl, rfl, rfl, hx3⟩
      refine L.kcaps 1 rfl (fun hk3 => ?_)
      refine L.norm (H' := [_, _, _, _, _, _, _, _, _, _, _, _, _, _, _, _]) [0, 1, 2, 3, 4, 5, 6, 7, 8, 9, 10, 11, 12, 13, 14, 15] ⟨rfl, rfl, rfl, rfl, rfl, rfl, rfl, rfl, rfl, rfl, rfl, rfl, rfl, rfl, rfl, rfl, trivial⟩ (by decide) ?_; refine L.norm (H' := [_, _, _, _, _, _, _, _, _, _, _, _, _, _, _, _]) [12, 15, 14, 13, 8, 9, 10, 11, 4, 5, 6, 7, 0, 1, 2, 3] ⟨rfl, rfl, rfl, rfl, rfl, rfl, rfl, rfl, rfl, rfl, rfl, rfl, rfl, rfl, rfl, rfl, trivial⟩ (by decide) ?_; refine L.nm (by kernel_rfl) ?_
      rotate_left
      refine L.alloc rfl rfl rfl (fun A23 => ?_)
      refine L.nm (by kernel_rfl) ?_; refine LM.a2 3 7 (by kernel_rfl) (Hq [5, 6, 7, 8, 9, 10, 11, 12, 13, 4] rfl) rfl rfl ?_ ?_; refine L.call (js := []) (js' := [0, 1, 2, 3, 4, 5, 6]) (cp) rfl rfl rfl (by decide) (Hq [5, 6, 7, 8] rfl) rfl ?_
      rintro _ _ _ ⟨x2, rfl, rfl, rfl, hx2⟩
      refine L.kcaps 1 rfl (fun hk2 => ?_)
      refine L.norm (H' := [_, _, _, _, _, _, _, _, _, _, _]) [0, 1, 2, 3, 4, 5, 6, 7, 8, 9, 10] ⟨rfl, rfl, rfl, rfl, rfl, rfl, rfl, rfl, rfl, rfl, rfl, trivial⟩ (by decide) ?_; refine L.nm (by kernel_rfl) ?_; refine LM.a2 5 7 (by kernel_rfl) (Hq [5, 6, 7, 8, 9, 10, 11, 12, 13, 4] rfl) rfl rfl ?_ ?_; refine L.call (js := []) (js' := [0, 1, 2, 3, 4, 5, 6, 7, 8, 9, 10]) (cp) rfl rfl rfl (by decide) (Hq [5, 6, 7, 8] rfl) rfl ?_
      rintro _ _ _ ⟨x3, rfl, rfl, rfl, hx3⟩
      refine L.kcaps 1 rfl (fun hk3 => ?_)
      refine L.norm (H' := [_, _, _, _, _, _, _, _, _, _, _, _, _, _, _]) [0, 1, 2, 3, 4, 5, 6, 7, 8, 9, 10, 11, 12, 13, 14] ⟨rfl, rfl, rfl, rfl, rfl, rfl, rfl, rfl, rfl, rfl, rfl, rfl, rfl, rfl, rfl, trivial⟩ (by decide) ?_; refine L.nm (by kernel_rfl) ?_; refine LM.f 7 rfl (by kernel_rfl) (Hq [5, 6, 7, 8, 9, 10, 11, 12, 13, 4] rfl) ?_
      refine L.alloc rfl rfl rfl (fun A24 => ?_)
      refine L.norm (H' := [_, _, _, _, _, _, _, _, _, _, _, _, _, _, _, _]) [12, 14, 15, 13, 8, 9, 10, 11, 4, 5, 6, 7, 0, 1, 2, 3] ⟨rfl, rfl, rfl, rfl, rfl, rfl, rfl, rfl, rfl, rfl, rfl, rfl, rfl, rfl, rfl, rfl, trivial⟩ (by decide) ?_; refine L.nm (by kernel_rfl) ?_
      rotate_left
      refine L.alloc rfl rfl rfl (fun A24 => ?_)
      refine L.nm (by kernel_rfl) ?_; refine LM.f 5 rfl (by kernel_rfl) (Hq [5, 6, 7, 8, 9, 10, 11, 12, 13, 4] rfl) ?_; refine L.call (js := []) (js' := [0, 1, 2, 3, 4, 5, 6, 7, 8, 9, 10, 11]) (cp) rfl rfl rfl (by decide) (Hq [5, 6, 7, 8] rfl) rfl ?_
      rintro _ _ _ ⟨x3, rfl, rfl, rfl, hx3⟩
      refine L.kcaps 1 rfl (fun hk3 => ?_)
      refine L.norm (H' := [_, _, _, _, _, _, _, _, _, _, _, _, _, _, _, _]) [0, 1, 2, 3, 4, 5, 6, 7, 8, 9, 10, 11, 12, 13, 14, 15] ⟨rfl, rfl, rfl, rfl, rfl, rfl, rfl, rfl, rfl, rfl, rfl, rfl, rfl, rfl, rfl, rfl, trivial⟩ (by decide) ?_; refine L.norm (H' := [_, _, _, _, _, _, _, _, _, _, _, _, _, _, _, _]) [12, 14, 15, 13, 8, 9, 10, 11, 4, 5, 6, 7, 0, 1, 2, 3] ⟨rfl, rfl, rfl, rfl, rfl, rfl, rfl, rfl, rfl, rfl, rfl, rfl, rfl, rfl, rfl, rfl, trivial⟩ (by decide) ?_; refine L.nm (by kernel_rfl) ?_
      rotate_left
      refine L.alloc rfl rfl rfl (fun A24 => ?_)
      refine L.nm (by kernel_rfl) ?_; refine LM.f 3 rfl (by kernel_rfl) (Hq [5, 6, 7, 8, 9, 10, 11, 12, 13, 4] rfl) ?_; refine L.call (js := []) (js' := [0, 1, 2, 3, 4, 5, 6, 7]) (cp) rfl rfl rfl (by decide) (Hq [5, 6, 7, 8] rfl) rfl ?_
      rintro _ _ _ ⟨x2, rfl, rfl, rfl, hx2⟩
      refine L.kcaps 1 rfl (fun hk2 => ?_)
      refine L.norm (H' := [_, _, _, _, _, _, _, _, _, _, _, _]) [0, 1, 2, 3, 4, 5, 6, 7, 8, 9, 10, 11] ⟨rfl, rfl, rfl, rfl, rfl, rfl, rfl, rfl, rfl, rfl, rfl, rfl, trivial⟩ (by decide) ?_; refine L.nm (by kernel_rfl) ?_; refine LM.f 5 rfl (by kernel_rfl) (Hq [5, 6, 7, 8, 9, 10, 11, 12, 13, 4] rfl) ?_; refine L.call (js := []) (js' := [0, 1, 2, 3, 4, 5, 6, 7, 8, 9, 10, 11]) (cp) rfl rfl rfl (by decide) (Hq [5, 6, 7, 8] rfl) rfl ?_
      rintro _ _ _ ⟨x3, rfl, rfl, rfl, hx3⟩
      refine L.kcaps 1 rfl (fun hk3 => ?_)
      refine L.norm (H' := [_, _, _, _, _, _, _, _, _, _, _, _, _, _, _, _]) [0, 1, 2, 3, 4, 5, 6, 7, 8, 9, 10, 11, 12, 13, 14, 15] ⟨rfl, rfl, rfl, rfl, rfl, rfl, rfl, rfl, rfl, rfl, rfl, rfl, rfl, rfl, rfl, rfl, trivial⟩ (by decide) ?_; refine L.norm (H' := [_, _, _, _, _, _, _, _, _, _, _, _, _, _, _, _]) [12, 14, 15, 13, 8, 9, 10, 11, 4, 5, 6, 7, 0, 1, 2, 3] ⟨rfl, rfl, rfl, rfl, rfl, rfl, rfl, rfl, rfl, rfl, rfl, rfl, rfl, rfl, rfl, rfl, trivial⟩ (by decide) ?_; refine L.nm (by kernel_rfl) ?_
      rotate_left
      refine L.alloc rfl rfl rfl (fun A24 => ?_)
      refine L.nm (by kernel_rfl) ?_; refine LM.a2 3 6 (by kernel_rfl) (Hq [5, 6, 7, 8, 9, 10, 11, 12, 13, 4] rfl) rfl rfl ?_ ?_; refine L.call (js := []) (js' := [0, 1, 2, 3, 4, 5, 6]) (cp) rfl rfl rfl (by decide) (Hq [5, 6, 7, 8] rfl) rfl ?_
      rintro _ _ _ ⟨x2, rfl, rfl, rfl, hx2⟩
      refine L.kcaps 1 rfl (fun hk2 => ?_)
      refine L.norm (H' := [_, _, _, _, _, _, _, _, _, _, _]) [0, 1, 2, 3, 4, 5, 6, 7, 8, 9, 10] ⟨rfl, rfl, rfl, rfl, rfl, rfl, rfl, rfl, rfl, rfl, rfl, trivial⟩ (by decide) ?_; refine L.nm (by kernel_rfl) ?_; refine LM.a2 5 6 (by kernel_rfl) (Hq [5, 6, 7, 8, 9, 10, 11, 12, 13, 4] rfl) rfl rfl ?_ ?_; refine L.call (js := []) (js' := [0, 1, 2, 3, 4, 5, 6, 7, 8, 9, 10]) (cp) rfl rfl rfl (by decide) (Hq [5, 6, 7, 8] rfl) rfl ?_
      rintro _ _ _ ⟨x3, rfl, rfl, rfl, hx3⟩
      refine L.kcaps 1 rfl (fun hk3 => ?_)
      refine L.norm (H' := [_, _, _, _, _, _, _, _, _, _, _, _, _, _, _]) [0, 1, 2, 3, 4, 5, 6, 7, 8, 9, 10, 11, 12, 13, 14] ⟨rfl, rfl, rfl, rfl, rfl, rfl, rfl, rfl, rfl, rfl, rfl, rfl, rfl, rfl, rfl, trivial⟩ (by decide) ?_; refine L.nm (by kernel_rfl) ?_; refine LM.f 6 rfl (by kernel_rfl) (Hq [5, 6, 7, 8, 9, 10, 11, 12, 13, 4] rfl) ?_
      refine L.alloc rfl rfl rfl (fun A23 => ?_)
      refine L.norm (H' := [_, _, _, _, _, _, _, _, _, _, _, _, _, _, _, _]) [12, 15, 14, 13, 8, 9, 10, 11, 4, 5, 6, 7, 0, 1, 2, 3] ⟨rfl, rfl, rfl, rfl, rfl, rfl, rfl, rfl, rfl, rfl, rfl, rfl, rfl, rfl, rfl, rfl, trivial⟩ (by decide) ?_; refine L.nm (by kernel_rfl) ?_
      rotate_left
      refine L.alloc rfl rfl rfl (fun A23 => ?_)
      refine L.nm (by kernel_rfl) ?_; refine LM.f 5 rfl (by kernel_rfl) (Hq [5, 6, 7, 8, 9, 10, 11, 12, 13, 4] rfl) ?_; refine L.call (js := []) (js' := [0, 1, 2, 3, 4, 5, 6, 7, 8, 9, 10, 11]) (cp) rfl rfl rfl (by decide) (Hq [5, 6, 7, 8] rfl) rfl ?_
      rintro _ _ _ ⟨x3, rfl, rfl, rfl, hx3⟩
      refine L.kcaps 1 rfl (fun hk3 => ?_)
      refine L.norm (H' := [_, _, _, _, _, _, _, _, _, _, _, _, _, _, _, _]) [0, 1, 2, 3, 4, 5, 6, 7, 8, 9, 10, 11, 12, 13, 14, 15] ⟨rfl, rfl, rfl, rfl, rfl, rfl, rfl, rfl, rfl, rfl, rfl, rfl, rfl, rfl, rfl, rfl, trivial⟩ (by decide) ?_; refine L.norm (H' := [_, _, _, _, _, _, _, _, _, _, _, _, _, _, _, _]) [12, 15, 14, 13, 8, 9, 10, 11, 4, 5, 6, 7, 0, 1, 2, 3] ⟨rfl, rfl, rfl, rfl, rfl, rfl, rfl, rfl, rfl, rfl, rfl, rfl, rfl, rfl, rfl, rfl, trivial⟩ (by decide) ?_; refine L.nm (by kernel_rfl) ?_
      rotate_left
      refine L.alloc rfl rfl rfl (fun A23 => ?_)
      refine L.nm (by kernel_rfl) ?_; refine LM.f 3 rfl (by kernel_rfl) (Hq [5, 6, 7, 8, 9, 10, 11, 12, 13, 4] rfl) ?_; refine L.call (js := []) (js' := [0, 1, 2, 3, 4, 5, 6, 7]) (cp) rfl rfl rfl (by decide) (Hq [5, 6, 7, 8] rfl) rfl ?_
      rintro _ _ _ ⟨x2, rfl, rfl, rfl, hx2⟩
      refine L.kcaps 1 rfl (fun hk2 => ?_)
      refine L.norm (H' := [_, _, _, _, _, _, _, _, _, _, _, _]) [0, 1, 2, 3, 4, 5, 6, 7, 8, 9, 10, 11] ⟨rfl, rfl, rfl, rfl, rfl, rfl, rfl, rfl, rfl, rfl, rfl, rfl, trivial⟩ (by decide) ?_; refine L.nm (by kernel_rfl) ?_; refine LM.f 5 rfl (by kernel_rfl) (Hq [5, 6, 7, 8, 9, 10, 11, 12, 13, 4] rfl) ?_; refine L.call (js := []) (js' := [0, 1, 2, 3, 4, 5, 6, 7, 8, 9, 10, 11]) (cp) rfl rfl rfl (by decide) (Hq [5, 6, 7, 8] rfl) rfl ?_
      rintro _ _ _ ⟨x3, rfl, rfl, rfl, hx3⟩
      refine L.kcaps 1 rfl (fun hk3 => ?_)
      refine L.norm (H' := [_, _, _, _, _, _, _, _, _, _, _, _, _, _, _, _]) [0, 1, 2, 3, 4, 5, 6, 7, 8, 9, 10, 11, 12, 13, 14, 15] ⟨rfl, rfl, rfl, rfl, rfl, rfl, rfl, rfl, rfl, rfl, rfl, rfl, rfl, rfl, rfl, rfl, trivial⟩ (by decide) ?_; refine L.norm (H' := [_, _, _, _, _, _, _, _, _, _, _, _, _, _, _, _]) [12, 15, 14, 13, 8, 9, 10, 11, 4, 5, 6, 7, 0, 1, 2, 3] ⟨rfl, rfl, rfl, rfl, rfl, rfl, rfl, rfl, rfl, rfl, rfl, rfl, rfl, rfl, rfl, rfl, trivial⟩ (by decide) ?_; refine L.nm (by kernel_rfl) ?_
      rotate_left
      refine L.alloc rfl rfl rfl (fun A23 => ?_)
      refine L.nm (by kernel_rfl) ?_; refine LM.a3 1 7 8 (by kernel_rfl) (Hq [5, 6, 7, 8, 9, 10, 11, 12, 13, 4] rfl) rfl rfl rfl ?_ ?_ ?_; refine L.call (js := []) (js' := [0, 1]) (cp) rfl rfl rfl (by decide) (Hq [5, 6, 7, 8] rfl) rfl ?_
      rintro _ _ _ ⟨x1, rfl, rfl, rfl, hx1⟩
      refine L.kcaps 1 rfl (fun hk1 => ?_)
      refine L.norm (H' := [_, _, _, _, _, _]) [0, 1, 2, 3, 4, 5] ⟨rfl, rfl, rfl, rfl, rfl, rfl, trivial⟩ (by decide) ?_; refine L.nm (by kernel_rfl) ?_; refine LM.a3 3 7 8 (by kernel_rfl) (Hq [5, 6, 7, 8, 9, 10, 11, 12, 13, 4] rfl) rfl rfl rfl ?_ ?_ ?_; refine L.call (js := []) (js' := [0, 1, 2, 3, 4, 5]) (cp) rfl rfl rfl (by decide) (Hq [5, 6, 7, 8] rfl) rfl ?_
      rintro _ _ _ ⟨x2, rfl, rfl, rfl, hx2⟩
      refine L.kcaps 1 rfl (fun hk2 => ?_)
      refine L.norm (H' := [_, _, _, _, _, _, _, _, _, _]) [0, 1, 2, 3, 4, 5, 6, 7, 8, 9] ⟨rfl, rfl, rfl, rfl, rfl, rfl, rfl, rfl, rfl, rfl, trivial⟩ (by decide) ?_; refine L.nm (by kernel_rfl) ?_; refine LM.a3 5 7 8 (by kernel_rfl) (Hq [5, 6, 7, 8, 9, 10, 11, 12, 13, 4] rfl) rfl rfl rfl ?_ ?_ ?_; refine L.call (js := []) (js' := [0, 1, 2, 3, 4, 5, 6, 7, 8, 9]) (cp) rfl rfl rfl (by decide) (Hq [5, 6, 7, 8] rfl) rfl ?_
      rintro _ _ _ ⟨x3, rfl, rfl, rfl, hx3⟩
      refine L.kcaps 1 rfl (fun hk3 => ?_)
      refine L.norm (H' := [_, _, _, _, _, _, _, _, _, _, _, _, _, _]) [0, 1, 2, 3, 4, 5, 6, 7, 8, 9, 10, 11, 12, 13] ⟨rfl, rfl, rfl, rfl, rfl, rfl, rfl, rfl, rfl, rfl, rfl, rfl, rfl, rfl, trivial⟩ (by decide) ?_; refine L.nm (by kernel_rfl) ?_; refine LM.a2 7 8 (by kernel_rfl) (Hq [5, 6, 7, 8, 9, 10, 11, 12, 13, 4] rfl) rfl rfl ?_ ?_
      refine L.alloc rfl rfl rfl (fun A24 => ?_)
      refine L.nm (by kernel_rfl) ?_; refine LM.f 8 rfl (by kernel_rfl) (Hq [5, 6, 7, 8, 9, 10, 11, 12, 13, 4] rfl) ?_
      refine L.alloc rfl rfl rfl (fun A25 => ?_)
      refine L.norm (H' := [_, _, _, _, _, _, _, _, _, _, _, _, _, _, _, _]) [12, 13, 14, 15, 8, 9, 10, 11, 4, 5, 6, 7, 0, 1, 2, 3] ⟨rfl, rfl, rfl, rfl, rfl, rfl, rfl, rfl, rfl, rfl, rfl, rfl, rfl, rfl, rfl, rfl, trivial⟩ (by decide) ?_; refine L.nm (by kernel_rfl) ?_
      rotate_left
      refine L.alloc rfl rfl rfl (fun A25 => ?_)
      refine L.nm (by kernel_rfl) ?_; refine LM.f 7 rfl (by kernel_rfl) (Hq [5, 6, 7, 8, 9, 10, 11, 12, 13, 4] rfl) ?_
      refine L.alloc rfl rfl rfl (fun A24 => ?_)
      refine L.norm (H' := [_, _, _, _, _, _, _, _, _, _, _, _, _, _, _, _]) [12, 13, 15, 14, 8, 9, 10, 11, 4, 5, 6, 7, 0, 1, 2, 3] ⟨rfl, rfl, rfl, rfl, rfl, rfl, rfl, rfl, rfl, rfl, rfl, rfl, rfl, rfl, rfl, rfl, trivial⟩ (by decide) ?_; refine L.nm (by kernel_rfl) ?_
      rotate_left
      refine L.alloc rfl rfl rfl (fun A24 => ?_)
      refine L.nm (by kernel_rfl) ?_; refine LM.a2 5 8 (by kernel_rfl) (Hq [5, 6, 7, 8, 9, 10, 11, 12, 13, 4] rfl) rfl rfl ?_ ?_; refine L.call (js := []) (js' := [0, 1, 2, 3, 4, 5, 6, 7, 8, 9, 10]) (cp) rfl rfl rfl (by decide) (Hq [5, 6, 7, 8] rfl) rfl ?_
      rintro _ _ _ ⟨x3, rfl, rfl, rfl, hx3⟩
      refine L.kcaps 1 rfl (fun hk3 => ?_)
      refine L.norm (H' := [_, _, _, _, _, _, _, _, _, _, _, _, _, _, _]) [0, 1, 2, 3, 4, 5, 6, 7, 8, 9, 10, 11, 12, 13, 14] ⟨rfl, rfl, rfl, rfl, rfl, rfl, rfl, rfl, rfl, rfl, rfl, rfl, rfl, rfl, rfl, trivial⟩ (by decide) ?_; refine L.nm (by kernel_rfl) ?_; refine LM.f 8 rfl (by kernel_rfl) (Hq [5, 6, 7, 8, 9, 10, 11, 12, 13, 4] rfl) ?_
      refine L.alloc rfl rfl rfl (fun A25 => ?_)
      refine L.norm (H' := [_, _, _, _, _, _, _, _, _, _, _, _, _, _, _, _]) [12, 13, 14, 15, 8, 9, 10, 11, 4, 5, 6, 7, 0, 1, 2, 3] ⟨rfl, rfl, rfl, rfl, rfl, rfl, rfl, rfl, rfl, rfl, rfl, rfl, rfl, rfl, rfl, rfl, trivial⟩ (by decide) ?_; refine L.nm (by kernel_rfl) ?_
      rotate_left
      refine L.alloc rfl rfl rfl (fun A25 => ?_)
      refine L.nm (by kernel_rfl) ?_; refine LM.f 5 rfl (by kernel_rfl) (Hq [5, 6, 7, 8, 9, 10, 11, 12, 13, 4] rfl) ?_; refine L.call (js := []) (js' := [0, 1, 2, 3, 4, 5, 6, 7, 8, 9, 10, 11]) (cp) rfl rfl rfl (by decide) (Hq [5, 6, 7, 8] rfl) rfl ?_
      rintro _ _ _ ⟨x3, rfl, rfl, rfl, hx3⟩
      refine L.kcaps 1 rfl (fun hk3 => ?_)
      refine L.norm (H' := [_, _, _, _, _, _, _, _, _, _, _, _, _, _, _, _]) [0, 1, 2, 3, 4, 5, 6, 7, 8, 9, 10, 11, 12, 13, 14, 15] ⟨rfl, rfl, rfl, rfl, rfl, rfl, rfl, rfl, rfl, rfl, rfl, rfl, rfl, rfl, rfl, rfl, trivial⟩ (by decide) ?_; refine L.norm (H' := [_, _, _, _, _, _, _, _, _, _, _, _, _, _, _, _]) [12, 13, 14, 15, 8, 9, 10, 11, 4, 5, 6, 7, 0, 1, 2, 3] ⟨rfl, rfl, rfl, rfl, rfl, rfl, rfl, rfl, rfl, rfl, rfl, rfl, rfl, rfl, rfl, rfl, trivial⟩ (by decide) ?_; refine L.nm (by kernel_rfl) ?_
      rotate_left
      refine L.alloc rfl rfl rfl (fun A25 => ?_)
      refine L.nm (by kernel_rfl) ?_; refine LM.a2 5 7 (by kernel_rfl) (Hq [5, 6, 7, 8, 9, 10, 11, 12, 13, 4] rfl) rfl rfl ?_ ?_; refine L.call (js := []) (js' := [0, 1, 2, 3, 4, 5, 6, 7, 8, 9, 10]) (cp) rfl rfl rfl (by decide) (Hq [5, 6, 7, 8] rfl) rfl ?_
      rintro _ _ _ ⟨x3, rfl, rfl, rfl, hx3⟩
      refine L.kcaps 1 rfl (fun hk3 => ?_)
      refine L.norm (H' := [_, _, _, _, _, _, _, _, _, _, _, _, _, _, _]) [0, 1, 2, 3, 4, 5, 6, 7, 8, 9, 10, 11, 12, 13, 14] ⟨rfl, rfl, rfl, rfl, rfl, rfl, rfl, rfl, rfl, rfl, rfl, rfl, rfl, rfl, rfl, trivial⟩ (by decide) ?_; refine L.nm (by kernel_rfl) ?_; refine LM.f 7 rfl (by kernel_rfl) (Hq [5, 6, 7, 8, 9, 10, 11, 12, 13, 4] rfl) ?_
      refine L.alloc rfl rfl rfl (fun A24 => ?_)
      refine L.norm (H' := [_, _, _, _, _, _, _, _, _, _, _, _, _, _, _, _]) [12, 13, 15, 14, 8, 9, 10, 11, 4, 5, 6, 7, 0, 1, 2, 3] ⟨rfl, rfl, rfl, rfl, rfl, rfl, rfl, rfl, rfl, rfl, rfl, rfl, rfl, rfl, rfl, rfl, trivial⟩ (by decide) ?_; refine L.nm (by kernel_rfl) ?_
      rotate_left
      refine L.alloc rfl rfl rfl (fun A24 => ?_)
      refine L.nm (by kernel_rfl) ?_; refine LM.f 5 rfl (by kernel_rfl) (Hq [5, 6, 7, 8, 9, 10, 11, 12, 13, 4] rfl) ?_; refine L.call (js := []) (js' := [0, 1, 2, 3, 4, 5, 6, 7, 8, 9, 10, 11]) (cp) rfl rfl rfl (by decide) (Hq [5, 6, 7, 8] rfl) rfl ?_
      rintro _ _ _ ⟨x3, rfl, rfl, rfl, hx3⟩
      refine L.kcaps 1 rfl (fun hk3 => ?_)
      refine L.norm (H' := [_, _, _, _, _, _, _, _, _, _, _, _, _, _, _, _]) [0, 1, 2, 3, 4, 5, 6, 7, 8, 9, 10, 11, 12, 13, 14, 15] ⟨rfl, rfl, rfl, rfl, rfl, rfl, rfl, rfl, rfl, rfl, rfl, rfl, rfl, rfl, rfl, rfl, trivial⟩ (by decide) ?_; refine L.norm (H' := [_, _, _, _, _, _, _, _, _, _, _, _, _, _, _, _]) [12, 13, 15, 14, 8, 9, 10, 11, 4, 5, 6, 7, 0, 1, 2, 3] ⟨rfl, rfl, rfl, rfl, rfl, rfl, rfl, rfl, rfl, rfl, rfl, rfl, rfl, rfl, rfl, rfl, trivial⟩ (by decide) ?_; refine L.nm (by kernel_rfl) ?_
      rotate_left
      refine L.alloc rfl rfl rfl (fun A24 => ?_)
      refine L.nm (by kernel_rfl) ?_; refine LM.a2 3 8 (by kernel_rfl) (Hq [5, 6, 7, 8, 9, 10, 11, 12, 13, 4] rfl) rfl rfl ?_ ?_; refine L.call (js := []) (js' := [0, 1, 2, 3, 4, 5, 6]) (cp) rfl rfl rfl (by decide) (Hq [5, 6, 7, 8] rfl) rfl ?_
      rintro _ _ _ ⟨x2, rfl, rfl, rfl, hx2⟩
      refine L.kcaps 1 rfl (fun hk2 => ?_)
      refine L.norm (H' := [_, _, _, _, _, _, _, _, _, _, _]) [0, 1, 2, 3, 4, 5, 6, 7, 8, 9, 10] ⟨rfl, rfl, rfl, rfl, rfl, rfl, rfl, rfl, rfl, rfl, rfl, trivial⟩ (by decide) ?_; refine L.nm (by kernel_rfl) ?_; refine LM.a2 5 8 (by kernel_rfl) (Hq [5, 6, 7, 8, 9, 10, 11, 12, 13, 4] rfl) rfl rfl ?_ ?_; refine L.call (js := []) (js' := [0, 1, 2, 3, 4, 5, 6, 7, 8, 9, 10]) (cp) rfl rfl rfl (by decide) (Hq [5, 6, 7, 8] rfl) rfl ?_
      rintro _ _ _ ⟨x3, rfl, rfl, rfl, hx3⟩
      refine L.kcaps 1 rfl (fun hk3 => ?_)
      refine L.norm (H' := [_, _, _, _, _, _, _, _, _, _, _, _, _, _, _]) [0, 1, 2, 3, 4, 5, 6, 7, 8, 9, 10, 11, 12, 13, 14] ⟨rfl, rfl, rfl, rfl, rfl, rfl, rfl, rfl, rfl, rfl, rfl, rfl, rfl, rfl, rfl, trivial⟩ (by decide) ?_; refine L.nm (by kernel_rfl) ?_; refine LM.f 8 rfl (by kernel_rfl) (Hq [5, 6, 7, 8, 9, 10, 11, 12, 13, 4] rfl) ?_
      refine L.alloc rfl rfl rfl (fun A25 => ?_)
      refine L.norm (H' := [_, _, _, _, _, _, _, _, _, _, _, _, _, _, _, _]) [12, 13, 14, 15, 8, 9, 10, 11, 4, 5, 6, 7, 0, 1, 2, 3] ⟨rfl, rfl, rfl, rfl, rfl, rfl, rfl, rfl, rfl, rfl, rfl, rfl, rfl, rfl, rfl, rfl, trivial⟩ (by decide) ?_; refine L.nm (by kernel_rfl) ?_
      rotate_left
      refine L.alloc rfl rfl rfl (fun A25 => ?_)
      refine L.nm (by kernel_rfl) ?_; refine LM.f 5 rfl (by kernel_rfl) (Hq [5, 6, 7, 8, 9, 10, 11, 12, 13, 4] rfl) ?_; refine L.call (js := []) (js' := [0, 1, 2, 3, 4, 5, 6, 7, 8, 9, 10, 11]) (cp) rfl rfl rfl (by decide) (Hq [5, 6, 7, 8] rfl) rfl ?_
      rintro _ _ _ ⟨x3, rfl, rfl, rfl, hx3⟩
      refine L.kcaps 1 rfl (fun hk3 => ?_)
      refine L.norm (H' := [_, _, _, _, _, _, _, _, _, _, _, _, _, _, _, _]) [0, 1, 2, 3, 4, 5, 6, 7, 8, 9, 10, 11, 12, 13, 14, 15] ⟨rfl, rfl, rfl, rfl, rfl, rfl, rfl, rfl, rfl, rfl, rfl, rfl, rfl, rfl, rfl, rfl, trivial⟩ (by decide) ?_; refine L.norm (H' := [_, _, _, _, _, _, _, _, _, _, _, _, _, _, _, _]) [12, 13, 14, 15, 8, 9, 10, 11, 4, 5, 6, 7, 0, 1, 2, 3] ⟨rfl, rfl, rfl, rfl, rfl, rfl, rfl, rfl, rfl, rfl, rfl, rfl, rfl, rfl, rfl, rfl, trivial⟩ (by decide) ?_; refine L.nm (by kernel_rfl) ?_
      rotate_left
      refine L.alloc rfl rfl rfl (fun A25 => ?_)
      refine L.nm (by kernel_rfl) ?_; refine LM.f 3 rfl (by kernel_rfl) (Hq [5, 6, 7, 8, 9, 10, 11, 12, 13, 4] rfl) ?_; refine L.call (js := []) (js' := [0, 1, 2, 3, 4, 5, 6, 7]) (cp) rfl rfl rfl (by decide) (Hq [5, 6, 7, 8] rfl) rfl ?_
      rintro _ _ _ ⟨x2, rfl, rfl, rfl, hx2⟩
      refine L.kcaps 1 rfl (fun hk2 => ?_)
      refine L.norm (H' := [_, _, _, _, _, _, _, _, _, _, _, _]) [0, 1, 2, 3, 4, 5, 6, 7, 8, 9, 10, 11] ⟨rfl, rfl, rfl, rfl, rfl, rfl, rfl, rfl, rfl, rfl, rfl, rfl, trivial⟩ (by decide) ?_; refine L.nm (by kernel_rfl) ?_; refine LM.f 5 rfl (by kernel_rfl) (Hq [5, 6, 7, 8, 9, 10, 11, 12, 13, 4] rfl) ?_; refine L.call (js := []) (js' := [0, 1, 2, 3, 4, 5, 6, 7, 8, 9, 10, 11]) (cp) rfl rfl rfl (by decide) (Hq [5, 6, 7, 8] rfl) rfl ?_
      rintro _ _ _ ⟨x3, rfl, rfl, rfl, hx3⟩
      refine L.kcaps 1 rfl (fun hk3 => ?_)
      refine L.norm (H' := [_, _, _, _, _, _, _, _, _, _, _, _, _, _, _, _]) [0, 1, 2, 3, 4, 5, 6, 7, 8, 9, 10, 11, 12, 13, 14, 15] ⟨rfl, rfl, rfl, rfl, rfl, rfl, rfl, rfl, rfl, rfl, rfl, rfl, rfl, rfl, rfl, rfl, trivial⟩ (by decide) ?_; refine L.norm (H' := [_, _, _, _, _, _, _, _, _, _, _, _, _, _, _, _]) [12, 13, 14, 15, 8, 9, 10, 11, 4, 5, 6, 7, 0, 1, 2, 3] ⟨rfl, rfl, rfl, rfl, rfl, rfl, rfl, rfl, rfl, rfl, rfl, rfl, rfl, rfl, rfl, rfl, trivial⟩ (by decide) ?_; refine L.nm (by kernel_rfl) ?_
      rotate_left
      refine L.alloc rfl rfl rfl (fun A25 => ?_)
      refine L.nm (by kernel_rfl) ?_; refine LM.a2 3 7 (by kernel_rfl) (Hq [5, 6, 7, 8, 9, 10, 11, 12, 13, 4] rfl) rfl rfl ?_ ?_; refine L.call (js := []) (js' := [0, 1, 2, 3, 4, 5, 6]) (cp) rfl rfl rfl (by decide) (Hq [5, 6, 7, 8] rfl) rfl ?_
      rintro _ _ _ ⟨x2, rfl, rfl, rfl, hx2⟩
      refine L.kcaps 1 rfl (fun hk2 => ?_)
      refine L.norm (H' := [_, _, _, _, _, _, _, _, _, _, _]) [0, 1, 2, 3, 4, 5, 6, 7, 8, 9, 10] ⟨rfl, rfl, rfl, rfl, rfl, rfl, rfl, rfl, rfl, rfl, rfl, trivial⟩ (by decide) ?_; refine L.nm (by kernel_rfl) ?_; refine LM.a2 5 7 (by kernel_rfl) (Hq [5, 6, 7, 8, 9, 10, 11, 12, 13, 4] rfl) rfl rfl ?_ ?_; refine L.call (js := []) (js' := [0, 1, 2, 3, 4, 5, 6, 7, 8, 9, 10]) (cp) rfl rfl rfl (by decide) (Hq [5, 6, 7, 8] rfl) rfl ?_
      rintro _ _ _ ⟨x3, rfl, rfl, rfl, hx3⟩
      refine L.kcaps 1 rfl (fun hk3 => ?_)
      refine L.norm (H' := [_, _, _, _, _, _, _, _, _, _, _, _, _, _, _]) [0, 1, 2, 3, 4, 5, 6, 7, 8, 9, 10, 11, 12, 13, 14] ⟨rfl, rfl, rfl, rfl, rfl, rfl, rfl, rfl, rfl, rfl, rfl, rfl, rfl, rfl, rfl, trivial⟩ (by decide) ?_; refine L.nm (by kernel_rfl) ?_; refine LM.f 7 rfl (by kernel_rfl) (Hq [5, 6, 7, 8, 9, 10, 11, 12, 13, 4] rfl) ?_
      refine L.alloc rfl rfl rfl (fun A24 => ?_)
      refine L.norm (H' := [_, _, _, _, _, _, _, _, _, _, _, _, _, _, _, _]) [12, 13, 15, 14, 8, 9, 10, 11, 4, 5, 6, 7, 0, 1, 2, 3] ⟨rfl, rfl, rfl, rfl, rfl, rfl, rfl, rfl, rfl, rfl, rfl, rfl, rfl, rfl, rfl, rfl, trivial⟩ (by decide) ?_; refine L.nm (by kernel_rfl) ?_
      rotate_left
      refine L.alloc rfl rfl rfl (fun A24 => ?_)
      refine L.nm (by kernel_rfl) ?_; refine LM.f 5 rfl (by kernel_rfl) (Hq [5, 6, 7, 8, 9, 10, 11, 12, 13, 4] rfl) ?_; refine L.call (js := []) (js' := [0, 1, 2, 3, 4, 5, 6, 7, 8, 9, 10, 11]) (cp) rfl rfl rfl (by decide) (Hq [5, 6, 7, 8] rfl) rfl ?_
      rintro _ _ _ ⟨x3, rfl, rfl, rfl, hx3⟩
      refine L.kcaps 1 rfl (fun hk3 => ?_)
      refine L.norm (H' := [_, _, _, _, _, _, _, _, _, _, _, _, _, _, _, _]) [0, 1, 2, 3, 4, 5, 6, 7, 8, 9, 10, 11, 12, 13, 14, 15] ⟨rfl, rfl, rfl, rfl, rfl, rfl, rfl, rfl, rfl, rfl, rfl, rfl, rfl, rfl, rfl, rfl, trivial⟩ (by decide) ?_; refine L.norm (H' := [_, _, _, _, _, _, _, _, _, _, _, _, _, _, _, _]) [12, 13, 15, 14, 8, 9, 10, 11, 4, 5, 6, 7, 0, 1, 2, 3] ⟨rfl, rfl, rfl, rfl, rfl, rfl, rfl, rfl, rfl, rfl, rfl, rfl, rfl, rfl, rfl, rfl, trivial⟩ (by decide) ?_; refine L.nm (by kernel_rfl) ?_
      rotate_left
      refine L.alloc rfl rfl rfl (fun A24 => ?_)
      refine L.nm (by kernel_rfl) ?_; refine LM.f 3 rfl (by kernel_rfl) (Hq [5, 6, 7, 8, 9, 10, 11, 12, 13, 4] rfl) ?_; refine L.call (js := []) (js' := [0, 1, 2, 3, 4, 5, 6, 7]) (cp) rfl rfl rfl (by decide) (Hq [5, 6, 7, 8] rfl) rfl ?_
      rintro _ _ _ ⟨x2, rfl, rfl, rfl, hx2⟩
      refine L.kcaps 1 rfl (fun hk2 => ?_)
      refine L.norm (H' := [_, _, _, _, _, _, _, _, _, _, _, _]) [0, 1, 2, 3, 4, 5, 6, 7, 8, 9, 10, 11] ⟨rfl, rfl, rfl, rfl, rfl, rfl, rfl, rfl, rfl, rfl, rfl, rfl, trivial⟩ (by decide) ?_; refine L.nm (by kernel_rfl) ?_; refine LM.f 5 rfl (by kernel_rfl) (Hq [5, 6, 7, 8, 9, 10, 11, 12, 13, 4] rfl) ?_; refine L.call (js := []) (js' := [0, 1, 2, 3, 4, 5, 6, 7, 8, 9, 10, 11]) (cp) rfl rfl rfl (by decide) (Hq [5, 6, 7, 8] rfl) rfl ?_
      rintro _ _ _ ⟨x3, rfl, rfl, rfl, hx3⟩
      refine L.kcaps 1 rfl (fun hk3 => ?_)
      refine L.norm (H' := [_, _, _, _, _, _, _, _, _, _, _, _, _, _, _, _]) [0, 1, 2, 3, 4, 5, 6, 7, 8, 9, 10, 11, 12, 13, 14, 15] ⟨rfl, rfl, rfl, rfl, rfl, rfl, rfl, rfl, rfl, rfl, rfl, rfl, rfl, rfl, rfl, rfl, trivial⟩ (by decide) ?_; refine L.norm (H' := [_, _, _, _, _, _, _, _, _, _, _, _, _, _, _, _]) [12, 13, 15, 14, 8, 9, 10, 11, 4, 5, 6, 7, 0, 1, 2, 3] ⟨rfl, rfl, rfl, rfl, rfl, rfl, rfl, rfl, rfl, rfl, rfl, rfl, rfl, rfl, rfl, rfl, trivial⟩ (by decide) ?_; refine L.nm (by kernel_rfl) ?_
      rotate_left
      refine L.alloc rfl rfl rfl (fun A24 => ?_)
      refine L.nm (by kernel_rfl) ?_; refine LM.a2 1 8 (by kernel_rfl) (Hq [5, 6, 7, 8, 9, 10, 11, 12, 13, 4] rfl) rfl rfl ?_ ?_; refine L.call (js := []) (js' := [0, 1, 2]) (cp) rfl rfl rfl (by decide) (Hq [5, 6, 7, 8] rfl) rfl ?_
      rintro _ _ _ ⟨x1, rfl, rfl, rfl, hx1⟩
      refine L.kcaps 1 rfl (fun hk1 => ?_)
      refine L.norm (H' := [_, _, _, _, _, _, _]) [0, 1, 2, 3, 4, 5, 6] ⟨rfl, rfl, rfl, rfl, rfl, rfl, rfl, trivial⟩ (by decide) ?_; refine L.nm (by kernel_rfl) ?_; refine LM.a2 3 8 (by kernel_rfl) (Hq [5, 6, 7, 8, 9, 10, 11, 12, 13, 4] rfl) rfl rfl ?_ ?_; refine L.call (js := []) (js' := [0, 1, 2, 3, 4, 5, 6]) (cp) rfl rfl rfl (by decide) (Hq [5, 6, 7, 8] rfl) rfl ?_
      rintro _ _ _ ⟨x2, rfl, rfl, rfl, hx2⟩
      refine L.kcaps 1 rfl (fun hk2 => ?_)
      refine L.norm (H' := [_, _, _, _, _, _, _, _, _, _, _]) [0, 1, 2, 3, 4, 5, 6, 7, 8, 9, 10] ⟨rfl, rfl, rfl, rfl, rfl, rfl, rfl, rfl, rfl, rfl, rfl, trivial⟩ (by decide) ?_; refine L.nm (by kernel_rfl) ?_; refine LM.a2 5 8 (by kernel_rfl) (Hq [5, 6, 7, 8, 9, 10, 11, 12, 13, 4] rfl) rfl rfl ?_ ?_; refine L.call (js := []) (js' := [0, 1, 2, 3, 4, 5, 6, 7, 8, 9, 10]) (cp) rfl rfl rfl (by decide) (Hq [5, 6, 7, 8] rfl) rfl ?_
      rintro _ _ _ ⟨x3, rfl, rfl, rfl, hx3⟩
      refine L.kcaps 1 rfl (fun hk3 => ?_)
      refine L.norm (H' := [_, _, _, _, _, _, _, _, _, _, _, _, _, _, _]) [0, 1, 2, 3, 4, 5, 6, 7, 8, 9, 10, 11, 12, 13, 14] ⟨rfl, rfl, rfl, rfl, rfl, rfl, rfl, rfl, rfl, rfl, rfl, rfl, rfl, rfl, rfl, trivial⟩ (by decide) ?_; refine L.nm (by kernel_rfl) ?_; refine LM.f 8 rfl (by kernel_rfl) (Hq [5, 6, 7, 8, 9, 10, 11, 12, 13, 4] rfl) ?_
      refine L.alloc rfl rfl rfl (fun A25 => ?_)
      refine L.norm (H' := [_, _, _, _, _, _, _, _, _, _, _, _, _, _, _, _]) [12, 13, 14, 15, 8, 9, 10, 11, 4, 5, 6, 7, 0, 1, 2, 3] ⟨rfl, rfl, rfl, rfl, rfl, rfl, rfl, rfl, rfl, rfl, rfl, rfl, rfl, rfl, rfl, rfl, trivial⟩ (by decide) ?_; refine L.nm (by kernel_rfl) ?_
      rotate_left
      refine L.alloc rfl rfl rfl (fun A25 => ?_)
      refine L.nm (by kernel_rfl) ?_; refine LM.f 5 rfl (by kernel_rfl) (Hq [5, 6, 7, 8, 9, 10, 11, 12, 13, 4] rfl) ?_; refine L.call (js := []) (js' := [0, 1, 2, 3, 4, 5, 6, 7, 8, 9, 10, 11]) (cp) rfl rfl rfl (by decide) (Hq [5, 6, 7, 8] rfl) rfl ?_
      rintro _ _ _ ⟨x3, rfl, rfl, rfl, hx3⟩
      refine L.kcaps 1 rfl (fun hk3 => ?_)
      refine L.norm (H' := [_, _, _, _, _, _, _, _, _, _, _, _, _, _, _, _]) [0, 1, 2, 3, 4, 5, 6, 7, 8, 9, 10, 11, 12, 13, 14, 15] ⟨rfl, rfl, rfl, rfl, rfl, rfl, rfl, rfl, rfl, rfl, rfl, rfl, rfl, rfl, rfl, rfl, trivial⟩ (by decide) ?_; refine L.norm (H' := [_, _, _, _, _, _, _, _, _, _, _, _, _, _, _, _]) [12, 13, 14, 15, 8, 9, 10, 11, 4, 5, 6, 7, 0, 1, 2, 3] ⟨rfl, rfl, rfl, rfl, rfl, rfl, rfl, rfl, rfl, rfl, rfl, rfl, rfl, rfl, rfl, rfl, trivial⟩ (by decide) ?_; refine L.nm (by kernel_rfl) ?_
      rotate_left
      refine L.alloc rfl rfl rfl (fun A25 => ?_)
      refine L.nm (by kernel_rfl) ?_; refine LM.f 3 rfl (by kernel_rfl) (Hq [5, 6, 7, 8, 9, 10, 11, 12, 13, 4] rfl) ?_; refine L.call (js := []) (js' := [0, 1, 2, 3, 4, 5, 6, 7]) (cp) rfl rfl rfl (by decide) (Hq [5, 6, 7, 8] rfl) rfl ?_
      rintro _ _ _ ⟨x2, rfl, rfl, rfl, hx2⟩
      refine L.kcaps 1 rfl (fun hk2 => ?_)
      refine L.norm (H' := [_, _, _, _, _, _, _, _, _, _, _, _]) [0, 1, 2, 3, 4, 5, 6, 7, 8, 9, 10, 11] ⟨rfl, rfl, rfl, rfl, rfl, rfl, rfl, rfl, rfl, rfl, rfl, rfl, trivial⟩ (by decide) ?_; refine L.nm (by kernel_rfl) ?_; refine LM.f 5 rfl (by kernel_rfl) (Hq [5, 6, 7, 8, 9, 10, 11, 12, 13, 4] rfl) ?_; refine L.call (js := []) (js' := [0, 1, 2, 3, 4, 5, 6, 7, 8, 9, 10, 11]) (cp) rfl rfl rfl (by decide) (Hq [5, 6, 7, 8] rfl) rfl ?_
      rintro _ _ _ ⟨x3, rfl, rfl, rfl, hx3⟩
      refine L.kcaps 1 rfl (fun hk3 => ?_)
      refine L.norm (H' := [_, _, _, _, _, _, _, _, _, _, _, _, _, _, _, _]) [0, 1, 2, 3, 4, 5, 6, 7, 8, 9, 10, 11, 12, 13, 14, 15] ⟨rfl, rfl, rfl, rfl, rfl, rfl, rfl, rfl, rfl, rfl, rfl, rfl, rfl, rfl, rfl, rfl, trivial⟩ (by decide) ?_; refine L.norm (H' := [_, _, _, _, _, _, _, _, _, _, _, _, _, _, _, _]) [12, 13, 14, 15, 8, 9, 10, 11, 4, 5, 6, 7, 0, 1, 2, 3] ⟨rfl, rfl, rfl, rfl, rfl, rfl, rfl, rfl, rfl, rfl, rfl, rfl, rfl, rfl, rfl, rfl, trivial⟩ (by decide) ?_; refine L.nm (by kernel_rfl) ?_
      rotate_left
      refine L.alloc rfl rfl rfl (fun A25 => ?_)
      refine L.nm (by kernel_rfl) ?_; refine LM.f 1 rfl (by kernel_rfl) (Hq [5, 6, 7, 8, 9, 10, 11, 12, 13, 4] rfl) ?_; refine L.call (js := []) (js' := [0, 1, 2, 3]) (cp) rfl rfl rfl (by decide) (Hq [5, 6, 7, 8] rfl) rfl ?_
      rintro _ _ _ ⟨x1, rfl, rfl, rfl, hx1⟩
      refine L.kcaps 1 rfl (fun hk1 => ?_)
      refine L.norm (H' := [_, _, _, _, _, _, _, _]) [0, 1, 2, 3, 4, 5, 6, 7] ⟨rfl, rfl, rfl, rfl, rfl, rfl, rfl, rfl, trivial⟩ (by decide) ?_; refine L.nm (by kernel_rfl) ?_; refine LM.f 3 rfl (by kernel_rfl) (Hq [5, 6, 7, 8, 9, 10, 11, 12, 13, 4] rfl) ?_; refine L.call (js := []) (js' := [0, 1, 2, 3, 4, 5, 6, 7]) (cp) rfl rfl rfl (by decide) (Hq [5, 6, 7, 8] rfl) rfl ?_
      rintro _ _ _ ⟨x2, rfl, rfl, rfl, hx2⟩
      refine L.kcaps 1 rfl (fun hk2 => ?_)
      refine L.norm (H' := [_, _, _, _, _, _, _, _, _, _, _, _]) [0, 1, 2, 3, 4, 5, 6, 7, 8, 9, 10, 11] ⟨rfl, rfl, rfl, rfl, rfl, rfl, rfl, rfl, rfl, rfl, rfl, rfl, trivial⟩ (by decide) ?_; refine L.nm (by kernel_rfl) ?_; refine LM.f 5 rfl (by kernel_rfl) (Hq [5, 6, 7, 8, 9, 10, 11, 12, 13, 4] rfl) ?_; refine L.call (js := []) (js' := [0, 1, 2, 3, 4, 5, 6, 7, 8, 9, 10, 11]) (cp) rfl rfl rfl (by decide) (Hq [5, 6, 7, 8] rfl) rfl ?_
      rintro _ _ _ ⟨x3, rfl, rfl, rfl, hx3⟩
      refine L.kcaps 1 rfl (fun hk3 => ?_)
      refine L.norm (H' := [_, _, _, _, _, _, _, _, _, _, _, _, _, _, _, _]) [0, 1, 2, 3, 4, 5, 6, 7, 8, 9, 10, 11, 12, 13, 14, 15] ⟨rfl, rfl, rfl, rfl, rfl, rfl, rfl, rfl, rfl, rfl, rfl, rfl, rfl, rfl, rfl, rfl, trivial⟩ (by decide) ?_; refine L.norm (H' := [_, _, _, _, _, _, _, _, _, _, _, _, _, _, _, _]) [12, 13, 14, 15, 8, 9, 10, 11, 4, 5, 6, 7, 0, 1, 2, 3] ⟨rfl, rfl, rfl, rfl, rfl, rfl, rfl, rfl, rfl, rfl, rfl, rfl, rfl, rfl, rfl, rfl, trivial⟩ (by decide) ?_; refine L.nm (by kernel_rfl) ?_
      rotate_left
      refine L.alloc rfl rfl rfl (fun A25 => ?_)
      refine L.nm (by kernel_rfl) ?_; refine LM.a2 1 7 (by kernel_rfl) (Hq [5, 6, 7, 8, 9, 10, 11, 12, 13, 4] rfl) rfl rfl ?_ ?_; refine L.call (js := []) (js' := [0, 1, 2]) (cp) rfl rfl rfl (by decide) (Hq [5, 6, 7, 8] rfl) rfl ?_
      rintro _ _ _ ⟨x1, rfl, rfl, rfl, hx1⟩
      refine L.kcaps 1 rfl (fun hk1 => ?_)
      refine L.norm (H' := [_, _, _, _, _, _, _]) [0, 1, 2, 3, 4, 5, 6] ⟨rfl, rfl, rfl, rfl, rfl, rfl, rfl, trivial⟩ (by decide) ?_; refine L.nm (by kernel_rfl) ?_; refine LM.a2 3 7 (by kernel_rfl) (Hq [5, 6, 7, 8, 9, 10, 11, 12, 13, 4] rfl) rfl rfl ?_ ?_; refine L.call (js := []) (js' := [0, 1, 2, 3, 4, 5, 6]) (cp) rfl rfl rfl (by decide) (Hq [5, 6, 7, 8] rfl) rfl ?_
      rintro _ _ _ ⟨x2, rfl, rfl, rfl, hx2⟩
      refine L.kcaps 1 rfl (fun hk2 => ?_)
      refine L.norm (H' := [_, _, _, _, _, _, _, _, _, _, _]) [0, 1, 2, 3, 4, 5, 6, 7, 8, 9, 10] ⟨rfl, rfl, rfl, rfl, rfl, rfl, rfl, rfl, rfl, rfl, rfl, trivial⟩ (by decide) ?_; refine L.nm (by kernel_rfl) ?_; refine LM.a2 5 7 (by kernel_rfl) (Hq [5, 6, 7, 8, 9, 10, 11, 12, 13, 4] rfl) rfl rfl ?_ ?_; refine L.call (js := []) (js' := [0, 1, 2, 3, 4, 5, 6, 7, 8, 9, 10]) (cp) rfl rfl rfl (by decide) (Hq [5, 6, 7, 8] rfl) rfl ?_
      rintro _ _ _ ⟨x3, rfl, rfl, rfl, hx3⟩
      refine L.kcaps 1 rfl (fun hk3 => ?_)
      refine L.norm (H' := [_, _, _, _, _, _, _, _, _, _, _, _, _, _, _]) [0, 1, 2, 3, 4, 5, 6, 7, 8, 9, 10, 11, 12, 13, 14] ⟨rfl, rfl, rfl, rfl, rfl, rfl, rfl, rfl, rfl, rfl, rfl, rfl, rfl, rfl, rfl, trivial⟩ (by decide) ?_; refine L.nm (by kernel_rfl) ?_; refine LM.f 7 rfl (by kernel_rfl) (Hq [5, 6, 7, 8, 9, 10, 11, 12, 13, 4] rfl) ?_
      refine L.alloc rfl rfl rfl (fun A24 => ?_)
      refine L.norm (H' := [_, _, _, _, _, _, _, _, _, _, _, _, _, _, _, _]) [12, 13, 15, 14, 8, 9, 10, 11, 4, 5, 6, 7, 0, 1, 2, 3] ⟨rfl, rfl, rfl, rfl, rfl, rfl, rfl, rfl, rfl, rfl, rfl, rfl, rfl, rfl, rfl, rfl, trivial⟩ (by decide) ?_; refine L.nm (by kernel_rfl) ?_
      rotate_left
      refine L.alloc rfl rfl rfl (fun A24 => ?_)
      refine L.nm (by kernel_rfl) ?_; refine LM.f 5 rfl (by kernel_rfl) (Hq [5, 6, 7, 8, 9, 10, 11, 12, 13, 4] rfl) ?_; refine L.call (js := []) (js' := [0, 1, 2, 3, 4, 5, 6, 7, 8, 9, 10, 11]) (cp) rfl rfl rfl (by decide) (Hq [5, 6, 7, 8] rfl) rfl ?_
      rintro _ _ _ ⟨x3, rfl, rfl, rfl, hx3⟩
      refine L.kcaps 1 rfl (fun hk3 => ?_)
      refine L.norm (H' := [_, _, _, _, _, _, _, _, _, _, _, _, _, _, _, _]) [0, 1, 2, 3, 4, 5, 6, 7, 8, 9, 10, 11, 12, 13, 14, 15] ⟨rfl, rfl, rfl, rfl, rfl, rfl, rfl, rfl, rfl, rfl, rfl, rfl, rfl, rfl, rfl, rfl, trivial⟩ (by decide) ?_; refine L.norm (H' := [_, _, _, _, _, _, _, _, _, _, _, _, _, _, _, _]) [12, 13, 15, 14, 8, 9, 10, 11, 4, 5, 6, 7, 0, 1, 2, 3] ⟨rfl, rfl, rfl, rfl, rfl, rfl, rfl, rfl, rfl, rfl, rfl, rfl, rfl, rfl, rfl, rfl, trivial⟩ (by decide) ?_; refine L.nm (by kernel_rfl) ?_
      rotate_left
      refine L.alloc rfl rfl rfl (fun A24 => ?_)
      refine L.nm (by kernel_rfl) ?_; refine LM.f 3 rfl (by kernel_rfl) (Hq [5, 6, 7, 8, 9, 10, 11, 12, 13, 4] rfl) ?_; refine L.call (js := []) (js' := [0, 1, 2, 3, 4, 5, 6, 7]) (cp) rfl rfl rfl (by decide) (Hq [5, 6, 7, 8] rfl) rfl ?_
      rintro _ _ _ ⟨x2, rfl, rfl, rfl, hx2⟩
      refine L.kcaps 1 rfl (fun hk2 => ?_)
      refine L.norm (H' := [_, _, _, _, _, _, _, _, _, _, _, _]) [0, 1, 2, 3, 4, 5, 6, 7, 8, 9, 10, 11] ⟨rfl, rfl, rfl, rfl, rfl, rfl, rfl, rfl, rfl, rfl, rfl, rfl, trivial⟩ (by decide) ?_; refine L.nm (by kernel_rfl) ?_; refine LM.f 5 rfl (by kernel_rfl) (Hq [5, 6, 7, 8, 9, 10, 11, 12, 13, 4] rfl) ?_; refine L.call (js := []) (js' := [0, 1, 2, 3, 4, 5, 6, 7, 8, 9, 10, 11]) (cp) rfl rfl rfl (by decide) (Hq [5, 6, 7, 8] rfl) rfl ?_
      rintro _ _ _ ⟨x3, rfl, rfl, rfl, hx3⟩
      refine L.kcaps 1 rfl (fun hk3 => ?_)
      refine L.norm (H' := [_, _, _, _, _, _, _, _, _, _, _, _, _, _, _, _]) [0, 1, 2, 3, 4, 5, 6, 7, 8, 9, 10, 11, 12, 13, 14, 15] ⟨rfl, rfl, rfl, rfl, rfl, rfl, rfl, rfl, rfl, rfl, rfl, rfl, rfl, rfl, rfl, rfl, trivial⟩ (by decide) ?_; refine L.norm (H' := [_, _, _, _, _, _, _, _, _, _, _, _, _, _, _, _]) [12, 13, 15, 14, 8, 9, 10, 11, 4, 5, 6, 7, 0, 1, 2, 3] ⟨rfl, rfl, rfl, rfl, rfl, rfl, rfl, rfl, rfl, rfl, rfl, rfl, rfl, rfl, rfl, rfl, trivial⟩ (by decide) ?_; refine L.nm (by kernel_rfl) ?_
      rotate_left
      refine L.alloc rfl rfl rfl (fun A24 => ?_)
      refine L.nm (by kernel_rfl) ?_; refine LM.f 1 rfl (by kernel_rfl) (Hq [5, 6, 7, 8, 9, 10, 11, 12, 13, 4] rfl) ?_; refine L.call (js := []) (js' := [0, 1, 2, 3]) (cp) rfl rfl rfl (by decide) (Hq [5, 6, 7, 8] rfl) rfl ?_
      rintro _ _ _ ⟨x1, rfl, rfl, rfl, hx1⟩
      refine L.kcaps 1 rfl (fun hk1 => ?_)
      refine L.norm (H' := [_, _, _, _, _, _, _, _]) [0, 1, 2, 3, 4, 5, 6, 7] ⟨rfl, rfl, rfl, rfl, rfl, rfl, rfl, rfl, trivial⟩ (by decide) ?_; refine L.nm (by kernel_rfl) ?_; refine LM.f 3 rfl (by kernel_rfl) (Hq [5, 6, 7, 8, 9, 10, 11, 12, 13, 4] rfl) ?_; refine L.call (js := []) (js' := [0, 1, 2, 3, 4, 5, 6, 7]) (cp) rfl rfl rfl (by decide) (Hq [5, 6, 7, 8] rfl) rfl ?_
      rintro _ _ _ ⟨x2, rfl, rfl, rfl, hx2⟩
      refine L.kcaps 1 rfl (fun hk2 => ?_)
      refine L.norm (H' := [_, _, _, _, _, _, _, _, _, _, _, _]) [0, 1, 2, 3, 4, 5, 6, 7, 8, 9, 10, 11] ⟨rfl, rfl, rfl, rfl, rfl, rfl, rfl, rfl, rfl, rfl, rfl, rfl, trivial⟩ (by decide) ?_; refine L.nm (by kernel_rfl) ?_; refine LM.f 5 rfl (by kernel_rfl) (Hq [5, 6, 7, 8, 9, 10, 11, 12, 13, 4] rfl) ?_; refine L.call (js := []) (js' := [0, 1, 2, 3, 4, 5, 6, 7, 8, 9, 10, 11]) (cp) rfl rfl rfl (by decide) (Hq [5, 6, 7, 8] rfl) rfl ?_
      rintro _ _ _ ⟨x3, rfl, rfl, rfl, hx3⟩
      refine L.kcaps 1 rfl (fun hk3 => ?_)
      refine L.norm (H' := [_, _, _, _, _, _, _, _, _, _, _, _, _, _, _, _]) [0, 1, 2, 3, 4, 5, 6, 7, 8, 9, 10, 11, 12, 13, 14, 15] ⟨rfl, rfl, rfl, rfl, rfl, rfl, rfl, rfl, rfl, rfl, rfl, rfl, rfl, rfl, rfl, rfl, trivial⟩ (by decide) ?_; refine L.norm (H' := [_, _, _, _, _, _, _, _, _, _, _, _, _, _, _, _]) [12, 13, 15, 14, 8, 9, 10, 11, 4, 5, 6, 7, 0, 1, 2, 3] ⟨rfl, rfl, rfl, rfl, rfl, rfl, rfl, rfl, rfl, rfl, rfl, rfl, rfl, rfl, rfl, rfl, trivial⟩ (by decide) ?_; refine L.nm (by kernel_rfl) ?_
      rotate_left
      refine L.alloc rfl rfl rfl (fun A24 => ?_)
      refine L.nm (by kernel_rfl) ?_; refine LM.a3 1 6 8 (by kernel_rfl) (Hq [5, 6, 7, 8, 9, 10, 11, 12, 13, 4] rfl) rfl rfl rfl ?_ ?_ ?_; refine L.call (js := []) (js' := [0, 1]) (cp) rfl rfl rfl (by decide) (Hq [5, 6, 7, 8] rfl) rfl ?_
      rintro _ _ _ ⟨x1, rfl, rfl, rfl, hx1⟩
      refine L.kcaps 1 rfl (fun hk1 => ?_)
      refine L.norm (H' := [_, _, _, _, _, _]) [0, 1, 2, 3, 4, 5] ⟨rfl, rfl, rfl, rfl, rfl, rfl, trivial⟩ (by decide) ?_; refine L.nm (by kernel_rfl) ?_; refine LM.a3 3 6 8 (by kernel_rfl) (Hq [5, 6, 7, 8, 9, 10, 11, 12, 13, 4] rfl) rfl rfl rfl ?_ ?_ ?_; refine L.call (js := []) (js' := [0, 1, 2, 3, 4, 5]) (cp) rfl rfl rfl (by decide) (Hq [5, 6, 7, 8] rfl) rfl ?_
      rintro _ _ _ ⟨x2, rfl, rfl, rfl, hx2⟩
      refine L.kcaps 1 rfl (fun hk2 => ?_)
      refine L.norm (H' := [_, _, _, _, _, _, _, _, _, _]) [0, 1, 2, 3, 4, 5, 6, 7, 8, 9] ⟨rfl, rfl, rfl, rfl, rfl, rfl, rfl, rfl, rfl, rfl, trivial⟩ (by decide) ?_; refine L.nm (by kernel_rfl) ?_; refine LM.a3 5 6 8 (by kernel_rfl) (Hq [5, 6, 7, 8, 9, 10, 11, 12, 13, 4] rfl) rfl rfl rfl ?_ ?_ ?_; refine L.call (js := []) (js' := [0, 1, 2, 3, 4, 5, 6, 7, 8, 9]) (cp) rfl rfl rfl (by decide) (Hq [5, 6, 7, 8] rfl) rfl ?_
      rintro _ _ _ ⟨x3, rfl, rfl, rfl, hx3⟩
      refine L.kcaps 1 rfl (fun hk3 => ?_)
      refine L.norm (H' := [_, _, _, _, _, _, _, _, _, _, _, _, _, _]) [0, 1, 2, 3, 4, 5, 6, 7, 8, 9, 10, 11, 12, 13] ⟨rfl, rfl, rfl, rfl, rfl, rfl, rfl, rfl, rfl, rfl, rfl, rfl, rfl, rfl, trivial⟩ (by decide) ?_; refine L.nm (by kernel_rfl) ?_; refine LM.a2 6 8 (by kernel_rfl) (Hq [5, 6, 7, 8, 9, 10, 11, 12, 13, 4] rfl) rfl rfl ?_ ?_
      refine L.alloc rfl rfl rfl (fun A23 => ?_)
      refine L.nm (by kernel_rfl) ?_; refine LM.f 8 rfl (by kernel_rfl) (Hq [5, 6, 7, 8, 9, 10, 11, 12, 13, 4] rfl) ?_
      refine L.alloc rfl rfl rfl (fun A25 => ?_)
      refine L.norm (H' := [_, _, _, _, _, _, _, _, _, _, _, _, _, _, _, _]) [12, 14, 13, 15, 8, 9, 10, 11, 4, 5, 6, 7, 0, 1, 2, 3] ⟨rfl, rfl, rfl, rfl, rfl, rfl, rfl, rfl, rfl, rfl, rfl, rfl, rfl, rfl, rfl, rfl, trivial⟩ (by decide) ?_; refine L.nm (by kernel_rfl) ?_
      rotate_left
      refine L.alloc rfl rfl rfl (fun A25 => ?_)
      refine L.nm (by kernel_rfl) ?_; refine LM.f 6 rfl (by kernel_rfl) (Hq [5, 6, 7, 8, 9, 10, 11, 12, 13, 4] rfl) ?_
      refine L.alloc rfl rfl rfl (fun A23 => ?_)
      refine L.norm (H' := [_, _, _, _, _, _, _, _, _, _, _, _, _, _, _, _]) [12, 15, 13, 14, 8, 9, 10, 11, 4, 5, 6, 7, 0, 1, 2, 3] ⟨rfl, rfl, rfl, rfl, rfl, rfl, rfl, rfl, rfl, rfl, rfl, rfl, rfl, rfl, rfl, rfl, trivial⟩ (by decide) ?_; refine L.nm (by kernel_rfl) ?_
      rotate_left
      refine L.alloc rfl rfl rfl (fun A23 => ?_)
      refine L.nm (by kernel_rfl) ?_; refine LM.a2 5 8 (by kernel_rfl) (Hq [5, 6, 7, 8, 9, 10, 11, 12, 13, 4] rfl) rfl rfl ?_ ?_; refine L.call (js := []) (js' := [0, 1, 2, 3, 4, 5, 6, 7, 8, 9, 10]) (cp) rfl rfl rfl (by decide) (Hq [5, 6, 7, 8] rfl) rfl ?_
      rintro _ _ _ ⟨x3, rfl, rfl, rfl, hx3⟩
      refine L.kcaps 1 rfl (fun hk3 => ?_)
      refine L.norm (H' := [_, _, _, _, _, _, _, _, _, _, _, _, _, _, _]) [0, 1, 2, 3, 4, 5, 6, 7, 8, 9, 10, 11, 12, 13, 14] ⟨rfl, rfl, rfl, rfl, rfl, rfl, rfl, rfl, rfl, rfl, rfl, rfl, rfl, rfl, rfl, trivial⟩ (by decide) ?_; refine L.nm (by kernel_rfl) ?_; refine LM.f 8 rfl (by kernel_rfl) (Hq [5, 6, 7, 8, 9, 10, 11, 12, 13, 4] rfl) ?_
      refine L.alloc rfl rfl rfl (fun A25 => ?_)
      refine L.norm (H' := [_, _, _, _, _, _, _, _, _, _, _, _, _, _, _, _]) [12, 14, 13, 15, 8, 9, 10, 11, 4, 5, 6, 7, 0, 1, 2, 3] ⟨rfl, rfl, rfl, rfl, rfl, rfl, rfl, rfl, rfl, rfl, rfl, rfl, rfl, rfl, rfl, rfl, trivial⟩ (by decide) ?_; refine L.nm (by kernel_rfl) ?_
      rotate_left
      refine L.alloc rfl rfl rfl (fun A25 => ?_)
      refine L.nm (by kernel_rfl) ?_; refine LM.f 5 rfl (by kernel_rfl) (Hq [5, 6, 7, 8, 9, 10, 11, 12, 13, 4] rfl) ?_; refine L.call (js := []) (js' := [0, 1, 2, 3, 4, 5, 6, 7, 8, 9, 10, 11]) (cp) rfl rfl rfl (by decide) (Hq [5, 6, 7, 8] rfl) rfl ?_
      rintro _ _ _ ⟨x3, rfl, rfl, rfl, hx3⟩
      refine L.kcaps 1 rfl (fun hk3 => ?_)
      refine L.norm (H' := [_, _, _, _, _, _, _, _, _, _, _, _, _, _, _, _]) [0, 1, 2, 3, 4, 5, 6, 7, 8, 9, 10, 11, 12, 13, 14, 15] ⟨rfl, rfl, rfl, rfl, rfl, rfl, rfl, rfl, rfl, rfl, rfl, rfl, rfl, rfl, rfl, rfl, trivial⟩ (by decide) ?_; refine L.norm (H' := [_, _, _, _, _, _, _, _, _, _, _, _, _, _, _, _]) [12, 14, 13, 15, 8, 9, 10, 11, 4, 5, 6, 7, 0, 1, 2, 3] ⟨rfl, rfl, rfl, rfl, rfl, rfl, rfl, rfl, rfl, rfl, rfl, rfl, rfl, rfl, rfl, rfl, trivial⟩ (by decide) ?_; refine L.nm (by kernel_rfl) ?_
      rotate_left
      refine L.alloc rfl rfl rfl (fun A25 => ?_)
      refine L.nm (by kernel_rfl) ?_; refine LM.a2 5 6 (by kernel_rfl) (Hq [5, 6, 7, 8, 9, 10, 11, 12, 13, 4] rfl) rfl rfl ?_ ?_; refine L.call (js := []) (js' := [0, 1, 2, 3, 4, 5, 6, 7, 8, 9, 10]) (cp) rfl rfl rfl (by decide) (Hq [5, 6, 7, 8] rfl) rfl ?_
      rintro _ _ _ ⟨x3, rfl, rfl, rfl, hx3⟩
      refine L.kcaps 1 rfl (fun hk3 => ?_)
      refine L.norm (H' := [_, _, _, _, _, _, _, _, _, _, _, _, _, _, _]) [0, 1, 2, 3, 4, 5, 6, 7, 8, 9, 10, 11, 12, 13, 14] ⟨rfl, rfl, rfl, rfl, rfl, rfl, rfl, rfl, rfl, rfl, rfl, rfl, rfl, rfl, rfl, trivial⟩ (by decide) ?_; refine L.nm (by kernel_rfl) ?_; refine LM.f 6 rfl (by kernel_rfl) (Hq [5, 6, 7, 8, 9, 10, 11, 12, 13, 4] rfl) ?_
      refine L.alloc rfl rfl rfl (fun A23 => ?_)
      refine L.norm (H' := [_, _, _, _, _, _, _, _, _, _, _, _, _, _, _, _]) [12, 15, 13, 14, 8, 9, 10, 11, 4, 5, 6, 7, 0, 1, 2, 3] ⟨rfl, rfl, rfl, rfl, rfl, rfl, rfl, rfl, rfl, rfl, rfl, rfl, rfl, rfl, rfl, rfl, trivial⟩ (by decide) ?_; refine L.nm (by kernel_rfl) ?_
      rotate_left
      refine L.alloc rfl rfl rfl (fun A23 => ?_)
      refine L.nm (by kernel_rfl) ?_; refine LM.f 5 rfl (by kernel_rfl) (Hq [5, 6, 7, 8, 9, 10, 11, 12, 13, 4] rfl) ?_; refine L.call (js := []) (js' := [0, 1, 2, 3, 4, 5, 6, 7, 8, 9, 10, 11]) (cp) rfl rfl rfl (by decide) (Hq [5, 6, 7, 8] rfl) rfl ?_
      rintro _ _ _ ⟨x3, rfl, rfl, rfl, hx3⟩
      refine L.kcaps 1 rfl (fun hk3 => ?_)
      refine L.norm (H' := [_, _, _, _, _, _, _, _, _, _, _, _, _, _, _, _]) [0, 1, 2, 3, 4, 5, 6, 7, 8, 9, 10, 11, 12, 13, 14, 15] ⟨rfl, rfl, rfl, rfl, rfl, rfl, rfl, rfl, rfl, rfl, rfl, rfl, rfl, rfl, rfl, rfl, trivial⟩ (by decide) ?_; refine L.norm (H' := [_, _, _, _, _, _, _, _, _, _, _, _, _, _, _, _]) [12, 15, 13, 14, 8, 9, 10, 11, 4, 5, 6, 7, 0, 1, 2, 3] ⟨rfl, rfl, rfl, rfl, rfl, rfl, rfl, rfl, rfl, rfl, rfl, rfl, rfl, rfl, rfl, rfl, trivial⟩ (by decide) ?_; refine L.nm (by kernel_rfl) ?_
      rotate_left
      refine L.alloc rfl rfl rfl (fun A23 => ?_)
      refine L.nm (by kernel_rfl) ?_; refine LM.a2 3 8 (by kernel_rfl) (Hq [5, 6, 7, 8, 9, 10, 11, 12, 13, 4] rfl) rfl rfl ?_ ?_; refine L.call (js := []) (js' := [0, 1, 2, 3, 4, 5, 6]) (cp) rfl rfl rfl (by decide) (Hq [5, 6, 7, 8] rfl) rfl ?_
      rintro _ _ _ ⟨x2, rfl, rfl, rfl, hx2⟩
      refine L.kcaps 1 rfl (fun hk2 => ?_)
      refine L.norm (H' := [_, _, _, _, _, _, _, _, _, _, _]) [0, 1, 2, 3, 4, 5, 6, 7, 8, 9, 10] ⟨rfl, rfl, rfl, rfl, rfl, rfl, rfl, rfl, rfl, rfl, rfl, trivial⟩ (by decide) ?_; refine L.nm (by kernel_rfl) ?_; refine LM.a2 5 8 (by kernel_rfl) (Hq [5, 6, 7, 8, 9, 10, 11, 12, 13, 4] rfl) rfl rfl ?_ ?_; refine L.call (js := []) (js' := [0, 1, 2, 3, 4, 5, 6, 7, 8, 9, 10]) (cp) rfl rfl rfl (by decide) (Hq [5, 6, 7, 8] rfl) rfl ?_
      rintro _ _ _ ⟨x3, rfl, rfl, rfl, hx3⟩
      refine L.kcaps 1 rfl (fun hk3 => ?_)
      refine L.norm (H' := [_, _, _, _, _, _, _, _, _, _, _, _, _, _, _]) [0, 1, 2, 3, 4, 5, 6, 7, 8, 9, 10, 11, 12, 13, 14] ⟨rfl, rfl, rfl, rfl, rfl, rfl, rfl, rfl, rfl, rfl, rfl, rfl, rfl, rfl, rfl, trivial⟩ (by decide) ?_; refine L.nm (by kernel_rfl) ?_; refine LM.f 8 rfl (by kernel_rfl) (Hq [5, 6, 7, 8, 9, 10, 11, 12, 13, 4] rfl) ?_
      refine L.alloc rfl rfl rfl (fun A25 => ?_)
      refine L.norm (H' := [_, _, _, _, _, _, _, _, _, _, _, _, _, _, _, _]) [12, 14, 13, 15, 8, 9, 10, 11, 4, 5, 6, 7, 0, 1, 2, 3] ⟨rfl, rfl, rfl, rfl, rfl, rfl, rfl, rfl, rfl, rfl, rfl, rfl, rfl, rfl, rfl, rfl, trivial⟩ (by decide) ?_; refine L.nm (by kernel_rfl) ?_
      rotate_left
      refine L.alloc rfl rfl rfl (fun A25 => ?_)
      refine L.nm (by kernel_rfl) ?_; refine LM.f 5 rfl (by kernel_rfl) (Hq [5, 6, 7, 8, 9, 10, 11, 12, 13, 4] rfl) ?_; refine L.call (js := []) (js' := [0, 1, 2, 3, 4, 5, 6, 7, 8, 9, 10, 11]) (cp) rfl rfl rfl (by decide) (Hq [5, 6, 7, 8] rfl) rfl ?_
      rintro _ _ _ ⟨x3, rfl, rfl, rfl, hx3⟩
      refine L.kcaps 1 rfl (fun hk3 => ?_)
      refine L.norm (H' := [_, _, _, _, _, _, _, _, _, _, _, _, _, _, _, _]) [0, 1, 2, 3, 4, 5, 6, 7, 8, 9, 10, 11, 12, 13, 14, 15] ⟨rfl, rfl, rfl, rfl, rfl, rfl, rfl, rfl, rfl, rfl, rfl, rfl, rfl, rfl, rfl, rfl, trivial⟩ (by decide) ?_; refine L.norm (H' := [_, _, _, _, _, _, _, _, _, _, _, _, _, _, _, _]) [12, 14, 13, 15, 8, 9, 10, 11, 4, 5, 6, 7, 0, 1, 2, 3] ⟨rfl, rfl, rfl, rfl, rfl, rfl, rfl, rfl, rfl, rfl, rfl, rfl, rfl, rfl, rfl, rfl, trivial⟩ (by decide) ?_; refine L.nm (by kernel_rfl) ?_
      rotate_left
      refine L.alloc rfl rfl rfl (fun A25 => ?_)
      refine L.nm (by kernel_rfl) ?_; refine LM.f 3 rfl (by kernel_rfl) (Hq [5, 6, 7, 8, 9, 10, 11, 12, 13, 4] rfl) ?_; refine L.call (js := []) (js' := [0, 1, 2, 3, 4, 5, 6, 7]) (cp) rfl rfl rfl (by decide) (Hq [5, 6, 7, 8] rfl) rfl ?_
      rintro _ _ _ ⟨x2, rfl, rfl, rfl, hx2⟩
      refine L.kcaps 1 rfl (fun hk2 => ?_)
      refine L.norm (H' := [_, _, _, _, _, _, _, _, _, _, _, _]) [0, 1, 2, 3, 4, 5, 6, 7, 8, 9, 10, 11] ⟨rfl, rfl, rfl, rfl, rfl, rfl, rfl, rfl, rfl, rfl, rfl, rfl, trivial⟩ (by decide) ?_; refine L.nm (by kernel_rfl) ?_; refine LM.f 5 rfl (by kernel_rfl) (Hq [5, 6, 7, 8, 9, 10, 11, 12, 13, 4] rfl) ?_; refine L.call (js := []) (js' := [0, 1, 2, 3, 4, 5, 6, 7, 8, 9, 10, 11]) (cp) rfl rfl rfl (by decide) (Hq [5, 6, 7, 8] rfl) rfl ?_
      rintro _ _ _ ⟨x3, rfl, rfl, rfl, hx3⟩
      refine L.kcaps 1 rfl (fun hk3 => ?_)
      refine L.norm (H' := [_, _, _, _, _, _, _, _, _, _, _, _, _, _, _, _]) [0, 1, 2, 3, 4, 5, 6, 7, 8, 9, 10, 11, 12, 13, 14, 15] ⟨rfl, rfl, rfl, rfl, rfl, rfl, rfl, rfl, rfl, rfl, rfl, rfl, rfl, rfl, rfl, rfl, trivial⟩ (by decide) ?_; refine L.norm (H' := [_, _, _, _, _, _, _, _, _, _, _, _, _, _, _, _]) [12, 14, 13, 15, 8, 9, 10, 11, 4, 5, 6, 7, 0, 1, 2, 3] ⟨rfl, rfl, rfl, rfl, rfl, rfl, rfl, rfl, rfl, rfl, rfl, rfl, rfl, rfl, rfl, rfl, trivial⟩ (by decide) ?_; refine L.nm (by kernel_rfl) ?_
      rotate_left
      refine L.alloc rfl rfl rfl (fun A25 => ?_)
      refine L.nm (by kernel_rfl) ?_; refine LM.a2 3 6 (by kernel_rfl) (Hq [5, 6, 7, 8, 9, 10, 11, 12, 13, 4] rfl) rfl rfl ?_ ?_; refine L.call (js := []) (js' := [0, 1, 2, 3, 4, 5, 6]) (cp) rfl rfl rfl (by decide) (Hq [5, 6, 7, 8] rfl) rfl ?_
      rintro _ _ _ ⟨x2, rfl, rfl, rfl, hx2⟩
      refine L.kcaps 1 rfl (fun hk2 => ?_)
      refine L.norm (H' := [_, _, _, _, _, _, _, _, _, _, _]) [0, 1, 2, 3, 4, 5, 6, 7, 8, 9, 10] ⟨rfl, rfl, rfl, rfl, rfl, rfl, rfl, rfl, rfl, rfl, rfl, trivial⟩ (by decide) ?_; refine L.nm (by kernel_rfl) ?_; refine LM.a2 5 6 (by kernel_rfl) (Hq [5, 6, 7, 8, 9, 10, 11, 12, 13, 4] rfl) rfl rfl ?_ ?_; refine L.call (js := []) (js' := [0, 1, 2, 3, 4, 5, 6, 7, 8, 9, 10]) (cp) rfl rfl rfl (by decide) (Hq [5, 6, 7, 8] rfl) rfl ?_
      rintro _ _ _ ⟨x3, rfl, rfl, rfl, hx3⟩
      refine L.kcaps 1 rfl (fun hk3 => ?_)
      refine L.norm (H' := [_, _, _, _, _, _, _, _, _, _, _, _, _, _, _]) [0, 1, 2, 3, 4, 5, 6, 7, 8, 9, 10, 11, 12, 13, 14] ⟨rfl, rfl, rfl, rfl, rfl, rfl, rfl, rfl, rfl, rfl, rfl, rfl, rfl, rfl, rfl, trivial⟩ (by decide) ?_; refine L.nm (by kernel_rfl) ?_; refine LM.f 6 rfl (by kernel_rfl) (Hq [5, 6, 7, 8, 9, 10, 11, 12, 13, 4] rfl) ?_
      refine L.alloc rfl rfl rfl (fun A23 => ?_)
      refine L.norm (H' := [_, _, _, _, _, _, _, _, _, _, _, _, _, _, _, _]) [12, 15, 13, 14, 8, 9, 10, 11, 4, 5, 6, 7, 0, 1, 2, 3] ⟨rfl, rfl, rfl, rfl, rfl, rfl, rfl, rfl, rfl, rfl, rfl, rfl, rfl, rfl, rfl, rfl, trivial⟩ (by decide) ?_; refine L.nm (by kernel_rfl) ?_
      rotate_left
      refine L.alloc rfl rfl rfl (fun A23 => ?_)
      refine L.nm (by kernel_rfl) ?_; refine LM.f 5 rfl (by kernel_rfl) (Hq [5, 6, 7, 8, 9, 10, 11, 12, 13, 4] rfl) ?_; refine L.call (js := []) (js' := [0, 1, 2, 3, 4, 5, 6, 7, 8, 9, 10, 11]) (cp) rfl rfl rfl (by decide) (Hq [5, 6, 7, 8] rfl) rfl ?_
      rintro _ _ _ ⟨x3, rfl, rfl, rfl, hx3⟩
      refine L.kcaps 1 rfl (fun hk3 => ?_)
      refine L.norm (H' := [_, _, _, _, _, _, _, _, _, _, _, _, _, _, _, _]) [0, 1, 2, 3, 4, 5, 6, 7, 8, 9, 10, 11, 12, 13, 14, 15] ⟨rfl, rfl, rfl, rfl, rfl, rfl, rfl, rfl, rfl, rfl, rfl, rfl, rfl, rfl, rfl, rfl, trivial⟩ (by decide) ?_; refine L.norm (H' := [_, _, _, _, _, _, _, _, _, _, _, _, _, _, _, _]) [12, 15, 13, 14, 8, 9, 10, 11, 4, 5, 6, 7, 0, 1, 2, 3] ⟨rfl, rfl, rfl, rfl, rfl, rfl, rfl, rfl, rfl, rfl, rfl, rfl, rfl, rfl, rfl, rfl, trivial⟩ (by decide) ?_; refine L.nm (by kernel_rfl) ?_
      rotate_left
      refine L.alloc rfl rfl rfl (fun A23 => ?_)
      refine L.nm (by kernel_rfl) ?_; refine LM.f 3 rfl (by kernel_rfl) (Hq [5, 6, 7, 8, 9, 10, 11, 12, 13, 4] rfl) ?_; refine L.call (js := []) (js' := [0, 1, 2, 3, 4, 5, 6, 7]) (cp) rfl rfl rfl (by decide) (Hq [5, 6, 7, 8] rfl) rfl ?_
      rintro _ _ _ ⟨x2, rfl, rfl, rfl, hx2⟩
      refine L.kcaps 1 rfl (fun hk2 => ?_)
      refine L.norm (H' := [_, _, _, _, _, _, _, _, _, _, _, _]) [0, 1, 2, 3, 4, 5, 6, 7, 8, 9, 10, 11] ⟨rfl, rfl, rfl, rfl, rfl, rfl, rfl, rfl, rfl, rfl, rfl, rfl, trivial⟩ (by decide) ?_; refine L.nm (by kernel_rfl) ?_; refine LM.f 5 rfl (by kernel_rfl) (Hq [5, 6, 7, 8, 9, 10, 11, 12, 13, 4] rfl) ?_; refine L.call (js := []) (js' := [0, 1, 2, 3, 4, 5, 6, 7, 8, 9, 10, 11]) (cp) rfl rfl rfl (by decide) (Hq [5, 6, 7, 8] rfl) rfl ?_
      rintro _ _ _ ⟨x3, rfl, rfl, rfl, hx3⟩
      refine L.kcaps 1 rfl (fun hk3 => ?_)
      refine L.norm (H' := [_, _, _, _, _, _, _, _, _, _, _, _, _, _, _, _]) [0, 1, 2, 3, 4, 5, 6, 7, 8, 9, 10, 11, 12, 13, 14, 15] ⟨rfl, rfl, rfl, rfl, rfl, rfl, rfl, rfl, rfl, rfl, rfl, rfl, rfl, rfl, rfl, rfl, trivial⟩ (by decide) ?_; refine L.norm (H' := [_, _, _, _, _, _, _, _, _, _, _, _, _, _, _, _]) [12, 15, 13, 14, 8, 9, 10, 11, 4, 5, 6, 7, 0, 1, 2, 3] ⟨rfl, rfl, rfl, rfl, rfl, rfl, rfl, rfl, rfl, rfl, rfl, rfl, rfl, rfl, rfl, rfl, trivial⟩ (by decide) ?_; refine L.nm (by kernel_rfl) ?_
      rotate_left
      refine L.alloc rfl rfl rfl (fun A23 => ?_)
      refine L.nm (by kernel_rfl) ?_; refine LM.a2 1 8 (by kernel_rfl) (Hq [5, 6, 7, 8, 9, 10, 11, 12, 13, 4] rfl) rfl rfl ?_ ?_; refine L.call (js := []) (js' := [0, 1, 2]) (cp) rfl rfl rfl (by decide) (Hq [5, 6, 7, 8] rfl) rfl ?_
      rintro _ _ _ ⟨x1, rfl, rfl, rfl, hx1⟩
      refine L.kcaps 1 rfl (fun hk1 => ?_)
      refine L.norm (H' := [_, _, _, _, _, _, _]) [0, 1, 2, 3, 4, 5, 6] ⟨rfl, rfl, rfl, rfl, rfl, rfl, rfl, trivial⟩ (by decide) ?_; refine L.nm (by kernel_rfl) ?_; refine LM.a2 3 8 (by kernel_rfl) (Hq [5, 6, 7, 8, 9, 10, 11, 12, 13, 4] rfl) rfl rfl ?_ ?_; refine L.call (js := []) (js' := [0, 1, 2, 3, 4, 5, 6]) (cp) rfl rfl rfl (by decide) (Hq [5, 6, 7, 8] rfl) rfl ?_
      rintro _ _ _ ⟨x2, rfl, rfl, rfl, hx2⟩
      refine L.kcaps 1 rfl (fun hk2 => ?_)
      refine L.norm (H' := [_, _, _, _, _, _, _, _, _, _, _]) [0, 1, 2, 3, 4, 5, 6, 7, 8, 9, 10] ⟨rfl, rfl, rfl, rfl, rfl, rfl, rfl, rfl, rfl, rfl, rfl, trivial⟩ (by decide) ?_; refine L.nm (by kernel_rfl) ?_; refine LM.a2 5 8 (by kernel_rfl) (Hq [5, 6, 7, 8, 9, 10, 11, 12, 13, 4] rfl) rfl rfl ?_ ?_; refine L.call (js := []) (js' := [0, 1, 2, 3, 4, 5, 6, 7, 8, 9, 10]) (cp) rfl rfl rfl (by decide) (Hq [5, 6, 7, 8] rfl) rfl ?_
      rintro _ _ _ ⟨x3, rfl, rfl, rfl, hx3⟩
      refine L.kcaps 1 rfl (fun hk3 => ?_)
      refine L.norm (H' := [_, _, _, _, _, _, _, _, _, _, _, _, _, _, _]) [0, 1, 2, 3, 4, 5, 6, 7, 8, 9, 10, 11, 12, 13, 14] ⟨rfl, rfl, rfl, rfl, rfl, rfl, rfl, rfl, rfl, rfl, rfl, rfl, rfl, rfl, rfl, trivial⟩ (by decide) ?_; refine L.nm (by kernel_rfl) ?_; refine LM.f 8 rfl (by kernel_rfl) (Hq [5, 6, 7, 8, 9, 10, 11, 12, 13, 4] rfl) ?_
      refine L.alloc rfl rfl rfl (fun A25 => ?_)
      refine L.norm (H' := [_, _, _, _, _, _, _, _, _, _, _, _, _, _, _, _]) [12, 14, 13, 15, 8, 9, 10, 11, 4, 5, 6, 7, 0, 1, 2, 3] ⟨rfl, rfl, rfl, rfl, rfl, rfl, rfl, rfl, rfl, rfl, rfl, rfl, rfl, rfl, rfl, rfl, trivial⟩ (by decide) ?_; refine L.nm (by kernel_rfl) ?_
      rotate_left
      refine L.alloc rfl rfl rfl (fun A25 => ?_)
      refine L.nm (by kernel_rfl) ?_; refine LM.f 5 rfl (by kernel_rfl) (Hq [5, 6, 7, 8, 9, 10, 11, 12, 13, 4] rfl) ?_; refine L.call (js := []) (js' := [0, 1, 2, 3, 4, 5, 6, 7, 8, 9, 10, 11]) (cp) rfl rfl rfl (by decide) (Hq [5, 6, 7, 8] rfl) rfl ?_
      rintro _ _ _ ⟨x3, rfl, rfl, rfl, hx3⟩
      refine L.kcaps 1 rfl (fun hk3 => ?_)
      refine L.norm (H' := [_, _, _, _, _, _, _, _, _, _, _, _, _, _, _, _]) [0, 1, 2, 3, 4, 5, 6, 7, 8, 9, 10, 11, 12, 13, 14, 15] ⟨rfl, rfl, rfl, rfl, rfl, rfl, rfl, rfl, rfl, rfl, rfl, rfl, rfl, rfl, rfl, rfl, trivial⟩ (by decide) ?_; refine L.norm (H' := [_, _, _, _, _, _, _, _, _, _, _, _, _, _, _, _]) [12, 14, 13, 15, 8, 9, 10, 11, 4, 5, 6, 7, 0, 1, 2, 3] ⟨rfl, rfl, rfl, rfl, rfl, rfl, rfl, rfl, rfl, rfl, rfl, rfl, rfl, rfl, rfl, rfl, trivial⟩ (by decide) ?_; refine L.nm (by kernel_rfl) ?_
      rotate_left
      refine L.alloc rfl rfl rfl (fun A25 => ?_)
      refine L.nm (by kernel_rfl) ?_; refine LM.f 3 rfl (by kernel_rfl) (Hq [5, 6, 7, 8, 9, 10, 11, 12, 13, 4] rfl) ?_; refine L.call (js := []) (js' := [0, 1, 2, 3, 4, 5, 6, 7]) (cp) rfl rfl rfl (by decide) (Hq [5, 6, 7, 8] rfl) rfl ?_
      rintro _ _ _ ⟨x2, rfl, rfl, rfl, hx2⟩
      refine L.kcaps 1 rfl (fun hk2 => ?_)
      refine L.norm (H' := [_, _, _, _, _, _, _, _, _, _, _, _]) [0, 1, 2, 3, 4, 5, 6, 7, 8, 9, 10, 11] ⟨rfl, rfl, rfl, rfl, rfl, rfl, rfl, rfl, rfl, rfl, rfl, rfl, trivial⟩ (by decide) ?_; refine L.nm (by kernel_rfl) ?_; refine LM.f 5 rfl (by kernel_rfl) (Hq [5, 6, 7, 8, 9, 10, 11, 12, 13, 4] rfl) ?_; refine L.call (js := []) (js' := [0, 1, 2, 3, 4, 5, 6, 7, 8, 9, 10, 11]) (cp) rfl rfl rfl (by decide) (Hq [5, 6, 7, 8] rfl) rfl ?_
      rintro _ _ _ ⟨x3, rfl, rfl, rfl, hx3⟩
      refine L.kcaps 1 rfl (fun hk3 => ?_)
      refine L.norm (H' := [_, _, _, _, _, _, _, _, _, _, _, _, _, _, _, _]) [0, 1, 2, 3, 4, 5, 6, 7, 8, 9, 10, 11, 12, 13, 14, 15] ⟨rfl, rfl, rfl, rfl, rfl, rfl, rfl, rfl, rfl, rfl, rfl, rfl, rfl, rfl, rfl, rfl, trivial⟩ (by decide) ?_; refine L.norm (H' := [_, _, _, _, _, _, _, _, _, _, _, _, _, _, _, _]) [12, 14, 13, 15, 8, 9, 10, 11, 4, 5, 6, 7, 0, 1, 2, 3] ⟨rfl, rfl, rfl, rfl, rfl, rfl, rfl, rfl, rfl, rfl, rfl, rfl, rfl, rfl, rfl, rfl, trivial⟩ (by decide) ?_; refine L.nm (by kernel_rfl) ?_
      rotate_left
      refine L.alloc rfl rfl rfl (fun A25 => ?_)
      refine L.nm (by kernel_rfl) ?_; refine LM.f 1 rfl (by kernel_rfl) (Hq [5, 6, 7, 8, 9, 10, 11, 12, 13, 4] rfl) ?_; refine L.call (js := []) (js' := [0, 1, 2, 3]) (cp) rfl rfl rfl (by decide) (Hq [5, 6, 7, 8] rfl) rfl ?_
      rintro _ _ _ ⟨x1, rfl, rfl, rfl, hx1⟩
      refine L.kcaps 1 rfl (fun hk1 => ?_)
      refine L.norm (H' := [_, _, _, _, _, _, _, _]) [0, 1, 2, 3, 4, 5, 6, 7] ⟨rfl, rfl, rfl, rfl, rfl, rfl, rfl, rfl, trivial⟩ (by decide) ?_; refine L.nm (by kernel_rfl) ?_; refine LM.f 3 rfl (by kernel_rfl) (Hq [5, 6, 7, 8, 9, 10, 11, 12, 13, 4] rfl) ?_; refine L.call (js := []) (js' := [0, 1, 2, 3, 4, 5, 6, 7]) (cp) rfl rfl rfl (by decide) (Hq [5, 6, 7, 8] rfl) rfl ?_
      rintro _ _ _ ⟨x2, rfl, rfl, rfl, hx2⟩
      refine L.kcaps 1 rfl (fun hk2 => ?_)
      refine L.norm (H' := [_, _, _, _, _, _, _, _, _, _, _, _]) [0, 1, 2, 3, 4, 5, 6, 7, 8, 9, 10, 11] ⟨rfl, rfl, rfl, rfl, rfl, rfl, rfl, rfl, rfl, rfl, rfl, rfl, trivial⟩ (by decide) ?_; refine L.nm (by kernel_rfl) ?_; refine LM.f 5 rfl (by kernel_rfl) (Hq [5, 6, 7, 8, 9, 10, 11, 12, 13, 4] rfl) ?_; refine L.call (js := []) (js' := [0, 1, 2, 3, 4, 5, 6, 7, 8, 9, 10, 11]) (cp) rfl rfl rfl (by decide) (Hq [5, 6, 7, 8] rfl) rfl ?_
      rintro _ _ _ ⟨x3, rfl, rfl, rfl, hx3⟩
      refine L.kcaps 1 rfl (fun hk3 => ?_)
      refine L.norm (H' := [_, _, _, _, _, _, _, _, _, _, _, _, _, _, _, _]) [0, 1, 2, 3, 4, 5, 6, 7, 8, 9, 10, 11, 12, 13, 14, 15] ⟨rfl, rfl, rfl, rfl, rfl, rfl, rfl, rfl, rfl, rfl, rfl, rfl, rfl, rfl, rfl, rfl, trivial⟩ (by decide) ?_; refine L.norm (H' := [_, _, _, _, _, _, _, _, _, _, _, _, _, _, _, _]) [12, 14, 13, 15, 8, 9, 10, 11, 4, 5, 6, 7, 0, 1, 2, 3] ⟨rfl, rfl, rfl, rfl, rfl, rfl, rfl, rfl, rfl, rfl, rfl, rfl, rfl, rfl, rfl, rfl, trivial⟩ (by decide) ?_; refine L.nm (by kernel_rfl) ?_
      rotate_left
      refine L.alloc rfl rfl rfl (fun A25 => ?_)
      refine L.nm (by kernel_rfl) ?_; refine LM.a2 1 6 (by kernel_rfl) (Hq [5, 6, 7, 8, 9, 10, 11, 12, 13, 4] rfl) rfl rfl ?_ ?_; refine L.call (js := []) (js' := [0, 1, 2]) (cp) rfl rfl rfl (by decide) (Hq [5, 6, 7, 8] rfl) rfl ?_
      rintro _ _ _ ⟨x1, rfl, rfl, rfl, hx1⟩
      refine L.kcaps 1 rfl (fun hk1 => ?_)
      refine L.norm (H' := [_, _, _, _, _, _, _]) [0, 1, 2, 3, 4, 5, 6] ⟨rfl, rfl, rfl, rfl, rfl, rfl, rfl, trivial⟩ (by decide) ?_; refine L.nm (by kernel_rfl) ?_; refine LM.a2 3 6 (by kernel_rfl) (Hq [5, 6, 7, 8, 9, 10, 11, 12, 13, 4] rfl) rfl rfl ?_ ?_; refine L.call (js := []) (js' := [0, 1, 2, 3, 4, 5, 6]) (cp) rfl rfl rfl (by decide) (Hq [5, 6, 7, 8] rfl) rfl ?_
      rintro _ _ _ ⟨x2, rfl, rfl, rfl, hx2⟩
      refine L.kcaps 1 rfl (fun hk2 => ?_)
      refine L.norm (H' := [_, _, _, _, _, _, _, _, _, _, _]) [0, 1, 2, 3, 4, 5, 6, 7, 8, 9, 10] ⟨rfl, rfl, rfl, rfl, rfl, rfl, rfl, rfl, rfl, rfl, rfl, trivial⟩ (by decide) ?_; refine L.nm (by kernel_rfl) ?_; refine LM.a2 5 6 (by kernel_rfl) (Hq [5, 6, 7, 8, 9, 10, 11, 12, 13, 4] rfl) rfl rfl ?_ ?_; refine L.call (js := []) (js' := [0, 1, 2, 3, 4, 5, 6, 7, 8, 9, 10]) (cp) rfl rfl rfl (by decide) (Hq [5, 6, 7, 8] rfl) rfl ?_
      rintro _ _ _ ⟨x3, rfl, rfl, rfl, hx3⟩
      refine L.kcaps 1 rfl (fun hk3 => ?_)
      refine L.norm (H' := [_, _, _, _, _, _, _, _, _, _, _, _, _, _, _]) [0, 1, 2, 3, 4, 5, 6, 7, 8, 9, 10, 11, 12, 13, 14] ⟨rfl, rfl, rfl, rfl, rfl, rfl, rfl, rfl, rfl, rfl, rfl, rfl, rfl, rfl, rfl, trivial⟩ (by decide) ?_; refine L.nm (by kernel_rfl) ?_; refine LM.f 6 rfl (by kernel_rfl) (Hq [5, 6, 7, 8, 9, 10, 11, 12, 13, 4] rfl) ?_
      refine L.alloc rfl rfl rfl (fun A23 => ?_)
      refine L.norm (H' := [_, _, _, _, _, _, _, _, _, _, _, _, _, _, _, _]) [12, 15, 13, 14, 8, 9, 10, 11, 4, 5, 6, 7, 0, 1, 2, 3] ⟨rfl, rfl, rfl, rfl, rfl, rfl, rfl, rfl, rfl, rfl, rfl, rfl, rfl, rfl, rfl, rfl, trivial⟩ (by decide) ?_; refine L.nm (by kernel_rfl) ?_
      rotate_left
      refine L.alloc rfl rfl rfl (fun A23 => ?_)
      refine L.nm (by kernel_rfl) ?_; refine LM.f 5 rfl (by kernel_rfl) (Hq [5, 6, 7, 8, 9, 10, 11, 12, 13, 4] rfl) ?_; refine L.call (js := []) (js' := [0, 1, 2, 3, 4, 5, 6, 7, 8, 9, 10, 11]) (cp) rfl rfl rfl (by decide) (Hq [5, 6, 7, 8] rfl) rfl ?_
      rintro _ _ _ ⟨x3, rfl, rfl, rfl, hx3⟩
      refine L.kcaps 1 rfl (fun hk3 => ?_)
      refine L.norm (H' := [_, _, _, _, _, _, _, _, _, _, _, _, _, _, _, _]) [0, 1, 2, 3, 4, 5, 6, 7, 8, 9, 10, 11, 12, 13, 14, 15] ⟨rfl, rfl, rfl, rfl, rfl, rfl, rfl, rfl, rfl, rfl, rfl, rfl, rfl, rfl, rfl, rfl, trivial⟩ (by decide) ?_; refine L.norm (H' := [_, _, _, _, _, _, _, _, _, _, _, _, _, _, _, _]) [12, 15, 13, 14, 8, 9, 10, 11, 4, 5, 6, 7, 0, 1, 2, 3] ⟨rfl, rfl, rfl, rfl, rfl, rfl, rfl, rfl, rfl, rfl, rfl, rfl, rfl, rfl, rfl, rfl, trivial⟩ (by decide) ?_; refine L.nm (by kernel_rfl) ?_
      rotate_left
      refine L.alloc rfl rfl rfl (fun A23 => ?_)
      refine L.nm (by kernel_rfl) ?_; refine LM.f 3 rfl (by kernel_rfl) (Hq [5, 6, 7, 8, 9, 10, 11, 12, 13, 4] rfl) ?_; refine L.call (js := []) (js' := [0, 1, 2, 3, 4, 5, 6, 7]) (cp) rfl rfl rfl (by decide) (Hq [5, 6, 7, 8] rfl) rfl ?_
      rintro _ _ _ ⟨x2, rfl, rfl, rfl, hx2⟩
      refine L.kcaps 1 rfl (fun hk2 => ?_)
      refine L.norm (H' := [_, _, _, _, _, _, _, _, _, _, _, _]) [0, 1, 2, 3, 4, 5, 6, 7, 8, 9, 10, 11] ⟨rfl, rfl, rfl, rfl, rfl, rfl, rfl, rfl, rfl, rfl, rfl, rfl, trivial⟩ (by decide) ?_; refine L.nm (by kernel_rfl) ?_; refine LM.f 5 rfl (by kernel_rfl) (Hq [5, 6, 7, 8, 9, 10, 11, 12, 13, 4] rfl) ?_; refine L.call (js := []) (js' := [0, 1, 2, 3, 4, 5, 6, 7, 8, 9, 10, 11]) (cp) rfl rfl rfl (by decide) (Hq [5, 6, 7, 8] rfl) rfl ?_
      rintro _ _ _ ⟨x3, rfl, rfl, rfl, hx3⟩
      refine L.kcaps 1 rfl (fun hk3 => ?_)
      refine L.norm (H' := [_, _, _, _, _, _, _, _, _, _, _, _, _, _, _, _]) [0, 1, 2, 3, 4, 5, 6, 7, 8, 9, 10, 11, 12, 13, 14, 15] ⟨rfl, rfl, rfl, rfl, rfl, rfl, rfl, rfl, rfl, rfl, rfl, rfl, rfl, rfl, rfl, rfl, trivial⟩ (by decide) ?_; refine L.norm (H' := [_, _, _, _, _, _, _, _, _, _, _, _, _, _, _, _]) [12, 15, 13, 14, 8, 9, 10, 11, 4, 5, 6, 7, 0, 1, 2, 3] ⟨rfl, rfl, rfl, rfl, rfl, rfl, rfl, rfl, rfl, rfl, rfl, rfl, rfl, rfl, rfl, rfl, trivial⟩ (by decide) ?_; refine L.nm (by kernel_rfl) ?_
      rotate_left
      refine L.alloc rfl rfl rfl (fun A23 => ?_)
      refine L.nm (by kernel_rfl) ?_; refine LM.f 1 rfl (by kernel_rfl) (Hq [5, 6, 7, 8, 9, 10, 11, 12, 13, 4] rfl) ?_; refine L.call (js := []) (js' := [0, 1, 2, 3]) (cp) rfl rfl rfl (by decide) (Hq [5, 6, 7, 8] rfl) rfl ?_
      rintro _ _ _ ⟨x1, rfl, rfl, rfl, hx1⟩
      refine L.kcaps 1 rfl (fun hk1 => ?_)
      refine L.norm (H' := [_, _, _, _, _, _, _, _]) [0, 1, 2, 3, 4, 5, 6, 7] ⟨rfl, rfl, rfl, rfl, rfl, rfl, rfl, rfl, trivial⟩ (by decide) ?_; refine L.nm (by kernel_rfl) ?_; refine LM.f 3 rfl (by kernel_rfl) (Hq [5, 6, 7, 8, 9, 10, 11, 12, 13, 4] rfl) ?_; refine L.call (js := []) (js' := [0, 1, 2, 3, 4, 5, 6, 7]) (cp) rfl rfl rfl (by decide) (Hq [5, 6, 7, 8] rfl) rfl ?_
      rintro _ _ _ ⟨x2, rfl, rfl, rfl, hx2⟩
      refine L.kcaps 1 rfl (fun hk2 => ?_)
      refine L.norm (H' := [_, _, _, _, _, _, _, _, _, _, _, _]) [0, 1, 2, 3, 4, 5, 6, 7, 8, 9, 10, 11] ⟨rfl, rfl, rfl, rfl, rfl, rfl, rfl, rfl, rfl, rfl, rfl, rfl, trivial⟩ (by decide) ?_; refine L.nm (by kernel_rfl) ?_; refine LM.f 5 rfl (by kernel_rfl) (Hq [5, 6, 7, 8, 9, 10, 11, 12, 13, 4] rfl) ?_; refine L.call (js := []) (js' := [0, 1, 2, 3, 4, 5, 6, 7, 8, 9, 10, 11]) (cp) rfl rfl rfl (by decide) (Hq [5, 6, 7, 8] rfl) rfl ?_
      rintro _ _ _ ⟨x3, rfl, rfl, rfl, hx3⟩
      refine L.kcaps 1 rfl (fun hk3 => ?_)
      refine L.norm (H' := [_, _, _, _, _, _, _, _, _, _, _, _, _, _, _, _]) [0, 1, 2, 3, 4, 5, 6, 7, 8, 9, 10, 11, 12, 13, 14, 15] ⟨rfl, rfl, rfl, rfl, rfl, rfl, rfl, rfl, rfl, rfl, rfl, rfl, rfl, rfl, rfl, rfl, trivial⟩ (by decide) ?_; refine L.norm (H' := [_, _, _, _, _, _, _, _, _, _, _, _, _, _, _, _]) [12, 15, 13, 14, 8, 9, 10, 11, 4, 5, 6, 7, 0, 1, 2, 3] ⟨rfl, rfl, rfl, rfl, rfl, rfl, rfl, rfl, rfl, rfl, rfl, rfl, rfl, rfl, rfl, rfl, trivial⟩ (by decide) ?_; refine L.nm (by kernel_rfl) ?_
      rotate_left
      refine L.alloc rfl rfl rfl (fun A25 => ?_)
      refine L.nm (by kernel_rfl) ?_; refine LM.a3 1 6 7 (by kernel_rfl) (Hq [5, 6, 7, 8, 9, 10, 11, 12, 13, 4] rfl) rfl rfl rfl ?_ ?_ ?_; refine L.call (js := []) (js' := [0, 1]) (cp) rfl rfl rfl (by decide) (Hq [5, 6, 7, 8] rfl) rfl ?_
      rintro _ _ _ ⟨x1, rfl, rfl, rfl, hx1⟩
      refine L.kcaps 1 rfl (fun hk1 => ?_)
      refine L.norm (H' := [_, _, _, _, _, _]) [0, 1, 2, 3, 4, 5] ⟨rfl, rfl, rfl, rfl, rfl, rfl, trivial⟩ (by decide) ?_; refine L.nm (by kernel_rfl) ?_; refine LM.a3 3 6 7 (by kernel_rfl) (Hq [5, 6, 7, 8, 9, 10, 11, 12, 13, 4] rfl) rfl rfl rfl ?_ ?_ ?_; refine L.call (js := []) (js' := [0, 1, 2, 3, 4, 5]) (cp) rfl rfl rfl (by decide) (Hq [5, 6, 7, 8] rfl) rfl ?_
      rintro _ _ _ ⟨x2, rfl, rfl, rfl, hx2⟩
      refine L.kcaps 1 rfl (fun hk2 => ?_)
      refine L.norm (H' := [_, _, _, _, _, _, _, _, _, _]) [0, 1, 2, 3, 4, 5, 6, 7, 8, 9] ⟨rfl, rfl, rfl, rfl, rfl, rfl, rfl, rfl, rfl, rfl, trivial⟩ (by decide) ?_; refine L.nm (by kernel_rfl) ?_; refine LM.a3 5 6 7 (by kernel_rfl) (Hq [5, 6, 7, 8, 9, 10, 11, 12, 13, 4] rfl) rfl rfl rfl ?_ ?_ ?_; refine L.call (js := []) (js' := [0, 1, 2, 3, 4, 5, 6, 7, 8, 9]) (cp) rfl rfl rfl (by decide) (Hq [5, 6, 7, 8] rfl) rfl ?_
      rintro _ _ _ ⟨x3, rfl, rfl, rfl, hx3⟩
      refine L.kcaps 1 rfl (fun hk3 => ?_)
      refine L.norm (H' := [_, _, _, _, _, _, _, _, _, _, _, _, _, _]) [0, 1, 2, 3, 4, 5, 6, 7, 8, 9, 10, 11, 12, 13] ⟨rfl, rfl, rfl, rfl, rfl, rfl, rfl, rfl, rfl, rfl, rfl, rfl, rfl, rfl, trivial⟩ (by decide) ?_; refine L.nm (by kernel_rfl) ?_; refine LM.a2 6 7 (by kernel_rfl) (Hq [5, 6, 7, 8, 9, 10, 11, 12, 13, 4] rfl) rfl rfl ?_ ?_
      refine L.alloc rfl rfl rfl (fun A23 => ?_)
      refine L.nm (by kernel_rfl) ?_; refine LM.f 7 rfl (by kernel_rfl) (Hq [5, 6, 7, 8, 9, 10, 11, 12, 13, 4] rfl) ?_
      refine L.alloc rfl rfl rfl (fun A24 => ?_)
      refine L.norm (H' := [_, _, _, _, _, _, _, _, _, _, _, _, _, _, _, _]) [12, 14, 15, 13, 8, 9, 10, 11, 4, 5, 6, 7, 0, 1, 2, 3] ⟨rfl, rfl, rfl, rfl, rfl, rfl, rfl, rfl, rfl, rfl, rfl, rfl, rfl, rfl, rfl, rfl, trivial⟩ (by decide) ?_; refine L.nm (by kernel_rfl) ?_
      rotate_left
      refine L.alloc rfl rfl rfl (fun A24 => ?_)
      refine L.nm (by kernel_rfl) ?_; refine LM.f 6 rfl (by kernel_rfl) (Hq [5, 6, 7, 8, 9, 10, 11, 12, 13, 4] rfl) ?_
      refine L.alloc rfl rfl rfl (fun A23 => ?_)
      refine L.norm (H' := [_, _, _, _, _, _, _, _, _, _, _, _, _, _, _, _]) [12, 15, 14, 13, 8, 9, 10, 11, 4, 5, 6, 7, 0, 1, 2, 3] ⟨rfl, rfl, rfl, rfl, rfl, rfl, rfl, rfl, rfl, rfl, rfl, rfl, rfl, rfl, rfl, rfl, trivial⟩ (by decide) ?_; refine L.nm (by kernel_rfl) ?_
      rotate_left
      refine L.alloc rfl rfl rfl (fun A23 => ?_)
      refine L.nm (by kernel_rfl) ?_; refine LM.a2 5 7 (by kernel_rfl) (Hq [5, 6, 7, 8, 9, 10, 11, 12, 13, 4] rfl) rfl rfl ?_ ?_; refine L.call (js := []) (js' := [0, 1, 2, 3, 4, 5, 6, 7, 8, 9, 10]) (cp) rfl rfl rfl (by decide) (Hq [5, 6, 7, 8] rfl) rfl ?_
      rintro _ _ _ ⟨x3, rfl, rfl, rfl, hx3⟩
      refine L.kcaps 1 rfl (fun hk3 => ?_)
      refine L.norm (H' := [_, _, _, _, _, _, _, _, _, _, _, _, _, _, _]) [0, 1, 2, 3, 4, 5, 6, 7, 8, 9, 10, 11, 12, 13, 14] ⟨rfl, rfl, rfl, rfl, rfl, rfl, rfl, rfl, rfl, rfl, rfl, rfl, rfl, rfl, rfl, trivial⟩ (by decide) ?_; refine L.nm (by kernel_rfl) ?_; refine LM.f 7 rfl (by kernel_rfl) (Hq [5, 6, 7, 8, 9, 10, 11, 12, 13, 4] rfl) ?_
      refine L.alloc rfl rfl rfl (fun A24 => ?_)
      refine L.norm (H' := [_, _, _, _, _, _, _, _, _, _, _, _, _, _, _, _]) [12, 14, 15, 13, 8, 9, 10, 11, 4, 5, 6, 7, 0, 1, 2, 3] ⟨rfl, rfl, rfl, rfl, rfl, rfl, rfl, rfl, rfl, rfl, rfl, rfl, rfl, rfl, rfl, rfl, trivial⟩ (by decide) ?_; refine L.nm (by kernel_rfl) ?_
      rotate_left
      refine L.alloc rfl rfl rfl (fun A24 => ?_)
      refine L.nm (by kernel_rfl) ?_; refine LM.f 5 rfl (by kernel_rfl) (Hq [5, 6, 7, 8, 9, 10, 11, 12, 13, 4] rfl) ?_; refine L.call (js := []) (js' := [0, 1, 2, 3, 4, 5, 6, 7, 8, 9, 10, 11]) (cp) rfl rfl rfl (by decide) (Hq [5, 6, 7, 8] rfl) rfl ?_
      rintro _ _ _ ⟨x3, rfl, rfl, rfl, hx3⟩
      refine L.kcaps 1 rfl (fun hk3 => ?_)
      refine L.norm (H' := [_, _, _, _, _, _, _, _, _, _, _, _, _, _, _, _]) [0, 1, 2, 3, 4, 5, 6, 7, 8, 9, 10, 11, 12, 13, 14, 15] ⟨rfl, rfl, rfl, rfl, rfl, rfl, rfl, rfl, rfl, rfl, rfl, rfl, rfl, rfl, rfl, rfl, trivial⟩ (by decide) ?_; refine L.norm (H' := [_, _, _, _, _, _, _, _, _, _, _, _, _, _, _, _]) [12, 14, 15, 13, 8, 9, 10, 11, 4, 5, 6, 7, 0, 1, 2, 3] ⟨rfl, rfl, rfl, rfl, rfl, rfl, rfl, rfl, rfl, rfl, rfl, rfl, rfl, rfl, rfl, rfl, trivial⟩ (by decide) ?_; refine L.nm (by kernel_rfl) ?_
      rotate_left
      refine L.alloc rfl rfl rfl (fun A24 => ?_)
      refine L.nm (by kernel_rfl) ?_; refine LM.a2 5 6 (by kernel_rfl) (Hq [5, 6, 7, 8, 9, 10, 11, 12, 13, 4] rfl) rfl rfl ?_ ?_; refine L.call (js := []) (js' := [0, 1, 2, 3, 4, 5, 6, 7, 8, 9, 10]) (cp) rfl rfl rfl (by decide) (Hq [5, 6, 7, 8] rfl) rfl ?_
      rintro _ _ _ ⟨x3, rfl, rfl, rfl, hx3⟩
      refine L.kcaps 1 rfl (fun hk3 => ?_)
      refine L.norm (H' := [_, _, _, _, _, _, _, _, _, _, _, _, _, _, _]) [0, 1, 2, 3, 4, 5, 6, 7, 8, 9, 10, 11, 12, 13, 14] ⟨rfl, rfl, rfl, rfl, rfl, rfl, rfl, rfl, rfl, rfl, rfl, rfl, rfl, rfl, rfl, trivial⟩ (by decide) ?_; refine L.nm (by kernel_rfl) ?_; refine LM.f 6 rfl (by kernel_rfl) (Hq [5, 6, 7, 8, 9, 10, 11, 12, 13, 4] rfl) ?_
      refine L.alloc rfl rfl rfl (fun A23 => ?_)
      refine L.norm (H' := [_, _, _, _, _, _, _, _, _, _, _, _, _, _, _, _]) [12, 15, 14, 13, 8, 9, 10, 11, 4, 5, 6, 7, 0, 1, 2, 3] ⟨rfl, rfl, rfl, rfl, rfl, rfl, rfl, rfl, rfl, rfl, rfl, rfl, rfl, rfl, rfl, rfl, trivial⟩ (by decide) ?_; refine L.nm (by kernel_rfl) ?_
      rotate_left
      refine L.alloc rfl rfl rfl (fun A23 => ?_)
      refine L.nm (by kernel_rfl) ?_; refine LM.f 5 rfl (by kernel_rfl) (Hq [5, 6, 7, 8, 9, 10, 11, 12, 13, 4] rfl) ?_; refine L.call (js := []) (js' := [0, 1, 2, 3, 4, 5, 6, 7, 8, 9, 10, 11]) (cp) rfl rfl rfl (by decide) (Hq [5, 6, 7, 8] rfl) rfl ?_
      rintro _ _ _ ⟨x3, rfl, rfl, rfl, hx3⟩
      refine L.kcaps 1 rfl (fun hk3 => ?_)
      refine L.norm (H' := [_, _, _, _, _, _, _, _, _, _, _, _, _, _, _, _]) [0, 1, 2, 3, 4, 5, 6, 7, 8, 9, 10, 11, 12, 13, 14, 15] ⟨rfl, rfl, rfl, rfl, rfl, rfl, rfl, rfl, rfl, rfl, rfl, rfl, rfl, rfl, rfl, rfl, trivial⟩ (by decide) ?_; refine L.norm (H' := [_, _, _, _, _, _, _, _, _, _, _, _, _, _, _, _]) [12, 15, 14, 13, 8, 9, 10, 11, 4, 5, 6, 7, 0, 1, 2, 3] ⟨rfl, rfl, rfl, rfl, rfl, rfl, rfl, rfl, rfl, rfl, rfl, rfl, rfl, rfl, rfl, rfl, trivial⟩ (by decide) ?_; refine L.nm (by kernel_rfl) ?_
      rotate_left
      refine L.alloc rfl rfl rfl (fun A23 => ?_)
      refine L.nm (by kernel_rfl) ?_; refine LM.a2 3 7 (by kernel_rfl) (Hq [5, 6, 7, 8, 9, 10, 11, 12, 13, 4] rfl) rfl rfl ?_ ?_; refine L.call (js := []) (js' := [0, 1, 2, 3, 4, 5, 6]) (cp) rfl rfl rfl (by decide) (Hq [5, 6, 7, 8] rfl) rfl ?_
      rintro _ _ _ ⟨x2, rfl, rfl, rfl, hx2⟩
      refine L.kcaps 1 rfl (fun hk2 => ?_)
      refine L.norm (H' := [_, _, _, _, _, _, _, _, _, _, _]) [0, 1, 2, 3, 4, 5, 6, 7, 8, 9, 10] ⟨rfl, rfl, rfl, rfl, rfl, rfl, rfl, rfl, rfl, rfl, rfl, trivial⟩ (by decide) ?_; refine L.nm (by kernel_rfl) ?_; refine LM.a2 5 7 (by kernel_rfl) (Hq [5, 6, 7, 8, 9, 10, 11, 12, 13, 4] rfl) rfl rfl ?_ ?_; refine L.call (js := []) (js' := [0, 1, 2, 3, 4, 5, 6, 7, 8, 9, 10]) (cp) rfl rfl rfl (by decide) (Hq [5, 6, 7, 8] rfl) rfl ?_
      rintro _ _ _ ⟨x3, rfl, rfl, rfl, hx3⟩
      refine L.kcaps 1 rfl (fun hk3 => ?_)
      refine L.norm (H' := [_, _, _, _, _, _, _, _, _, _, _, _, _, _, _]) [0, 1, 2, 3, 4, 5, 6, 7, 8, 9, 10, 11, 12, 13, 14] ⟨rfl, rfl, rfl, rfl, rfl, rfl, rfl, rfl, rfl, rfl, rfl, rfl, rfl, rfl, rfl, trivial⟩ (by decide) ?_; refine L.nm (by kernel_rfl) ?_; refine LM.f 7 rfl (by kernel_rfl) (Hq [5, 6, 7, 8, 9, 10, 11, 12, 13, 4] rfl) ?_
      refine L.alloc rfl rfl rfl (fun A24 => ?_)
      refine L.norm (H' := [_, _, _, _, _, _, _, _, _, _, _, _, _, _, _, _]) [12, 14, 15, 13, 8, 9, 10, 11, 4, 5, 6, 7, 0, 1, 2, 3] ⟨rfl, rfl, rfl, rfl, rfl, rfl, rfl, rfl, rfl, rfl, rfl, rfl, rfl, rfl, rfl, rfl, trivial⟩ (by decide) ?_; refine L.nm (by kernel_rfl) ?_
      rotate_left
      refine L.alloc rfl rfl rfl (fun A24 => ?_)
      refine L.nm (by kernel_rfl) ?_; refine LM.f 5 rfl (by kernel_rfl) (Hq [5, 6, 7, 8, 9, 10, 11, 12, 13, 4] rfl) ?_; refine L.call (js := []) (js' := [0, 1, 2, 3, 4, 5, 6, 7, 8, 9, 10, 11]) (cp) rfl rfl rfl (by decide) (Hq [5, 6, 7, 8] rfl) rfl ?_
      rintro _ _ _ ⟨x3, rfl, rfl, rfl, hx3⟩
      refine L.kcaps 1 rfl (fun hk3 => ?_)
      refine L.norm (H' := [_, _, _, _, _, _, _, _, _, _, _, _, _, _, _, _]) [0, 1, 2, 3, 4, 5, 6, 7, 8, 9, 10, 11, 12, 13, 14, 15] ⟨rfl, rfl, rfl, rfl, rfl, rfl, rfl, rfl, rfl, rfl, rfl, rfl, rfl, rfl, rfl, rfl, trivial⟩ (by decide) ?_; refine L.norm (H' := [_, _, _, _, _, _, _, _, _, _, _, _, _, _, _, _]) [12, 14, 15, 13, 8, 9, 10, 11, 4, 5, 6, 7, 0, 1, 2, 3] ⟨rfl, rfl, rfl, rfl, rfl, rfl, rfl, rfl, rfl, rfl, rfl, rfl, rfl, rfl, rfl, rfl, trivial⟩ (by decide) ?_; refine L.nm (by kernel_rfl) ?_
      rotate_left
      refine L.alloc rfl rfl rfl (fun A24 => ?_)
      refine L.nm (by kernel_rfl) ?_; refine LM.f 3 rfl (by kernel_rfl) (Hq [5, 6, 7, 8, 9, 10, 11, 12, 13, 4] rfl) ?_; refine L.call (js := []) (js' := [0, 1, 2, 3, 4, 5, 6, 7]) (cp) rfl rfl rfl (by decide) (Hq [5, 6, 7, 8] rfl) rfl ?_
      rintro _ _ _ ⟨x2, rfl, rfl, rfl, hx2⟩
      refine L.kcaps 1 rfl (fun hk2 => ?_)
      refine L.norm (H' := [_, _, _, _, _, _, _, _, _, _, _, _]) [0, 1, 2, 3, 4, 5, 6, 7, 8, 9, 10, 11] ⟨rfl, rfl, rfl, rfl, rfl, rfl, rfl, rfl, rfl, rfl, rfl, rfl, trivial⟩ (by decide) ?_; refine L.nm (by kernel_rfl) ?_; refine LM.f 5 rfl (by kernel_rfl) (Hq [5, 6, 7, 8, 9, 10, 11, 12, 13, 4] rfl) ?_; refine L.call (js := []) (js' := [0, 1, 2, 3, 4, 5, 6, 7, 8, 9, 10, 11]) (cp) rfl rfl rfl (by decide) (Hq [5, 6, 7, 8] rfl) rfl ?_
      rintro _ _ _ ⟨x3, rfl, rfl, rfl, hx3⟩
      refine L.kcaps 1 rfl (fun hk3 => ?_)
      refine L.norm (H' := [_, _, _, _, _, _, _, _, _, _, _, _, _, _, _, _]) [0, 1, 2, 3, 4, 5, 6, 7, 8, 9, 10, 11, 12, 13, 14, 15] ⟨rfl, rfl, rfl, rfl, rfl, rfl, rfl, rfl, rfl, rfl, rfl, rfl, rfl, rfl, rfl, rfl, trivial⟩ (by decide) ?_; refine L.norm (H' := [_, _, _, _, _, _, _, _, _, _, _, _, _, _, _, _]) [12, 14, 15, 13, 8, 9, 10, 11, 4, 5, 6, 7, 0, 1, 2, 3] ⟨rfl, rfl, rfl, rfl, rfl, rfl, rfl, rfl, rfl, rfl, rfl, rfl, rfl, rfl, rfl, rfl, trivial⟩ (by decide) ?_; refine L.nm (by kernel_rfl) ?_
      rotate_left
      refine L.alloc rfl rfl rfl (fun A24 => ?_)
      refine L.nm (by kernel_rfl) ?_; refine LM.a2 3 6 (by kernel_rfl) (Hq [5, 6, 7, 8, 9, 10, 11, 12, 13, 4] rfl) rfl rfl ?_ ?_; refine L.call (js := []) (js' := [0, 1, 2, 3, 4, 5, 6]) (cp) rfl rfl rfl (by decide) (Hq [5, 6, 7, 8] rfl) rfl ?_
      rintro _ _ _ ⟨x2, rfl, rfl, rfl, hx2⟩
      refine L.kcaps 1 rfl (fun hk2 => ?_)
      refine L.norm (H' := [_, _, _, _, _, _, _, _, _, _, _]) [0, 1, 2, 3, 4, 5, 6, 7, 8, 9, 10] ⟨rfl, rfl, rfl, rfl, rfl, rfl, rfl, rfl, rfl, rfl, rfl, trivial⟩ (by decide) ?_; refine L.nm (by kernel_rfl) ?_; refine LM.a2 5 6 (by kernel_rfl) (Hq [5, 6, 7, 8, 9, 10, 11, 12, 13, 4] rfl) rfl rfl ?_ ?_; refine L.call (js := []) (js' := [0, 1, 2, 3, 4, 5, 6, 7, 8, 9, 10]) (cp) rfl rfl rfl (by decide) (Hq [5, 6, 7, 8] rfl) rfl ?_
      rintro _ _ _ ⟨x3, rfl, rfl, rfl, hx3⟩
      refine L.kcaps 1 rfl (fun hk3 => ?_)
      refine L.norm (H' := [_, _, _, _, _, _, _, _, _, _, _, _, _, _, _]) [0, 1, 2, 3, 4, 5, 6, 7, 8, 9, 10, 11, 12, 13, 14] ⟨rfl, rfl, rfl, rfl, rfl, rfl, rfl, rfl, rfl, rfl, rfl, rfl, rfl, rfl, rfl, trivial⟩ (by decide) ?_; refine L.nm (by kernel_rfl) ?_; refine LM.f 6 rfl (by kernel_rfl) (Hq [5, 6, 7, 8, 9, 10, 11, 12, 13, 4] rfl) ?_
      refine L.alloc rfl rfl rfl (fun A23 => ?_)
      refine L.norm (H' := [_, _, _, _, _, _, _, _, _, _, _, _, _, _, _, _]) [12, 15, 14, 13, 8, 9, 10, 11, 4, 5, 6, 7, 0, 1, 2, 3] ⟨rfl, rfl, rfl, rfl, rfl, rfl, rfl, rfl, rfl, rfl, rfl, rfl, rfl, rfl, rfl, rfl, trivial⟩ (by decide) ?_; refine L.nm (by kernel_rfl) ?_
      rotate_left
      refine L.alloc rfl rfl rfl (fun A23 => ?_)
      refine L.nm (by kernel_rfl) ?_; refine LM.f 5 rfl (by kernel_rfl) (Hq [5, 6, 7, 8, 9, 10, 11, 12, 13, 4] rfl) ?_; refine L.call (js := []) (js' := [0, 1, 2, 3, 4, 5, 6, 7, 8, 9, 10, 11]) (cp) rfl rfl rfl (by decide) (Hq [5, 6, 7, 8] rfl) rfl ?_
      rintro _ _ _ ⟨x3, rfl, rfl, rfl, hx3⟩
      refine L.kcaps 1 rfl (fun hk3 => ?_)
      refine L.norm (H' := [_, _, _, _, _, _, _, _, _, _, _, _, _, _, _, _]) [0, 1, 2, 3, 4, 5, 6, 7, 8, 9, 10, 11, 12, 13, 14, 15] ⟨rfl, rfl, rfl, rfl, rfl, rfl, rfl, rfl, rfl, rfl, rfl, rfl, rfl, rfl, rfl, rfl, trivial⟩ (by decide) ?_; refine L.norm (H' := [_, _, _, _, _, _, _, _, _, _, _, _, _, _, _, _]) [12, 15, 14, 13, 8, 9, 10, 11, 4, 5, 6, 7, 0, 1, 2, 3] ⟨rfl, rfl, rfl, rfl, rfl, rfl, rfl, rfl, rfl, rfl, rfl, rfl, rfl, rfl, rfl, rfl, trivial⟩ (by decide) ?_; refine L.nm (by kernel_rfl) ?_
      rotate_left
      refine L.alloc rfl rfl rfl (fun A23 => ?_)
      refine L.nm (by kernel_rfl) ?_; refine LM.f 3 rfl (by kernel_rfl) (Hq [5, 6, 7, 8, 9, 10, 11, 12, 13, 4] rfl) ?_; refine L.call (js := []) (js' := [0, 1, 2, 3, 4, 5, 6, 7]) (cp) rfl rfl rfl (by decide) (Hq [5, 6, 7, 8] rfl) rfl ?_
      rintro _ _ _ ⟨x2, rfl, rfl, rfl, hx2⟩
      refine L.kcaps 1 rfl (fun hk2 => ?_)
      refine L.norm (H' := [_, _, _, _, _, _, _, _, _, _, _, _]) [0, 1, 2, 3, 4, 5, 6, 7, 8, 9, 10, 11] ⟨rfl, rfl, rfl, rfl, rfl, rfl, rfl, rfl, rfl, rfl, rfl, rfl, trivial⟩ (by decide) ?_; refine L.nm (by kernel_rfl) ?_; refine LM.f 5 rfl (by kernel_rfl) (Hq [5, 6, 7, 8, 9, 10, 11, 12, 13, 4] rfl) ?_; refine L.call (js := []) (js' := [0, 1, 2, 3, 4, 5, 6, 7, 8, 9, 10, 11]) (cp) rfl rfl rfl (by decide) (Hq [5, 6, 7, 8] rfl) rfl ?_
      rintro _ _ _ ⟨x3, rfl, rfl, rfl, hx3⟩
      refine L.kcaps 1 rfl (fun hk3 => ?_)
      refine L.norm (H' := [_, _, _, _, _, _, _, _, _, _, _, _, _, _, _, _]) [0, 1, 2, 3, 4, 5, 6, 7, 8, 9, 10, 11, 12, 13, 14, 15] ⟨rfl, rfl, rfl, rfl, rfl, rfl, rfl, rfl, rfl, rfl, rfl, rfl, rfl, rfl, rfl, rfl, trivial⟩ (by decide) ?_; refine L.norm (H' := [_, _, _, _, _, _, _, _, _, _, _, _, _, _, _, _]) [12, 15, 14, 13, 8, 9, 10, 11, 4, 5, 6, 7, 0, 1, 2, 3] ⟨rfl, rfl, rfl, rfl, rfl, rfl, rfl, rfl, rfl, rfl, rfl, rfl, rfl, rfl, rfl, rfl, trivial⟩ (by decide) ?_; refine L.nm (by kernel_rfl) ?_
      rotate_left
      refine L.alloc rfl rfl rfl (fun A23 => ?_)
      refine L.nm (by kernel_rfl) ?_; refine LM.a2 1 7 (by kernel_rfl) (Hq [5, 6, 7, 8, 9, 10, 11, 12, 13, 4] rfl) rfl rfl ?_ ?_; refine L.call (js := []) (js' := [0, 1, 2]) (cp) rfl rfl rfl (by decide) (Hq [5, 6, 7, 8] rfl) rfl ?_
      rintro _ _ _ ⟨x1, rfl, rfl, rfl, hx1⟩
      refine L.kcaps 1 rfl (fun hk1 => ?_)
      refine L.norm (H' := [_, _, _, _, _, _, _]) [0, 1, 2, 3, 4, 5, 6] ⟨rfl, rfl, rfl, rfl, rfl, rfl, rfl, trivial⟩ (by decide) ?_; refine L.nm (by kernel_rfl) ?_; refine LM.a2 3 7 (by kernel_rfl) (Hq [5, 6, 7, 8, 9, 10, 11, 12, 13, 4] rfl) rfl rfl ?_ ?_; refine L.call (js := []) (js' := [0, 1, 2, 3, 4, 5, 6]) (cp) rfl rfl rfl (by decide) (Hq [5, 6, 7, 8] rfl) rfl ?_
      rintro _ _ _ ⟨x2, rfl, rfl, rfl, hx2⟩
      refine L.kcaps 1 rfl (fun hk2 => ?_)
      refine L.norm (H' := [_, _, _, _, _, _, _, _, _, _, _]) [0, 1, 2, 3, 4, 5, 6, 7, 8, 9, 10] ⟨rfl, rfl, rfl, rfl, rfl, rfl, rfl, rfl, rfl, rfl, rfl, trivial⟩ (by decide) ?_; refine L.nm (by kernel_rfl) ?_; refine LM.a2 5 7 (by kernel_rfl) (Hq [5, 6, 7, 8, 9, 10, 11, 12, 13, 4] rfl) rfl rfl ?_ ?_; refine L.call (js := []) (js' := [0, 1, 2, 3, 4, 5, 6, 7, 8, 9, 10]) (cp) rfl rfl rfl (by decide) (Hq [5, 6, 7, 8] rfl) rfl ?_
      rintro _ _ _ ⟨x3, rfl, rfl, rfl, hx3⟩
      refine L.kcaps 1 rfl (fun hk3 => ?_)
      refine L.norm (H' := [_, _, _, _, _, _, _, _, _, _, _, _, _, _, _]) [0, 1, 2, 3, 4, 5, 6, 7, 8, 9, 10, 11, 12, 13, 14] ⟨rfl, rfl, rfl, rfl, rfl, rfl, rfl, rfl, rfl, rfl, rfl, rfl, rfl, rfl, rfl, trivial⟩ (by decide) ?_; refine L.nm (by kernel_rfl) ?_; refine LM.f 7 rfl (by kernel_rfl) (Hq [5, 6, 7, 8, 9, 10, 11, 12, 13, 4] rfl) ?_
      refine L.alloc rfl rfl rfl (fun A24 => ?_)
      refine L.norm (H' := [_, _, _, _, _, _, _, _, _, _, _, _, _, _, _, _]) [12, 14, 15, 13, 8, 9, 10, 11, 4, 5, 6, 7, 0, 1, 2, 3] ⟨rfl, rfl, rfl, rfl, rfl, rfl, rfl, rfl, rfl, rfl, rfl, rfl, rfl, rfl, rfl, rfl, trivial⟩ (by decide) ?_; refine L.nm (by kernel_rfl) ?_
      rotate_left
      refine L.alloc rfl rfl rfl (fun A24 => ?_)
      refine L.nm (by kernel_rfl) ?_; refine LM.f 5 rfl (by kernel_rfl) (Hq [5, 6, 7, 8, 9, 10, 11, 12, 13, 4] rfl) ?_; refine L.call (js := []) (js' := [0, 1, 2, 3, 4, 5, 6, 7, 8, 9, 10, 11]) (cp) rfl rfl rfl (by decide) (Hq [5, 6, 7, 8] rfl) rfl ?_
      rintro _ _ _ ⟨x3, rfl, rfl, rfl, hx3⟩
      refine L.kcaps 1 rfl (fun hk3 => ?_)
      refine L.norm (H' := [_, _, _, _, _, _, _, _, _, _, _, _, _, _, _, _]) [0, 1, 2, 3, 4, 5, 6, 7, 8, 9, 10, 11, 12, 13, 14, 15] ⟨rfl, rfl, rfl, rfl, rfl, rfl, rfl, rfl, rfl, rfl, rfl, rfl, rfl, rfl, rfl, rfl, trivial⟩ (by decide) ?_; refine L.norm (H' := [_, _, _, _, _, _, _, _, _, _, _, _, _, _, _, _]) [12, 14, 15, 13, 8, 9, 10, 11, 4, 5, 6, 7, 0, 1, 2, 3] ⟨rfl, rfl, rfl, rfl, rfl, rfl, rfl, rfl, rfl, rfl, rfl, rfl, rfl, rfl, rfl, rfl, trivial⟩ (by decide) ?_; refine L.nm (by kernel_rfl) ?_
      rotate_left
      refine L.alloc rfl rfl rfl (fun A24 => ?_)
      refine L.nm (by kernel_rfl) ?_; refine LM.f 3 rfl (by kernel_rfl) (Hq [5, 6, 7, 8, 9, 10, 11, 12, 13, 4] rfl) ?_; refine L.call (js := []) (js' := [0, 1, 2, 3, 4, 5, 6, 7]) (cp) rfl rfl rfl (by decide) (Hq [5, 6, 7, 8] rfl) rfl ?_
      rintro _ _ _ ⟨x2, rfl, rfl, rfl, hx2⟩
      refine L.kcaps 1 rfl (fun hk2 => ?_)
      refine L.norm (H' := [_, _, _, _, _, _, _, _, _, _, _, _]) [0, 1, 2, 3, 4, 5, 6, 7, 8, 9, 10, 11] ⟨rfl, rfl, rfl, rfl, rfl, rfl, rfl, rfl, rfl, rfl, rfl, rfl, trivial⟩ (by decide) ?_; refine L.nm (by kernel_rfl) ?_; refine LM.f 5 rfl (by kernel_rfl) (Hq [5, 6, 7, 8, 9, 10, 11, 12, 13, 4] rfl) ?_; refine L.call (js := []) (js' := [0, 1, 2, 3, 4, 5, 6, 7, 8, 9, 10, 11]) (cp) rfl rfl rfl (by decide) (Hq [5, 6, 7, 8] rfl) rfl ?_
      rintro _ _ _ ⟨x3, rfl, rfl, rfl, hx3⟩
      refine L.kcaps 1 rfl (fun hk3 => ?_)
      refine L.norm (H' := [_, _, _, _, _, _, _, _, _, _, _, _, _, _, _, _]) [0, 1, 2, 3, 4, 5, 6, 7, 8, 9, 10, 11, 12, 13, 14, 15] ⟨rfl, rfl, rfl, rfl, rfl, rfl, rfl, rfl, rfl, rfl, rfl, rfl, rfl, rfl, rfl, rfl, trivial⟩ (by decide) ?_; refine L.norm (H' := [_, _, _, _, _, _, _, _, _, _, _, _, _, _, _, _]) [12, 14, 15, 13, 8, 9, 10, 11, 4, 5, 6, 7, 0, 1, 2, 3] ⟨rfl, rfl, rfl, rfl, rfl, rfl, rfl, rfl, rfl, rfl, rfl, rfl, rfl, rfl, rfl, rfl, trivial⟩ (by decide) ?_; refine L.nm (by kernel_rfl) ?_
      rotate_left
      refine L.alloc rfl rfl rfl (fun A24 => ?_)
      refine L.nm (by kernel_rfl) ?_; refine LM.f 1 rfl (by kernel_rfl) (Hq [5, 6, 7, 8, 9, 10, 11, 12, 13, 4] rfl) ?_; refine L.call (js := []) (js' := [0, 1, 2, 3]) (cp) rfl rfl rfl (by decide) (Hq [5, 6, 7, 8] rfl) rfl ?_
      rintro _ _ _ ⟨x1, rfl, rfl, rfl, hx1⟩
      refine L.kcaps 1 rfl (fun hk1 => ?_)
      refine L.norm (H' := [_, _, _, _, _, _, _, _]) [0, 1, 2, 3, 4, 5, 6, 7] ⟨rfl, rfl, rfl, rfl, rfl, rfl, rfl, rfl, trivial⟩ (by decide) ?_; refine L.nm (by kernel_rfl) ?_; refine LM.f 3 rfl (by kernel_rfl) (Hq [5, 6, 7, 8, 9, 10, 11, 12, 13, 4] rfl) ?_; refine L.call (js := []) (js' := [0, 1, 2, 3, 4, 5, 6, 7]) (cp) rfl rfl rfl (by decide) (Hq [5, 6, 7, 8] rfl) rfl ?_
      rintro _ _ _ ⟨x2, rfl, rfl, rfl, hx2⟩
      refine L.kcaps 1 rfl (fun hk2 => ?_)
      refine L.norm (H' := [_, _, _, _, _, _, _, _, _, _, _, _]) [0, 1, 2, 3, 4, 5, 6, 7, 8, 9, 10, 11] ⟨rfl, rfl, rfl, rfl, rfl, rfl, rfl, rfl, rfl, rfl, rfl, rfl, trivial⟩ (by decide) ?_; refine L.nm (by kernel_rfl) ?_; refine LM.f 5 rfl (by kernel_rfl) (Hq [5, 6, 7, 8, 9, 10, 11, 12, 13, 4] rfl) ?_; refine L.call (js := []) (js' := [0, 1, 2, 3, 4, 5, 6, 7, 8, 9, 10, 11]) (cp) rfl rfl rfl (by decide) (Hq [5, 6, 7, 8] rfl) rfl ?_
      rintro _ _ _ ⟨x3, rfl, rfl, rfl, hx3⟩
      refine L.kcaps 1 rfl (fun hk3 => ?_)
      refine L.norm (H' := [_, _, _, _, _, _, _, _, _, _, _, _, _, _, _, _]) [0, 1, 2, 3, 4, 5, 6, 7, 8, 9, 10, 11, 12, 13, 14, 15] ⟨rfl, rfl, rfl, rfl, rfl, rfl, rfl, rfl, rfl, rfl, rfl, rfl, rfl, rfl, rfl, rfl, trivial⟩ (by decide) ?_; refine L.norm (H' := [_, _, _, _, _, _, _, _, _, _, _, _, _, _, _, _]) [12, 14, 15, 13, 8, 9, 10, 11, 4, 5, 6, 7, 0, 1, 2, 3] ⟨rfl, rfl, rfl, rfl, rfl, rfl, rfl, rfl, rfl, rfl, rfl, rfl, rfl, rfl, rfl, rfl, trivial⟩ (by decide) ?_; refine L.nm (by kernel_rfl) ?_
      rotate_left
      refine L.alloc rfl rfl rfl (fun A24 => ?_)
      refine L.nm (by kernel_rfl) ?_; refine LM.a2 1 6 (by kernel_rfl) (Hq [5, 6, 7, 8, 9, 10, 11, 12, 13, 4] rfl) rfl rfl ?_ ?_; refine L.call (js := []) (js' := [0, 1, 2]) (cp) rfl rfl rfl (by decide) (Hq [5, 6, 7, 8] rfl) rfl ?_
      rintro _ _ _ ⟨x1, rfl, rfl, rfl, hx1⟩
      refine L.kcaps 1 rfl (fun hk1 => ?_)
      refine L.norm (H' := [_, _, _, _, _, _, _]) [0, 1, 2, 3, 4, 5, 6] ⟨rfl, rfl, rfl, rfl, rfl, rfl, rfl, trivial⟩ (by decide) ?_; refine L.nm (by kernel_rfl) ?_; refine LM.a2 3 6 (by kernel_rfl) (Hq [5, 6, 7, 8, 9, 10, 11, 12, 13, 4] rfl) rfl rfl ?_ ?_; refine L.call (js := []) (js' := [0, 1, 2, 3, 4, 5, 6]) (cp) rfl rfl rfl (by decide) (Hq [5, 6, 7, 8] rfl) rfl ?_
      rintro _ _ _ ⟨x2, rfl, rfl, rfl, hx2⟩
      refine L.kcaps 1 rfl (fun hk2 => ?_)
      refine L.norm (H' := [_, _, _, _, _, _, _, _, _, _, _]) [0, 1, 2, 3, 4, 5, 6, 7, 8, 9, 10] ⟨rfl, rfl, rfl, rfl, rfl, rfl, rfl, rfl, rfl, rfl, rfl, trivial⟩ (by decide) ?_; refine L.nm (by kernel_rfl) ?_; refine LM.a2 5 6 (by kernel_rfl) (Hq [5, 6, 7, 8, 9, 10, 11, 12, 13, 4] rfl) rfl rfl ?_ ?_; refine L.call (js := []) (js' := [0, 1, 2, 3, 4, 5, 6, 7, 8, 9, 10]) (cp) rfl rfl rfl (by decide) (Hq [5, 6, 7, 8] rfl) rfl ?_
      rintro _ _ _ ⟨x3, rfl, rfl, rfl, hx3⟩
      refine L.kcaps 1 rfl (fun hk3 => ?_)
      refine L.norm (H' := [_, _, _, _, _, _, _, _, _, _, _, _, _, _, _]) [0, 1, 2, 3, 4, 5, 6, 7, 8, 9, 10, 11, 12, 13, 14] ⟨rfl, rfl, rfl, rfl, rfl, rfl, rfl, rfl, rfl, rfl, rfl, rfl, rfl, rfl, rfl, trivial⟩ (by decide) ?_; refine L.nm (by kernel_rfl) ?_; refine LM.f 6 rfl (by kernel_rfl) (Hq [5, 6, 7, 8, 9, 10, 11, 12, 13, 4] rfl) ?_
      refine L.alloc rfl rfl rfl (fun A23 => ?_)
      refine L.norm (H' := [_, _, _, _, _, _, _, _, _, _, _, _, _, _, _, _]) [12, 15, 14, 13, 8, 9, 10, 11, 4, 5, 6, 7, 0, 1, 2, 3] ⟨rfl, rfl, rfl, rfl, rfl, rfl, rfl, rfl, rfl, rfl, rfl, rfl, rfl, rfl, rfl, rfl, trivial⟩ (by decide) ?_; refine L.nm (by kernel_rfl) ?_
      rotate_left
      refine L.alloc rfl rfl rfl (fun A23 => ?_)
      refine L.nm (by kernel_rfl) ?_; refine LM.f 5 rfl (by kernel_rfl) (Hq [5, 6, 7, 8, 9, 10, 11, 12, 13, 4] rfl) ?_; refine L.call (js := []) (js' := [0, 1, 2, 3, 4, 5, 6, 7, 8, 9, 10, 11]) (cp) rfl rfl rfl (by decide) (Hq [5, 6, 7, 8] rfl) rfl ?_
      rintro _ _ _ ⟨x3, rfl, rfl, rfl, hx3⟩
      refine L.kcaps 1 rfl (fun hk3 => ?_)
      refine L.norm (H' := [_, _, _, _, _, _, _, _, _, _, _, _, _, _, _, _]) [0, 1, 2, 3, 4, 5, 6, 7, 8, 9, 10, 11, 12, 13, 14, 15] ⟨rfl, rfl, rfl, rfl, rfl, rfl, rfl, rfl, rfl, rfl, rfl, rfl, rfl, rfl, rfl, rfl, trivial⟩ (by decide) ?_; refine L.norm (H' := [_, _, _, _, _, _, _, _, _, _, _, _, _, _, _, _]) [12, 15, 14, 13, 8, 9, 10, 11, 4, 5, 6, 7, 0, 1, 2, 3] ⟨rfl, rfl, rfl, rfl, rfl, rfl, rfl, rfl, rfl, rfl, rfl, rfl, rfl, rfl, rfl, rfl, trivial⟩ (by decide) ?_; refine L.nm (by kernel_rfl) ?_
      rotate_left
      refine L.alloc rfl rfl rfl (fun A23 => ?_)
      refine L.nm (by kernel_rfl) ?_; refine LM.f 3 rfl (by kernel_rfl) (Hq [5, 6, 7, 8, 9, 10, 11, 12, 13, 4] rfl) ?_; refine L.call (js := []) (js' := [0, 1, 2, 3, 4, 5, 6, 7]) (cp) rfl rfl rfl (by decide) (Hq [5, 6, 7, 8] rfl) rfl ?_
      rintro _ _ _ ⟨x2, rfl, rfl, rfl, hx2⟩
      refine L.kcaps 1 rfl (fun hk2 => ?_)
      refine L.norm (H' := [_, _, _, _, _, _, _, _, _, _, _, _]) [0, 1, 2, 3, 4, 5, 6, 7, 8, 9, 10, 11] ⟨rfl, rfl, rfl, rfl, rfl, rfl, rfl, rfl, rfl, rfl, rfl, rfl, trivial⟩ (by decide) ?_; refine L.nm (by kernel_rfl) ?_; refine LM.f 5 rfl (by kernel_rfl) (Hq [5, 6, 7, 8, 9, 10, 11, 12, 13, 4] rfl) ?_; refine L.call (js := []) (js' := [0, 1, 2, 3, 4, 5, 6, 7, 8, 9, 10, 11]) (cp) rfl rfl rfl (by decide) (Hq [5, 6, 7, 8] rfl) rfl ?_
      rintro _ _ _ ⟨x3, rfl, rfl, rfl, hx3⟩
      refine L.kcaps 1 rfl (fun hk3 => ?_)
      refine L.norm (H' := [_, _, _, _, _, _, _, _, _, _, _, _, _, _, _, _]) [0, 1, 2, 3, 4, 5, 6, 7, 8, 9, 10, 11, 12, 13, 14, 15] ⟨rfl, rfl, rfl, rfl, rfl, rfl, rfl, rfl, rfl, rfl, rfl, rfl, rfl, rfl, rfl, rfl, trivial⟩ (by decide) ?_; refine L.norm (H' := [_, _, _, _, _, _, _, _, _, _, _, _, _, _, _, _]) [12, 15, 14, 13, 8, 9, 10, 11, 4, 5, 6, 7, 0, 1, 2, 3] ⟨rfl, rfl, rfl, rfl, rfl, rfl, rfl, rfl, rfl, rfl, rfl, rfl, rfl, rfl, rfl, rfl, trivial⟩ (by decide) ?_; refine L.nm (by kernel_rfl) ?_
      rotate_left
      refine L.alloc rfl rfl rfl (fun A23 => ?_)
      refine L.nm (by kernel_rfl) ?_; refine LM.f 1 rfl (by kernel_rfl) (Hq [5, 6, 7, 8, 9, 10, 11, 12, 13, 4] rfl) ?_; refine L.call (js := []) (js' := [0, 1, 2, 3]) (cp) rfl rfl rfl (by decide) (Hq [5, 6, 7, 8] rfl) rfl ?_
      rintro _ _ _ ⟨x1, rfl, rfl, rfl, hx1⟩
      refine L.kcaps 1 rfl (fun hk1 => ?_)
      refine L.norm (H' := [_, _, _, _, _, _, _, _]) [0, 1, 2, 3, 4, 5, 6, 7] ⟨rfl, rfl, rfl, rfl, rfl, rfl, rfl, rfl, trivial⟩ (by decide) ?_; refine L.nm (by kernel_rfl) ?_; refine LM.f 3 rfl (by kernel_rfl) (Hq [5, 6, 7, 8, 9, 10, 11, 12, 13, 4] rfl) ?_; refine L.call (js := []) (js' := [0, 1, 2, 3, 4, 5, 6, 7]) (cp) rfl rfl rfl (by decide) (Hq [5, 6, 7, 8] rfl) rfl ?_
      rintro _ _ _ ⟨x2, rfl, rfl, rfl, hx2⟩
      refine L.kcaps 1 rfl (fun hk2 => ?_)
      refine L.norm (H' := [_, _, _, _, _, _, _, _, _, _, _, _]) [0, 1, 2, 3, 4, 5, 6, 7, 8, 9, 10, 11] ⟨rfl, rfl, rfl, rfl, rfl, rfl, rfl, rfl, rfl, rfl, rfl, rfl, trivial⟩ (by decide) ?_; refine L.nm (by kernel_rfl) ?_; refine LM.f 5 rfl (by kernel_rfl) (Hq [5, 6, 7, 8, 9, 10, 11, 12, 13, 4] rfl) ?_; refine L.call (js := []) (js' := [0, 1, 2, 3, 4, 5, 6, 7, 8, 9, 10, 11]) (cp) rfl rfl rfl (by decide) (Hq [5, 6, 7, 8] rfl) rfl ?_
      rintro _ _ _ ⟨x3, rfl, rfl, rfl, hx3⟩
      refine L.kcaps 1 rfl (fun hk3 => ?_)
      refine L.norm (H' := [_, _, _, _, _, _, _, _, _, _, _, _, _, _, _, _]) [0, 1, 2, 3, 4, 5, 6, 7, 8, 9, 10, 11, 12, 13, 14, 15] ⟨rfl, rfl, rfl, rfl, rfl, rfl, rfl, rfl, rfl, rfl, rfl, rfl, rfl, rfl, rfl, rfl, trivial⟩ (by decide) ?_; refine L.norm (H' := [_, _, _, _, _, _, _, _, _, _, _, _, _, _, _, _]) [12, 15, 14, 13, 8, 9, 10, 11, 4, 5, 6, 7, 0, 1, 2, 3] ⟨rfl, rfl, rfl, rfl, rfl, rfl, rfl, rfl, rfl, rfl, rfl, rfl, rfl, rfl, rfl, rfl, trivial⟩ (by decide) ?_; refine L.nm (by kernel_rfl) ?_
      rotate_left
      all_goals (
        refine LM.cut [] (by kernel_rfl) (Hq [5, 6, 7, 8, 9, 10, 11, 12, 13, 4] rfl) ?_; refine LM.f 9 rfl (by kernel_rfl) trivial ?_; refine L.storeA (j := 1) rfl rfl rfl rfl rfl (Nat.zero_lt_succ _) rfl rfl ?_
        refine L.nil (QE.m (by kernel_rfl) ?_)
        refine LM.f 10 rfl (by kernel_rfl) trivial ?_; refine L.storeA (j := 2) rfl rfl rfl rfl rfl (Nat.zero_lt_succ _) rfl rfl ?_
        refine L.nil (QE.m (by kernel_rfl) ?_)
        refine LM.f 11 rfl (by kernel_rfl) trivial ?_; refine L.storeA (j := 3) rfl rfl rfl rfl rfl (Nat.zero_lt_succ _) rfl rfl ?_
        refine L.nil (QE.m (by kernel_rfl) ?_)
        refine LM.nil (by kernel_rfl) trivial ?_
        refine QE.joined (((x1, x2, x3), A23, A24, A25)) (by exact ⟨hx1, hk1, hx2, hk2, hx3, hk3⟩) (by exact Le.mk' (rs := [5, 6, 7, 8, 9, 10, 11, 12, 13, 4]) (hs := [1, 2, 3, 4, 5, 6, 7, 8, 9, 10, 11, 12, 13, 14, 15]) ⟨rfl, rfl, rfl, rfl, rfl, rfl, rfl, rfl, rfl, rfl, rfl, rfl, trivial⟩ ⟨rfl, rfl, rfl, rfl, rfl, rfl, rfl, rfl, rfl, rfl, trivial⟩ ⟨rfl, rfl, rfl, rfl, rfl, rfl, rfl, rfl, rfl, rfl, rfl, rfl, rfl, rfl, rfl, trivial⟩ (by decide)))
     ·
      rintro ⟨⟨x1, x2, x3⟩, A23, A24, A25⟩ ⟨hx1, hk1, hx2, hk2, hx3, hk3⟩
      dsimp only at hx1 hk1 hx2 hk2 hx3 hk3 ⊢
      refine QE.seq (C.seq (C.region ?_)); refine L.step (Ev.fieldAddr rfl rfl rfl rfl rfl rfl (Src.o 0 rfl) (Nat.zero_lt_succ _) rfl) rfl ?_; refine L.step (Ev.load rfl rfl rfl (Src.o 0 rfl) rfl) rfl ?_; refine L.step (Ev.fieldAddr rfl rfl rfl rfl rfl rfl (Src.r 5 rfl) (Nat.zero_lt_succ _) rfl) rfl ?_; refine L.step (Ev.idxArr (k := 0) (m := 1) rfl rfl rfl rfl rfl rfl (by decide) (Src.r 5 rfl) (by exact Nat.zero_lt_succ _) rfl) rfl ?_; refine L.step (Ev.load rfl rfl rfl (Src.r 5 rfl) rfl) rfl ?_; refine L.step (Ev.idx1 (k := (laA p).toNat) rfl rfl rfl rfl rfl rfl (by omega) (by omega) (Src.o 3 rfl) (by rw [rowsV_len (by rw [B8_len]; exact hx1), B8_len]; omega)) rfl ?_; refine L.step (Ev.load rfl rfl rfl (Src.o 3 rfl) (rows8_get hx1 (by omega))) rfl ?_; refine Lpu rfl rfl ?_; refine L.step (Ev.rem rfl rfl (by omega) (by decide)) rfl ?_; refine L.step (Ev.cast (u := .int .i64 ((kk.toNat % 8 : Nat) : Int)) (Ev.toInt rfl rfl rfl rfl (by omega) (by omega)) (congrArg (Value.int .i64) (by omega))) rfl ?_; refine L.step (Ev.idx1 (k := (kk.toNat % 8)) rfl rfl rfl rfl rfl rfl rfl (by omega) (Src.okid 4 rfl (by rw [B8_len]; exact hx1) (laA p).toNat (by rw [B8_len]; omega)) (by rw [B8_get, U8_len]; omega)) rfl ?_; refine L.step (Ev.load rfl rfl rfl (Src.okid 4 rfl (by rw [B8_len]; exact hx1) (laA p).toNat (by rw [B8_len]; omega)) (by rw [B8_get]; exact U8_get (by omega))) rfl ?_; refine L.step (Ev.xor8 (b := 16) rfl rfl) rfl ?_; refine L.step (Ev.idx1 (k := (kk.toNat % 8)) rfl rfl rfl rfl rfl rfl rfl (by omega) (Src.okid 4 rfl (by rw [B8_len]; exact hx1) (laA p).toNat (by rw [B8_len]; omega)) (by rw [B8_get, U8_len]; omega)) rfl ?_; refine storeKid8 (j := 4) (i := (laA p).toNat) (k := (kk.toNat % 8)) (y := ((flJ z p qq r).data.getD (laA p).toNat []).getD ((kk.toNat % 8)) 0 ^^^ 16) (ls := (flJ z p qq r).data) rfl rfl (by rw [B8_len]; exact hx1) (by omega) rfl rfl rfl rfl rfl (by omega) ?_; refine L.nil (QE.seq (C.seq (C.region ?_))); refine L.step (Ev.fieldAddr rfl rfl rfl rfl rfl rfl (Src.o 1 rfl) (Nat.zero_lt_succ _) rfl) rfl ?_; refine L.step (Ev.load rfl rfl rfl (Src.o 1 rfl) rfl) rfl ?_; refine L.step (Ev.fieldAddr rfl rfl rfl rfl rfl rfl (Src.r 5 rfl) (Nat.zero_lt_succ _) rfl) rfl ?_; refine L.step (Ev.idxArr (k := 0) (m := 1) rfl rfl rfl rfl rfl rfl (by decide) (Src.r 5 rfl) (by exact Nat.zero_lt_succ _) rfl) rfl ?_; refine L.step (Ev.load rfl rfl rfl (Src.r 5 rfl) rfl) rfl ?_; refine L.step (Ev.idx1 (k := (laA p).toNat) rfl rfl rfl rfl rfl rfl (by omega) (by omega) (Src.o 7 rfl) (by rw [rowsV_len (by rw [B8_len]; exact hx2), B8_len]; omega)) rfl ?_; refine L.step (Ev.load rfl rfl rfl (Src.o 7 rfl) (rows8_get hx2 (by omega))) rfl ?_; refine Lpu rfl rfl ?_; refine L.step (Ev.rem rfl rfl (by omega) (by decide)) rfl ?_; refine L.step (Ev.cast (u := .int .i64 ((kk.toNat % 30 : Nat) : Int)) (Ev.toInt rfl rfl rfl rfl (by omega) (by omega)) (congrArg (Value.int .i64) (by omega))) rfl ?_; refine L.step (Ev.cast (u := .int .i64 ((8 + kk.toNat % 30 : Nat) : Int)) (Ev.add rfl rfl (by omega) (by omega)) (congrArg (Value.int .i64) (by omega))) rfl ?_; refine L.step (Ev.idx1 (k := (8 + kk.toNat % 30)) rfl rfl rfl rfl rfl rfl rfl (by omega) (Src.okid 8 rfl (by rw [B8_len]; exact hx2) (laA p).toNat (by rw [B8_len]; omega)) (by rw [B8_get, U8_len]; omega)) rfl ?_; refine L.step (Ev.load rfl rfl rfl (Src.okid 8 rfl (by rw [B8_len]; exact hx2) (laA p).toNat (by rw [B8_len]; omega)) (by rw [B8_get]; exact U8_get (by omega))) rfl ?_; refine L.step (Ev.xor8 (b := 16) rfl rfl) rfl ?_; refine L.step (Ev.idx1 (k := (8 + kk.toNat % 30)) rfl rfl rfl rfl rfl rfl rfl (by omega) (Src.okid 8 rfl (by rw [B8_len]; exact hx2) (laA p).toNat (by rw [B8_len]; omega)) (by rw [B8_get, U8_len]; omega)) rfl ?_; refine storeKid8 (j := 8) (i := (laA p).toNat) (k := (8 + kk.toNat % 30)) (y := ((flJ z p qq r).data.getD (laA p).toNat []).getD ((8 + kk.toNat % 30)) 0 ^^^ 16) (ls := (flJ z p qq r).data) rfl rfl (by rw [B8_len]; exact hx2) (by omega) rfl rfl rfl rfl rfl (by omega) ?_; refine L.nil (QE.seq (C.seq ?_)); refine C.regionM [Rd A9 [.int .i64 0, .int .i64 (laA p), .int .i64 (laB p qq), .int .i64 0, .int .i64 0, .slice none 0 0, .slice none 0 0, .slice none 0 0], Rd A25 (flL (flJ z p qq r) x3)] ⟨Has.r 5 rfl, Has.o 2 rfl, trivial⟩ ?_; refine LM.q 0 rfl (by kernel_rfl) (Ev.fieldAddr rfl rfl rfl rfl rfl rfl (Src.r 1 rfl) (Nat.zero_lt_succ _) rfl) rfl ⟨Has.r 5 rfl, Has.o 2 rfl, trivial⟩ ?_; refine LM.q 1 rfl (by kernel_rfl) (Ev.load rfl rfl rfl (Src.r 1 rfl) rfl) rfl ⟨Has.r 5 rfl, Has.o 2 rfl, trivial⟩ ?_; refine LM.q 2 rfl (by kernel_rfl) (Ev.fieldAddr rfl rfl rfl rfl rfl rfl (Src.r 0 rfl) (Nat.zero_lt_succ _) rfl) rfl ⟨Has.r 5 rfl, Has.o 2 rfl, trivial⟩ ?_; refine LM.q 3 rfl (by kernel_rfl) (Ev.idxArr (k := 0) (m := 1) rfl rfl rfl rfl rfl rfl (by decide) (Src.r 0 rfl) (by exact Nat.zero_lt_succ _) rfl) rfl ⟨Has.r 5 rfl, Has.o 2 rfl, trivial⟩ ?_; refine LM.q 4 rfl (by kernel_rfl) (Ev.load rfl rfl rfl (Src.r 0 rfl) rfl) rfl ⟨Has.r 5 rfl, Has.o 2 rfl, trivial⟩ ?_; refine LM.q 5 rfl (by kernel_rfl) (Ev.fieldAddr rfl rfl rfl rfl rfl rfl (Src.r 1 rfl) (Nat.zero_lt_succ _) rfl) rfl ⟨Has.r 5 rfl, Has.o 2 rfl, trivial⟩ ?_; refine LM.q 6 rfl (by kernel_rfl) (Ev.load rfl rfl rfl (Src.r 1 rfl) rfl) rfl ⟨Has.r 5 rfl, Has.o 2 rfl, trivial⟩ ?_; refine LM.q 7 rfl (by kernel_rfl) (Ev.fieldAddr rfl rfl rfl rfl rfl rfl (Src.r 0 rfl) (Nat.zero_lt_succ _) rfl) rfl ⟨Has.r 5 rfl, Has.o 2 rfl, trivial⟩ ?_; refine LM.q 8 rfl (by kernel_rfl) (Ev.idxArr (k := 1) (m := 2) rfl rfl rfl rfl rfl rfl (by decide) (Src.r 0 rfl) (by exact Nat.zero_lt_succ _) rfl) rfl ⟨Has.r 5 rfl, Has.o 2 rfl, trivial⟩ ?_; refine LM.q 9 rfl (by kernel_rfl) (Ev.load rfl rfl rfl (Src.r 0 rfl) rfl) rfl ⟨Has.r 5 rfl, Has.o 2 rfl, trivial⟩ ?_; refine LM.f 10 rfl (by kernel_rfl) ⟨Has.r 5 rfl, Has.o 2 rfl, trivial⟩ ?_
      refine L.step (Ev.idx1 (k := (laA p).toNat) rfl rfl rfl rfl rfl rfl (by omega) (by omega) (Src.o 14 rfl) (by first | (rw [Bs_len]; omega) | (rw [List.length_set, Bs_len]; omega))) rfl ?_
      refine L.nil (QE.m (by kernel_rfl) ?_)
      refine LM.f 11 rfl (by kernel_rfl) ⟨Has.r 5 rfl, Has.o 2 rfl, trivial⟩ ?_
      refine L.store (j := 14) rfl rfl rfl rfl rfl rfl rfl (by first | exact Bs_get (by omega) | (rw [Bs_set]; exact Bs_get (by rw [List.length_set]; omega))) ?_
      refine L.nil (QE.m (by kernel_rfl) ?_)
      refine LM.cut [] (by kernel_rfl) ⟨Has.r 5 rfl, Has.o 2 rfl, trivial⟩ ?_; refine LM.f 12 rfl (by kernel_rfl) trivial ?_
      refine L.step (Ev.idx1 (k := (laB p qq).toNat) rfl rfl rfl rfl rfl rfl (by omega) (by omega) (Src.o 14 rfl) (by first | (rw [Bs_len]; omega) | (rw [List.length_set, Bs_len]; omega))) rfl ?_
      refine L.nil (QE.m (by kernel_rfl) ?_)
      refine LM.f 13 rfl (by kernel_rfl) trivial ?_
      refine L.store (j := 14) rfl rfl rfl rfl rfl rfl rfl (by first | exact Bs_get (by omega) | (rw [Bs_set]; exact Bs_get (by rw [List.length_set]; omega))) ?_
      refine L.nil (QE.m (by kernel_rfl) ?_)
      refine LM.nil (by kernel_rfl) trivial ?_; refine QE.seq (C.seq ?_)
      have q1 : Caps (flJ z p qq r) x1 := fun i hi => by have e := hk1 i hi; rwa [hok.rows i hi] at e
      have q2 : Caps (flJ z p qq r) x2 := fun i hi => by have e := hk2 i hi; rwa [hok.rows i hi] at e
      have q3 : Caps (flJ z p qq r) x3 := fun i hi => by have e := hk3 i hi; rwa [hok.rows i hi] at e
      have z1 : x1.hs.length = (flipF (flJ z p qq r) (laA p).toNat (kk.toNat % 8)).data.length := by rw [show (flipF (flJ z p qq r) (laA p).toNat (kk.toNat % 8)).data.length = (flJ z p qq r).data.length from List.length_set]; exact hx1
      have z2 : x2.hs.length = (flipF (flJ z p qq r) (laA p).toNat (8 + kk.toNat % 30)).data.length := by rw [show (flipF (flJ z p qq r) (laA p).toNat (8 + kk.toNat % 30)).data.length = (flJ z p qq r).data.length from List.length_set]; exact hx2
      have y1 : Caps (flipF (flJ z p qq r) (laA p).toNat (kk.toNat % 8)) x1 := fun i hi => q1 i (by rwa [show (flipF (flJ z p qq r) (laA p).toNat (kk.toNat % 8)).data.length = (flJ z p qq r).data.length from List.length_set] at hi)
      have y2 : Caps (flipF (flJ z p qq r) (laA p).toNat (8 + kk.toNat % 30)) x2 := fun i hi => q2 i (by rwa [show (flipF (flJ z p qq r) (laA p).toNat (8 + kk.toNat % 30)).data.length = (flJ z p qq r).data.length from List.length_set] at hi)
      refine C.freeze 3 rfl [0, 1, 2, 4, 5, 6, 7, 8, 9, 10, 11, 12, 13, 14] (by decide) (by decide) ?_; refine C.norm (H' := [_, _, _, _, _, _, _, _, _, _, _, _, _, _]) [0, 1, 2, 3, 4, 5, 6, 7, 8, 9, 10, 11, 12, 13] ⟨rfl, rfl, rfl, rfl, rfl, rfl, rfl, rfl, rfl, rfl, rfl, rfl, rfl, rfl, trivial⟩ (by decide) ?_; refine C.freezeKids 3 rfl [0, 1, 2, 4, 5, 6, 7, 8, 9, 10, 11, 12, 13] (by decide) (by decide) ?_; refine C.norm (H' := [_, _, _, _, _, _, _, _, _, _, _, _, _]) [0, 1, 2, 3, 4, 5, 6, 7, 8, 9, 10, 11, 12] ⟨rfl, rfl, rfl, rfl, rfl, rfl, rfl, rfl, rfl, rfl, rfl, rfl, rfl, trivial⟩ (by decide) ?_; refine C.freeze 3 rfl [0, 1, 2, 4, 5, 6, 7, 8, 9, 10, 11, 12] (by decide) (by decide) ?_; refine C.norm (H' := [_, _, _, _, _, _, _, _, _, _, _, _]) [0, 1, 2, 3, 4, 5, 6, 7, 8, 9, 10, 11] ⟨rfl, rfl, rfl, rfl, rfl, rfl, rfl, rfl, rfl, rfl, rfl, rfl, trivial⟩ (by decide) ?_; refine C.freeze 3 rfl [0, 1, 2, 4, 5, 6, 7, 8, 9, 10, 11] (by decide) (by decide) ?_; refine C.norm (H' := [_, _, _, _, _, _, _, _, _, _, _]) [0, 1, 2, 3, 4, 5, 6, 7, 8, 9, 10] ⟨rfl, rfl, rfl, rfl, rfl, rfl, rfl, rfl, rfl, rfl, rfl, trivial⟩ (by decide) ?_; refine C.freeze 3 rfl [0, 1, 2, 4, 5, 6, 7, 8, 9, 10] (by decide) (by decide) ?_; refine C.norm (H' := [_, _, _, _, _, _, _, _, _, _]) [0, 1, 2, 3, 4, 5, 6, 7, 8, 9] ⟨rfl, rfl, rfl, rfl, rfl, rfl, rfl, rfl, rfl, rfl, trivial⟩ (by decide) ?_; refine C.freezeKids 3 rfl [0, 1, 2, 4, 5, 6, 7, 8, 9] (by decide) (by decide) ?_; refine C.norm (H' := [_, _, _, _, _, _, _, _, _]) [0, 1, 2, 3, 4, 5, 6, 7, 8] ⟨rfl, rfl, rfl, rfl, rfl, rfl, rfl, rfl, rfl, trivial⟩ (by decide) ?_; refine C.freeze 3 rfl [0, 1, 2, 4, 5, 6, 7, 8] (by decide) (by decide) ?_; refine C.norm (H' := [_, _, _, _, _, _, _, _]) [0, 1, 2, 3, 4, 5, 6, 7] ⟨rfl, rfl, rfl, rfl, rfl, rfl, rfl, rfl, trivial⟩ (by decide) ?_; refine C.freeze 3 rfl [0, 1, 2, 4, 5, 6, 7] (by decide) (by decide) ?_; refine C.norm (H' := [_, _, _, _, _, _, _]) [0, 1, 2, 3, 4, 5, 6] ⟨rfl, rfl, rfl, rfl, rfl, rfl, rfl, trivial⟩ (by decide) ?_; refine C.freeze 3 rfl [0, 1, 2, 4, 5, 6] (by decide) (by decide) ?_; refine C.norm (H' := [_, _, _, _, _, _]) [0, 1, 2, 3, 4, 5] ⟨rfl, rfl, rfl, rfl, rfl, rfl, trivial⟩ (by decide) ?_; refine C.freezeKids 3 rfl [0, 1, 2, 4, 5] (by decide) (by decide) ?_; refine C.norm (H' := [_, _, _, _, _]) [0, 1, 2, 3, 4] ⟨rfl, rfl, rfl, rfl, rfl, trivial⟩ (by decide) ?_; refine C.freeze 3 rfl [0, 1, 2, 4] (by decide) (by decide) ?_; refine C.norm (H' := [_, _, _, _]) [0, 1, 2, 3] ⟨rfl, rfl, rfl, rfl, trivial⟩ (by decide) ?_; refine C.freeze 3 rfl [0, 1, 2] (by decide) (by decide) ?_; refine C.norm (H' := [_, _, _]) [0, 1, 2] ⟨rfl, rfl, rfl, trivial⟩ (by decide) ?_; refine C.more (r := Rd x1.D (rowsV x1.hs (B8 (flipF (flJ z p qq r) (laA p).toNat (kk.toNat % 8)).data))) ((Has.r 11 rfl).cast (rowsV_set hx1 (by omega) (by rw [List.length_set])).symm) ?_; refine C.more (r := Rd x2.D (rowsV x2.hs (B8 (flipF (flJ z p qq r) (laA p).toNat (8 + kk.toNat % 30)).data))) ((Has.r 8 rfl).cast (rowsV_set hx2 (by omega) (by rw [List.length_set])).symm) ?_; refine C.more (r := Rd x3.E (Bs (deadF (flJ z p qq r) (laA p).toNat (laB p qq).toNat).dead)) ((Has.r 2 rfl).cast (by rw [Bs_set, Bs_set]; rfl)) ?_; refine C.region ?_; refine Lpu rfl rfl ?_; refine Lpu rfl rfl ?_; refine Lpu rfl rfl ?_
      refine L.bool 182 rfl (fun hg182 => ?_) (fun hg182 => ?_)
      ·
       replace hg182 := i_eq hg182
       refine L.yes rfl ?_; refine Lpu rfl rfl ?_; refine L.yes rfl ?_; refine Lpu rfl rfl ?_; refine Lpu rfl rfl ?_; refine Lpu rfl rfl ?_
       refine L.bool 186 rfl (fun hg186 => ?_) (fun hg186 => ?_)
       ·
        replace hg186 := i_eq hg186
        refine L.yes rfl ?_; refine L.step (Ev.loadA rfl rfl rfl (Src.r 19 rfl) rfl rfl (by decide)) rfl ?_; refine L.yes rfl ?_; refine L.step (Ev.loadA rfl rfl rfl (Src.r 20 rfl) rfl rfl (by decide)) rfl ?_; refine L.yes rfl ?_; refine L.step (Ev.loadA rfl rfl rfl (Src.r 24 rfl) rfl rfl (by decide)) rfl ?_; refine L.yes rfl ?_; refine L.callR (js := []) (js' := [0, 1, 2]) (lnext_c (flJ z p qq r) a hok hb (yJ p qq) hc wr hwr.1) rfl rfl rfl (by decide) (Hq [15, 16, 17, 18] rfl) rfl ?_
        rintro _ _ _ ⟨O2, c2, rfl, rfl, rfl⟩
        refine L.norm (H' := [_, _, _]) [0, 1, 2] ⟨rfl, rfl, rfl, trivial⟩ (by decide) ?_; refine L.yes rfl ?_; refine Lpu rfl rfl ?_; refine L.yes rfl ?_; refine Lpu rfl rfl ?_; refine Lpu rfl rfl ?_; refine Lpu rfl rfl ?_
        refine L.bool 194 rfl (fun hg194 => ?_) (fun hg194 => ?_)
        ·
         replace hg194 := i_eq hg194
         refine L.yes rfl ?_; refine L.step (Ev.loadA rfl rfl rfl (Src.o 0 rfl) rfl rfl (by decide)) rfl ?_; refine L.yes rfl ?_; refine L.step (Ev.loadA rfl rfl rfl (Src.r 21 rfl) rfl rfl (by decide)) rfl ?_; refine L.yes rfl ?_; refine L.call (js := []) (js' := [0, 1, 2]) (lread_fl (flJ z p qq r) (flipF (flJ z p qq r) (laA p).toNat (kk.toNat % 8)) x1 (flipF_ok hok (by omega)) z1 (yJ p qq) y1 rfl List.length_set rfl rfl rfl) rfl rfl rfl (by decide) (Hq [3, 14, 13, 12] rfl) rfl ?_
         rintro _ _ _ ⟨rfl, rfl, rfl⟩
         refine L.norm (H' := [_, _, _]) [0, 1, 2] ⟨rfl, rfl, rfl, trivial⟩ (by decide) ?_; refine L.yes rfl ?_; refine Lpu rfl rfl ?_; refine L.yes rfl ?_; refine Lpu rfl rfl ?_; refine Lpu rfl rfl ?_; refine Lpu rfl rfl ?_
         refine L.bool 201 rfl (fun hg201 => ?_) (fun hg201 => ?_)
         ·
          replace hg201 := i_eq hg201
          refine L.yes rfl ?_; refine L.step (Ev.loadA rfl rfl rfl (Src.o 1 rfl) rfl rfl (by decide)) rfl ?_; refine L.yes rfl ?_; refine L.step (Ev.loadA rfl rfl rfl (Src.r 21 rfl) rfl rfl (by decide)) rfl ?_; refine L.yes rfl ?_; refine L.call (js := []) (js' := [0, 1, 2]) (lread_fl (flJ z p qq r) (flipF (flJ z p qq r) (laA p).toNat (8 + kk.toNat % 30)) x2 (flipF_ok hok (by omega)) z2 (yJ p qq) y2 rfl List.length_set rfl rfl rfl) rfl rfl rfl (by decide) (Hq [2, 10, 9, 8] rfl) rfl ?_
          rintro _ _ _ ⟨rfl, rfl, rfl⟩
          refine L.norm (H' := [_, _, _]) [0, 1, 2] ⟨rfl, rfl, rfl, trivial⟩ (by decide) ?_; refine L.yes rfl ?_; refine Lpu rfl rfl ?_; refine L.yes rfl ?_; refine Lpu rfl rfl ?_; refine Lpu rfl rfl ?_; refine Lpu rfl rfl ?_
          refine L.bool 208 rfl (fun hg208 => ?_) (fun hg208 => ?_)
          ·
           replace hg208 := i_eq hg208
           refine L.yes rfl ?_; refine L.step (Ev.loadA rfl rfl rfl (Src.o 2 rfl) rfl rfl (by decide)) rfl ?_; refine L.yes rfl ?_; refine L.step (Ev.loadA rfl rfl rfl (Src.r 21 rfl) rfl rfl (by decide)) rfl ?_; refine L.yes rfl ?_; refine L.call (js := []) (js' := [0, 1, 2]) (lread_fl (flJ z p qq r) (deadF (flJ z p qq r) (laA p).toNat (laB p qq).toNat) x3 (deadF_ok hok) hx3 (yJ p qq) q3 rfl rfl rfl rfl (List.length_set.trans List.length_set)) rfl rfl rfl (by decide) (Hq [7, 6, 5, 1] rfl) rfl ?_
           rintro _ _ _ ⟨rfl, rfl, rfl⟩
           refine L.norm (H' := [_, _, _]) [0, 1, 2] ⟨rfl, rfl, rfl, trivial⟩ (by decide) ?_; refine L.yes rfl ?_; refine Lpu rfl rfl ?_; refine L.yes rfl ?_; refine Lpu rfl rfl ?_; refine Lpu rfl rfl ?_; refine Lpu rfl rfl ?_
           refine L.bool 215 rfl (fun hg215 => ?_) (fun hg215 => ?_)
           ·
            replace hg215 := i_eq hg215
            refine L.yes rfl ?_; refine L.step (Ev.loadA rfl rfl rfl (Src.o 2 rfl) rfl rfl (by decide)) rfl ?_; refine L.yes rfl ?_; refine L.step (Ev.loadA rfl rfl rfl (Src.r 21 rfl) rfl rfl (by decide)) rfl ?_; refine L.yes rfl ?_; refine L.step (Ev.loadA rfl rfl rfl (Src.r 24 rfl) rfl rfl (by decide)) rfl ?_; refine L.yes rfl ?_; refine L.callR (js := []) (js' := [0, 1, 2]) (lnext_fl (flJ z p qq r) (deadF (flJ z p qq r) (laA p).toNat (laB p qq).toNat) x3 (deadF_ok hok) hx3 (yJ p qq) q3 ((madeS r).set 2 (255 - ((r.getD 2 0).toNat : Int))) rfl rfl rfl rfl rfl (List.length_set.trans List.length_set)) rfl rfl rfl (by decide) (Hq [7, 6, 5, 1] rfl) rfl ?_
            rintro _ _ _ ⟨O3, c3, rfl, rfl, rfl⟩
            refine L.norm (H' := [_, _, _]) [0, 1, 2] ⟨rfl, rfl, rfl, trivial⟩ (by decide) ?_; refine L.yes rfl ?_; refine Lpu rfl rfl ?_; refine L.yes rfl ?_; refine Lpu rfl rfl ?_; refine Lpu rfl rfl ?_; refine Lpu rfl rfl ?_
            refine L.bool 223 rfl (fun hg223 => ?_) (fun hg223 => ?_)
            ·
             replace hg223 := i_eq hg223
             refine L.yes rfl ?_; refine Lpu rfl rfl ?_; refine Lpu rfl rfl ?_; refine Lpu rfl rfl ?_; refine L.nil (QE.seq (C.ret ?_)); refine QE.ret (js := []) (hs := []) (vs := [_]) rfl ⟨rfl, trivial⟩ (by decide) ?_
             exact ⟨rfl, rfl, rfl⟩
            ·
             replace hg223 := i_ne hg223
             exact absurd (dead_next hfit rfl (made_right r) hFr rfl hot (by rw [← othR_made]; exact othR_ne r)) hg223
           ·
            replace hg215 := i_ne hg215
            exact absurd (dead_read hfit rfl (made_right r) hFr) hg215
          ·
           replace hg208 := i_ne hg208
           exact absurd (refuse_slot hfit (made_right r) hFr (by omega)) hg208
         ·
          replace hg201 := i_ne hg201
          exact absurd (refuse_gen hfit hFr (by omega)) hg201
        ·
         replace hg194 := i_ne hg194
         exact absurd (nextF_bad (.inr hwr.2)) hg194
       ·
        replace hg186 := i_ne hg186
        exact absurd (by rw [formatF_1 (.inr hwr.2)]) hg186
      ·
       replace hg182 := i_ne hg182
       exact absurd (tiny_no _ _ _) hg182

end Go.Proofs.Ytmbjknampholjaa
