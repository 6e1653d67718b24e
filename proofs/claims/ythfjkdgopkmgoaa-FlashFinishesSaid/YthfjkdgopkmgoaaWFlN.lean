/-
  The contract of FlashFinishes.
-/
import Derived.Test.YthfjkdgopkmgoaaWFlM
namespace Go.Proofs.Ythfjkdgopkmgoaa
open Go.Sl

set_option maxHeartbeats 2000000 in
theorem finishes_c (rs : UInt8) (rd : List (List UInt8)) (rw : List UInt8) (re : UInt8) (RD RW : Option Addr) (rc rwc : Nat) (rhs : List Hd) (hrh : rhs.length = rd.length) (hrl : rd.length ≤ 9223372036854775807) (hrr : ∀ i, (rd.getD i []).length ≤ 9223372036854775807) (hrw : rw.length ≤ 9223372036854775807) (er torn : Bool) (se at_ : UInt8) (data mask : List UInt8) (YA MA : Option Addr) (yc mc : Nat) (hyc : data.length ≤ yc) (hyl : data.length ≤ 9223372036854775807) (hml : mask.length ≤ 9223372036854775807) :
    Ctr X 14 [.agg (List.toArray [.int .u8 (rs.toNat : Int), .slice RD rd.length rc, .slice RW rw.length rwc, .int .u8 (re.toNat : Int)]), .agg (List.toArray [.bool er, .int .u8 (se.toNat : Int), .int .u8 (at_.toNat : Int), .slice YA data.length yc, .bool torn, .slice MA mask.length mc])] [Rd RD (rowsV rhs (B8 rd)), KidsR rhs (B8 rd), Rd RW (U8 rw), Rd YA (U8 data), Rd MA (U8 mask)] [] (fun v R' H' => v = .bool true ∧ R' = [] ∧ H' = []) := by
  refine Ctr.of (X := X) (fn := Try.f14) Try.func14 rfl (by kernel_rfl) rfl ?_
  intro β
  refine C.seq ?_
  refine C.region ?_
  refine L.boxA rfl rfl (fun A2 => ?_)
  refine L.boxA rfl rfl (fun A3 => ?_)
  refine L.step (Ev.pure rfl) rfl ?_
  refine L.nil ?_
  refine QE.seq ?_
  refine C.seq ?_
  refine C.freeze 0 rfl [1] (by decide) (by decide) ?_
  refine C.freeze 0 rfl [] (by decide) (by decide) ?_
  refine C.region ?_
  refine L.call (js := []) (js' := []) (sanity_c) rfl rfl rfl (by decide) trivial rfl ?_
  rintro _ _ _ ⟨rfl, rfl, rfl⟩
  refine L.step (Ev.pure rfl) rfl ?_
  refine L.nil ?_
  refine QE.seq ?_
  refine C.seq ?_
  refine C.region ?_
  refine L.step (Ev.loadA rfl rfl rfl (Src.r 1 rfl) rfl rfl (by decide)) rfl ?_
  refine L.call (js := []) (js' := []) (made_c rs rd rw re RD RW rc rwc rhs hrh hrl hrr hrw) rfl rfl rfl (by decide) ⟨(Has.r 2 rfl), (Has.r 3 rfl), (Has.r 4 rfl), trivial⟩ rfl ?_
  rintro _ _ _ ⟨f, b, ok, hlim, hsz, hdl, hb, rfl, rfl, rfl⟩
  refine L.alloc rfl rfl rfl (fun A6 => ?_)
  refine L.storeA (j := 4) rfl rfl rfl rfl rfl (Nat.zero_lt_succ _) rfl rfl ?_
  refine L.nil ?_
  refine QE.seq ?_
  refine C.seq ?_
  refine C.le (Γ' := [(3, ptrOf A3 0), (5, .bool true), (6, ptrOf A6 0)]) (R' := [Rd A3 [.bool er, .int .u8 (se.toNat : Int), .int .u8 (at_.toNat : Int), .slice YA data.length yc, .bool torn, .slice MA mask.length mc], Rd YA (U8 data), Rd MA (U8 mask)]) (H' := [Own 32 5 A6 1 1 [.int .i64 (f.size : Int), .slice b.D f.data.length b.cD, .slice b.W f.wear.length b.cW, .int .i64 f.limit, .slice b.E f.dead.length b.cE], Own 24 1 b.D f.data.length b.cD (rowsV b.hs (B8 f.data)), OwnKids 5 b.hs (B8 f.data), Own 3 1 b.W f.wear.length b.cW (I64 f.wear), Own 4 1 b.E f.dead.length b.cE (Bs f.dead)]) (by exact Le.mk' (rs := [0, 5, 6]) (hs := [4, 0, 1, 2, 3]) ⟨rfl, rfl, rfl, trivial⟩ ⟨rfl, rfl, rfl, trivial⟩ ⟨rfl, rfl, rfl, rfl, rfl, trivial⟩ (by decide)) ?_
  refine C.freeze 1 rfl [0, 2, 3, 4] (by decide) (by decide) ?_
  refine C.freezeKids 1 rfl [0, 2, 3] (by decide) (by decide) ?_
  refine C.freeze 1 rfl [0, 2] (by decide) (by decide) ?_
  refine C.freeze 1 rfl [0] (by decide) (by decide) ?_
  refine C.freeze 0 rfl [] (by decide) (by decide) ?_
  refine C.region ?_
  refine L.step (Ev.loadA rfl rfl rfl (Src.r 0 rfl) rfl rfl (by decide)) rfl ?_
  refine L.step (Ev.loadA rfl rfl rfl (Src.r 5 rfl) rfl rfl (by decide)) rfl ?_
  refine L.callR (js := []) (js' := []) (op_g f b ok hb er torn se at_ data YA MA yc _ mc hyl hyc) rfl rfl rfl (by decide) ⟨(Has.r 4 rfl), (Has.r 3 rfl), (Has.r 2 rfl), (Has.r 1 rfl), (Has.r 6 rfl), trivial⟩ rfl ?_
  rintro _ _ _ ⟨x, OA, oc, ⟨gx, hxl, hx2, hxs⟩, rfl, rfl, rfl⟩
  refine L.alloc rfl rfl rfl (fun A7 => ?_)
  refine L.storeA (j := 0) rfl rfl rfl rfl rfl (Nat.zero_lt_succ _) rfl rfl ?_
  refine L.nil ?_
  refine QE.seq ?_
  refine C.seq ?_
  refine C.le (Γ' := [(3, ptrOf A3 0), (5, .bool true), (6, ptrOf A6 0), (7, ptrOf A7 0)]) (R' := [Rd A3 [.bool er, .int .u8 (se.toNat : Int), .int .u8 (at_.toNat : Int), .slice YA data.length yc, .bool torn, .slice MA mask.length mc], Rd YA (U8 data), Rd MA (U8 mask), Rd A6 [.int .i64 (f.size : Int), .slice b.D f.data.length b.cD, .slice b.W f.wear.length b.cW, .int .i64 f.limit, .slice b.E f.dead.length b.cE], Rd b.D (rowsV b.hs (B8 f.data)), KidsR b.hs (B8 f.data), Rd b.W (I64 f.wear), Rd b.E (Bs f.dead), Rd OA (U8 x.data)]) (H' := [Own 53 4 A7 1 1 [.int .i64 x.kind, .int .i64 x.sec, .int .i64 x.at_, .slice OA x.data.length oc]]) (by exact Le.mk' (rs := [6, 7, 8, 1, 5, 4, 3, 2, 0]) (hs := [0]) ⟨rfl, rfl, rfl, rfl, trivial⟩ ⟨rfl, rfl, rfl, rfl, rfl, rfl, rfl, rfl, rfl, trivial⟩ ⟨rfl, trivial⟩ (by decide)) ?_
  refine C.freeze 0 rfl [] (by decide) (by decide) ?_
  have gxs := gx.s
  have hsq : x.sec = ((x.sec.toNat : Nat) : Int) := (Int.toNat_of_nonneg gxs.1).symm
  have hrow := ok.rows x.sec.toNat gx.lt
  have hokw := ok.wl
  have hoke := ok.dl
  have ht := gx.lt
  have hv := gx.lt
  rw [← hokw] at hv
  have hu := gx.lt
  rw [← hoke] at hu
  have hL := len_big hrow hsz
  try clear hxs
  refine C.region ?_
  refine L.step (Ev.loadA rfl rfl rfl (Src.r 4 rfl) rfl rfl (by decide)) rfl ?_
  refine L.step (Ev.loadA rfl rfl rfl (Src.r 0 rfl) rfl rfl (by decide)) rfl ?_
  refine L.callR (js := []) (js' := []) (do_c f b ok hb x OA oc (by omega)) rfl rfl rfl (by decide) ⟨(Has.r 5 rfl), (Has.r 6 rfl), (Has.r 7 rfl), (Has.r 8 rfl), (Has.r 9 rfl), trivial⟩ rfl ?_
  rintro _ _ _ ⟨b1, hb1, rfl, rfl, rfl⟩
  refine L.step (Ev.pure rfl) rfl ?_
  refine L.step (Ev.pure rfl) rfl ?_
  refine L.step (Ev.pure rfl) rfl ?_
  refine L.alloc rfl rfl rfl (fun A8 => ?_)
  refine L.storeA (j := 0) rfl rfl rfl rfl rfl (Nat.zero_lt_succ _) rfl rfl ?_
  refine L.step (Ev.pure rfl) rfl ?_
  refine L.nil ?_
  refine QE.seq ?_
  refine C.seq ?_
  refine C.le (Γ' := [(3, ptrOf A3 0), (5, .bool true), (6, ptrOf A6 0), (7, ptrOf A7 0), (8, ptrOf A8 0), (9, .int .i64 (checkE f x))]) (R' := [Rd A3 [.bool er, .int .u8 (se.toNat : Int), .int .u8 (at_.toNat : Int), .slice YA data.length yc, .bool torn, .slice MA mask.length mc], Rd YA (U8 data), Rd MA (U8 mask), Rd A6 [.int .i64 (f.size : Int), .slice b.D f.data.length b.cD, .slice b.W f.wear.length b.cW, .int .i64 f.limit, .slice b.E f.dead.length b.cE], Rd b.D (rowsV b.hs (B8 f.data)), KidsR b.hs (B8 f.data), Rd b.W (I64 f.wear), Rd b.E (Bs f.dead), Rd OA (U8 x.data), Rd A7 [.int .i64 x.kind, .int .i64 x.sec, .int .i64 x.at_, .slice OA x.data.length oc], Rd b1.D (rowsV b1.hs (B8 (cutR f x (fun _ => 255)).data)), KidsR b1.hs (B8 (cutR f x (fun _ => 255)).data), Rd b1.W (I64 (cutR f x (fun _ => 255)).wear), Rd b1.E (Bs (cutR f x (fun _ => 255)).dead)]) (H' := [Own 32 5 A8 1 1 [.int .i64 ((cutR f x (fun _ => 255)).size : Int), .slice b1.D (cutR f x (fun _ => 255)).data.length b1.cD, .slice b1.W (cutR f x (fun _ => 255)).wear.length b1.cW, .int .i64 (cutR f x (fun _ => 255)).limit, .slice b1.E (cutR f x (fun _ => 255)).dead.length b1.cE]]) (by exact Le.mk' (rs := [5, 6, 7, 8, 9, 10, 11, 12, 13, 4, 0, 1, 2, 3]) (hs := [0]) ⟨rfl, rfl, rfl, rfl, rfl, rfl, trivial⟩ ⟨rfl, rfl, rfl, rfl, rfl, rfl, rfl, rfl, rfl, rfl, rfl, rfl, rfl, rfl, trivial⟩ ⟨rfl, trivial⟩ (by decide)) ?_
  refine C.freeze 0 rfl [] (by decide) (by decide) ?_
  refine C.region ?_
  refine L.step (Ev.loadA rfl rfl rfl (Src.r 4 rfl) rfl rfl (by decide)) rfl ?_
  refine L.step (Ev.loadA rfl rfl rfl (Src.r 10 rfl) rfl rfl (by decide)) rfl ?_
  refine L.step (Ev.fieldAddr rfl rfl rfl rfl rfl rfl (Src.r 1 rfl) (Nat.zero_lt_succ _) rfl) rfl ?_
  refine L.step (Ev.load rfl rfl rfl (Src.r 1 rfl) rfl) rfl ?_
  refine L.callR (js := []) (js' := []) (cut_e f b ok hb x OA oc (by omega) mask MA _ mc (by rfl) (by omega) (fun i => mask.getD i 0) (fun _ _ => rfl)) rfl rfl rfl (by decide) ⟨(Has.r 5 rfl), (Has.r 6 rfl), (Has.r 7 rfl), (Has.r 8 rfl), (Has.r 9 rfl), (Has.r 3 rfl), trivial⟩ rfl ?_
  rintro _ _ _ ⟨b2, hb2, rfl, rfl, rfl⟩
  refine L.step (Ev.pure rfl) rfl ?_
  refine L.step (Ev.pure rfl) rfl ?_
  refine L.step (Ev.pure rfl) rfl ?_
  refine L.alloc rfl rfl rfl (fun A10 => ?_)
  refine L.storeA (j := 0) rfl rfl rfl rfl rfl (Nat.zero_lt_succ _) rfl rfl ?_
  refine L.step (Ev.pure rfl) rfl ?_
  refine L.nil ?_
  refine QE.seq ?_
  refine C.seq ?_
  refine C.seq ?_
  refine C.le (Γ' := [(3, ptrOf A3 0), (5, .bool true), (6, ptrOf A6 0), (7, ptrOf A7 0), (8, ptrOf A8 0), (9, .int .i64 (checkE f x)), (10, ptrOf A10 0), (11, .int .i64 (checkE f x))]) (R' := [Rd A3 [.bool er, .int .u8 (se.toNat : Int), .int .u8 (at_.toNat : Int), .slice YA data.length yc, .bool torn, .slice MA mask.length mc], Rd YA (U8 data), Rd MA (U8 mask), Rd A6 [.int .i64 (f.size : Int), .slice b.D f.data.length b.cD, .slice b.W f.wear.length b.cW, .int .i64 f.limit, .slice b.E f.dead.length b.cE], Rd b.D (rowsV b.hs (B8 f.data)), KidsR b.hs (B8 f.data), Rd b.W (I64 f.wear), Rd b.E (Bs f.dead), Rd OA (U8 x.data), Rd A7 [.int .i64 x.kind, .int .i64 x.sec, .int .i64 x.at_, .slice OA x.data.length oc], Rd b1.D (rowsV b1.hs (B8 (cutR f x (fun _ => 255)).data)), KidsR b1.hs (B8 (cutR f x (fun _ => 255)).data), Rd b1.W (I64 (cutR f x (fun _ => 255)).wear), Rd b1.E (Bs (cutR f x (fun _ => 255)).dead), Rd A8 [.int .i64 ((cutR f x (fun _ => 255)).size : Int), .slice b1.D (cutR f x (fun _ => 255)).data.length b1.cD, .slice b1.W (cutR f x (fun _ => 255)).wear.length b1.cW, .int .i64 (cutR f x (fun _ => 255)).limit, .slice b1.E (cutR f x (fun _ => 255)).dead.length b1.cE], Rd b2.D (rowsV b2.hs (B8 (cutR f x (fun i => mask.getD i 0)).data)), KidsR b2.hs (B8 (cutR f x (fun i => mask.getD i 0)).data), Rd b2.W (I64 (cutR f x (fun i => mask.getD i 0)).wear), Rd b2.E (Bs (cutR f x (fun i => mask.getD i 0)).dead)]) (H' := [Own 32 5 A10 1 1 [.int .i64 ((cutR f x (fun i => mask.getD i 0)).size : Int), .slice b2.D (cutR f x (fun i => mask.getD i 0)).data.length b2.cD, .slice b2.W (cutR f x (fun i => mask.getD i 0)).wear.length b2.cW, .int .i64 (cutR f x (fun i => mask.getD i 0)).limit, .slice b2.E (cutR f x (fun i => mask.getD i 0)).dead.length b2.cE]]) (by exact Le.mk' (rs := [5, 6, 7, 8, 9, 10, 11, 12, 13, 14, 15, 16, 17, 18, 4, 0, 1, 2, 3]) (hs := [0]) ⟨rfl, rfl, rfl, rfl, rfl, rfl, rfl, rfl, trivial⟩ ⟨rfl, rfl, rfl, rfl, rfl, rfl, rfl, rfl, rfl, rfl, rfl, rfl, rfl, rfl, rfl, rfl, rfl, rfl, rfl, trivial⟩ ⟨rfl, trivial⟩ (by decide)) ?_
  refine C.freeze 0 rfl [] (by decide) (by decide) ?_
  refine C.region ?_
  refine L.step (Ev.pure rfl) rfl ?_
  refine L.step (Ev.pure rfl) rfl ?_
  refine L.step (Ev.pure rfl) rfl ?_
  refine L.bool 37 rfl (fun hg37 => ?_) (fun hg37 => ?_)
  · skip
    replace hg37 := b_ne hg37
    refine L.no rfl rfl rfl ?_
    refine L.no rfl rfl rfl ?_
    refine L.step (Ev.pure rfl) rfl ?_
    refine L.nil ?_
    refine QE.seq ?_
    refine C.cond rfl (fun _ => ?_) (fun h => by cases h)
    refine C.seq ?_
    refine C.region ?_
    refine L.step (Ev.pure rfl) rfl ?_
    refine L.step (Ev.pure rfl) rfl ?_
    refine L.step (Ev.pure rfl) rfl ?_
    refine L.step (Ev.pure rfl) rfl ?_
    refine L.bool 44 rfl (fun hg44 => ?_) (fun hg44 => ?_)
    · skip
      replace hg44 := i_eq hg44
      refine L.yes rfl ?_
      refine L.step (Ev.pure rfl) rfl ?_
      refine L.step (Ev.pure rfl) rfl ?_
      refine L.step (Ev.pure rfl) rfl ?_
      refine L.nil ?_
      refine QE.seq ?_
      refine C.ret ?_
      refine QE.tR ?_
      refine QE.ret (js := []) (hs := []) (vs := [_]) rfl ⟨rfl, trivial⟩ (by decide) ?_
      exact ⟨rfl, rfl, rfl⟩
    · skip
      replace hg44 := i_ne hg44
      exact (hg44 rfl).elim
  · skip
    replace hg37 := b_eq hg37
    have hE := hg37
    obtain ⟨ok1, hn1, hs1, hl1, hw1, he1, hd1, hr1⟩ := cutR_kept (x := x) ok hE (fun _ => 255)
    replace hr1 := hr1 x.sec.toNat gx.lt
    have ht1 := gx.lt
    rw [← hn1] at ht1
    have hv1 := gx.lt
    rw [← hw1] at hv1
    have hL1 := len_big hr1 hsz
    obtain ⟨ok2, hn2, hs2, hl2, hw2, he2, hd2, hr2⟩ := cutR_kept (x := x) ok hE (fun i => mask.getD i 0)
    replace hr2 := hr2 x.sec.toNat gx.lt
    have ht2 := gx.lt
    rw [← hn2] at ht2
    have hv2 := gx.lt
    rw [← hw2] at hv2
    have hL2 := len_big hr2 hsz
    refine L.yes rfl ?_
    refine L.step (Ev.pure rfl) rfl ?_
    refine L.yes rfl ?_
    refine L.step (Ev.pure rfl) rfl ?_
    refine L.step (Ev.pure rfl) rfl ?_
    refine L.nil ?_
    refine QE.seq ?_
    refine C.condB 40 rfl (fun hc40 => ?_) (fun hc40 => ?_)
    · skip
      replace hc40 := b_ne hc40
      exact (hc40 hE).elim
    · skip
      replace hc40 := b_eq hc40
      refine C.skip ?_
      refine QE.seq ?_
      refine C.seq ?_
      refine C.region ?_
      refine L.step (Ev.loadA rfl rfl rfl (Src.r 0 rfl) rfl rfl (by decide)) rfl ?_
      refine L.step (Ev.loadA rfl rfl rfl (Src.r 10 rfl) rfl rfl (by decide)) rfl ?_
      refine L.callR (js := []) (js' := []) (do_c (cutR f x (fun i => mask.getD i 0)) b2 ok2 hb2 x OA oc (by omega)) rfl rfl rfl (by decide) ⟨(Has.r 16 rfl), (Has.r 17 rfl), (Has.r 18 rfl), (Has.r 19 rfl), (Has.r 9 rfl), trivial⟩ rfl ?_
      rintro _ _ _ ⟨b3, hb3, rfl, rfl, rfl⟩
      refine L.step (Ev.pure rfl) rfl ?_
      refine L.step (Ev.pure rfl) rfl ?_
      refine L.step (Ev.pure rfl) rfl ?_
      refine L.alloc rfl rfl rfl (fun A12 => ?_)
      refine L.storeA (j := 0) rfl rfl rfl rfl rfl (Nat.zero_lt_succ _) rfl rfl ?_
      refine L.step (Ev.pure rfl) rfl ?_
      refine L.nil ?_
      refine QE.seq ?_
      refine C.seq ?_
      refine C.le (Γ' := [(5, .bool true), (6, ptrOf A6 0), (7, ptrOf A7 0), (8, ptrOf A8 0), (12, ptrOf A12 0), (13, .int .i64 (checkE (cutR f x (fun i => mask.getD i 0)) x))]) (R' := [Rd A6 [.int .i64 (f.size : Int), .slice b.D f.data.length b.cD, .slice b.W f.wear.length b.cW, .int .i64 f.limit, .slice b.E f.dead.length b.cE], Rd b.D (rowsV b.hs (B8 f.data)), KidsR b.hs (B8 f.data), Rd b.W (I64 f.wear), Rd b.E (Bs f.dead), Rd OA (U8 x.data), Rd A7 [.int .i64 x.kind, .int .i64 x.sec, .int .i64 x.at_, .slice OA x.data.length oc], Rd b1.D (rowsV b1.hs (B8 (cutR f x (fun _ => 255)).data)), KidsR b1.hs (B8 (cutR f x (fun _ => 255)).data), Rd b1.W (I64 (cutR f x (fun _ => 255)).wear), Rd b1.E (Bs (cutR f x (fun _ => 255)).dead), Rd A8 [.int .i64 ((cutR f x (fun _ => 255)).size : Int), .slice b1.D (cutR f x (fun _ => 255)).data.length b1.cD, .slice b1.W (cutR f x (fun _ => 255)).wear.length b1.cW, .int .i64 (cutR f x (fun _ => 255)).limit, .slice b1.E (cutR f x (fun _ => 255)).dead.length b1.cE], Rd b3.D (rowsV b3.hs (B8 (cutR (cutR f x (fun i => mask.getD i 0)) x (fun _ => 255)).data)), KidsR b3.hs (B8 (cutR (cutR f x (fun i => mask.getD i 0)) x (fun _ => 255)).data), Rd b3.W (I64 (cutR (cutR f x (fun i => mask.getD i 0)) x (fun _ => 255)).wear), Rd b3.E (Bs (cutR (cutR f x (fun i => mask.getD i 0)) x (fun _ => 255)).dead)]) (H' := [Own 32 5 A12 1 1 [.int .i64 ((cutR (cutR f x (fun i => mask.getD i 0)) x (fun _ => 255)).size : Int), .slice b3.D (cutR (cutR f x (fun i => mask.getD i 0)) x (fun _ => 255)).data.length b3.cD, .slice b3.W (cutR (cutR f x (fun i => mask.getD i 0)) x (fun _ => 255)).wear.length b3.cW, .int .i64 (cutR (cutR f x (fun i => mask.getD i 0)) x (fun _ => 255)).limit, .slice b3.E (cutR (cutR f x (fun i => mask.getD i 0)) x (fun _ => 255)).dead.length b3.cE]]) (by exact Le.mk' (rs := [8, 9, 10, 11, 12, 13, 14, 15, 16, 17, 18, 19, 0, 1, 2, 3]) (hs := [0]) ⟨rfl, rfl, rfl, rfl, rfl, rfl, trivial⟩ ⟨rfl, rfl, rfl, rfl, rfl, rfl, rfl, rfl, rfl, rfl, rfl, rfl, rfl, rfl, rfl, rfl, trivial⟩ ⟨rfl, trivial⟩ (by decide)) ?_
      refine C.freeze 0 rfl [] (by decide) (by decide) ?_
      refine C.region ?_
      refine L.step (Ev.fieldAddr rfl rfl rfl rfl rfl rfl (Src.r 7 rfl) (Nat.zero_lt_succ _) rfl) rfl ?_
      refine L.step (Ev.load rfl rfl rfl (Src.r 7 rfl) rfl) rfl ?_
      refine L.step (Ev.pure rfl) rfl ?_
      refine L.nil ?_
      refine QE.seq ?_
      refine C.seq ?_
      refine C.seq ?_
      refine C.region ?_
      refine L.step (Ev.pure rfl) rfl ?_
      refine L.step (Ev.pure rfl) rfl ?_
      refine L.nil ?_
      refine QE.seq ?_
      refine C.condB 56 rfl (fun hc56 => ?_) (fun hc56 => ?_)
      · skip
        replace hc56 := b_ne hc56
        obtain ⟨q1, q2, q3⟩ := (checkR_again ok hE).resolve_left hc56
        refine C.seq ?_
        refine C.regionQ (by kernel_rfl) ?_
        refine LQ.step (Ev.pure rfl) rfl ?_
        refine LQ.step (Ev.pure rfl) rfl ?_
        refine LQ.step (Ev.pure rfl) rfl ?_
        refine LQ.bool 59 rfl (fun hg59 => ?_) (fun hg59 => ?_)
        · skip
          replace hg59 := i_eq hg59
          refine LQ.yes rfl ?_
          refine LQ.step (Ev.fieldAddr rfl rfl rfl rfl rfl rfl (Src.r 7 rfl) (Nat.zero_lt_succ _) rfl) rfl ?_
          refine LQ.yes rfl ?_
          refine LQ.step (Ev.load rfl rfl rfl (Src.r 7 rfl) rfl) rfl ?_
          refine LQ.yes rfl ?_
          refine LQ.step (Ev.pure rfl) rfl ?_
          refine LQ.step (Ev.pure rfl) rfl ?_
          refine LQ.step (Ev.pure rfl) rfl ?_
          refine LQ.bool 64 rfl (fun hg64 => ?_) (fun hg64 => ?_)
          · skip
            replace hg64 := i_eq hg64
            refine LQ.yes rfl ?_
            refine LQ.step (Ev.fieldAddr rfl rfl rfl rfl rfl rfl (Src.r 1 rfl) (Nat.zero_lt_succ _) rfl) rfl ?_
            refine LQ.yes rfl ?_
            refine LQ.step (Ev.load rfl rfl rfl (Src.r 1 rfl) rfl) rfl ?_
            refine LQ.yes rfl ?_
            refine LQ.step (Ev.pure rfl) rfl ?_
            refine LQ.yes rfl ?_
            refine LQ.step (Ev.idx1 (k := x.sec.toNat) rfl rfl rfl rfl rfl rfl hsq hv (Src.r 4 rfl) (I64_pos hv)) rfl ?_
            refine LQ.yes rfl ?_
            refine LQ.step (Ev.load rfl rfl rfl (Src.r 4 rfl) (I64_get hv)) rfl ?_
            refine LQ.yes rfl ?_
            refine LQ.step (Ev.fieldAddr rfl rfl rfl rfl rfl rfl (Src.r 1 rfl) (Nat.zero_lt_succ _) rfl) rfl ?_
            refine LQ.yes rfl ?_
            refine LQ.step (Ev.load rfl rfl rfl (Src.r 1 rfl) rfl) rfl ?_
            refine LQ.yes rfl ?_
            refine LQ.step (Ev.sub rfl rfl (by omega) (by omega)) rfl ?_
            refine LQ.yes rfl ?_
            refine LQ.step (Ev.pure rfl) rfl ?_
            refine LQ.step (Ev.pure rfl) rfl ?_
            refine LQ.step (Ev.pure rfl) rfl ?_
            refine LQ.bool 75 rfl (fun hg75 => ?_) (fun hg75 => ?_)
            · skip
              replace hg75 := i_eq hg75
              refine LQ.yes rfl ?_
              refine LQ.step (Ev.pure rfl) rfl ?_
              refine LQ.step (Ev.pure rfl) rfl ?_
              refine LQ.step (Ev.pure rfl) rfl ?_
              refine LQ.nil ?_
              refine QE.seq ?_
              refine C.ret ?_
              refine QE.tR ?_
              refine QE.ret (js := []) (hs := []) (vs := [_]) rfl ⟨rfl, trivial⟩ (by decide) ?_
              exact ⟨rfl, rfl, rfl⟩
            · skip
              replace hg75 := i_ne hg75
              exact (hg75 q3).elim
          · skip
            replace hg64 := i_ne hg64
            exact (hg64 q2).elim
        · skip
          replace hg59 := i_ne hg59
          exact (hg59 q1).elim
      · skip
        replace hc56 := b_eq hc56
        have hE2 := hc56
        obtain ⟨ok3, hn3, hs3, hl3, hw3, he3, hd3, hr3⟩ := cutR_kept (x := x) ok2 hE2 (fun _ => 255)
        replace hr3 := hr3 x.sec.toNat (by rw [hn2]; exact gx.lt)
        have ht3 := ht2
        rw [← hn3] at ht3
        refine C.skip ?_
        refine QE.seq ?_
        refine C.seq ?_
        refine C.regionQ (by kernel_rfl) ?_
        refine LQ.step (Ev.fieldAddr rfl rfl rfl rfl rfl rfl (Src.r 0 rfl) (Nat.zero_lt_succ _) rfl) rfl ?_
        refine LQ.step (Ev.load rfl rfl rfl (Src.r 0 rfl) rfl) rfl ?_
        refine LQ.step (Ev.pure rfl) rfl ?_
        refine LQ.step (Ev.fieldAddr rfl rfl rfl rfl rfl rfl (Src.r 1 rfl) (Nat.zero_lt_succ _) rfl) rfl ?_
        refine LQ.step (Ev.load rfl rfl rfl (Src.r 1 rfl) rfl) rfl ?_
        refine LQ.step (Ev.pure rfl) rfl ?_
        refine LQ.step (Ev.pure rfl) rfl ?_
        refine LQ.step (Ev.pure rfl) rfl ?_
        refine LQ.bool 85 rfl (fun hg85 => ?_) (fun hg85 => ?_)
        · skip
          replace hg85 := i_eq hg85
          refine LQ.yes rfl ?_
          refine LQ.step (Ev.fieldAddr rfl rfl rfl rfl rfl rfl (Src.r 12 rfl) (Nat.zero_lt_succ _) rfl) rfl ?_
          refine LQ.yes rfl ?_
          refine LQ.step (Ev.load rfl rfl rfl (Src.r 12 rfl) rfl) rfl ?_
          refine LQ.yes rfl ?_
          refine LQ.step (Ev.pure rfl) rfl ?_
          refine LQ.yes rfl ?_
          refine LQ.step (Ev.fieldAddr rfl rfl rfl rfl rfl rfl (Src.r 1 rfl) (Nat.zero_lt_succ _) rfl) rfl ?_
          refine LQ.yes rfl ?_
          refine LQ.step (Ev.load rfl rfl rfl (Src.r 1 rfl) rfl) rfl ?_
          refine LQ.yes rfl ?_
          refine LQ.step (Ev.pure rfl) rfl ?_
          refine LQ.yes rfl ?_
          refine LQ.step (Ev.pure rfl) rfl ?_
          refine LQ.step (Ev.pure rfl) rfl ?_
          refine LQ.step (Ev.pure rfl) rfl ?_
          refine LQ.bool 94 rfl (fun hg94 => ?_) (fun hg94 => ?_)
          · skip
            replace hg94 := i_eq hg94
            refine LQ.yes rfl ?_
            refine LQ.step (Ev.fieldAddr rfl rfl rfl rfl rfl rfl (Src.r 0 rfl) (Nat.zero_lt_succ _) rfl) rfl ?_
            refine LQ.yes rfl ?_
            refine LQ.step (Ev.load rfl rfl rfl (Src.r 0 rfl) rfl) rfl ?_
            refine LQ.yes rfl ?_
            refine LQ.step (Ev.pure rfl) rfl ?_
            refine LQ.yes rfl ?_
            refine LQ.step (Ev.idx1 (k := x.sec.toNat) rfl rfl rfl rfl rfl rfl hsq ht3 (Src.r 13 rfl) (rows_pos hb3 ht3)) rfl ?_
            refine LQ.yes rfl ?_
            refine LQ.step (Ev.load rfl rfl rfl (Src.r 13 rfl) (rows8_get hb3 ht3)) rfl ?_
            refine LQ.yes rfl ?_
            refine LQ.step (Ev.fieldAddr rfl rfl rfl rfl rfl rfl (Src.r 12 rfl) (Nat.zero_lt_succ _) rfl) rfl ?_
            refine LQ.yes rfl ?_
            refine LQ.step (Ev.load rfl rfl rfl (Src.r 12 rfl) rfl) rfl ?_
            refine LQ.yes rfl ?_
            refine LQ.step (Ev.pure rfl) rfl ?_
            refine LQ.yes rfl ?_
            refine LQ.step (Ev.idx1 (k := x.sec.toNat) rfl rfl rfl rfl rfl rfl hsq ht1 (Src.r 8 rfl) (rows_pos hb1 ht1)) rfl ?_
            refine LQ.yes rfl ?_
            refine LQ.step (Ev.load rfl rfl rfl (Src.r 8 rfl) (rows8_get hb1 ht1)) rfl ?_
            refine LQ.yes rfl ?_
            refine LQ.call (.bool true) (Ctr.tb true (same_c _ _ _ _ ((cutR (cutR f x (fun i => mask.getD i 0)) x (fun _ => 255)).data.getD x.sec.toNat []) ((cutR f x (fun _ => 255)).data.getD x.sec.toNat []) (len_big hr3 (by rw [hs2]; exact hsz)) hL1) (by rw [cutR_finish hE hE2]; simp)) (fun _ _ _ h => h.1) rfl ⟨((Has.kid 14 rfl (by rw [B8_len]; exact hb3) (x.sec.toNat) (by rw [B8_len]; exact ht3)).cast (B8_get _)), ((Has.kid 9 rfl (by rw [B8_len]; exact hb1) (x.sec.toNat) (by rw [B8_len]; exact ht1)).cast (B8_get _)), trivial⟩ rfl ?_
            refine LQ.step (Ev.pure rfl) rfl ?_
            refine LQ.step (Ev.pure rfl) rfl ?_
            refine LQ.yes rfl ?_
            refine LQ.step (Ev.pure rfl) rfl ?_
            refine LQ.step (Ev.pure rfl) rfl ?_
            refine LQ.step (Ev.pure rfl) rfl ?_
            refine LQ.nil ?_
            refine QE.seq ?_
            refine C.ret ?_
            refine QE.ret (js := []) (hs := []) (vs := [_]) rfl ⟨rfl, trivial⟩ (by decide) ?_
            exact ⟨rfl, rfl, rfl⟩
          · skip
            replace hg94 := i_ne hg94
            exact (hg94 (congrArg Nat.cast hn1)).elim
        · skip
          replace hg85 := i_ne hg85
          exact (hg85 (congrArg Nat.cast (hn3.trans hn2))).elim

end Go.Proofs.Ythfjkdgopkmgoaa
