/-
  The contract of FlashPrograms.
-/
import Derived.Test.YthfjkdgopkmgoaaWFlM
namespace Go.Proofs.Ythfjkdgopkmgoaa
open Go.Sl

set_option maxHeartbeats 2000000 in
theorem programs_c (rs : UInt8) (rd : List (List UInt8)) (rw : List UInt8) (re : UInt8) (RD RW : Option Addr) (rc rwc : Nat) (rhs : List Hd) (hrh : rhs.length = rd.length) (hrl : rd.length ≤ 9223372036854775807) (hrr : ∀ i, (rd.getD i []).length ≤ 9223372036854775807) (hrw : rw.length ≤ 9223372036854775807) (era torna : Bool) (sea at_a : UInt8) (dataa maska : List UInt8) (YAa MAa : Option Addr) (yca mca : Nat) (hyca : dataa.length ≤ yca) (hyla : dataa.length ≤ 9223372036854775807) (_hmla : maska.length ≤ 9223372036854775807) (erb tornb : Bool) (seb at_b : UInt8) (datab maskb : List UInt8) (YAb MAb : Option Addr) (ycb mcb : Nat) (hycb : datab.length ≤ ycb) (hylb : datab.length ≤ 9223372036854775807) (_hmlb : maskb.length ≤ 9223372036854775807) :
    Ctr X 12 [.agg (List.toArray [.int .u8 (rs.toNat : Int), .slice RD rd.length rc, .slice RW rw.length rwc, .int .u8 (re.toNat : Int)]), .agg (List.toArray [.bool era, .int .u8 (sea.toNat : Int), .int .u8 (at_a.toNat : Int), .slice YAa dataa.length yca, .bool torna, .slice MAa maska.length mca]), .agg (List.toArray [.bool erb, .int .u8 (seb.toNat : Int), .int .u8 (at_b.toNat : Int), .slice YAb datab.length ycb, .bool tornb, .slice MAb maskb.length mcb])] [Rd RD (rowsV rhs (B8 rd)), KidsR rhs (B8 rd), Rd RW (U8 rw), Rd YAa (U8 dataa), Rd MAa (U8 maska), Rd YAb (U8 datab), Rd MAb (U8 maskb)] [] (fun v R' H' => v = .bool true ∧ R' = [] ∧ H' = []) := by
  refine Ctr.of (X := X) (fn := Try.f12) Try.func12 rfl (by kernel_rfl) rfl ?_
  intro β
  refine C.seq ?_
  refine C.region ?_
  refine L.boxA rfl rfl (fun A3 => ?_)
  refine L.boxA rfl rfl (fun A4 => ?_)
  refine L.boxA rfl rfl (fun A5 => ?_)
  refine L.step (Ev.pure rfl) rfl ?_
  refine L.nil ?_
  refine QE.seq ?_
  refine C.seq ?_
  refine C.freeze 0 rfl [1, 2] (by decide) (by decide) ?_
  refine C.region ?_
  refine L.call (js := []) (js' := [0, 1]) (sanity_c) rfl rfl rfl (by decide) trivial rfl ?_
  rintro _ _ _ ⟨rfl, rfl, rfl⟩
  refine L.step (Ev.pure rfl) rfl ?_
  refine L.nil ?_
  refine QE.seq ?_
  refine C.seq ?_
  refine C.region ?_
  refine L.step (Ev.loadA rfl rfl rfl (Src.r 0 rfl) rfl rfl (by decide)) rfl ?_
  refine L.call (js := []) (js' := [0, 1]) (made_c rs rd rw re RD RW rc rwc rhs hrh hrl hrr hrw) rfl rfl rfl (by decide) ⟨(Has.r 1 rfl), (Has.r 2 rfl), (Has.r 3 rfl), trivial⟩ rfl ?_
  rintro _ _ _ ⟨f, b, ok, hlim, hsz, hdl, hb, rfl, rfl, rfl⟩
  refine L.alloc rfl rfl rfl (fun A8 => ?_)
  refine L.storeA (j := 6) rfl rfl rfl rfl rfl (Nat.zero_lt_succ _) rfl rfl ?_
  refine L.nil ?_
  refine QE.seq ?_
  refine C.seq ?_
  refine C.le (Γ' := [(4, ptrOf A4 0), (5, ptrOf A5 0), (7, .bool true), (8, ptrOf A8 0)]) (R' := [Rd YAa (U8 dataa), Rd YAb (U8 datab)]) (H' := [Own 90 6 A4 1 1 [.bool era, .int .u8 (sea.toNat : Int), .int .u8 (at_a.toNat : Int), .slice YAa dataa.length yca, .bool torna, .slice MAa maska.length mca], Own 90 6 A5 1 1 [.bool erb, .int .u8 (seb.toNat : Int), .int .u8 (at_b.toNat : Int), .slice YAb datab.length ycb, .bool tornb, .slice MAb maskb.length mcb], Own 32 5 A8 1 1 [.int .i64 (f.size : Int), .slice b.D f.data.length b.cD, .slice b.W f.wear.length b.cW, .int .i64 f.limit, .slice b.E f.dead.length b.cE], Own 24 1 b.D f.data.length b.cD (rowsV b.hs (B8 f.data)), OwnKids 5 b.hs (B8 f.data), Own 3 1 b.W f.wear.length b.cW (I64 f.wear), Own 4 1 b.E f.dead.length b.cE (Bs f.dead)]) (by exact Le.mk' (rs := [4, 6]) (hs := [4, 5, 6, 0, 1, 2, 3]) ⟨rfl, rfl, rfl, rfl, trivial⟩ ⟨rfl, rfl, trivial⟩ ⟨rfl, rfl, rfl, rfl, rfl, rfl, rfl, trivial⟩ (by decide)) ?_
  refine C.freeze 3 rfl [0, 1, 2, 4, 5, 6] (by decide) (by decide) ?_
  refine C.freezeKids 3 rfl [0, 1, 2, 4, 5] (by decide) (by decide) ?_
  refine C.freeze 3 rfl [0, 1, 2, 4] (by decide) (by decide) ?_
  refine C.freeze 3 rfl [0, 1, 2] (by decide) (by decide) ?_
  refine C.freeze 2 rfl [0, 1] (by decide) (by decide) ?_
  refine C.region ?_
  refine L.step (Ev.fieldAddr rfl rfl rfl rfl rfl rfl (Src.o 0 rfl) (Nat.zero_lt_succ _) rfl) rfl ?_
  refine L.step (Ev.load rfl rfl rfl (Src.o 0 rfl) rfl) rfl ?_
  refine L.step (Ev.fieldAddr rfl rfl rfl rfl rfl rfl (Src.o 0 rfl) (Nat.zero_lt_succ _) rfl) rfl ?_
  refine L.store (j := 0) rfl rfl rfl rfl rfl rfl rfl rfl ?_
  refine L.step (Ev.fieldAddr rfl rfl rfl rfl rfl rfl (Src.o 1 rfl) (Nat.zero_lt_succ _) rfl) rfl ?_
  refine L.store (j := 1) rfl rfl rfl rfl rfl rfl rfl rfl ?_
  refine L.step (Ev.fieldAddr rfl rfl rfl rfl rfl rfl (Src.o 1 rfl) (Nat.zero_lt_succ _) rfl) rfl ?_
  refine L.store (j := 1) rfl rfl rfl rfl rfl rfl rfl rfl ?_
  refine L.nil ?_
  refine QE.seq ?_
  refine C.seq ?_
  refine C.le (Γ' := [(4, ptrOf A4 0), (5, ptrOf A5 0), (7, .bool true), (8, ptrOf A8 0)]) (R' := [Rd A8 [.int .i64 (f.size : Int), .slice b.D f.data.length b.cD, .slice b.W f.wear.length b.cW, .int .i64 f.limit, .slice b.E f.dead.length b.cE], Rd b.D (rowsV b.hs (B8 f.data)), KidsR b.hs (B8 f.data), Rd b.W (I64 f.wear), Rd b.E (Bs f.dead), Rd YAa (U8 dataa), Rd YAb (U8 datab)]) (H' := [Own 90 6 A4 1 1 [.bool false, .int .u8 (sea.toNat : Int), .int .u8 (at_a.toNat : Int), .slice YAa dataa.length yca, .bool torna, .slice MAa maska.length mca], Own 90 6 A5 1 1 [.bool false, .int .u8 (sea.toNat : Int), .int .u8 (at_b.toNat : Int), .slice YAb datab.length ycb, .bool tornb, .slice MAb maskb.length mcb]]) (by exact Le.mk' (rs := [0, 4, 3, 2, 1, 5, 6]) (hs := [0, 1]) ⟨rfl, rfl, rfl, rfl, trivial⟩ ⟨rfl, rfl, rfl, rfl, rfl, rfl, rfl, trivial⟩ ⟨rfl, rfl, trivial⟩ (by decide)) ?_
  refine C.freeze 0 rfl [1] (by decide) (by decide) ?_
  refine C.freeze 0 rfl [] (by decide) (by decide) ?_
  refine C.join (fun q : Fo × Option Addr × Nat × Fo × Option Addr × Nat × Option Addr × Option Addr => [(7, .bool true), (8, ptrOf A8 0), (9, ptrOf q.2.2.2.2.2.2.1 0), (10, ptrOf q.2.2.2.2.2.2.2 0)]) (fun q : Fo × Option Addr × Nat × Fo × Option Addr × Nat × Option Addr × Option Addr => [Rd A8 [.int .i64 (f.size : Int), .slice b.D f.data.length b.cD, .slice b.W f.wear.length b.cW, .int .i64 f.limit, .slice b.E f.dead.length b.cE], Rd b.D (rowsV b.hs (B8 f.data)), KidsR b.hs (B8 f.data), Rd b.W (I64 f.wear), Rd b.E (Bs f.dead), Rd q.2.1 (U8 q.1.data), Rd q.2.2.2.2.1 (U8 q.2.2.2.1.data)]) (fun q : Fo × Option Addr × Nat × Fo × Option Addr × Nat × Option Addr × Option Addr => [Own 53 4 q.2.2.2.2.2.2.1 1 1 [.int .i64 q.1.kind, .int .i64 q.1.sec, .int .i64 q.1.at_, .slice q.2.1 q.1.data.length q.2.2.1], Own 53 4 q.2.2.2.2.2.2.2 1 1 [.int .i64 q.2.2.2.1.kind, .int .i64 q.2.2.2.1.sec, .int .i64 q.2.2.2.1.at_, .slice q.2.2.2.2.1 q.2.2.2.1.data.length q.2.2.2.2.2.1]]) (fun q : Fo × Option Addr × Nat × Fo × Option Addr × Nat × Option Addr × Option Addr => GoodOp f q.1 ∧ GoodOp f q.2.2.2.1 ∧ q.1.kind = 2 ∧ q.2.2.2.1.kind = 2 ∧ q.2.2.2.1.sec = q.1.sec ∧ q.1.data.length ≤ 9223372036854775807 ∧ q.2.2.2.1.data.length ≤ 9223372036854775807) ?_ ?_
  · skip
    refine C.regionM [Rd A5 [.bool false, .int .u8 (sea.toNat : Int), .int .u8 (at_b.toNat : Int), .slice YAb datab.length ycb, .bool tornb, .slice MAb maskb.length mcb], Rd A4 [.bool false, .int .u8 (sea.toNat : Int), .int .u8 (at_a.toNat : Int), .slice YAa dataa.length yca, .bool torna, .slice MAa maska.length mca], Rd A8 [.int .i64 (f.size : Int), .slice b.D f.data.length b.cD, .slice b.W f.wear.length b.cW, .int .i64 f.limit, .slice b.E f.dead.length b.cE], Rd b.D (rowsV b.hs (B8 f.data)), KidsR b.hs (B8 f.data), Rd b.W (I64 f.wear), Rd b.E (Bs f.dead), Rd YAa (U8 dataa), Rd YAb (U8 datab)] ⟨Has.r 0 rfl, Has.r 1 rfl, Has.r 2 rfl, Has.r 3 rfl, Has.r 4 rfl, Has.r 5 rfl, Has.r 6 rfl, Has.r 7 rfl, Has.r 8 rfl, trivial⟩ ?_
    refine LM.q 0 rfl (by kernel_rfl) (Ev.loadA rfl rfl rfl (Src.r 2 rfl) rfl rfl (by decide)) rfl ⟨Has.r 0 rfl, Has.r 1 rfl, Has.r 2 rfl, Has.r 3 rfl, Has.r 4 rfl, Has.r 5 rfl, Has.r 6 rfl, Has.r 7 rfl, Has.r 8 rfl, trivial⟩ ?_
    refine LM.q 1 rfl (by kernel_rfl) (Ev.loadA rfl rfl rfl (Src.r 1 rfl) rfl rfl (by decide)) rfl ⟨Has.r 0 rfl, Has.r 1 rfl, Has.r 2 rfl, Has.r 3 rfl, Has.r 4 rfl, Has.r 5 rfl, Has.r 6 rfl, Has.r 7 rfl, Has.r 8 rfl, trivial⟩ ?_
    refine LM.q 3 rfl (by kernel_rfl) (Ev.loadA rfl rfl rfl (Src.r 2 rfl) rfl rfl (by decide)) rfl ⟨Has.r 0 rfl, Has.r 1 rfl, Has.r 2 rfl, Has.r 3 rfl, Has.r 4 rfl, Has.r 5 rfl, Has.r 6 rfl, Has.r 7 rfl, Has.r 8 rfl, trivial⟩ ?_
    refine LM.q 4 rfl (by kernel_rfl) (Ev.loadA rfl rfl rfl (Src.r 0 rfl) rfl rfl (by decide)) rfl ⟨Has.r 0 rfl, Has.r 1 rfl, Has.r 2 rfl, Has.r 3 rfl, Has.r 4 rfl, Has.r 5 rfl, Has.r 6 rfl, Has.r 7 rfl, Has.r 8 rfl, trivial⟩ ?_
    refine LM.alt [2, 6, 7] (by kernel_rfl) (by decide) ⟨Has.r 0 rfl, Has.r 1 rfl, Has.r 2 rfl, Has.r 3 rfl, Has.r 4 rfl, Has.r 5 rfl, Has.r 6 rfl, Has.r 7 rfl, Has.r 8 rfl, trivial⟩ ⟨⟨_, rfl, ?_⟩, ⟨_, rfl, ?_⟩, ⟨_, rfl, ?_⟩, trivial⟩
    · skip
      refine L.callR (js := []) (js' := []) (op_g f b ok hb false torna sea at_a dataa YAa MAa yca _ mca hyla hyca) rfl rfl rfl (by decide) ⟨(Has.r 3 rfl), (Has.r 4 rfl), (Has.r 5 rfl), (Has.r 6 rfl), (Has.r 7 rfl), trivial⟩ rfl ?_
      rintro _ _ _ ⟨x, OA, oc, ⟨gx, hxl, hx2, hxs⟩, rfl, rfl, rfl⟩
      refine L.nil (QE.m (by kernel_rfl) ?_)
      refine LM.alt [5, 6, 7] (by kernel_rfl) (by decide) ⟨Has.r 1 rfl, Has.r 2 rfl, Has.r 3 rfl, Has.r 4 rfl, Has.r 5 rfl, Has.r 6 rfl, Has.r 7 rfl, Has.r 8 rfl, Has.r 9 rfl, trivial⟩ ⟨⟨_, rfl, ?_⟩, ⟨_, rfl, ?_⟩, ⟨_, rfl, ?_⟩, trivial⟩
      · skip
        refine L.callR (js := []) (js' := []) (op_g f b ok hb false tornb sea at_b datab YAb MAb ycb _ mcb hylb hycb) rfl rfl rfl (by decide) ⟨(Has.r 4 rfl), (Has.r 5 rfl), (Has.r 6 rfl), (Has.r 7 rfl), (Has.r 9 rfl), trivial⟩ rfl ?_
        rintro _ _ _ ⟨y, PA, pc, ⟨gy, hyl, hy2, hys⟩, rfl, rfl, rfl⟩
        refine L.nil (QE.m (by kernel_rfl) ?_)
        refine LM.alt [6, 7] (by kernel_rfl) (by decide) ⟨Has.r 2 rfl, Has.r 3 rfl, Has.r 4 rfl, Has.r 5 rfl, Has.r 6 rfl, Has.r 7 rfl, Has.r 8 rfl, Has.r 9 rfl, Has.r 10 rfl, trivial⟩ ⟨⟨_, rfl, ?_⟩, ⟨_, rfl, ?_⟩, trivial⟩
        · skip
          refine L.alloc rfl rfl rfl (fun A9 => ?_)
          refine L.nil (QE.m (by kernel_rfl) ?_)
          refine LM.f 7 rfl (by kernel_rfl) ⟨Has.r 2 rfl, Has.r 3 rfl, Has.r 4 rfl, Has.r 5 rfl, Has.r 6 rfl, Has.r 7 rfl, Has.r 8 rfl, Has.r 9 rfl, Has.r 10 rfl, trivial⟩ ?_
          refine L.alloc rfl rfl rfl (fun A10 => ?_)
          refine L.nil (QE.m (by kernel_rfl) ?_)
          refine LM.cut [] (by kernel_rfl) ⟨Has.r 2 rfl, Has.r 3 rfl, Has.r 4 rfl, Has.r 5 rfl, Has.r 6 rfl, Has.r 7 rfl, Has.r 8 rfl, Has.r 9 rfl, Has.r 10 rfl, trivial⟩ ?_
          refine LM.f 8 rfl (by kernel_rfl) trivial ?_
          refine L.storeA (j := 0) rfl rfl rfl rfl rfl (Nat.zero_lt_succ _) rfl rfl ?_
          refine L.nil (QE.m (by kernel_rfl) ?_)
          refine LM.f 9 rfl (by kernel_rfl) trivial ?_
          refine L.storeA (j := 1) rfl rfl rfl rfl rfl (Nat.zero_lt_succ _) rfl rfl ?_
          refine L.nil (QE.m (by kernel_rfl) ?_)
          refine LM.nil (by kernel_rfl) trivial ?_
          refine QE.joined ((x, OA, oc, y, PA, pc, A9, A10)) (by exact ⟨gx, gy, hx2 rfl, hy2 rfl, hys.trans hxs.symm, Nat.le_trans hxl hyla, Nat.le_trans hyl hylb⟩) (by exact Le.mk' (rs := [4, 5, 6, 7, 8, 1, 0]) (hs := [0, 1]) ⟨rfl, rfl, rfl, rfl, trivial⟩ ⟨rfl, rfl, rfl, rfl, rfl, rfl, rfl, trivial⟩ ⟨rfl, rfl, trivial⟩ (by decide))
        · skip
          refine L.alloc rfl rfl rfl (fun A10 => ?_)
          refine L.nil (QE.m (by kernel_rfl) ?_)
          refine LM.f 6 rfl (by kernel_rfl) ⟨Has.r 2 rfl, Has.r 3 rfl, Has.r 4 rfl, Has.r 5 rfl, Has.r 6 rfl, Has.r 7 rfl, Has.r 8 rfl, Has.r 9 rfl, Has.r 10 rfl, trivial⟩ ?_
          refine L.alloc rfl rfl rfl (fun A9 => ?_)
          refine L.nil (QE.m (by kernel_rfl) ?_)
          refine LM.cut [] (by kernel_rfl) ⟨Has.r 2 rfl, Has.r 3 rfl, Has.r 4 rfl, Has.r 5 rfl, Has.r 6 rfl, Has.r 7 rfl, Has.r 8 rfl, Has.r 9 rfl, Has.r 10 rfl, trivial⟩ ?_
          refine LM.f 8 rfl (by kernel_rfl) trivial ?_
          refine L.storeA (j := 1) rfl rfl rfl rfl rfl (Nat.zero_lt_succ _) rfl rfl ?_
          refine L.nil (QE.m (by kernel_rfl) ?_)
          refine LM.f 9 rfl (by kernel_rfl) trivial ?_
          refine L.storeA (j := 0) rfl rfl rfl rfl rfl (Nat.zero_lt_succ _) rfl rfl ?_
          refine L.nil (QE.m (by kernel_rfl) ?_)
          refine LM.nil (by kernel_rfl) trivial ?_
          refine QE.joined ((x, OA, oc, y, PA, pc, A9, A10)) (by exact ⟨gx, gy, hx2 rfl, hy2 rfl, hys.trans hxs.symm, Nat.le_trans hxl hyla, Nat.le_trans hyl hylb⟩) (by exact Le.mk' (rs := [4, 5, 6, 7, 8, 1, 0]) (hs := [1, 0]) ⟨rfl, rfl, rfl, rfl, trivial⟩ ⟨rfl, rfl, rfl, rfl, rfl, rfl, rfl, trivial⟩ ⟨rfl, rfl, trivial⟩ (by decide))
      · skip
        refine L.alloc rfl rfl rfl (fun A9 => ?_)
        refine L.nil (QE.m (by kernel_rfl) ?_)
        refine LM.alt [5, 7] (by kernel_rfl) (by decide) ⟨Has.r 1 rfl, Has.r 2 rfl, Has.r 3 rfl, Has.r 4 rfl, Has.r 5 rfl, Has.r 6 rfl, Has.r 7 rfl, Has.r 8 rfl, Has.r 9 rfl, trivial⟩ ⟨⟨_, rfl, ?_⟩, ⟨_, rfl, ?_⟩, trivial⟩
        · skip
          refine L.callR (js := []) (js' := [0]) (op_g f b ok hb false tornb sea at_b datab YAb MAb ycb _ mcb hylb hycb) rfl rfl rfl (by decide) ⟨(Has.r 4 rfl), (Has.r 5 rfl), (Has.r 6 rfl), (Has.r 7 rfl), (Has.r 9 rfl), trivial⟩ rfl ?_
          rintro _ _ _ ⟨y, PA, pc, ⟨gy, hyl, hy2, hys⟩, rfl, rfl, rfl⟩
          refine L.nil (QE.m (by kernel_rfl) ?_)
          refine LM.f 7 rfl (by kernel_rfl) ⟨Has.r 2 rfl, Has.r 3 rfl, Has.r 4 rfl, Has.r 5 rfl, Has.r 6 rfl, Has.r 7 rfl, Has.r 8 rfl, Has.r 9 rfl, Has.r 10 rfl, trivial⟩ ?_
          refine L.alloc rfl rfl rfl (fun A10 => ?_)
          refine L.nil (QE.m (by kernel_rfl) ?_)
          refine LM.cut [] (by kernel_rfl) ⟨Has.r 2 rfl, Has.r 3 rfl, Has.r 4 rfl, Has.r 5 rfl, Has.r 6 rfl, Has.r 7 rfl, Has.r 8 rfl, Has.r 9 rfl, Has.r 10 rfl, trivial⟩ ?_
          refine LM.f 8 rfl (by kernel_rfl) trivial ?_
          refine L.storeA (j := 0) rfl rfl rfl rfl rfl (Nat.zero_lt_succ _) rfl rfl ?_
          refine L.nil (QE.m (by kernel_rfl) ?_)
          refine LM.f 9 rfl (by kernel_rfl) trivial ?_
          refine L.storeA (j := 1) rfl rfl rfl rfl rfl (Nat.zero_lt_succ _) rfl rfl ?_
          refine L.nil (QE.m (by kernel_rfl) ?_)
          refine LM.nil (by kernel_rfl) trivial ?_
          refine QE.joined ((x, OA, oc, y, PA, pc, A9, A10)) (by exact ⟨gx, gy, hx2 rfl, hy2 rfl, hys.trans hxs.symm, Nat.le_trans hxl hyla, Nat.le_trans hyl hylb⟩) (by exact Le.mk' (rs := [4, 5, 6, 7, 8, 1, 0]) (hs := [0, 1]) ⟨rfl, rfl, rfl, rfl, trivial⟩ ⟨rfl, rfl, rfl, rfl, rfl, rfl, rfl, trivial⟩ ⟨rfl, rfl, trivial⟩ (by decide))
        · skip
          refine L.alloc rfl rfl rfl (fun A10 => ?_)
          refine L.nil (QE.m (by kernel_rfl) ?_)
          refine LM.f 5 rfl (by kernel_rfl) ⟨Has.r 1 rfl, Has.r 2 rfl, Has.r 3 rfl, Has.r 4 rfl, Has.r 5 rfl, Has.r 6 rfl, Has.r 7 rfl, Has.r 8 rfl, Has.r 9 rfl, trivial⟩ ?_
          refine L.callR (js := []) (js' := [0, 1]) (op_g f b ok hb false tornb sea at_b datab YAb MAb ycb _ mcb hylb hycb) rfl rfl rfl (by decide) ⟨(Has.r 4 rfl), (Has.r 5 rfl), (Has.r 6 rfl), (Has.r 7 rfl), (Has.r 9 rfl), trivial⟩ rfl ?_
          rintro _ _ _ ⟨y, PA, pc, ⟨gy, hyl, hy2, hys⟩, rfl, rfl, rfl⟩
          refine L.nil (QE.m (by kernel_rfl) ?_)
          refine LM.cut [] (by kernel_rfl) ⟨Has.r 2 rfl, Has.r 3 rfl, Has.r 4 rfl, Has.r 5 rfl, Has.r 6 rfl, Has.r 7 rfl, Has.r 8 rfl, Has.r 9 rfl, Has.r 10 rfl, trivial⟩ ?_
          refine LM.f 8 rfl (by kernel_rfl) trivial ?_
          refine L.storeA (j := 0) rfl rfl rfl rfl rfl (Nat.zero_lt_succ _) rfl rfl ?_
          refine L.nil (QE.m (by kernel_rfl) ?_)
          refine LM.f 9 rfl (by kernel_rfl) trivial ?_
          refine L.storeA (j := 1) rfl rfl rfl rfl rfl (Nat.zero_lt_succ _) rfl rfl ?_
          refine L.nil (QE.m (by kernel_rfl) ?_)
          refine LM.nil (by kernel_rfl) trivial ?_
          refine QE.joined ((x, OA, oc, y, PA, pc, A9, A10)) (by exact ⟨gx, gy, hx2 rfl, hy2 rfl, hys.trans hxs.symm, Nat.le_trans hxl hyla, Nat.le_trans hyl hylb⟩) (by exact Le.mk' (rs := [4, 5, 6, 7, 8, 1, 0]) (hs := [0, 1]) ⟨rfl, rfl, rfl, rfl, trivial⟩ ⟨rfl, rfl, rfl, rfl, rfl, rfl, rfl, trivial⟩ ⟨rfl, rfl, trivial⟩ (by decide))
      · skip
        refine L.alloc rfl rfl rfl (fun A10 => ?_)
        refine L.nil (QE.m (by kernel_rfl) ?_)
        refine LM.alt [5, 6] (by kernel_rfl) (by decide) ⟨Has.r 1 rfl, Has.r 2 rfl, Has.r 3 rfl, Has.r 4 rfl, Has.r 5 rfl, Has.r 6 rfl, Has.r 7 rfl, Has.r 8 rfl, Has.r 9 rfl, trivial⟩ ⟨⟨_, rfl, ?_⟩, ⟨_, rfl, ?_⟩, trivial⟩
        · skip
          refine L.callR (js := []) (js' := [0]) (op_g f b ok hb false tornb sea at_b datab YAb MAb ycb _ mcb hylb hycb) rfl rfl rfl (by decide) ⟨(Has.r 4 rfl), (Has.r 5 rfl), (Has.r 6 rfl), (Has.r 7 rfl), (Has.r 9 rfl), trivial⟩ rfl ?_
          rintro _ _ _ ⟨y, PA, pc, ⟨gy, hyl, hy2, hys⟩, rfl, rfl, rfl⟩
          refine L.nil (QE.m (by kernel_rfl) ?_)
          refine LM.f 6 rfl (by kernel_rfl) ⟨Has.r 2 rfl, Has.r 3 rfl, Has.r 4 rfl, Has.r 5 rfl, Has.r 6 rfl, Has.r 7 rfl, Has.r 8 rfl, Has.r 9 rfl, Has.r 10 rfl, trivial⟩ ?_
          refine L.alloc rfl rfl rfl (fun A9 => ?_)
          refine L.nil (QE.m (by kernel_rfl) ?_)
          refine LM.cut [] (by kernel_rfl) ⟨Has.r 2 rfl, Has.r 3 rfl, Has.r 4 rfl, Has.r 5 rfl, Has.r 6 rfl, Has.r 7 rfl, Has.r 8 rfl, Has.r 9 rfl, Has.r 10 rfl, trivial⟩ ?_
          refine LM.f 8 rfl (by kernel_rfl) trivial ?_
          refine L.storeA (j := 1) rfl rfl rfl rfl rfl (Nat.zero_lt_succ _) rfl rfl ?_
          refine L.nil (QE.m (by kernel_rfl) ?_)
          refine LM.f 9 rfl (by kernel_rfl) trivial ?_
          refine L.storeA (j := 0) rfl rfl rfl rfl rfl (Nat.zero_lt_succ _) rfl rfl ?_
          refine L.nil (QE.m (by kernel_rfl) ?_)
          refine LM.nil (by kernel_rfl) trivial ?_
          refine QE.joined ((x, OA, oc, y, PA, pc, A9, A10)) (by exact ⟨gx, gy, hx2 rfl, hy2 rfl, hys.trans hxs.symm, Nat.le_trans hxl hyla, Nat.le_trans hyl hylb⟩) (by exact Le.mk' (rs := [4, 5, 6, 7, 8, 1, 0]) (hs := [1, 0]) ⟨rfl, rfl, rfl, rfl, trivial⟩ ⟨rfl, rfl, rfl, rfl, rfl, rfl, rfl, trivial⟩ ⟨rfl, rfl, trivial⟩ (by decide))
        · skip
          refine L.alloc rfl rfl rfl (fun A9 => ?_)
          refine L.nil (QE.m (by kernel_rfl) ?_)
          refine LM.f 5 rfl (by kernel_rfl) ⟨Has.r 1 rfl, Has.r 2 rfl, Has.r 3 rfl, Has.r 4 rfl, Has.r 5 rfl, Has.r 6 rfl, Has.r 7 rfl, Has.r 8 rfl, Has.r 9 rfl, trivial⟩ ?_
          refine L.callR (js := []) (js' := [0, 1]) (op_g f b ok hb false tornb sea at_b datab YAb MAb ycb _ mcb hylb hycb) rfl rfl rfl (by decide) ⟨(Has.r 4 rfl), (Has.r 5 rfl), (Has.r 6 rfl), (Has.r 7 rfl), (Has.r 9 rfl), trivial⟩ rfl ?_
          rintro _ _ _ ⟨y, PA, pc, ⟨gy, hyl, hy2, hys⟩, rfl, rfl, rfl⟩
          refine L.nil (QE.m (by kernel_rfl) ?_)
          refine LM.cut [] (by kernel_rfl) ⟨Has.r 2 rfl, Has.r 3 rfl, Has.r 4 rfl, Has.r 5 rfl, Has.r 6 rfl, Has.r 7 rfl, Has.r 8 rfl, Has.r 9 rfl, Has.r 10 rfl, trivial⟩ ?_
          refine LM.f 8 rfl (by kernel_rfl) trivial ?_
          refine L.storeA (j := 1) rfl rfl rfl rfl rfl (Nat.zero_lt_succ _) rfl rfl ?_
          refine L.nil (QE.m (by kernel_rfl) ?_)
          refine LM.f 9 rfl (by kernel_rfl) trivial ?_
          refine L.storeA (j := 0) rfl rfl rfl rfl rfl (Nat.zero_lt_succ _) rfl rfl ?_
          refine L.nil (QE.m (by kernel_rfl) ?_)
          refine LM.nil (by kernel_rfl) trivial ?_
          refine QE.joined ((x, OA, oc, y, PA, pc, A9, A10)) (by exact ⟨gx, gy, hx2 rfl, hy2 rfl, hys.trans hxs.symm, Nat.le_trans hxl hyla, Nat.le_trans hyl hylb⟩) (by exact Le.mk' (rs := [4, 5, 6, 7, 8, 1, 0]) (hs := [1, 0]) ⟨rfl, rfl, rfl, rfl, trivial⟩ ⟨rfl, rfl, rfl, rfl, rfl, rfl, rfl, trivial⟩ ⟨rfl, rfl, trivial⟩ (by decide))
    · skip
      refine L.alloc rfl rfl rfl (fun A9 => ?_)
      refine L.nil (QE.m (by kernel_rfl) ?_)
      refine LM.alt [2, 7] (by kernel_rfl) (by decide) ⟨Has.r 0 rfl, Has.r 1 rfl, Has.r 2 rfl, Has.r 3 rfl, Has.r 4 rfl, Has.r 5 rfl, Has.r 6 rfl, Has.r 7 rfl, Has.r 8 rfl, trivial⟩ ⟨⟨_, rfl, ?_⟩, ⟨_, rfl, ?_⟩, trivial⟩
      · skip
        refine L.callR (js := []) (js' := [0]) (op_g f b ok hb false torna sea at_a dataa YAa MAa yca _ mca hyla hyca) rfl rfl rfl (by decide) ⟨(Has.r 3 rfl), (Has.r 4 rfl), (Has.r 5 rfl), (Has.r 6 rfl), (Has.r 7 rfl), trivial⟩ rfl ?_
        rintro _ _ _ ⟨x, OA, oc, ⟨gx, hxl, hx2, hxs⟩, rfl, rfl, rfl⟩
        refine L.nil (QE.m (by kernel_rfl) ?_)
        refine LM.alt [5, 7] (by kernel_rfl) (by decide) ⟨Has.r 1 rfl, Has.r 2 rfl, Has.r 3 rfl, Has.r 4 rfl, Has.r 5 rfl, Has.r 6 rfl, Has.r 7 rfl, Has.r 8 rfl, Has.r 9 rfl, trivial⟩ ⟨⟨_, rfl, ?_⟩, ⟨_, rfl, ?_⟩, trivial⟩
        · skip
          refine L.callR (js := []) (js' := [0]) (op_g f b ok hb false tornb sea at_b datab YAb MAb ycb _ mcb hylb hycb) rfl rfl rfl (by decide) ⟨(Has.r 4 rfl), (Has.r 5 rfl), (Has.r 6 rfl), (Has.r 7 rfl), (Has.r 9 rfl), trivial⟩ rfl ?_
          rintro _ _ _ ⟨y, PA, pc, ⟨gy, hyl, hy2, hys⟩, rfl, rfl, rfl⟩
          refine L.nil (QE.m (by kernel_rfl) ?_)
          refine LM.f 7 rfl (by kernel_rfl) ⟨Has.r 2 rfl, Has.r 3 rfl, Has.r 4 rfl, Has.r 5 rfl, Has.r 6 rfl, Has.r 7 rfl, Has.r 8 rfl, Has.r 9 rfl, Has.r 10 rfl, trivial⟩ ?_
          refine L.alloc rfl rfl rfl (fun A10 => ?_)
          refine L.nil (QE.m (by kernel_rfl) ?_)
          refine LM.cut [] (by kernel_rfl) ⟨Has.r 2 rfl, Has.r 3 rfl, Has.r 4 rfl, Has.r 5 rfl, Has.r 6 rfl, Has.r 7 rfl, Has.r 8 rfl, Has.r 9 rfl, Has.r 10 rfl, trivial⟩ ?_
          refine LM.f 8 rfl (by kernel_rfl) trivial ?_
          refine L.storeA (j := 0) rfl rfl rfl rfl rfl (Nat.zero_lt_succ _) rfl rfl ?_
          refine L.nil (QE.m (by kernel_rfl) ?_)
          refine LM.f 9 rfl (by kernel_rfl) trivial ?_
          refine L.storeA (j := 1) rfl rfl rfl rfl rfl (Nat.zero_lt_succ _) rfl rfl ?_
          refine L.nil (QE.m (by kernel_rfl) ?_)
          refine LM.nil (by kernel_rfl) trivial ?_
          refine QE.joined ((x, OA, oc, y, PA, pc, A9, A10)) (by exact ⟨gx, gy, hx2 rfl, hy2 rfl, hys.trans hxs.symm, Nat.le_trans hxl hyla, Nat.le_trans hyl hylb⟩) (by exact Le.mk' (rs := [4, 5, 6, 7, 8, 1, 0]) (hs := [0, 1]) ⟨rfl, rfl, rfl, rfl, trivial⟩ ⟨rfl, rfl, rfl, rfl, rfl, rfl, rfl, trivial⟩ ⟨rfl, rfl, trivial⟩ (by decide))
        · skip
          refine L.alloc rfl rfl rfl (fun A10 => ?_)
          refine L.nil (QE.m (by kernel_rfl) ?_)
          refine LM.f 5 rfl (by kernel_rfl) ⟨Has.r 1 rfl, Has.r 2 rfl, Has.r 3 rfl, Has.r 4 rfl, Has.r 5 rfl, Has.r 6 rfl, Has.r 7 rfl, Has.r 8 rfl, Has.r 9 rfl, trivial⟩ ?_
          refine L.callR (js := []) (js' := [0, 1]) (op_g f b ok hb false tornb sea at_b datab YAb MAb ycb _ mcb hylb hycb) rfl rfl rfl (by decide) ⟨(Has.r 4 rfl), (Has.r 5 rfl), (Has.r 6 rfl), (Has.r 7 rfl), (Has.r 9 rfl), trivial⟩ rfl ?_
          rintro _ _ _ ⟨y, PA, pc, ⟨gy, hyl, hy2, hys⟩, rfl, rfl, rfl⟩
          refine L.nil (QE.m (by kernel_rfl) ?_)
          refine LM.cut [] (by kernel_rfl) ⟨Has.r 2 rfl, Has.r 3 rfl, Has.r 4 rfl, Has.r 5 rfl, Has.r 6 rfl, Has.r 7 rfl, Has.r 8 rfl, Has.r 9 rfl, Has.r 10 rfl, trivial⟩ ?_
          refine LM.f 8 rfl (by kernel_rfl) trivial ?_
          refine L.storeA (j := 0) rfl rfl rfl rfl rfl (Nat.zero_lt_succ _) rfl rfl ?_
          refine L.nil (QE.m (by kernel_rfl) ?_)
          refine LM.f 9 rfl (by kernel_rfl) trivial ?_
          refine L.storeA (j := 1) rfl rfl rfl rfl rfl (Nat.zero_lt_succ _) rfl rfl ?_
          refine L.nil (QE.m (by kernel_rfl) ?_)
          refine LM.nil (by kernel_rfl) trivial ?_
          refine QE.joined ((x, OA, oc, y, PA, pc, A9, A10)) (by exact ⟨gx, gy, hx2 rfl, hy2 rfl, hys.trans hxs.symm, Nat.le_trans hxl hyla, Nat.le_trans hyl hylb⟩) (by exact Le.mk' (rs := [4, 5, 6, 7, 8, 1, 0]) (hs := [0, 1]) ⟨rfl, rfl, rfl, rfl, trivial⟩ ⟨rfl, rfl, rfl, rfl, rfl, rfl, rfl, trivial⟩ ⟨rfl, rfl, trivial⟩ (by decide))
      · skip
        refine L.alloc rfl rfl rfl (fun A10 => ?_)
        refine L.nil (QE.m (by kernel_rfl) ?_)
        refine LM.f 2 rfl (by kernel_rfl) ⟨Has.r 0 rfl, Has.r 1 rfl, Has.r 2 rfl, Has.r 3 rfl, Has.r 4 rfl, Has.r 5 rfl, Has.r 6 rfl, Has.r 7 rfl, Has.r 8 rfl, trivial⟩ ?_
        refine L.callR (js := []) (js' := [0, 1]) (op_g f b ok hb false torna sea at_a dataa YAa MAa yca _ mca hyla hyca) rfl rfl rfl (by decide) ⟨(Has.r 3 rfl), (Has.r 4 rfl), (Has.r 5 rfl), (Has.r 6 rfl), (Has.r 7 rfl), trivial⟩ rfl ?_
        rintro _ _ _ ⟨x, OA, oc, ⟨gx, hxl, hx2, hxs⟩, rfl, rfl, rfl⟩
        refine L.nil (QE.m (by kernel_rfl) ?_)
        refine LM.f 5 rfl (by kernel_rfl) ⟨Has.r 1 rfl, Has.r 2 rfl, Has.r 3 rfl, Has.r 4 rfl, Has.r 5 rfl, Has.r 6 rfl, Has.r 7 rfl, Has.r 8 rfl, Has.r 9 rfl, trivial⟩ ?_
        refine L.callR (js := []) (js' := [0, 1]) (op_g f b ok hb false tornb sea at_b datab YAb MAb ycb _ mcb hylb hycb) rfl rfl rfl (by decide) ⟨(Has.r 4 rfl), (Has.r 5 rfl), (Has.r 6 rfl), (Has.r 7 rfl), (Has.r 9 rfl), trivial⟩ rfl ?_
        rintro _ _ _ ⟨y, PA, pc, ⟨gy, hyl, hy2, hys⟩, rfl, rfl, rfl⟩
        refine L.nil (QE.m (by kernel_rfl) ?_)
        refine LM.cut [] (by kernel_rfl) ⟨Has.r 2 rfl, Has.r 3 rfl, Has.r 4 rfl, Has.r 5 rfl, Has.r 6 rfl, Has.r 7 rfl, Has.r 8 rfl, Has.r 9 rfl, Has.r 10 rfl, trivial⟩ ?_
        refine LM.f 8 rfl (by kernel_rfl) trivial ?_
        refine L.storeA (j := 0) rfl rfl rfl rfl rfl (Nat.zero_lt_succ _) rfl rfl ?_
        refine L.nil (QE.m (by kernel_rfl) ?_)
        refine LM.f 9 rfl (by kernel_rfl) trivial ?_
        refine L.storeA (j := 1) rfl rfl rfl rfl rfl (Nat.zero_lt_succ _) rfl rfl ?_
        refine L.nil (QE.m (by kernel_rfl) ?_)
        refine LM.nil (by kernel_rfl) trivial ?_
        refine QE.joined ((x, OA, oc, y, PA, pc, A9, A10)) (by exact ⟨gx, gy, hx2 rfl, hy2 rfl, hys.trans hxs.symm, Nat.le_trans hxl hyla, Nat.le_trans hyl hylb⟩) (by exact Le.mk' (rs := [4, 5, 6, 7, 8, 1, 0]) (hs := [0, 1]) ⟨rfl, rfl, rfl, rfl, trivial⟩ ⟨rfl, rfl, rfl, rfl, rfl, rfl, rfl, trivial⟩ ⟨rfl, rfl, trivial⟩ (by decide))
    · skip
      refine L.alloc rfl rfl rfl (fun A10 => ?_)
      refine L.nil (QE.m (by kernel_rfl) ?_)
      refine LM.alt [2, 6] (by kernel_rfl) (by decide) ⟨Has.r 0 rfl, Has.r 1 rfl, Has.r 2 rfl, Has.r 3 rfl, Has.r 4 rfl, Has.r 5 rfl, Has.r 6 rfl, Has.r 7 rfl, Has.r 8 rfl, trivial⟩ ⟨⟨_, rfl, ?_⟩, ⟨_, rfl, ?_⟩, trivial⟩
      · skip
        refine L.callR (js := []) (js' := [0]) (op_g f b ok hb false torna sea at_a dataa YAa MAa yca _ mca hyla hyca) rfl rfl rfl (by decide) ⟨(Has.r 3 rfl), (Has.r 4 rfl), (Has.r 5 rfl), (Has.r 6 rfl), (Has.r 7 rfl), trivial⟩ rfl ?_
        rintro _ _ _ ⟨x, OA, oc, ⟨gx, hxl, hx2, hxs⟩, rfl, rfl, rfl⟩
        refine L.nil (QE.m (by kernel_rfl) ?_)
        refine LM.alt [5, 6] (by kernel_rfl) (by decide) ⟨Has.r 1 rfl, Has.r 2 rfl, Has.r 3 rfl, Has.r 4 rfl, Has.r 5 rfl, Has.r 6 rfl, Has.r 7 rfl, Has.r 8 rfl, Has.r 9 rfl, trivial⟩ ⟨⟨_, rfl, ?_⟩, ⟨_, rfl, ?_⟩, trivial⟩
        · skip
          refine L.callR (js := []) (js' := [0]) (op_g f b ok hb false tornb sea at_b datab YAb MAb ycb _ mcb hylb hycb) rfl rfl rfl (by decide) ⟨(Has.r 4 rfl), (Has.r 5 rfl), (Has.r 6 rfl), (Has.r 7 rfl), (Has.r 9 rfl), trivial⟩ rfl ?_
          rintro _ _ _ ⟨y, PA, pc, ⟨gy, hyl, hy2, hys⟩, rfl, rfl, rfl⟩
          refine L.nil (QE.m (by kernel_rfl) ?_)
          refine LM.f 6 rfl (by kernel_rfl) ⟨Has.r 2 rfl, Has.r 3 rfl, Has.r 4 rfl, Has.r 5 rfl, Has.r 6 rfl, Has.r 7 rfl, Has.r 8 rfl, Has.r 9 rfl, Has.r 10 rfl, trivial⟩ ?_
          refine L.alloc rfl rfl rfl (fun A9 => ?_)
          refine L.nil (QE.m (by kernel_rfl) ?_)
          refine LM.cut [] (by kernel_rfl) ⟨Has.r 2 rfl, Has.r 3 rfl, Has.r 4 rfl, Has.r 5 rfl, Has.r 6 rfl, Has.r 7 rfl, Has.r 8 rfl, Has.r 9 rfl, Has.r 10 rfl, trivial⟩ ?_
          refine LM.f 8 rfl (by kernel_rfl) trivial ?_
          refine L.storeA (j := 1) rfl rfl rfl rfl rfl (Nat.zero_lt_succ _) rfl rfl ?_
          refine L.nil (QE.m (by kernel_rfl) ?_)
          refine LM.f 9 rfl (by kernel_rfl) trivial ?_
          refine L.storeA (j := 0) rfl rfl rfl rfl rfl (Nat.zero_lt_succ _) rfl rfl ?_
          refine L.nil (QE.m (by kernel_rfl) ?_)
          refine LM.nil (by kernel_rfl) trivial ?_
          refine QE.joined ((x, OA, oc, y, PA, pc, A9, A10)) (by exact ⟨gx, gy, hx2 rfl, hy2 rfl, hys.trans hxs.symm, Nat.le_trans hxl hyla, Nat.le_trans hyl hylb⟩) (by exact Le.mk' (rs := [4, 5, 6, 7, 8, 1, 0]) (hs := [1, 0]) ⟨rfl, rfl, rfl, rfl, trivial⟩ ⟨rfl, rfl, rfl, rfl, rfl, rfl, rfl, trivial⟩ ⟨rfl, rfl, trivial⟩ (by decide))
        · skip
          refine L.alloc rfl rfl rfl (fun A9 => ?_)
          refine L.nil (QE.m (by kernel_rfl) ?_)
          refine LM.f 5 rfl (by kernel_rfl) ⟨Has.r 1 rfl, Has.r 2 rfl, Has.r 3 rfl, Has.r 4 rfl, Has.r 5 rfl, Has.r 6 rfl, Has.r 7 rfl, Has.r 8 rfl, Has.r 9 rfl, trivial⟩ ?_
          refine L.callR (js := []) (js' := [0, 1]) (op_g f b ok hb false tornb sea at_b datab YAb MAb ycb _ mcb hylb hycb) rfl rfl rfl (by decide) ⟨(Has.r 4 rfl), (Has.r 5 rfl), (Has.r 6 rfl), (Has.r 7 rfl), (Has.r 9 rfl), trivial⟩ rfl ?_
          rintro _ _ _ ⟨y, PA, pc, ⟨gy, hyl, hy2, hys⟩, rfl, rfl, rfl⟩
          refine L.nil (QE.m (by kernel_rfl) ?_)
          refine LM.cut [] (by kernel_rfl) ⟨Has.r 2 rfl, Has.r 3 rfl, Has.r 4 rfl, Has.r 5 rfl, Has.r 6 rfl, Has.r 7 rfl, Has.r 8 rfl, Has.r 9 rfl, Has.r 10 rfl, trivial⟩ ?_
          refine LM.f 8 rfl (by kernel_rfl) trivial ?_
          refine L.storeA (j := 1) rfl rfl rfl rfl rfl (Nat.zero_lt_succ _) rfl rfl ?_
          refine L.nil (QE.m (by kernel_rfl) ?_)
          refine LM.f 9 rfl (by kernel_rfl) trivial ?_
          refine L.storeA (j := 0) rfl rfl rfl rfl rfl (Nat.zero_lt_succ _) rfl rfl ?_
          refine L.nil (QE.m (by kernel_rfl) ?_)
          refine LM.nil (by kernel_rfl) trivial ?_
          refine QE.joined ((x, OA, oc, y, PA, pc, A9, A10)) (by exact ⟨gx, gy, hx2 rfl, hy2 rfl, hys.trans hxs.symm, Nat.le_trans hxl hyla, Nat.le_trans hyl hylb⟩) (by exact Le.mk' (rs := [4, 5, 6, 7, 8, 1, 0]) (hs := [1, 0]) ⟨rfl, rfl, rfl, rfl, trivial⟩ ⟨rfl, rfl, rfl, rfl, rfl, rfl, rfl, trivial⟩ ⟨rfl, rfl, trivial⟩ (by decide))
      · skip
        refine L.alloc rfl rfl rfl (fun A9 => ?_)
        refine L.nil (QE.m (by kernel_rfl) ?_)
        refine LM.f 2 rfl (by kernel_rfl) ⟨Has.r 0 rfl, Has.r 1 rfl, Has.r 2 rfl, Has.r 3 rfl, Has.r 4 rfl, Has.r 5 rfl, Has.r 6 rfl, Has.r 7 rfl, Has.r 8 rfl, trivial⟩ ?_
        refine L.callR (js := []) (js' := [0, 1]) (op_g f b ok hb false torna sea at_a dataa YAa MAa yca _ mca hyla hyca) rfl rfl rfl (by decide) ⟨(Has.r 3 rfl), (Has.r 4 rfl), (Has.r 5 rfl), (Has.r 6 rfl), (Has.r 7 rfl), trivial⟩ rfl ?_
        rintro _ _ _ ⟨x, OA, oc, ⟨gx, hxl, hx2, hxs⟩, rfl, rfl, rfl⟩
        refine L.nil (QE.m (by kernel_rfl) ?_)
        refine LM.f 5 rfl (by kernel_rfl) ⟨Has.r 1 rfl, Has.r 2 rfl, Has.r 3 rfl, Has.r 4 rfl, Has.r 5 rfl, Has.r 6 rfl, Has.r 7 rfl, Has.r 8 rfl, Has.r 9 rfl, trivial⟩ ?_
        refine L.callR (js := []) (js' := [0, 1]) (op_g f b ok hb false tornb sea at_b datab YAb MAb ycb _ mcb hylb hycb) rfl rfl rfl (by decide) ⟨(Has.r 4 rfl), (Has.r 5 rfl), (Has.r 6 rfl), (Has.r 7 rfl), (Has.r 9 rfl), trivial⟩ rfl ?_
        rintro _ _ _ ⟨y, PA, pc, ⟨gy, hyl, hy2, hys⟩, rfl, rfl, rfl⟩
        refine L.nil (QE.m (by kernel_rfl) ?_)
        refine LM.cut [] (by kernel_rfl) ⟨Has.r 2 rfl, Has.r 3 rfl, Has.r 4 rfl, Has.r 5 rfl, Has.r 6 rfl, Has.r 7 rfl, Has.r 8 rfl, Has.r 9 rfl, Has.r 10 rfl, trivial⟩ ?_
        refine LM.f 8 rfl (by kernel_rfl) trivial ?_
        refine L.storeA (j := 1) rfl rfl rfl rfl rfl (Nat.zero_lt_succ _) rfl rfl ?_
        refine L.nil (QE.m (by kernel_rfl) ?_)
        refine LM.f 9 rfl (by kernel_rfl) trivial ?_
        refine L.storeA (j := 0) rfl rfl rfl rfl rfl (Nat.zero_lt_succ _) rfl rfl ?_
        refine L.nil (QE.m (by kernel_rfl) ?_)
        refine LM.nil (by kernel_rfl) trivial ?_
        refine QE.joined ((x, OA, oc, y, PA, pc, A9, A10)) (by exact ⟨gx, gy, hx2 rfl, hy2 rfl, hys.trans hxs.symm, Nat.le_trans hxl hyla, Nat.le_trans hyl hylb⟩) (by exact Le.mk' (rs := [4, 5, 6, 7, 8, 1, 0]) (hs := [1, 0]) ⟨rfl, rfl, rfl, rfl, trivial⟩ ⟨rfl, rfl, rfl, rfl, rfl, rfl, rfl, trivial⟩ ⟨rfl, rfl, trivial⟩ (by decide))
  · skip
    rintro ⟨x, OA, oc, y, PA, pc, A9, A10⟩ ⟨gx, gy, hx2, hy2, hys, hxl, hyl⟩
    dsimp only at gx gy hx2 hy2 hys hxl hyl ⊢
    refine QE.seq ?_
    refine C.seq ?_
    refine C.freeze 0 rfl [1] (by decide) (by decide) ?_
    refine C.freeze 0 rfl [] (by decide) (by decide) ?_
    have gxs := gx.s
    have hsq : x.sec = ((x.sec.toNat : Nat) : Int) := (Int.toNat_of_nonneg gxs.1).symm
    have hrow := ok.rows x.sec.toNat gx.lt
    have hokw := ok.wl
    have hoke := ok.dl
    have ht := gx.lt
    have hv := gx.lt
    rw [← hokw] at hv
    have hu := gx.lt
    rw [← hoke] at hu
    have hL := len_big hrow hsz
    try clear hxs
    refine C.region ?_
    refine L.step (Ev.loadA rfl rfl rfl (Src.r 2 rfl) rfl rfl (by decide)) rfl ?_
    refine L.step (Ev.loadA rfl rfl rfl (Src.r 1 rfl) rfl rfl (by decide)) rfl ?_
    refine L.callR (js := []) (js' := []) (do_c f b ok hb x OA oc (by omega)) rfl rfl rfl (by decide) ⟨(Has.r 3 rfl), (Has.r 4 rfl), (Has.r 5 rfl), (Has.r 6 rfl), (Has.r 7 rfl), trivial⟩ rfl ?_
    rintro _ _ _ ⟨b1, hb1, rfl, rfl, rfl⟩
    refine L.step (Ev.pure rfl) rfl ?_
    refine L.step (Ev.pure rfl) rfl ?_
    refine L.step (Ev.pure rfl) rfl ?_
    refine L.alloc rfl rfl rfl (fun A11 => ?_)
    refine L.storeA (j := 0) rfl rfl rfl rfl rfl (Nat.zero_lt_succ _) rfl rfl ?_
    refine L.step (Ev.pure rfl) rfl ?_
    refine L.nil ?_
    refine QE.seq ?_
    refine C.seq ?_
    refine C.seq ?_
    refine C.le (Γ' := [(7, .bool true), (8, ptrOf A8 0), (9, ptrOf A9 0), (10, ptrOf A10 0), (11, ptrOf A11 0), (12, .int .i64 (checkE f x))]) (R' := [Rd A8 [.int .i64 (f.size : Int), .slice b.D f.data.length b.cD, .slice b.W f.wear.length b.cW, .int .i64 f.limit, .slice b.E f.dead.length b.cE], Rd b.D (rowsV b.hs (B8 f.data)), KidsR b.hs (B8 f.data), Rd b.W (I64 f.wear), Rd b.E (Bs f.dead), Rd OA (U8 x.data), Rd PA (U8 y.data), Rd A9 [.int .i64 x.kind, .int .i64 x.sec, .int .i64 x.at_, .slice OA x.data.length oc], Rd A10 [.int .i64 y.kind, .int .i64 y.sec, .int .i64 y.at_, .slice PA y.data.length pc], Rd b1.D (rowsV b1.hs (B8 (cutR f x (fun _ => 255)).data)), KidsR b1.hs (B8 (cutR f x (fun _ => 255)).data), Rd b1.W (I64 (cutR f x (fun _ => 255)).wear), Rd b1.E (Bs (cutR f x (fun _ => 255)).dead)]) (H' := [Own 32 5 A11 1 1 [.int .i64 ((cutR f x (fun _ => 255)).size : Int), .slice b1.D (cutR f x (fun _ => 255)).data.length b1.cD, .slice b1.W (cutR f x (fun _ => 255)).wear.length b1.cW, .int .i64 (cutR f x (fun _ => 255)).limit, .slice b1.E (cutR f x (fun _ => 255)).dead.length b1.cE]]) (by exact Le.mk' (rs := [6, 7, 8, 9, 10, 11, 12, 5, 4, 0, 1, 2, 3]) (hs := [0]) ⟨rfl, rfl, rfl, rfl, rfl, rfl, trivial⟩ ⟨rfl, rfl, rfl, rfl, rfl, rfl, rfl, rfl, rfl, rfl, rfl, rfl, rfl, trivial⟩ ⟨rfl, trivial⟩ (by decide)) ?_
    refine C.freeze 0 rfl [] (by decide) (by decide) ?_
    refine C.region ?_
    refine L.step (Ev.pure rfl) rfl ?_
    refine L.step (Ev.pure rfl) rfl ?_
    refine L.nil ?_
    refine QE.seq ?_
    refine C.condB 43 rfl (fun hc43 => ?_) (fun hc43 => ?_)
    · skip
      replace hc43 := b_ne hc43
      obtain ⟨he171, hdead⟩ : checkE f x = 171 ∧ f.dead.getD x.sec.toNat false = true := by
        rcases gx.err with h | h | ⟨_, h, _⟩
        · exact (hc43 h).elim
        · exact h
        · omega
      refine C.seq ?_
      refine C.region ?_
      refine L.step (Ev.pure rfl) rfl ?_
      refine L.step (Ev.pure rfl) rfl ?_
      refine L.step (Ev.pure rfl) rfl ?_
      refine L.bool 46 rfl (fun hg46 => ?_) (fun hg46 => ?_)
      · skip
        replace hg46 := i_eq hg46
        refine L.yes rfl ?_
        refine L.step (Ev.fieldAddr rfl rfl rfl rfl rfl rfl (Src.r 1 rfl) (Nat.zero_lt_succ _) rfl) rfl ?_
        refine L.yes rfl ?_
        refine L.step (Ev.load rfl rfl rfl (Src.r 1 rfl) rfl) rfl ?_
        refine L.yes rfl ?_
        refine L.step (Ev.fieldAddr rfl rfl rfl rfl rfl rfl (Src.r 8 rfl) (Nat.zero_lt_succ _) rfl) rfl ?_
        refine L.yes rfl ?_
        refine L.step (Ev.load rfl rfl rfl (Src.r 8 rfl) rfl) rfl ?_
        refine L.yes rfl ?_
        refine L.step (Ev.idx1 (k := x.sec.toNat) rfl rfl rfl rfl rfl rfl hsq hu (Src.r 5 rfl) (Bs_pos hu)) rfl ?_
        refine L.yes rfl ?_
        refine L.step (Ev.load rfl rfl rfl (Src.r 5 rfl) (Bs_get hu)) rfl ?_
        refine L.step (Ev.pure rfl) rfl ?_
        refine L.step (Ev.pure rfl) rfl ?_
        refine L.bool 54 rfl (fun hg54 => ?_) (fun hg54 => ?_)
        · skip
          refine L.yes rfl ?_
          refine L.step (Ev.pure rfl) rfl ?_
          refine L.step (Ev.pure rfl) rfl ?_
          refine L.step (Ev.pure rfl) rfl ?_
          refine L.nil ?_
          refine QE.seq ?_
          refine C.ret ?_
          refine QE.tR ?_
          refine QE.ret (js := []) (hs := []) (vs := [_]) rfl ⟨rfl, trivial⟩ (by decide) ?_
          exact ⟨rfl, rfl, rfl⟩
        · skip
          rw [hdead] at hg54; cases hg54
      · skip
        replace hg46 := i_ne hg46
        exact (hg46 he171).elim
    · skip
      replace hc43 := b_eq hc43
      have hE := hc43
      have hy0 := check_prog0 hE gy hy2 hys
      obtain ⟨ok1, hn1, hs1, hl1, hw1, he1, hd1, hr1⟩ := cutR_kept (x := x) ok hE (fun _ => 255)
      replace hr1 := hr1 x.sec.toNat gx.lt
      have ht1 := gx.lt
      rw [← hn1] at ht1
      have hv1 := gx.lt
      rw [← hw1] at hv1
      have hL1 := len_big hr1 hsz
      have ok3 := (cutR_kept (x := y) ok hy0 (fun _ => 255)).ok
      refine C.skip ?_
      refine QE.seq ?_
      refine C.seq ?_
      refine C.region ?_
      refine L.step (Ev.loadA rfl rfl rfl (Src.r 0 rfl) rfl rfl (by decide)) rfl ?_
      refine L.step (Ev.loadA rfl rfl rfl (Src.r 8 rfl) rfl rfl (by decide)) rfl ?_
      refine L.callR (js := []) (js' := []) (do_c (cutR f x (fun _ => 255)) b1 ok1 hb1 x OA oc (by omega)) rfl rfl rfl (by decide) ⟨(Has.r 10 rfl), (Has.r 11 rfl), (Has.r 12 rfl), (Has.r 13 rfl), (Has.r 6 rfl), trivial⟩ rfl ?_
      rintro _ _ _ ⟨b2, hb2, rfl, rfl, rfl⟩
      refine L.step (Ev.pure rfl) rfl ?_
      refine L.step (Ev.pure rfl) rfl ?_
      refine L.step (Ev.pure rfl) rfl ?_
      refine L.alloc rfl rfl rfl (fun A13 => ?_)
      refine L.storeA (j := 0) rfl rfl rfl rfl rfl (Nat.zero_lt_succ _) rfl rfl ?_
      refine L.step (Ev.pure rfl) rfl ?_
      refine L.nil ?_
      refine QE.seq ?_
      refine C.seq ?_
      refine C.le (Γ' := [(7, .bool true), (8, ptrOf A8 0), (9, ptrOf A9 0), (10, ptrOf A10 0), (11, ptrOf A11 0), (12, .int .i64 (checkE f x)), (13, ptrOf A13 0), (14, .int .i64 (checkE (cutR f x (fun _ => 255)) x))]) (R' := [Rd A8 [.int .i64 (f.size : Int), .slice b.D f.data.length b.cD, .slice b.W f.wear.length b.cW, .int .i64 f.limit, .slice b.E f.dead.length b.cE], Rd b.D (rowsV b.hs (B8 f.data)), KidsR b.hs (B8 f.data), Rd b.W (I64 f.wear), Rd b.E (Bs f.dead), Rd OA (U8 x.data), Rd PA (U8 y.data), Rd A9 [.int .i64 x.kind, .int .i64 x.sec, .int .i64 x.at_, .slice OA x.data.length oc], Rd A10 [.int .i64 y.kind, .int .i64 y.sec, .int .i64 y.at_, .slice PA y.data.length pc], Rd b1.D (rowsV b1.hs (B8 (cutR f x (fun _ => 255)).data)), KidsR b1.hs (B8 (cutR f x (fun _ => 255)).data), Rd b1.W (I64 (cutR f x (fun _ => 255)).wear), Rd b1.E (Bs (cutR f x (fun _ => 255)).dead), Rd A11 [.int .i64 ((cutR f x (fun _ => 255)).size : Int), .slice b1.D (cutR f x (fun _ => 255)).data.length b1.cD, .slice b1.W (cutR f x (fun _ => 255)).wear.length b1.cW, .int .i64 (cutR f x (fun _ => 255)).limit, .slice b1.E (cutR f x (fun _ => 255)).dead.length b1.cE], Rd b2.D (rowsV b2.hs (B8 (cutR (cutR f x (fun _ => 255)) x (fun _ => 255)).data)), KidsR b2.hs (B8 (cutR (cutR f x (fun _ => 255)) x (fun _ => 255)).data), Rd b2.W (I64 (cutR (cutR f x (fun _ => 255)) x (fun _ => 255)).wear), Rd b2.E (Bs (cutR (cutR f x (fun _ => 255)) x (fun _ => 255)).dead)]) (H' := [Own 32 5 A13 1 1 [.int .i64 ((cutR (cutR f x (fun _ => 255)) x (fun _ => 255)).size : Int), .slice b2.D (cutR (cutR f x (fun _ => 255)) x (fun _ => 255)).data.length b2.cD, .slice b2.W (cutR (cutR f x (fun _ => 255)) x (fun _ => 255)).wear.length b2.cW, .int .i64 (cutR (cutR f x (fun _ => 255)) x (fun _ => 255)).limit, .slice b2.E (cutR (cutR f x (fun _ => 255)) x (fun _ => 255)).dead.length b2.cE]]) (by exact Le.mk' (rs := [5, 6, 7, 8, 9, 10, 11, 12, 13, 14, 15, 16, 17, 4, 0, 1, 2, 3]) (hs := [0]) ⟨rfl, rfl, rfl, rfl, rfl, rfl, rfl, rfl, trivial⟩ ⟨rfl, rfl, rfl, rfl, rfl, rfl, rfl, rfl, rfl, rfl, rfl, rfl, rfl, rfl, rfl, rfl, rfl, rfl, trivial⟩ ⟨rfl, trivial⟩ (by decide)) ?_
      refine C.freeze 0 rfl [] (by decide) (by decide) ?_
      refine C.region ?_
      refine L.step (Ev.loadA rfl rfl rfl (Src.r 1 rfl) rfl rfl (by decide)) rfl ?_
      refine L.step (Ev.loadA rfl rfl rfl (Src.r 9 rfl) rfl rfl (by decide)) rfl ?_
      refine L.callR (js := []) (js' := []) (do_c f b ok hb y PA pc (by omega)) rfl rfl rfl (by decide) ⟨(Has.r 2 rfl), (Has.r 3 rfl), (Has.r 4 rfl), (Has.r 5 rfl), (Has.r 7 rfl), trivial⟩ rfl ?_
      rintro _ _ _ ⟨b3, hb3, rfl, rfl, rfl⟩
      refine L.step (Ev.pure rfl) rfl ?_
      refine L.step (Ev.pure rfl) rfl ?_
      refine L.step (Ev.pure rfl) rfl ?_
      refine L.alloc rfl rfl rfl (fun A15 => ?_)
      refine L.storeA (j := 0) rfl rfl rfl rfl rfl (Nat.zero_lt_succ _) rfl rfl ?_
      refine L.step (Ev.pure rfl) rfl ?_
      refine L.nil ?_
      refine QE.seq ?_
      refine C.seq ?_
      refine C.le (Γ' := [(7, .bool true), (8, ptrOf A8 0), (9, ptrOf A9 0), (10, ptrOf A10 0), (11, ptrOf A11 0), (12, .int .i64 (checkE f x)), (13, ptrOf A13 0), (14, .int .i64 (checkE (cutR f x (fun _ => 255)) x)), (15, ptrOf A15 0), (16, .int .i64 (checkE f y))]) (R' := [Rd A8 [.int .i64 (f.size : Int), .slice b.D f.data.length b.cD, .slice b.W f.wear.length b.cW, .int .i64 f.limit, .slice b.E f.dead.length b.cE], Rd b.D (rowsV b.hs (B8 f.data)), KidsR b.hs (B8 f.data), Rd b.W (I64 f.wear), Rd b.E (Bs f.dead), Rd OA (U8 x.data), Rd PA (U8 y.data), Rd A9 [.int .i64 x.kind, .int .i64 x.sec, .int .i64 x.at_, .slice OA x.data.length oc], Rd A10 [.int .i64 y.kind, .int .i64 y.sec, .int .i64 y.at_, .slice PA y.data.length pc], Rd b1.D (rowsV b1.hs (B8 (cutR f x (fun _ => 255)).data)), KidsR b1.hs (B8 (cutR f x (fun _ => 255)).data), Rd b1.W (I64 (cutR f x (fun _ => 255)).wear), Rd b1.E (Bs (cutR f x (fun _ => 255)).dead), Rd A11 [.int .i64 ((cutR f x (fun _ => 255)).size : Int), .slice b1.D (cutR f x (fun _ => 255)).data.length b1.cD, .slice b1.W (cutR f x (fun _ => 255)).wear.length b1.cW, .int .i64 (cutR f x (fun _ => 255)).limit, .slice b1.E (cutR f x (fun _ => 255)).dead.length b1.cE], Rd b2.D (rowsV b2.hs (B8 (cutR (cutR f x (fun _ => 255)) x (fun _ => 255)).data)), KidsR b2.hs (B8 (cutR (cutR f x (fun _ => 255)) x (fun _ => 255)).data), Rd b2.W (I64 (cutR (cutR f x (fun _ => 255)) x (fun _ => 255)).wear), Rd b2.E (Bs (cutR (cutR f x (fun _ => 255)) x (fun _ => 255)).dead), Rd A13 [.int .i64 ((cutR (cutR f x (fun _ => 255)) x (fun _ => 255)).size : Int), .slice b2.D (cutR (cutR f x (fun _ => 255)) x (fun _ => 255)).data.length b2.cD, .slice b2.W (cutR (cutR f x (fun _ => 255)) x (fun _ => 255)).wear.length b2.cW, .int .i64 (cutR (cutR f x (fun _ => 255)) x (fun _ => 255)).limit, .slice b2.E (cutR (cutR f x (fun _ => 255)) x (fun _ => 255)).dead.length b2.cE], Rd b3.D (rowsV b3.hs (B8 (cutR f y (fun _ => 255)).data)), KidsR b3.hs (B8 (cutR f y (fun _ => 255)).data), Rd b3.W (I64 (cutR f y (fun _ => 255)).wear), Rd b3.E (Bs (cutR f y (fun _ => 255)).dead)]) (H' := [Own 32 5 A15 1 1 [.int .i64 ((cutR f y (fun _ => 255)).size : Int), .slice b3.D (cutR f y (fun _ => 255)).data.length b3.cD, .slice b3.W (cutR f y (fun _ => 255)).wear.length b3.cW, .int .i64 (cutR f y (fun _ => 255)).limit, .slice b3.E (cutR f y (fun _ => 255)).dead.length b3.cE]]) (by exact Le.mk' (rs := [5, 6, 7, 8, 9, 10, 11, 12, 13, 14, 15, 16, 17, 18, 19, 20, 21, 22, 4, 0, 1, 2, 3]) (hs := [0]) ⟨rfl, rfl, rfl, rfl, rfl, rfl, rfl, rfl, rfl, rfl, trivial⟩ ⟨rfl, rfl, rfl, rfl, rfl, rfl, rfl, rfl, rfl, rfl, rfl, rfl, rfl, rfl, rfl, rfl, rfl, rfl, rfl, rfl, rfl, rfl, rfl, trivial⟩ ⟨rfl, trivial⟩ (by decide)) ?_
      refine C.freeze 0 rfl [] (by decide) (by decide) ?_
      refine C.region ?_
      refine L.step (Ev.loadA rfl rfl rfl (Src.r 14 rfl) rfl rfl (by decide)) rfl ?_
      refine L.step (Ev.loadA rfl rfl rfl (Src.r 9 rfl) rfl rfl (by decide)) rfl ?_
      refine L.callR (js := []) (js' := []) (do_c (cutR f x (fun _ => 255)) b1 ok1 hb1 y PA pc (by omega)) rfl rfl rfl (by decide) ⟨(Has.r 10 rfl), (Has.r 11 rfl), (Has.r 12 rfl), (Has.r 13 rfl), (Has.r 7 rfl), trivial⟩ rfl ?_
      rintro _ _ _ ⟨b4, hb4, rfl, rfl, rfl⟩
      refine L.step (Ev.pure rfl) rfl ?_
      refine L.step (Ev.pure rfl) rfl ?_
      refine L.step (Ev.pure rfl) rfl ?_
      refine L.alloc rfl rfl rfl (fun A17 => ?_)
      refine L.storeA (j := 0) rfl rfl rfl rfl rfl (Nat.zero_lt_succ _) rfl rfl ?_
      refine L.step (Ev.pure rfl) rfl ?_
      refine L.nil ?_
      refine QE.seq ?_
      refine C.seq ?_
      refine C.le (Γ' := [(7, .bool true), (8, ptrOf A8 0), (9, ptrOf A9 0), (10, ptrOf A10 0), (11, ptrOf A11 0), (12, .int .i64 (checkE f x)), (13, ptrOf A13 0), (14, .int .i64 (checkE (cutR f x (fun _ => 255)) x)), (15, ptrOf A15 0), (16, .int .i64 (checkE f y)), (17, ptrOf A17 0), (18, .int .i64 (checkE (cutR f x (fun _ => 255)) y))]) (R' := [Rd A8 [.int .i64 (f.size : Int), .slice b.D f.data.length b.cD, .slice b.W f.wear.length b.cW, .int .i64 f.limit, .slice b.E f.dead.length b.cE], Rd b.D (rowsV b.hs (B8 f.data)), KidsR b.hs (B8 f.data), Rd b.W (I64 f.wear), Rd b.E (Bs f.dead), Rd OA (U8 x.data), Rd PA (U8 y.data), Rd A9 [.int .i64 x.kind, .int .i64 x.sec, .int .i64 x.at_, .slice OA x.data.length oc], Rd A10 [.int .i64 y.kind, .int .i64 y.sec, .int .i64 y.at_, .slice PA y.data.length pc], Rd b1.D (rowsV b1.hs (B8 (cutR f x (fun _ => 255)).data)), KidsR b1.hs (B8 (cutR f x (fun _ => 255)).data), Rd b1.W (I64 (cutR f x (fun _ => 255)).wear), Rd b1.E (Bs (cutR f x (fun _ => 255)).dead), Rd A11 [.int .i64 ((cutR f x (fun _ => 255)).size : Int), .slice b1.D (cutR f x (fun _ => 255)).data.length b1.cD, .slice b1.W (cutR f x (fun _ => 255)).wear.length b1.cW, .int .i64 (cutR f x (fun _ => 255)).limit, .slice b1.E (cutR f x (fun _ => 255)).dead.length b1.cE], Rd b2.D (rowsV b2.hs (B8 (cutR (cutR f x (fun _ => 255)) x (fun _ => 255)).data)), KidsR b2.hs (B8 (cutR (cutR f x (fun _ => 255)) x (fun _ => 255)).data), Rd b2.W (I64 (cutR (cutR f x (fun _ => 255)) x (fun _ => 255)).wear), Rd b2.E (Bs (cutR (cutR f x (fun _ => 255)) x (fun _ => 255)).dead), Rd A13 [.int .i64 ((cutR (cutR f x (fun _ => 255)) x (fun _ => 255)).size : Int), .slice b2.D (cutR (cutR f x (fun _ => 255)) x (fun _ => 255)).data.length b2.cD, .slice b2.W (cutR (cutR f x (fun _ => 255)) x (fun _ => 255)).wear.length b2.cW, .int .i64 (cutR (cutR f x (fun _ => 255)) x (fun _ => 255)).limit, .slice b2.E (cutR (cutR f x (fun _ => 255)) x (fun _ => 255)).dead.length b2.cE], Rd b3.D (rowsV b3.hs (B8 (cutR f y (fun _ => 255)).data)), KidsR b3.hs (B8 (cutR f y (fun _ => 255)).data), Rd b3.W (I64 (cutR f y (fun _ => 255)).wear), Rd b3.E (Bs (cutR f y (fun _ => 255)).dead), Rd A15 [.int .i64 ((cutR f y (fun _ => 255)).size : Int), .slice b3.D (cutR f y (fun _ => 255)).data.length b3.cD, .slice b3.W (cutR f y (fun _ => 255)).wear.length b3.cW, .int .i64 (cutR f y (fun _ => 255)).limit, .slice b3.E (cutR f y (fun _ => 255)).dead.length b3.cE], Rd b4.D (rowsV b4.hs (B8 (cutR (cutR f x (fun _ => 255)) y (fun _ => 255)).data)), KidsR b4.hs (B8 (cutR (cutR f x (fun _ => 255)) y (fun _ => 255)).data), Rd b4.W (I64 (cutR (cutR f x (fun _ => 255)) y (fun _ => 255)).wear), Rd b4.E (Bs (cutR (cutR f x (fun _ => 255)) y (fun _ => 255)).dead)]) (H' := [Own 32 5 A17 1 1 [.int .i64 ((cutR (cutR f x (fun _ => 255)) y (fun _ => 255)).size : Int), .slice b4.D (cutR (cutR f x (fun _ => 255)) y (fun _ => 255)).data.length b4.cD, .slice b4.W (cutR (cutR f x (fun _ => 255)) y (fun _ => 255)).wear.length b4.cW, .int .i64 (cutR (cutR f x (fun _ => 255)) y (fun _ => 255)).limit, .slice b4.E (cutR (cutR f x (fun _ => 255)) y (fun _ => 255)).dead.length b4.cE]]) (by exact Le.mk' (rs := [5, 6, 7, 8, 9, 10, 11, 12, 13, 14, 15, 16, 17, 18, 19, 20, 21, 22, 23, 24, 25, 26, 27, 4, 0, 1, 2, 3]) (hs := [0]) ⟨rfl, rfl, rfl, rfl, rfl, rfl, rfl, rfl, rfl, rfl, rfl, rfl, trivial⟩ ⟨rfl, rfl, rfl, rfl, rfl, rfl, rfl, rfl, rfl, rfl, rfl, rfl, rfl, rfl, rfl, rfl, rfl, rfl, rfl, rfl, rfl, rfl, rfl, rfl, rfl, rfl, rfl, rfl, trivial⟩ ⟨rfl, trivial⟩ (by decide)) ?_
      refine C.freeze 0 rfl [] (by decide) (by decide) ?_
      refine C.region ?_
      refine L.step (Ev.loadA rfl rfl rfl (Src.r 24 rfl) rfl rfl (by decide)) rfl ?_
      refine L.step (Ev.loadA rfl rfl rfl (Src.r 8 rfl) rfl rfl (by decide)) rfl ?_
      refine L.callR (js := []) (js' := []) (do_c (cutR f y (fun _ => 255)) b3 ok3 hb3 x OA oc (by omega)) rfl rfl rfl (by decide) ⟨(Has.r 20 rfl), (Has.r 21 rfl), (Has.r 22 rfl), (Has.r 23 rfl), (Has.r 6 rfl), trivial⟩ rfl ?_
      rintro _ _ _ ⟨b5, hb5, rfl, rfl, rfl⟩
      refine L.step (Ev.pure rfl) rfl ?_
      refine L.step (Ev.pure rfl) rfl ?_
      refine L.step (Ev.pure rfl) rfl ?_
      refine L.alloc rfl rfl rfl (fun A19 => ?_)
      refine L.storeA (j := 0) rfl rfl rfl rfl rfl (Nat.zero_lt_succ _) rfl rfl ?_
      refine L.step (Ev.pure rfl) rfl ?_
      refine L.nil ?_
      refine QE.seq ?_
      refine C.seq ?_
      refine C.seq ?_
      refine C.le (Γ' := [(7, .bool true), (8, ptrOf A8 0), (9, ptrOf A9 0), (10, ptrOf A10 0), (11, ptrOf A11 0), (12, .int .i64 (checkE f x)), (13, ptrOf A13 0), (14, .int .i64 (checkE (cutR f x (fun _ => 255)) x)), (15, ptrOf A15 0), (16, .int .i64 (checkE f y)), (17, ptrOf A17 0), (18, .int .i64 (checkE (cutR f x (fun _ => 255)) y)), (19, ptrOf A19 0), (20, .int .i64 (checkE (cutR f y (fun _ => 255)) x))]) (R' := [Rd A8 [.int .i64 (f.size : Int), .slice b.D f.data.length b.cD, .slice b.W f.wear.length b.cW, .int .i64 f.limit, .slice b.E f.dead.length b.cE], Rd b.D (rowsV b.hs (B8 f.data)), KidsR b.hs (B8 f.data), Rd b.W (I64 f.wear), Rd b.E (Bs f.dead), Rd OA (U8 x.data), Rd PA (U8 y.data), Rd A9 [.int .i64 x.kind, .int .i64 x.sec, .int .i64 x.at_, .slice OA x.data.length oc], Rd A10 [.int .i64 y.kind, .int .i64 y.sec, .int .i64 y.at_, .slice PA y.data.length pc], Rd b1.D (rowsV b1.hs (B8 (cutR f x (fun _ => 255)).data)), KidsR b1.hs (B8 (cutR f x (fun _ => 255)).data), Rd b1.W (I64 (cutR f x (fun _ => 255)).wear), Rd b1.E (Bs (cutR f x (fun _ => 255)).dead), Rd A11 [.int .i64 ((cutR f x (fun _ => 255)).size : Int), .slice b1.D (cutR f x (fun _ => 255)).data.length b1.cD, .slice b1.W (cutR f x (fun _ => 255)).wear.length b1.cW, .int .i64 (cutR f x (fun _ => 255)).limit, .slice b1.E (cutR f x (fun _ => 255)).dead.length b1.cE], Rd b2.D (rowsV b2.hs (B8 (cutR (cutR f x (fun _ => 255)) x (fun _ => 255)).data)), KidsR b2.hs (B8 (cutR (cutR f x (fun _ => 255)) x (fun _ => 255)).data), Rd b2.W (I64 (cutR (cutR f x (fun _ => 255)) x (fun _ => 255)).wear), Rd b2.E (Bs (cutR (cutR f x (fun _ => 255)) x (fun _ => 255)).dead), Rd A13 [.int .i64 ((cutR (cutR f x (fun _ => 255)) x (fun _ => 255)).size : Int), .slice b2.D (cutR (cutR f x (fun _ => 255)) x (fun _ => 255)).data.length b2.cD, .slice b2.W (cutR (cutR f x (fun _ => 255)) x (fun _ => 255)).wear.length b2.cW, .int .i64 (cutR (cutR f x (fun _ => 255)) x (fun _ => 255)).limit, .slice b2.E (cutR (cutR f x (fun _ => 255)) x (fun _ => 255)).dead.length b2.cE], Rd b3.D (rowsV b3.hs (B8 (cutR f y (fun _ => 255)).data)), KidsR b3.hs (B8 (cutR f y (fun _ => 255)).data), Rd b3.W (I64 (cutR f y (fun _ => 255)).wear), Rd b3.E (Bs (cutR f y (fun _ => 255)).dead), Rd A15 [.int .i64 ((cutR f y (fun _ => 255)).size : Int), .slice b3.D (cutR f y (fun _ => 255)).data.length b3.cD, .slice b3.W (cutR f y (fun _ => 255)).wear.length b3.cW, .int .i64 (cutR f y (fun _ => 255)).limit, .slice b3.E (cutR f y (fun _ => 255)).dead.length b3.cE], Rd b4.D (rowsV b4.hs (B8 (cutR (cutR f x (fun _ => 255)) y (fun _ => 255)).data)), KidsR b4.hs (B8 (cutR (cutR f x (fun _ => 255)) y (fun _ => 255)).data), Rd b4.W (I64 (cutR (cutR f x (fun _ => 255)) y (fun _ => 255)).wear), Rd b4.E (Bs (cutR (cutR f x (fun _ => 255)) y (fun _ => 255)).dead), Rd A17 [.int .i64 ((cutR (cutR f x (fun _ => 255)) y (fun _ => 255)).size : Int), .slice b4.D (cutR (cutR f x (fun _ => 255)) y (fun _ => 255)).data.length b4.cD, .slice b4.W (cutR (cutR f x (fun _ => 255)) y (fun _ => 255)).wear.length b4.cW, .int .i64 (cutR (cutR f x (fun _ => 255)) y (fun _ => 255)).limit, .slice b4.E (cutR (cutR f x (fun _ => 255)) y (fun _ => 255)).dead.length b4.cE], Rd b5.D (rowsV b5.hs (B8 (cutR (cutR f y (fun _ => 255)) x (fun _ => 255)).data)), KidsR b5.hs (B8 (cutR (cutR f y (fun _ => 255)) x (fun _ => 255)).data), Rd b5.W (I64 (cutR (cutR f y (fun _ => 255)) x (fun _ => 255)).wear), Rd b5.E (Bs (cutR (cutR f y (fun _ => 255)) x (fun _ => 255)).dead)]) (H' := [Own 32 5 A19 1 1 [.int .i64 ((cutR (cutR f y (fun _ => 255)) x (fun _ => 255)).size : Int), .slice b5.D (cutR (cutR f y (fun _ => 255)) x (fun _ => 255)).data.length b5.cD, .slice b5.W (cutR (cutR f y (fun _ => 255)) x (fun _ => 255)).wear.length b5.cW, .int .i64 (cutR (cutR f y (fun _ => 255)) x (fun _ => 255)).limit, .slice b5.E (cutR (cutR f y (fun _ => 255)) x (fun _ => 255)).dead.length b5.cE]]) (by exact Le.mk' (rs := [5, 6, 7, 8, 9, 10, 11, 12, 13, 14, 15, 16, 17, 18, 19, 20, 21, 22, 23, 24, 25, 26, 27, 28, 29, 30, 31, 32, 4, 0, 1, 2, 3]) (hs := [0]) ⟨rfl, rfl, rfl, rfl, rfl, rfl, rfl, rfl, rfl, rfl, rfl, rfl, rfl, rfl, trivial⟩ ⟨rfl, rfl, rfl, rfl, rfl, rfl, rfl, rfl, rfl, rfl, rfl, rfl, rfl, rfl, rfl, rfl, rfl, rfl, rfl, rfl, rfl, rfl, rfl, rfl, rfl, rfl, rfl, rfl, rfl, rfl, rfl, rfl, rfl, trivial⟩ ⟨rfl, trivial⟩ (by decide)) ?_
      refine C.freeze 0 rfl [] (by decide) (by decide) ?_
      refine C.region ?_
      refine L.step (Ev.pure rfl) rfl ?_
      refine L.step (Ev.pure rfl) rfl ?_
      refine L.step (Ev.pure rfl) rfl ?_
      refine L.bool 83 rfl (fun hg83 => ?_) (fun hg83 => ?_)
      · skip
        replace hg83 := b_ne hg83
        exact (hg83 (checkR_prog hE gx hx2 rfl)).elim
      · skip
        replace hg83 := b_eq hg83
        refine L.yes rfl ?_
        refine L.step (Ev.pure rfl) rfl ?_
        refine L.yes rfl ?_
        refine L.step (Ev.pure rfl) rfl ?_
        refine L.step (Ev.pure rfl) rfl ?_
        refine L.step (Ev.pure rfl) rfl ?_
        refine L.bool 87 rfl (fun hg87 => ?_) (fun hg87 => ?_)
        · skip
          replace hg87 := b_ne hg87
          exact (hg87 hy0).elim
        · skip
          replace hg87 := b_eq hg87
          refine L.yes rfl ?_
          refine L.step (Ev.pure rfl) rfl ?_
          refine L.yes rfl ?_
          refine L.step (Ev.pure rfl) rfl ?_
          refine L.step (Ev.pure rfl) rfl ?_
          refine L.step (Ev.pure rfl) rfl ?_
          refine L.bool 91 rfl (fun hg91 => ?_) (fun hg91 => ?_)
          · skip
            replace hg91 := b_ne hg91
            exact (hg91 (checkR_prog hE gy hy2 hys)).elim
          · skip
            replace hg91 := b_eq hg91
            refine L.yes rfl ?_
            refine L.step (Ev.pure rfl) rfl ?_
            refine L.yes rfl ?_
            refine L.step (Ev.pure rfl) rfl ?_
            refine L.step (Ev.pure rfl) rfl ?_
            refine L.step (Ev.pure rfl) rfl ?_
            refine L.bool 95 rfl (fun hg95 => ?_) (fun hg95 => ?_)
            · skip
              replace hg95 := b_ne hg95
              exact (hg95 (checkR_prog hy0 gx hx2 hys.symm)).elim
            · skip
              replace hg95 := b_eq hg95
              refine L.yes rfl ?_
              refine L.step (Ev.loadA rfl rfl rfl (Src.r 14 rfl) rfl rfl (by decide)) rfl ?_
              refine L.yes rfl ?_
              refine L.call (js := []) (js' := []) (Ctr.tb true (valid17_c ((cutR f x (fun _ => 255)).size : Int) (cutR f x (fun _ => 255)) b1 hb1 (by have := ok1.n2; omega)) (okB_ok ok1)) rfl rfl rfl (by decide) ⟨(Has.r 10 rfl), (Has.r 11 rfl), (Has.r 12 rfl), (Has.r 13 rfl), trivial⟩ rfl ?_
              rintro _ _ _ ⟨rfl, rfl, rfl⟩
              refine L.yes rfl ?_
              refine L.step (Ev.pure rfl) rfl ?_
              refine L.step (Ev.pure rfl) rfl ?_
              refine L.step (Ev.pure rfl) rfl ?_
              refine L.yes rfl ?_
              refine L.step (Ev.fieldAddr rfl rfl rfl rfl rfl rfl (Src.r 14 rfl) (Nat.zero_lt_succ _) rfl) rfl ?_
              refine L.yes rfl ?_
              refine L.step (Ev.load rfl rfl rfl (Src.r 14 rfl) rfl) rfl ?_
              refine L.yes rfl ?_
              refine L.step (Ev.pure rfl) rfl ?_
              refine L.yes rfl ?_
              refine L.step (Ev.fieldAddr rfl rfl rfl rfl rfl rfl (Src.r 1 rfl) (Nat.zero_lt_succ _) rfl) rfl ?_
              refine L.yes rfl ?_
              refine L.step (Ev.load rfl rfl rfl (Src.r 1 rfl) rfl) rfl ?_
              refine L.yes rfl ?_
              refine L.step (Ev.pure rfl) rfl ?_
              refine L.yes rfl ?_
              refine L.step (Ev.pure rfl) rfl ?_
              refine L.step (Ev.pure rfl) rfl ?_
              refine L.step (Ev.pure rfl) rfl ?_
              refine L.bool 109 rfl (fun hg109 => ?_) (fun hg109 => ?_)
              · skip
                replace hg109 := b_ne hg109
                exact (hg109 (congrArg Nat.cast hn1)).elim
              · skip
                replace hg109 := b_eq hg109
                refine L.yes rfl ?_
                refine L.step (Ev.fieldAddr rfl rfl rfl rfl rfl rfl (Src.r 14 rfl) (Nat.zero_lt_succ _) rfl) rfl ?_
                refine L.yes rfl ?_
                refine L.step (Ev.load rfl rfl rfl (Src.r 14 rfl) rfl) rfl ?_
                refine L.yes rfl ?_
                refine L.step (Ev.fieldAddr rfl rfl rfl rfl rfl rfl (Src.r 1 rfl) (Nat.zero_lt_succ _) rfl) rfl ?_
                refine L.yes rfl ?_
                refine L.step (Ev.load rfl rfl rfl (Src.r 1 rfl) rfl) rfl ?_
                refine L.yes rfl ?_
                refine L.step (Ev.pure rfl) rfl ?_
                refine L.step (Ev.pure rfl) rfl ?_
                refine L.nil ?_
                refine QE.seq ?_
                refine C.condB 115 rfl (fun hc115 => ?_) (fun hc115 => ?_)
                · skip
                  replace hc115 := b_ne hc115
                  exact (hc115 (congrArg Nat.cast hs1)).elim
                · skip
                  replace hc115 := b_eq hc115
                  refine C.skip ?_
                  refine QE.seq ?_
                  refine C.seq ?_
                  refine C.seq ?_
                  refine C.region ?_
                  refine L.step (Ev.pure rfl) rfl ?_
                  refine L.nil ?_
                  refine QE.seq ?_
                  refine C.block ?_
                  refine C.loop (fun k : Nat => [(7, .bool true), (8, ptrOf A8 0), (9, ptrOf A9 0), (11, ptrOf A11 0), (13, ptrOf A13 0), (17, ptrOf A17 0), (19, ptrOf A19 0), (21, .int .i64 (k : Int))]) (fun k : Nat => [Rd A8 [.int .i64 (f.size : Int), .slice b.D f.data.length b.cD, .slice b.W f.wear.length b.cW, .int .i64 f.limit, .slice b.E f.dead.length b.cE], Rd b.D (rowsV b.hs (B8 f.data)), KidsR b.hs (B8 f.data), Rd b.W (I64 f.wear), Rd b.E (Bs f.dead), Rd OA (U8 x.data), Rd PA (U8 y.data), Rd A9 [.int .i64 x.kind, .int .i64 x.sec, .int .i64 x.at_, .slice OA x.data.length oc], Rd A10 [.int .i64 y.kind, .int .i64 y.sec, .int .i64 y.at_, .slice PA y.data.length pc], Rd b1.D (rowsV b1.hs (B8 (cutR f x (fun _ => 255)).data)), KidsR b1.hs (B8 (cutR f x (fun _ => 255)).data), Rd b1.W (I64 (cutR f x (fun _ => 255)).wear), Rd b1.E (Bs (cutR f x (fun _ => 255)).dead), Rd A11 [.int .i64 ((cutR f x (fun _ => 255)).size : Int), .slice b1.D (cutR f x (fun _ => 255)).data.length b1.cD, .slice b1.W (cutR f x (fun _ => 255)).wear.length b1.cW, .int .i64 (cutR f x (fun _ => 255)).limit, .slice b1.E (cutR f x (fun _ => 255)).dead.length b1.cE], Rd b2.D (rowsV b2.hs (B8 (cutR (cutR f x (fun _ => 255)) x (fun _ => 255)).data)), KidsR b2.hs (B8 (cutR (cutR f x (fun _ => 255)) x (fun _ => 255)).data), Rd b2.W (I64 (cutR (cutR f x (fun _ => 255)) x (fun _ => 255)).wear), Rd b2.E (Bs (cutR (cutR f x (fun _ => 255)) x (fun _ => 255)).dead), Rd A13 [.int .i64 ((cutR (cutR f x (fun _ => 255)) x (fun _ => 255)).size : Int), .slice b2.D (cutR (cutR f x (fun _ => 255)) x (fun _ => 255)).data.length b2.cD, .slice b2.W (cutR (cutR f x (fun _ => 255)) x (fun _ => 255)).wear.length b2.cW, .int .i64 (cutR (cutR f x (fun _ => 255)) x (fun _ => 255)).limit, .slice b2.E (cutR (cutR f x (fun _ => 255)) x (fun _ => 255)).dead.length b2.cE], Rd b3.D (rowsV b3.hs (B8 (cutR f y (fun _ => 255)).data)), KidsR b3.hs (B8 (cutR f y (fun _ => 255)).data), Rd b3.W (I64 (cutR f y (fun _ => 255)).wear), Rd b3.E (Bs (cutR f y (fun _ => 255)).dead), Rd A15 [.int .i64 ((cutR f y (fun _ => 255)).size : Int), .slice b3.D (cutR f y (fun _ => 255)).data.length b3.cD, .slice b3.W (cutR f y (fun _ => 255)).wear.length b3.cW, .int .i64 (cutR f y (fun _ => 255)).limit, .slice b3.E (cutR f y (fun _ => 255)).dead.length b3.cE], Rd b4.D (rowsV b4.hs (B8 (cutR (cutR f x (fun _ => 255)) y (fun _ => 255)).data)), KidsR b4.hs (B8 (cutR (cutR f x (fun _ => 255)) y (fun _ => 255)).data), Rd b4.W (I64 (cutR (cutR f x (fun _ => 255)) y (fun _ => 255)).wear), Rd b4.E (Bs (cutR (cutR f x (fun _ => 255)) y (fun _ => 255)).dead), Rd A17 [.int .i64 ((cutR (cutR f x (fun _ => 255)) y (fun _ => 255)).size : Int), .slice b4.D (cutR (cutR f x (fun _ => 255)) y (fun _ => 255)).data.length b4.cD, .slice b4.W (cutR (cutR f x (fun _ => 255)) y (fun _ => 255)).wear.length b4.cW, .int .i64 (cutR (cutR f x (fun _ => 255)) y (fun _ => 255)).limit, .slice b4.E (cutR (cutR f x (fun _ => 255)) y (fun _ => 255)).dead.length b4.cE], Rd b5.D (rowsV b5.hs (B8 (cutR (cutR f y (fun _ => 255)) x (fun _ => 255)).data)), KidsR b5.hs (B8 (cutR (cutR f y (fun _ => 255)) x (fun _ => 255)).data), Rd b5.W (I64 (cutR (cutR f y (fun _ => 255)) x (fun _ => 255)).wear), Rd b5.E (Bs (cutR (cutR f y (fun _ => 255)) x (fun _ => 255)).dead), Rd A19 [.int .i64 ((cutR (cutR f y (fun _ => 255)) x (fun _ => 255)).size : Int), .slice b5.D (cutR (cutR f y (fun _ => 255)) x (fun _ => 255)).data.length b5.cD, .slice b5.W (cutR (cutR f y (fun _ => 255)) x (fun _ => 255)).wear.length b5.cW, .int .i64 (cutR (cutR f y (fun _ => 255)) x (fun _ => 255)).limit, .slice b5.E (cutR (cutR f y (fun _ => 255)) x (fun _ => 255)).dead.length b5.cE]]) (fun k : Nat => []) (fun k : Nat => k ≤ f.size) (fun k : Nat => f.size - k) 0 (Nat.zero_le _) (by exact Le.mk' (rs := [1, 2, 3, 4, 5, 6, 7, 8, 9, 10, 11, 12, 13, 14, 15, 16, 17, 18, 19, 20, 21, 22, 23, 24, 25, 26, 27, 28, 29, 30, 31, 32, 33, 0]) (hs := []) ⟨rfl, rfl, rfl, rfl, rfl, rfl, rfl, rfl, trivial⟩ ⟨rfl, rfl, rfl, rfl, rfl, rfl, rfl, rfl, rfl, rfl, rfl, rfl, rfl, rfl, rfl, rfl, rfl, rfl, rfl, rfl, rfl, rfl, rfl, rfl, rfl, rfl, rfl, rfl, rfl, rfl, rfl, rfl, rfl, rfl, trivial⟩ trivial (by decide)) ?_
                  rintro k hkz
                  refine C.seq ?_
                  refine C.seq ?_
                  refine C.region ?_
                  refine L.step (Ev.pure rfl) rfl ?_
                  refine L.step (Ev.fieldAddr rfl rfl rfl rfl rfl rfl (Src.r 0 rfl) (Nat.zero_lt_succ _) rfl) rfl ?_
                  refine L.step (Ev.load rfl rfl rfl (Src.r 0 rfl) rfl) rfl ?_
                  refine L.step (Ev.pure rfl) rfl ?_
                  refine L.nil ?_
                  refine QE.seq ?_
                  refine C.condB 119 rfl (fun hc119 => ?_) (fun hc119 => ?_)
                  · skip
                    replace hc119 := of_decide_eq_true hc119
                    have hkf : k < f.size := Int.ofNat_lt.1 hc119
                    have hk := hkf
                    rw [← hrow] at hk
                    have hk1 := hkf
                    rw [← hr1] at hk1
                    refine C.skip ?_
                    refine QE.seq ?_
                    refine C.seq ?_
                    refine C.block ?_
                    refine C.seq ?_
                    refine C.regionQ (by kernel_rfl) ?_
                    refine LQ.step (Ev.fieldAddr rfl rfl rfl rfl rfl rfl (Src.r 13 rfl) (Nat.zero_lt_succ _) rfl) rfl ?_
                    refine LQ.step (Ev.load rfl rfl rfl (Src.r 13 rfl) rfl) rfl ?_
                    refine LQ.step (Ev.fieldAddr rfl rfl rfl rfl rfl rfl (Src.r 7 rfl) (Nat.zero_lt_succ _) rfl) rfl ?_
                    refine LQ.step (Ev.load rfl rfl rfl (Src.r 7 rfl) rfl) rfl ?_
                    refine LQ.step (Ev.idx1 (k := x.sec.toNat) rfl rfl rfl rfl rfl rfl hsq ht1 (Src.r 9 rfl) (rows_pos hb1 ht1)) rfl ?_
                    refine LQ.step (Ev.load rfl rfl rfl (Src.r 9 rfl) (rows8_get hb1 ht1)) rfl ?_
                    refine LQ.step (Ev.pure rfl) rfl ?_
                    refine LQ.step (Ev.idx1 (k := k) rfl rfl rfl rfl rfl rfl rfl hk1 ((Src.kid 10 rfl (by rw [B8_len]; exact hb1) (x.sec.toNat) (by rw [B8_len]; exact ht1)).cast (B8_get _)) (U8_pos hk1)) rfl ?_
                    refine LQ.step (Ev.load rfl rfl rfl ((Src.kid 10 rfl (by rw [B8_len]; exact hb1) (x.sec.toNat) (by rw [B8_len]; exact ht1)).cast (B8_get _)) (U8_get hk1)) rfl ?_
                    refine LQ.step (Ev.fieldAddr rfl rfl rfl rfl rfl rfl (Src.r 0 rfl) (Nat.zero_lt_succ _) rfl) rfl ?_
                    refine LQ.step (Ev.load rfl rfl rfl (Src.r 0 rfl) rfl) rfl ?_
                    refine LQ.step (Ev.fieldAddr rfl rfl rfl rfl rfl rfl (Src.r 7 rfl) (Nat.zero_lt_succ _) rfl) rfl ?_
                    refine LQ.step (Ev.load rfl rfl rfl (Src.r 7 rfl) rfl) rfl ?_
                    refine LQ.step (Ev.idx1 (k := x.sec.toNat) rfl rfl rfl rfl rfl rfl hsq ht (Src.r 1 rfl) (rows_pos hb ht)) rfl ?_
                    refine LQ.step (Ev.load rfl rfl rfl (Src.r 1 rfl) (rows8_get hb ht)) rfl ?_
                    refine LQ.step (Ev.pure rfl) rfl ?_
                    refine LQ.step (Ev.idx1 (k := k) rfl rfl rfl rfl rfl rfl rfl hk ((Src.kid 2 rfl (by rw [B8_len]; exact hb) (x.sec.toNat) (by rw [B8_len]; exact ht)).cast (B8_get _)) (U8_pos hk)) rfl ?_
                    refine LQ.step (Ev.load rfl rfl rfl ((Src.kid 2 rfl (by rw [B8_len]; exact hb) (x.sec.toNat) (by rw [B8_len]; exact ht)).cast (B8_get _)) (U8_get hk)) rfl ?_
                    first | refine LQ.step (Ev.andNot8 rfl rfl) rfl ?_ | refine LQ.step (Ev.pure rfl) rfl ?_
                    refine LQ.step (Ev.pure rfl) rfl ?_
                    refine LQ.nil ?_
                    refine QE.seq ?_
                    refine C.condB 141 rfl (fun hc141 => ?_) (fun hc141 => ?_)
                    · skip
                      replace hc141 := b_ne hc141
                      exact (hc141 (by rw [cutR_prog hE hx2 hkf]; rfl)).elim
                    · skip
                      replace hc141 := b_eq hc141
                      refine C.skip ?_
                      refine QE.blkN ?_
                      refine QE.seq ?_
                      refine C.region ?_
                      refine L.step (Ev.pure rfl) rfl ?_
                      refine L.step (Ev.add rfl rfl (by omega) (by omega)) rfl ?_
                      refine L.step (Ev.pure rfl) rfl ?_
                      refine L.nil ?_
                      refine QE.round (k + 1) (by omega) (by omega) (by exact Le.mk' (rs := [0, 1, 2, 3, 4, 5, 6, 7, 8, 9, 10, 11, 12, 13, 14, 15, 16, 17, 18, 19, 20, 21, 22, 23, 24, 25, 26, 27, 28, 29, 30, 31, 32, 33]) (hs := []) ⟨rfl, rfl, rfl, rfl, rfl, rfl, rfl, rfl, trivial⟩ ⟨rfl, rfl, rfl, rfl, rfl, rfl, rfl, rfl, rfl, rfl, rfl, rfl, rfl, rfl, rfl, rfl, rfl, rfl, rfl, rfl, rfl, rfl, rfl, rfl, rfl, rfl, rfl, rfl, rfl, rfl, rfl, rfl, rfl, rfl, trivial⟩ trivial (by decide))
                  · skip
                    replace hc119 := of_decide_eq_false hc119
                    refine C.exit ?_
                    refine QE.tX ?_
                    refine QE.tX ?_
                    refine QE.blk ?_
                    refine QE.seq ?_
                    refine C.seq ?_
                    refine C.region ?_
                    refine L.step (Ev.loadA rfl rfl rfl (Src.r 18 rfl) rfl rfl (by decide)) rfl ?_
                    refine L.step (Ev.loadA rfl rfl rfl (Src.r 13 rfl) rfl rfl (by decide)) rfl ?_
                    refine L.call (js := []) (js' := []) (Ctr.tb true (sameF_c (cutR (cutR f x (fun _ => 255)) x (fun _ => 255)) (cutR f x (fun _ => 255)) b2 b1 (cutR_sm ok1) (cutR_sm ok) hb2 hb1) (decide_eq_true (cutR_again hE hx2))) rfl rfl rfl (by decide) ⟨(Has.r 14 rfl), (Has.r 15 rfl), (Has.r 16 rfl), (Has.r 17 rfl), (Has.r 9 rfl), (Has.r 10 rfl), (Has.r 11 rfl), (Has.r 12 rfl), trivial⟩ rfl ?_
                    rintro _ _ _ ⟨rfl, rfl, rfl⟩
                    refine L.step (Ev.pure rfl) rfl ?_
                    refine L.yes rfl ?_
                    refine L.step (Ev.loadA rfl rfl rfl (Src.r 28 rfl) rfl rfl (by decide)) rfl ?_
                    refine L.yes rfl ?_
                    refine L.step (Ev.loadA rfl rfl rfl (Src.r 33 rfl) rfl rfl (by decide)) rfl ?_
                    refine L.yes rfl ?_
                    refine L.call (js := []) (js' := []) (Ctr.tb true (sameF_c (cutR (cutR f x (fun _ => 255)) y (fun _ => 255)) (cutR (cutR f y (fun _ => 255)) x (fun _ => 255)) b4 b5 (cutR_sm ok1) (cutR_sm ok3) hb4 hb5) (decide_eq_true (cutR_turn hE hx2 gy hy2 hys))) rfl rfl rfl (by decide) ⟨(Has.r 24 rfl), (Has.r 25 rfl), (Has.r 26 rfl), (Has.r 27 rfl), (Has.r 29 rfl), (Has.r 30 rfl), (Has.r 31 rfl), (Has.r 32 rfl), trivial⟩ rfl ?_
                    rintro _ _ _ ⟨rfl, rfl, rfl⟩
                    refine L.step (Ev.pure rfl) rfl ?_
                    refine L.step (Ev.pure rfl) rfl ?_
                    refine L.yes rfl ?_
                    refine L.step (Ev.pure rfl) rfl ?_
                    refine L.step (Ev.pure rfl) rfl ?_
                    refine L.step (Ev.pure rfl) rfl ?_
                    refine L.nil ?_
                    refine QE.seq ?_
                    refine C.ret ?_
                    refine QE.ret (js := []) (hs := []) (vs := [_]) rfl ⟨rfl, trivial⟩ (by decide) ?_
                    exact ⟨rfl, rfl, rfl⟩

end Go.Proofs.Ythfjkdgopkmgoaa
