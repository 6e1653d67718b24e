/-
  The contract of FlashCuts.
-/
import Derived.Test.YthfjkdgopkmgoaaWFlM
namespace Go.Proofs.Ythfjkdgopkmgoaa
open Go.Sl

set_option maxHeartbeats 2000000 in
theorem cuts_c (rs : UInt8) (rd : List (List UInt8)) (rw : List UInt8) (re : UInt8) (RD RW : Option Addr) (rc rwc : Nat) (rhs : List Hd) (hrh : rhs.length = rd.length) (hrl : rd.length ≤ 9223372036854775807) (hrr : ∀ i, (rd.getD i []).length ≤ 9223372036854775807) (hrw : rw.length ≤ 9223372036854775807) (er torn : Bool) (se at_ : UInt8) (data mask : List UInt8) (YA MA : Option Addr) (yc mc : Nat) (hyc : data.length ≤ yc) (hyl : data.length ≤ 9223372036854775807) (hml : mask.length ≤ 9223372036854775807) :
    Ctr X 13 [.agg (List.toArray [.int .u8 (rs.toNat : Int), .slice RD rd.length rc, .slice RW rw.length rwc, .int .u8 (re.toNat : Int)]), .agg (List.toArray [.bool er, .int .u8 (se.toNat : Int), .int .u8 (at_.toNat : Int), .slice YA data.length yc, .bool torn, .slice MA mask.length mc])] [Rd RD (rowsV rhs (B8 rd)), KidsR rhs (B8 rd), Rd RW (U8 rw), Rd YA (U8 data), Rd MA (U8 mask)] [] (fun v R' H' => v = .bool true ∧ R' = [] ∧ H' = []) := by
  refine Ctr.of (X := X) (fn := Try.f13) Try.func13 rfl (by kernel_rfl) rfl ?_
  intro β
  refine C.seq ?_
  refine C.region ?_
  refine L.boxA rfl rfl (fun A2 => ?_)
  refine L.boxA rfl rfl (fun A3 => ?_)
  refine L.step (Ev.pure rfl) rfl ?_
  refine L.nil ?_
  refine QE.seq ?_
  refine C.seq ?_
  refine C.freeze 0 rfl [1] (by decide) (by decide) ?_
  refine C.freeze 0 rfl [] (by decide) (by decide) ?_
  refine C.region ?_
  refine L.call (js := []) (js' := []) (sanity_c) rfl rfl rfl (by decide) trivial rfl ?_
  rintro _ _ _ ⟨rfl, rfl, rfl⟩
  refine L.step (Ev.pure rfl) rfl ?_
  refine L.nil ?_
  refine QE.seq ?_
  refine C.seq ?_
  refine C.region ?_
  refine L.step (Ev.loadA rfl rfl rfl (Src.r 1 rfl) rfl rfl (by decide)) rfl ?_
  refine L.call (js := []) (js' := []) (made_c rs rd rw re RD RW rc rwc rhs hrh hrl hrr hrw) rfl rfl rfl (by decide) ⟨(Has.r 2 rfl), (Has.r 3 rfl), (Has.r 4 rfl), trivial⟩ rfl ?_
  rintro _ _ _ ⟨f, b, ok, hlim, hsz, hdl, hb, rfl, rfl, rfl⟩
  refine L.alloc rfl rfl rfl (fun A6 => ?_)
  refine L.storeA (j := 4) rfl rfl rfl rfl rfl (Nat.zero_lt_succ _) rfl rfl ?_
  refine L.nil ?_
  refine QE.seq ?_
  refine C.seq ?_
  refine C.le (Γ' := [(3, ptrOf A3 0), (5, .bool true), (6, ptrOf A6 0)]) (R' := [Rd A3 [.bool er, .int .u8 (se.toNat : Int), .int .u8 (at_.toNat : Int), .slice YA data.length yc, .bool torn, .slice MA mask.length mc], Rd YA (U8 data), Rd MA (U8 mask)]) (H' := [Own 32 5 A6 1 1 [.int .i64 (f.size : Int), .slice b.D f.data.length b.cD, .slice b.W f.wear.length b.cW, .int .i64 f.limit, .slice b.E f.dead.length b.cE], Own 24 1 b.D f.data.length b.cD (rowsV b.hs (B8 f.data)), OwnKids 5 b.hs (B8 f.data), Own 3 1 b.W f.wear.length b.cW (I64 f.wear), Own 4 1 b.E f.dead.length b.cE (Bs f.dead)]) (by exact Le.mk' (rs := [0, 5, 6]) (hs := [4, 0, 1, 2, 3]) ⟨rfl, rfl, rfl, trivial⟩ ⟨rfl, rfl, rfl, trivial⟩ ⟨rfl, rfl, rfl, rfl, rfl, trivial⟩ (by decide)) ?_
  refine C.freeze 1 rfl [0, 2, 3, 4] (by decide) (by decide) ?_
  refine C.freezeKids 1 rfl [0, 2, 3] (by decide) (by decide) ?_
  refine C.freeze 1 rfl [0, 2] (by decide) (by decide) ?_
  refine C.freeze 1 rfl [0] (by decide) (by decide) ?_
  refine C.freeze 0 rfl [] (by decide) (by decide) ?_
  refine C.region ?_
  refine L.step (Ev.loadA rfl rfl rfl (Src.r 0 rfl) rfl rfl (by decide)) rfl ?_
  refine L.step (Ev.loadA rfl rfl rfl (Src.r 5 rfl) rfl rfl (by decide)) rfl ?_
  refine L.callR (js := []) (js' := []) (op_g f b ok hb er torn se at_ data YA MA yc _ mc hyl hyc) rfl rfl rfl (by decide) ⟨(Has.r 4 rfl), (Has.r 3 rfl), (Has.r 2 rfl), (Has.r 1 rfl), (Has.r 6 rfl), trivial⟩ rfl ?_
  rintro _ _ _ ⟨x, OA, oc, ⟨gx, hxl, hx2, hxs⟩, rfl, rfl, rfl⟩
  refine L.alloc rfl rfl rfl (fun A7 => ?_)
  refine L.storeA (j := 0) rfl rfl rfl rfl rfl (Nat.zero_lt_succ _) rfl rfl ?_
  refine L.nil ?_
  refine QE.seq ?_
  refine C.seq ?_
  refine C.le (Γ' := [(3, ptrOf A3 0), (5, .bool true), (6, ptrOf A6 0), (7, ptrOf A7 0)]) (R' := [Rd A3 [.bool er, .int .u8 (se.toNat : Int), .int .u8 (at_.toNat : Int), .slice YA data.length yc, .bool torn, .slice MA mask.length mc], Rd YA (U8 data), Rd MA (U8 mask), Rd A6 [.int .i64 (f.size : Int), .slice b.D f.data.length b.cD, .slice b.W f.wear.length b.cW, .int .i64 f.limit, .slice b.E f.dead.length b.cE], Rd b.D (rowsV b.hs (B8 f.data)), KidsR b.hs (B8 f.data), Rd b.W (I64 f.wear), Rd b.E (Bs f.dead), Rd OA (U8 x.data)]) (H' := [Own 53 4 A7 1 1 [.int .i64 x.kind, .int .i64 x.sec, .int .i64 x.at_, .slice OA x.data.length oc]]) (by exact Le.mk' (rs := [6, 7, 8, 1, 5, 4, 3, 2, 0]) (hs := [0]) ⟨rfl, rfl, rfl, rfl, trivial⟩ ⟨rfl, rfl, rfl, rfl, rfl, rfl, rfl, rfl, rfl, trivial⟩ ⟨rfl, trivial⟩ (by decide)) ?_
  refine C.freeze 0 rfl [] (by decide) (by decide) ?_
  have gxs := gx.s
  have hsq : x.sec = ((x.sec.toNat : Nat) : Int) := (Int.toNat_of_nonneg gxs.1).symm
  have hrow := ok.rows x.sec.toNat gx.lt
  have hokw := ok.wl
  have hoke := ok.dl
  have ht := gx.lt
  have hv := gx.lt
  rw [← hokw] at hv
  have hu := gx.lt
  rw [← hoke] at hu
  have hL := len_big hrow hsz
  try clear hxs
  refine C.region ?_
  refine L.step (Ev.loadA rfl rfl rfl (Src.r 4 rfl) rfl rfl (by decide)) rfl ?_
  refine L.step (Ev.loadA rfl rfl rfl (Src.r 0 rfl) rfl rfl (by decide)) rfl ?_
  refine L.callR (js := []) (js' := []) (do_c f b ok hb x OA oc (by omega)) rfl rfl rfl (by decide) ⟨(Has.r 5 rfl), (Has.r 6 rfl), (Has.r 7 rfl), (Has.r 8 rfl), (Has.r 9 rfl), trivial⟩ rfl ?_
  rintro _ _ _ ⟨b1, hb1, rfl, rfl, rfl⟩
  refine L.step (Ev.pure rfl) rfl ?_
  refine L.step (Ev.pure rfl) rfl ?_
  refine L.step (Ev.pure rfl) rfl ?_
  refine L.alloc rfl rfl rfl (fun A8 => ?_)
  refine L.storeA (j := 0) rfl rfl rfl rfl rfl (Nat.zero_lt_succ _) rfl rfl ?_
  refine L.step (Ev.pure rfl) rfl ?_
  refine L.nil ?_
  refine QE.seq ?_
  refine C.seq ?_
  refine C.le (Γ' := [(3, ptrOf A3 0), (5, .bool true), (6, ptrOf A6 0), (7, ptrOf A7 0), (8, ptrOf A8 0), (9, .int .i64 (checkE f x))]) (R' := [Rd A3 [.bool er, .int .u8 (se.toNat : Int), .int .u8 (at_.toNat : Int), .slice YA data.length yc, .bool torn, .slice MA mask.length mc], Rd YA (U8 data), Rd MA (U8 mask), Rd A6 [.int .i64 (f.size : Int), .slice b.D f.data.length b.cD, .slice b.W f.wear.length b.cW, .int .i64 f.limit, .slice b.E f.dead.length b.cE], Rd b.D (rowsV b.hs (B8 f.data)), KidsR b.hs (B8 f.data), Rd b.W (I64 f.wear), Rd b.E (Bs f.dead), Rd OA (U8 x.data), Rd A7 [.int .i64 x.kind, .int .i64 x.sec, .int .i64 x.at_, .slice OA x.data.length oc], Rd b1.D (rowsV b1.hs (B8 (cutR f x (fun _ => 255)).data)), KidsR b1.hs (B8 (cutR f x (fun _ => 255)).data), Rd b1.W (I64 (cutR f x (fun _ => 255)).wear), Rd b1.E (Bs (cutR f x (fun _ => 255)).dead)]) (H' := [Own 32 5 A8 1 1 [.int .i64 ((cutR f x (fun _ => 255)).size : Int), .slice b1.D (cutR f x (fun _ => 255)).data.length b1.cD, .slice b1.W (cutR f x (fun _ => 255)).wear.length b1.cW, .int .i64 (cutR f x (fun _ => 255)).limit, .slice b1.E (cutR f x (fun _ => 255)).dead.length b1.cE]]) (by exact Le.mk' (rs := [5, 6, 7, 8, 9, 10, 11, 12, 13, 4, 0, 1, 2, 3]) (hs := [0]) ⟨rfl, rfl, rfl, rfl, rfl, rfl, trivial⟩ ⟨rfl, rfl, rfl, rfl, rfl, rfl, rfl, rfl, rfl, rfl, rfl, rfl, rfl, rfl, trivial⟩ ⟨rfl, trivial⟩ (by decide)) ?_
  refine C.freeze 0 rfl [] (by decide) (by decide) ?_
  refine C.join (fun q : Fa × Option Addr => [(3, ptrOf A3 0), (5, .bool true), (6, ptrOf A6 0), (7, ptrOf A7 0), (8, ptrOf A8 0), (9, .int .i64 (checkE f x)), (10, ptrOf q.2 0), (11, .int .i64 (checkE f x))]) (fun q : Fa × Option Addr => [Rd A3 [.bool er, .int .u8 (se.toNat : Int), .int .u8 (at_.toNat : Int), .slice YA data.length yc, .bool torn, .slice MA mask.length mc], Rd YA (U8 data), Rd MA (U8 mask), Rd A6 [.int .i64 (f.size : Int), .slice b.D f.data.length b.cD, .slice b.W f.wear.length b.cW, .int .i64 f.limit, .slice b.E f.dead.length b.cE], Rd b.D (rowsV b.hs (B8 f.data)), KidsR b.hs (B8 f.data), Rd b.W (I64 f.wear), Rd b.E (Bs f.dead), Rd OA (U8 x.data), Rd A7 [.int .i64 x.kind, .int .i64 x.sec, .int .i64 x.at_, .slice OA x.data.length oc], Rd b1.D (rowsV b1.hs (B8 (cutR f x (fun _ => 255)).data)), KidsR b1.hs (B8 (cutR f x (fun _ => 255)).data), Rd b1.W (I64 (cutR f x (fun _ => 255)).wear), Rd b1.E (Bs (cutR f x (fun _ => 255)).dead), Rd A8 [.int .i64 ((cutR f x (fun _ => 255)).size : Int), .slice b1.D (cutR f x (fun _ => 255)).data.length b1.cD, .slice b1.W (cutR f x (fun _ => 255)).wear.length b1.cW, .int .i64 (cutR f x (fun _ => 255)).limit, .slice b1.E (cutR f x (fun _ => 255)).dead.length b1.cE], Rd q.1.D (rowsV q.1.hs (B8 (cutR f x (fun _ => 255)).data)), KidsR q.1.hs (B8 (cutR f x (fun _ => 255)).data), Rd q.1.W (I64 (cutR f x (fun _ => 255)).wear), Rd q.1.E (Bs (cutR f x (fun _ => 255)).dead)]) (fun q : Fa × Option Addr => [Own 32 5 q.2 1 1 [.int .i64 ((cutR f x (fun _ => 255)).size : Int), .slice q.1.D (cutR f x (fun _ => 255)).data.length q.1.cD, .slice q.1.W (cutR f x (fun _ => 255)).wear.length q.1.cW, .int .i64 (cutR f x (fun _ => 255)).limit, .slice q.1.E (cutR f x (fun _ => 255)).dead.length q.1.cE]]) (fun q : Fa × Option Addr => q.1.hs.length = (cutR f x (fun _ => 255)).data.length) ?_ ?_
  · skip
    refine C.regionM [Rd A6 [.int .i64 (f.size : Int), .slice b.D f.data.length b.cD, .slice b.W f.wear.length b.cW, .int .i64 f.limit, .slice b.E f.dead.length b.cE], Rd A7 [.int .i64 x.kind, .int .i64 x.sec, .int .i64 x.at_, .slice OA x.data.length oc]] ⟨Has.r 4 rfl, Has.r 10 rfl, trivial⟩ ?_
    refine LM.q 0 rfl (by kernel_rfl) (Ev.loadA rfl rfl rfl (Src.r 0 rfl) rfl rfl (by decide)) rfl ⟨Has.r 4 rfl, Has.r 10 rfl, trivial⟩ ?_
    refine LM.q 1 rfl (by kernel_rfl) (Ev.loadA rfl rfl rfl (Src.r 1 rfl) rfl rfl (by decide)) rfl ⟨Has.r 4 rfl, Has.r 10 rfl, trivial⟩ ?_
    refine LM.q 2 rfl (by kernel_rfl) (Ev.fieldAddr rfl rfl rfl rfl rfl rfl (Src.r 0 rfl) (Nat.zero_lt_succ _) rfl) rfl ⟨Has.r 4 rfl, Has.r 10 rfl, trivial⟩ ?_
    refine LM.q 3 rfl (by kernel_rfl) (Ev.load rfl rfl rfl (Src.r 0 rfl) rfl) rfl ⟨Has.r 4 rfl, Has.r 10 rfl, trivial⟩ ?_
    refine LM.q 4 rfl (by kernel_rfl) (Ev.add rfl rfl (by omega) (by omega)) rfl ⟨Has.r 4 rfl, Has.r 10 rfl, trivial⟩ ?_
    refine LM.alt [5, 10] (by kernel_rfl) (by decide) ⟨Has.r 4 rfl, Has.r 10 rfl, trivial⟩ ⟨⟨_, rfl, ?_⟩, ⟨_, rfl, ?_⟩, trivial⟩
    · skip
      refine L.call (js := []) (js' := []) (blank_c (f.size + 1) (by omega)) rfl rfl rfl (by decide) trivial rfl ?_
      rintro _ _ _ ⟨A37, rfl, rfl, rfl⟩
      refine L.nil (QE.m (by kernel_rfl) ?_)
      refine LM.alt [6, 10] (by kernel_rfl) (by decide) ⟨Has.r 4 rfl, Has.r 10 rfl, trivial⟩ ⟨⟨_, rfl, ?_⟩, ⟨_, rfl, ?_⟩, trivial⟩
      · skip
        refine L.freeze 0 rfl [] (by decide) (by decide) ?_
        refine L.callR (js := []) (js' := []) (cut_e f b ok hb x OA oc (by omega) (List.replicate (f.size + 1) 255) A37 (f.size + 1) (f.size + 1) (by rw [List.length_replicate]) (by rw [List.length_replicate]; omega) (fun _ => 255) (fun i hi => getD_rep _ _ _ _ (by omega))) rfl rfl rfl (by decide) ⟨(Has.r 6 rfl), (Has.r 7 rfl), (Has.r 8 rfl), (Has.r 9 rfl), (Has.r 10 rfl), (Has.r 0 rfl), trivial⟩ rfl ?_
        rintro _ _ _ ⟨b2, hb2, rfl, rfl, rfl⟩
        refine L.nil (QE.m (by kernel_rfl) ?_)
        refine LM.q 7 rfl (by kernel_rfl) (Ev.pure rfl) rfl ⟨Has.r 9 rfl, Has.r 15 rfl, trivial⟩ ?_
        refine LM.q 8 rfl (by kernel_rfl) (Ev.pure rfl) rfl ⟨Has.r 9 rfl, Has.r 15 rfl, trivial⟩ ?_
        refine LM.q 9 rfl (by kernel_rfl) (Ev.pure rfl) rfl ⟨Has.r 9 rfl, Has.r 15 rfl, trivial⟩ ?_
        refine LM.f 10 rfl (by kernel_rfl) ⟨Has.r 9 rfl, Has.r 15 rfl, trivial⟩ ?_
        refine L.alloc rfl rfl rfl (fun A10 => ?_)
        refine L.nil (QE.m (by kernel_rfl) ?_)
        refine LM.f 11 rfl (by kernel_rfl) ⟨Has.r 9 rfl, Has.r 15 rfl, trivial⟩ ?_
        refine L.storeA (j := 0) rfl rfl rfl rfl rfl (Nat.zero_lt_succ _) rfl rfl ?_
        refine L.nil (QE.m (by kernel_rfl) ?_)
        refine LM.cut [] (by kernel_rfl) ⟨Has.r 9 rfl, Has.r 15 rfl, trivial⟩ ?_
        refine LM.f 12 rfl (by kernel_rfl) trivial ?_
        refine L.step (Ev.pure rfl) rfl ?_
        refine L.nil (QE.m (by kernel_rfl) ?_)
        refine LM.nil (by kernel_rfl) trivial ?_
        refine QE.joined ((b2, A10)) (by exact hb2) (by exact Le.mk' (rs := [6, 7, 8, 9, 10, 11, 12, 13, 14, 15, 16, 17, 18, 19, 5, 0, 1, 2, 3]) (hs := [0]) ⟨rfl, rfl, rfl, rfl, rfl, rfl, rfl, rfl, trivial⟩ ⟨rfl, rfl, rfl, rfl, rfl, rfl, rfl, rfl, rfl, rfl, rfl, rfl, rfl, rfl, rfl, rfl, rfl, rfl, rfl, trivial⟩ ⟨rfl, trivial⟩ (by decide))
      · skip
        refine L.alloc rfl rfl rfl (fun A10 => ?_)
        refine L.nil (QE.m (by kernel_rfl) ?_)
        refine LM.f 6 rfl (by kernel_rfl) ⟨Has.r 4 rfl, Has.r 10 rfl, trivial⟩ ?_
        refine L.freeze 0 rfl [1] (by decide) (by decide) ?_
        refine L.callR (js := []) (js' := [0]) (cut_e f b ok hb x OA oc (by omega) (List.replicate (f.size + 1) 255) A37 (f.size + 1) (f.size + 1) (by rw [List.length_replicate]) (by rw [List.length_replicate]; omega) (fun _ => 255) (fun i hi => getD_rep _ _ _ _ (by omega))) rfl rfl rfl (by decide) ⟨(Has.r 6 rfl), (Has.r 7 rfl), (Has.r 8 rfl), (Has.r 9 rfl), (Has.r 10 rfl), (Has.r 0 rfl), trivial⟩ rfl ?_
        rintro _ _ _ ⟨b2, hb2, rfl, rfl, rfl⟩
        refine L.nil (QE.m (by kernel_rfl) ?_)
        refine LM.q 7 rfl (by kernel_rfl) (Ev.pure rfl) rfl ⟨Has.r 9 rfl, Has.r 15 rfl, trivial⟩ ?_
        refine LM.q 8 rfl (by kernel_rfl) (Ev.pure rfl) rfl ⟨Has.r 9 rfl, Has.r 15 rfl, trivial⟩ ?_
        refine LM.q 9 rfl (by kernel_rfl) (Ev.pure rfl) rfl ⟨Has.r 9 rfl, Has.r 15 rfl, trivial⟩ ?_
        refine LM.f 11 rfl (by kernel_rfl) ⟨Has.r 9 rfl, Has.r 15 rfl, trivial⟩ ?_
        refine L.storeA (j := 0) rfl rfl rfl rfl rfl (Nat.zero_lt_succ _) rfl rfl ?_
        refine L.nil (QE.m (by kernel_rfl) ?_)
        refine LM.cut [] (by kernel_rfl) ⟨Has.r 9 rfl, Has.r 15 rfl, trivial⟩ ?_
        refine LM.f 12 rfl (by kernel_rfl) trivial ?_
        refine L.step (Ev.pure rfl) rfl ?_
        refine L.nil (QE.m (by kernel_rfl) ?_)
        refine LM.nil (by kernel_rfl) trivial ?_
        refine QE.joined ((b2, A10)) (by exact hb2) (by exact Le.mk' (rs := [6, 7, 8, 9, 10, 11, 12, 13, 14, 15, 16, 17, 18, 19, 5, 0, 1, 2, 3]) (hs := [0]) ⟨rfl, rfl, rfl, rfl, rfl, rfl, rfl, rfl, trivial⟩ ⟨rfl, rfl, rfl, rfl, rfl, rfl, rfl, rfl, rfl, rfl, rfl, rfl, rfl, rfl, rfl, rfl, rfl, rfl, rfl, trivial⟩ ⟨rfl, trivial⟩ (by decide))
    · skip
      refine L.alloc rfl rfl rfl (fun A10 => ?_)
      refine L.nil (QE.m (by kernel_rfl) ?_)
      refine LM.f 5 rfl (by kernel_rfl) ⟨Has.r 4 rfl, Has.r 10 rfl, trivial⟩ ?_
      refine L.call (js := []) (js' := [0]) (blank_c (f.size + 1) (by omega)) rfl rfl rfl (by decide) trivial rfl ?_
      rintro _ _ _ ⟨A37, rfl, rfl, rfl⟩
      refine L.nil (QE.m (by kernel_rfl) ?_)
      refine LM.f 6 rfl (by kernel_rfl) ⟨Has.r 4 rfl, Has.r 10 rfl, trivial⟩ ?_
      refine L.freeze 0 rfl [1] (by decide) (by decide) ?_
      refine L.callR (js := []) (js' := [0]) (cut_e f b ok hb x OA oc (by omega) (List.replicate (f.size + 1) 255) A37 (f.size + 1) (f.size + 1) (by rw [List.length_replicate]) (by rw [List.length_replicate]; omega) (fun _ => 255) (fun i hi => getD_rep _ _ _ _ (by omega))) rfl rfl rfl (by decide) ⟨(Has.r 6 rfl), (Has.r 7 rfl), (Has.r 8 rfl), (Has.r 9 rfl), (Has.r 10 rfl), (Has.r 0 rfl), trivial⟩ rfl ?_
      rintro _ _ _ ⟨b2, hb2, rfl, rfl, rfl⟩
      refine L.nil (QE.m (by kernel_rfl) ?_)
      refine LM.q 7 rfl (by kernel_rfl) (Ev.pure rfl) rfl ⟨Has.r 9 rfl, Has.r 15 rfl, trivial⟩ ?_
      refine LM.q 8 rfl (by kernel_rfl) (Ev.pure rfl) rfl ⟨Has.r 9 rfl, Has.r 15 rfl, trivial⟩ ?_
      refine LM.q 9 rfl (by kernel_rfl) (Ev.pure rfl) rfl ⟨Has.r 9 rfl, Has.r 15 rfl, trivial⟩ ?_
      refine LM.f 11 rfl (by kernel_rfl) ⟨Has.r 9 rfl, Has.r 15 rfl, trivial⟩ ?_
      refine L.storeA (j := 0) rfl rfl rfl rfl rfl (Nat.zero_lt_succ _) rfl rfl ?_
      refine L.nil (QE.m (by kernel_rfl) ?_)
      refine LM.cut [] (by kernel_rfl) ⟨Has.r 9 rfl, Has.r 15 rfl, trivial⟩ ?_
      refine LM.f 12 rfl (by kernel_rfl) trivial ?_
      refine L.step (Ev.pure rfl) rfl ?_
      refine L.nil (QE.m (by kernel_rfl) ?_)
      refine LM.nil (by kernel_rfl) trivial ?_
      refine QE.joined ((b2, A10)) (by exact hb2) (by exact Le.mk' (rs := [6, 7, 8, 9, 10, 11, 12, 13, 14, 15, 16, 17, 18, 19, 5, 0, 1, 2, 3]) (hs := [0]) ⟨rfl, rfl, rfl, rfl, rfl, rfl, rfl, rfl, trivial⟩ ⟨rfl, rfl, rfl, rfl, rfl, rfl, rfl, rfl, rfl, rfl, rfl, rfl, rfl, rfl, rfl, rfl, rfl, rfl, rfl, trivial⟩ ⟨rfl, trivial⟩ (by decide))
  · skip
    rintro ⟨b2, A10⟩ hb2
    dsimp only at hb2 ⊢
    refine QE.seq ?_
    refine C.seq ?_
    refine C.freeze 0 rfl [] (by decide) (by decide) ?_
    refine C.region ?_
    refine L.step (Ev.loadA rfl rfl rfl (Src.r 4 rfl) rfl rfl (by decide)) rfl ?_
    refine L.step (Ev.loadA rfl rfl rfl (Src.r 10 rfl) rfl rfl (by decide)) rfl ?_
    refine L.callR (js := []) (js' := []) (cut_e f b ok hb x OA oc (by omega) [] none 0 0 (by rfl) (Nat.zero_le _) (fun _ => 0) (fun i _ => by simp)) rfl rfl rfl (by decide) ⟨(Has.r 5 rfl), (Has.r 6 rfl), (Has.r 7 rfl), (Has.r 8 rfl), (Has.r 9 rfl), Has.nil, trivial⟩ rfl ?_
    rintro _ _ _ ⟨b3, hb3, rfl, rfl, rfl⟩
    refine L.step (Ev.pure rfl) rfl ?_
    refine L.step (Ev.pure rfl) rfl ?_
    refine L.step (Ev.pure rfl) rfl ?_
    refine L.alloc rfl rfl rfl (fun A12 => ?_)
    refine L.storeA (j := 0) rfl rfl rfl rfl rfl (Nat.zero_lt_succ _) rfl rfl ?_
    refine L.step (Ev.pure rfl) rfl ?_
    refine L.nil ?_
    refine QE.seq ?_
    refine C.seq ?_
    refine C.le (Γ' := [(3, ptrOf A3 0), (5, .bool true), (6, ptrOf A6 0), (7, ptrOf A7 0), (8, ptrOf A8 0), (9, .int .i64 (checkE f x)), (10, ptrOf A10 0), (11, .int .i64 (checkE f x)), (12, ptrOf A12 0), (13, .int .i64 (checkE f x))]) (R' := [Rd A3 [.bool er, .int .u8 (se.toNat : Int), .int .u8 (at_.toNat : Int), .slice YA data.length yc, .bool torn, .slice MA mask.length mc], Rd YA (U8 data), Rd MA (U8 mask), Rd A6 [.int .i64 (f.size : Int), .slice b.D f.data.length b.cD, .slice b.W f.wear.length b.cW, .int .i64 f.limit, .slice b.E f.dead.length b.cE], Rd b.D (rowsV b.hs (B8 f.data)), KidsR b.hs (B8 f.data), Rd b.W (I64 f.wear), Rd b.E (Bs f.dead), Rd OA (U8 x.data), Rd A7 [.int .i64 x.kind, .int .i64 x.sec, .int .i64 x.at_, .slice OA x.data.length oc], Rd b1.D (rowsV b1.hs (B8 (cutR f x (fun _ => 255)).data)), KidsR b1.hs (B8 (cutR f x (fun _ => 255)).data), Rd b1.W (I64 (cutR f x (fun _ => 255)).wear), Rd b1.E (Bs (cutR f x (fun _ => 255)).dead), Rd A8 [.int .i64 ((cutR f x (fun _ => 255)).size : Int), .slice b1.D (cutR f x (fun _ => 255)).data.length b1.cD, .slice b1.W (cutR f x (fun _ => 255)).wear.length b1.cW, .int .i64 (cutR f x (fun _ => 255)).limit, .slice b1.E (cutR f x (fun _ => 255)).dead.length b1.cE], Rd b2.D (rowsV b2.hs (B8 (cutR f x (fun _ => 255)).data)), KidsR b2.hs (B8 (cutR f x (fun _ => 255)).data), Rd b2.W (I64 (cutR f x (fun _ => 255)).wear), Rd b2.E (Bs (cutR f x (fun _ => 255)).dead), Rd A10 [.int .i64 ((cutR f x (fun _ => 255)).size : Int), .slice b2.D (cutR f x (fun _ => 255)).data.length b2.cD, .slice b2.W (cutR f x (fun _ => 255)).wear.length b2.cW, .int .i64 (cutR f x (fun _ => 255)).limit, .slice b2.E (cutR f x (fun _ => 255)).dead.length b2.cE], Rd b3.D (rowsV b3.hs (B8 (cutR f x (fun _ => 0)).data)), KidsR b3.hs (B8 (cutR f x (fun _ => 0)).data), Rd b3.W (I64 (cutR f x (fun _ => 0)).wear), Rd b3.E (Bs (cutR f x (fun _ => 0)).dead)]) (H' := [Own 32 5 A12 1 1 [.int .i64 ((cutR f x (fun _ => 0)).size : Int), .slice b3.D (cutR f x (fun _ => 0)).data.length b3.cD, .slice b3.W (cutR f x (fun _ => 0)).wear.length b3.cW, .int .i64 (cutR f x (fun _ => 0)).limit, .slice b3.E (cutR f x (fun _ => 0)).dead.length b3.cE]]) (by exact Le.mk' (rs := [5, 6, 7, 8, 9, 10, 11, 12, 13, 14, 15, 16, 17, 18, 19, 20, 21, 22, 23, 4, 0, 1, 2, 3]) (hs := [0]) ⟨rfl, rfl, rfl, rfl, rfl, rfl, rfl, rfl, rfl, rfl, trivial⟩ ⟨rfl, rfl, rfl, rfl, rfl, rfl, rfl, rfl, rfl, rfl, rfl, rfl, rfl, rfl, rfl, rfl, rfl, rfl, rfl, rfl, rfl, rfl, rfl, rfl, trivial⟩ ⟨rfl, trivial⟩ (by decide)) ?_
    refine C.freeze 0 rfl [] (by decide) (by decide) ?_
    refine C.region ?_
    refine L.step (Ev.loadA rfl rfl rfl (Src.r 4 rfl) rfl rfl (by decide)) rfl ?_
    refine L.step (Ev.loadA rfl rfl rfl (Src.r 10 rfl) rfl rfl (by decide)) rfl ?_
    refine L.step (Ev.fieldAddr rfl rfl rfl rfl rfl rfl (Src.r 1 rfl) (Nat.zero_lt_succ _) rfl) rfl ?_
    refine L.step (Ev.load rfl rfl rfl (Src.r 1 rfl) rfl) rfl ?_
    refine L.callR (js := []) (js' := []) (cut_e f b ok hb x OA oc (by omega) mask MA _ mc (by rfl) (by omega) (fun i => mask.getD i 0) (fun _ _ => rfl)) rfl rfl rfl (by decide) ⟨(Has.r 5 rfl), (Has.r 6 rfl), (Has.r 7 rfl), (Has.r 8 rfl), (Has.r 9 rfl), (Has.r 3 rfl), trivial⟩ rfl ?_
    rintro _ _ _ ⟨b4, hb4, rfl, rfl, rfl⟩
    refine L.step (Ev.pure rfl) rfl ?_
    refine L.step (Ev.pure rfl) rfl ?_
    refine L.step (Ev.pure rfl) rfl ?_
    refine L.alloc rfl rfl rfl (fun A14 => ?_)
    refine L.storeA (j := 0) rfl rfl rfl rfl rfl (Nat.zero_lt_succ _) rfl rfl ?_
    refine L.step (Ev.pure rfl) rfl ?_
    refine L.nil ?_
    refine QE.seq ?_
    refine C.seq ?_
    refine C.seq ?_
    refine C.le (Γ' := [(3, ptrOf A3 0), (5, .bool true), (6, ptrOf A6 0), (7, ptrOf A7 0), (8, ptrOf A8 0), (9, .int .i64 (checkE f x)), (10, ptrOf A10 0), (11, .int .i64 (checkE f x)), (12, ptrOf A12 0), (13, .int .i64 (checkE f x)), (14, ptrOf A14 0), (15, .int .i64 (checkE f x))]) (R' := [Rd A3 [.bool er, .int .u8 (se.toNat : Int), .int .u8 (at_.toNat : Int), .slice YA data.length yc, .bool torn, .slice MA mask.length mc], Rd YA (U8 data), Rd MA (U8 mask), Rd A6 [.int .i64 (f.size : Int), .slice b.D f.data.length b.cD, .slice b.W f.wear.length b.cW, .int .i64 f.limit, .slice b.E f.dead.length b.cE], Rd b.D (rowsV b.hs (B8 f.data)), KidsR b.hs (B8 f.data), Rd b.W (I64 f.wear), Rd b.E (Bs f.dead), Rd OA (U8 x.data), Rd A7 [.int .i64 x.kind, .int .i64 x.sec, .int .i64 x.at_, .slice OA x.data.length oc], Rd b1.D (rowsV b1.hs (B8 (cutR f x (fun _ => 255)).data)), KidsR b1.hs (B8 (cutR f x (fun _ => 255)).data), Rd b1.W (I64 (cutR f x (fun _ => 255)).wear), Rd b1.E (Bs (cutR f x (fun _ => 255)).dead), Rd A8 [.int .i64 ((cutR f x (fun _ => 255)).size : Int), .slice b1.D (cutR f x (fun _ => 255)).data.length b1.cD, .slice b1.W (cutR f x (fun _ => 255)).wear.length b1.cW, .int .i64 (cutR f x (fun _ => 255)).limit, .slice b1.E (cutR f x (fun _ => 255)).dead.length b1.cE], Rd b2.D (rowsV b2.hs (B8 (cutR f x (fun _ => 255)).data)), KidsR b2.hs (B8 (cutR f x (fun _ => 255)).data), Rd b2.W (I64 (cutR f x (fun _ => 255)).wear), Rd b2.E (Bs (cutR f x (fun _ => 255)).dead), Rd A10 [.int .i64 ((cutR f x (fun _ => 255)).size : Int), .slice b2.D (cutR f x (fun _ => 255)).data.length b2.cD, .slice b2.W (cutR f x (fun _ => 255)).wear.length b2.cW, .int .i64 (cutR f x (fun _ => 255)).limit, .slice b2.E (cutR f x (fun _ => 255)).dead.length b2.cE], Rd b3.D (rowsV b3.hs (B8 (cutR f x (fun _ => 0)).data)), KidsR b3.hs (B8 (cutR f x (fun _ => 0)).data), Rd b3.W (I64 (cutR f x (fun _ => 0)).wear), Rd b3.E (Bs (cutR f x (fun _ => 0)).dead), Rd A12 [.int .i64 ((cutR f x (fun _ => 0)).size : Int), .slice b3.D (cutR f x (fun _ => 0)).data.length b3.cD, .slice b3.W (cutR f x (fun _ => 0)).wear.length b3.cW, .int .i64 (cutR f x (fun _ => 0)).limit, .slice b3.E (cutR f x (fun _ => 0)).dead.length b3.cE], Rd b4.D (rowsV b4.hs (B8 (cutR f x (fun i => mask.getD i 0)).data)), KidsR b4.hs (B8 (cutR f x (fun i => mask.getD i 0)).data), Rd b4.W (I64 (cutR f x (fun i => mask.getD i 0)).wear), Rd b4.E (Bs (cutR f x (fun i => mask.getD i 0)).dead)]) (H' := [Own 32 5 A14 1 1 [.int .i64 ((cutR f x (fun i => mask.getD i 0)).size : Int), .slice b4.D (cutR f x (fun i => mask.getD i 0)).data.length b4.cD, .slice b4.W (cutR f x (fun i => mask.getD i 0)).wear.length b4.cW, .int .i64 (cutR f x (fun i => mask.getD i 0)).limit, .slice b4.E (cutR f x (fun i => mask.getD i 0)).dead.length b4.cE]]) (by exact Le.mk' (rs := [5, 6, 7, 8, 9, 10, 11, 12, 13, 14, 15, 16, 17, 18, 19, 20, 21, 22, 23, 24, 25, 26, 27, 28, 4, 0, 1, 2, 3]) (hs := [0]) ⟨rfl, rfl, rfl, rfl, rfl, rfl, rfl, rfl, rfl, rfl, rfl, rfl, trivial⟩ ⟨rfl, rfl, rfl, rfl, rfl, rfl, rfl, rfl, rfl, rfl, rfl, rfl, rfl, rfl, rfl, rfl, rfl, rfl, rfl, rfl, rfl, rfl, rfl, rfl, rfl, rfl, rfl, rfl, rfl, trivial⟩ ⟨rfl, trivial⟩ (by decide)) ?_
    refine C.freeze 0 rfl [] (by decide) (by decide) ?_
    refine C.region ?_
    refine L.step (Ev.pure rfl) rfl ?_
    refine L.step (Ev.pure rfl) rfl ?_
    refine L.step (Ev.pure rfl) rfl ?_
    refine L.step (Ev.pure rfl) rfl ?_
    refine L.bool 58 rfl (fun hg58 => ?_) (fun hg58 => ?_)
    · skip
      replace hg58 := b_ne hg58
      exact (hg58 rfl).elim
    · skip
      replace hg58 := b_eq hg58
      refine L.yes rfl ?_
      refine L.step (Ev.pure rfl) rfl ?_
      refine L.yes rfl ?_
      refine L.step (Ev.pure rfl) rfl ?_
      refine L.yes rfl ?_
      refine L.step (Ev.pure rfl) rfl ?_
      refine L.step (Ev.pure rfl) rfl ?_
      refine L.step (Ev.pure rfl) rfl ?_
      refine L.bool 63 rfl (fun hg63 => ?_) (fun hg63 => ?_)
      · skip
        replace hg63 := b_ne hg63
        exact (hg63 rfl).elim
      · skip
        replace hg63 := b_eq hg63
        refine L.yes rfl ?_
        refine L.step (Ev.pure rfl) rfl ?_
        refine L.yes rfl ?_
        refine L.step (Ev.pure rfl) rfl ?_
        refine L.yes rfl ?_
        refine L.step (Ev.pure rfl) rfl ?_
        refine L.step (Ev.pure rfl) rfl ?_
        refine L.nil ?_
        refine QE.seq ?_
        refine C.condB 67 rfl (fun hc67 => ?_) (fun hc67 => ?_)
        · skip
          replace hc67 := b_ne hc67
          exact (hc67 rfl).elim
        · skip
          replace hc67 := b_eq hc67
          refine C.skip ?_
          refine QE.seq ?_
          refine C.seq ?_
          refine C.seq ?_
          refine C.region ?_
          refine L.step (Ev.pure rfl) rfl ?_
          refine L.step (Ev.pure rfl) rfl ?_
          refine L.nil ?_
          refine QE.seq ?_
          refine C.condB 69 rfl (fun hc69 => ?_) (fun hc69 => ?_)
          · skip
            replace hc69 := b_ne hc69
            refine C.seq ?_
            refine C.region ?_
            refine L.step (Ev.pure rfl) rfl ?_
            refine L.step (Ev.pure rfl) rfl ?_
            refine L.step (Ev.pure rfl) rfl ?_
            refine L.bool 72 rfl (fun hg72 => ?_) (fun hg72 => ?_)
            · skip
              replace hg72 := i_eq hg72
              refine L.no rfl rfl rfl ?_
              refine L.no rfl rfl rfl ?_
              refine L.step (Ev.pure rfl) rfl ?_
              refine L.step (Ev.pure rfl) rfl ?_
              refine L.yes rfl ?_
              refine L.step (Ev.pure rfl) rfl ?_
              refine L.step (Ev.pure rfl) rfl ?_
              refine L.step (Ev.pure rfl) rfl ?_
              refine L.nil ?_
              refine QE.seq ?_
              refine C.ret ?_
              refine QE.tR ?_
              refine QE.ret (js := []) (hs := []) (vs := [_]) rfl ⟨rfl, trivial⟩ (by decide) ?_
              exact ⟨rfl, rfl, rfl⟩
            · skip
              replace hg72 := i_ne hg72
              refine L.yes rfl ?_
              refine L.step (Ev.pure rfl) rfl ?_
              refine L.yes rfl ?_
              refine L.step (Ev.pure rfl) rfl ?_
              refine L.step (Ev.pure rfl) rfl ?_
              refine L.step (Ev.pure rfl) rfl ?_
              refine L.bool 76 rfl (fun hg76 => ?_) (fun hg76 => ?_)
              · skip
                replace hg76 := i_eq hg76
                refine L.yes rfl ?_
                refine L.step (Ev.pure rfl) rfl ?_
                refine L.step (Ev.pure rfl) rfl ?_
                refine L.step (Ev.pure rfl) rfl ?_
                refine L.nil ?_
                refine QE.seq ?_
                refine C.ret ?_
                refine QE.tR ?_
                refine QE.ret (js := []) (hs := []) (vs := [_]) rfl ⟨rfl, trivial⟩ (by decide) ?_
                exact ⟨rfl, rfl, rfl⟩
              · skip
                replace hg76 := i_ne hg76
                exact (gx.err.elim hc69 (fun h => h.elim (fun q => hg72 q.1) (fun q => hg76 q.1))).elim
          · skip
            replace hc69 := b_eq hc69
            have hE := hc69
            obtain ⟨ok1, hn1, hs1, hl1, hw1, he1, hd1, hr1⟩ := cutR_kept (x := x) ok hE (fun _ => 255)
            replace hr1 := hr1 x.sec.toNat gx.lt
            have ht1 := gx.lt
            rw [← hn1] at ht1
            have hv1 := gx.lt
            rw [← hw1] at hv1
            have hL1 := len_big hr1 hsz
            obtain ⟨ok3, hn3, hs3, hl3, hw3, he3, hd3, hr3⟩ := cutR_kept (x := x) ok hE (fun _ => 0)
            replace hr3 := hr3 x.sec.toNat gx.lt
            have ht3 := gx.lt
            rw [← hn3] at ht3
            have hv3 := gx.lt
            rw [← hw3] at hv3
            have hL3 := len_big hr3 hsz
            obtain ⟨ok4, hn4, hs4, hl4, hw4, he4, hd4, hr4⟩ := cutR_kept (x := x) ok hE (fun i => mask.getD i 0)
            replace hr4 := hr4 x.sec.toNat gx.lt
            have ht4 := gx.lt
            rw [← hn4] at ht4
            have hv4 := gx.lt
            rw [← hw4] at hv4
            have hL4 := len_big hr4 hsz
            refine C.skip ?_
            refine QE.seq ?_
            refine C.seq ?_
            refine C.seq ?_
            refine C.le (Γ' := [(3, ptrOf A3 0), (5, .bool true), (6, ptrOf A6 0), (7, ptrOf A7 0), (8, ptrOf A8 0), (10, ptrOf A10 0), (12, ptrOf A12 0), (14, ptrOf A14 0)]) (R' := [Rd A3 [.bool er, .int .u8 (se.toNat : Int), .int .u8 (at_.toNat : Int), .slice YA data.length yc, .bool torn, .slice MA mask.length mc], Rd MA (U8 mask), Rd A6 [.int .i64 (f.size : Int), .slice b.D f.data.length b.cD, .slice b.W f.wear.length b.cW, .int .i64 f.limit, .slice b.E f.dead.length b.cE], Rd b.D (rowsV b.hs (B8 f.data)), KidsR b.hs (B8 f.data), Rd b1.D (rowsV b1.hs (B8 (cutR f x (fun _ => 255)).data)), KidsR b1.hs (B8 (cutR f x (fun _ => 255)).data), Rd b1.W (I64 (cutR f x (fun _ => 255)).wear), Rd b1.E (Bs (cutR f x (fun _ => 255)).dead), Rd A8 [.int .i64 ((cutR f x (fun _ => 255)).size : Int), .slice b1.D (cutR f x (fun _ => 255)).data.length b1.cD, .slice b1.W (cutR f x (fun _ => 255)).wear.length b1.cW, .int .i64 (cutR f x (fun _ => 255)).limit, .slice b1.E (cutR f x (fun _ => 255)).dead.length b1.cE], Rd b2.D (rowsV b2.hs (B8 (cutR f x (fun _ => 255)).data)), KidsR b2.hs (B8 (cutR f x (fun _ => 255)).data), Rd b2.W (I64 (cutR f x (fun _ => 255)).wear), Rd b2.E (Bs (cutR f x (fun _ => 255)).dead), Rd A10 [.int .i64 ((cutR f x (fun _ => 255)).size : Int), .slice b2.D (cutR f x (fun _ => 255)).data.length b2.cD, .slice b2.W (cutR f x (fun _ => 255)).wear.length b2.cW, .int .i64 (cutR f x (fun _ => 255)).limit, .slice b2.E (cutR f x (fun _ => 255)).dead.length b2.cE], Rd b3.D (rowsV b3.hs (B8 (cutR f x (fun _ => 0)).data)), KidsR b3.hs (B8 (cutR f x (fun _ => 0)).data), Rd b3.W (I64 (cutR f x (fun _ => 0)).wear), Rd b3.E (Bs (cutR f x (fun _ => 0)).dead), Rd A12 [.int .i64 ((cutR f x (fun _ => 0)).size : Int), .slice b3.D (cutR f x (fun _ => 0)).data.length b3.cD, .slice b3.W (cutR f x (fun _ => 0)).wear.length b3.cW, .int .i64 (cutR f x (fun _ => 0)).limit, .slice b3.E (cutR f x (fun _ => 0)).dead.length b3.cE], Rd b4.D (rowsV b4.hs (B8 (cutR f x (fun i => mask.getD i 0)).data)), KidsR b4.hs (B8 (cutR f x (fun i => mask.getD i 0)).data), Rd b4.W (I64 (cutR f x (fun i => mask.getD i 0)).wear), Rd b4.E (Bs (cutR f x (fun i => mask.getD i 0)).dead), Rd A14 [.int .i64 ((cutR f x (fun i => mask.getD i 0)).size : Int), .slice b4.D (cutR f x (fun i => mask.getD i 0)).data.length b4.cD, .slice b4.W (cutR f x (fun i => mask.getD i 0)).wear.length b4.cW, .int .i64 (cutR f x (fun i => mask.getD i 0)).limit, .slice b4.E (cutR f x (fun i => mask.getD i 0)).dead.length b4.cE], Rd A7 [.int .i64 x.kind, .int .i64 x.sec, .int .i64 x.at_, .slice OA x.data.length oc]]) (H' := []) (by exact Le.mk' (rs := [1, 3, 4, 5, 6, 11, 12, 13, 14, 15, 16, 17, 18, 19, 20, 21, 22, 23, 24, 25, 26, 27, 28, 29, 0, 10]) (hs := []) ⟨rfl, rfl, rfl, rfl, rfl, rfl, rfl, rfl, trivial⟩ ⟨rfl, rfl, rfl, rfl, rfl, rfl, rfl, rfl, rfl, rfl, rfl, rfl, rfl, rfl, rfl, rfl, rfl, rfl, rfl, rfl, rfl, rfl, rfl, rfl, rfl, rfl, trivial⟩ trivial (by decide)) ?_
            refine C.region ?_
            refine L.step (Ev.loadA rfl rfl rfl (Src.r 14 rfl) rfl rfl (by decide)) rfl ?_
            refine L.step (Ev.loadA rfl rfl rfl (Src.r 9 rfl) rfl rfl (by decide)) rfl ?_
            refine L.call (js := []) (js' := []) (Ctr.tb true (sameF_c (cutR f x (fun _ => 255)) (cutR f x (fun _ => 255)) b2 b1 (cutR_sm ok) (cutR_sm ok) hb2 hb1) (decide_eq_true rfl)) rfl rfl rfl (by decide) ⟨(Has.r 10 rfl), (Has.r 11 rfl), (Has.r 12 rfl), (Has.r 13 rfl), (Has.r 5 rfl), (Has.r 6 rfl), (Has.r 7 rfl), (Has.r 8 rfl), trivial⟩ rfl ?_
            rintro _ _ _ ⟨rfl, rfl, rfl⟩
            refine L.step (Ev.pure rfl) rfl ?_
            refine L.step (Ev.pure rfl) rfl ?_
            refine L.yes rfl ?_
            refine L.step (Ev.loadA rfl rfl rfl (Src.r 9 rfl) rfl rfl (by decide)) rfl ?_
            refine L.yes rfl ?_
            refine L.call (js := []) (js' := []) (Ctr.tb true (valid17_c ((cutR f x (fun _ => 255)).size : Int) (cutR f x (fun _ => 255)) b1 hb1 (by have := ok1.n2; omega)) (okB_ok ok1)) rfl rfl rfl (by decide) ⟨(Has.r 5 rfl), (Has.r 6 rfl), (Has.r 7 rfl), (Has.r 8 rfl), trivial⟩ rfl ?_
            rintro _ _ _ ⟨rfl, rfl, rfl⟩
            refine L.yes rfl ?_
            refine L.step (Ev.pure rfl) rfl ?_
            refine L.step (Ev.pure rfl) rfl ?_
            refine L.step (Ev.pure rfl) rfl ?_
            refine L.yes rfl ?_
            refine L.step (Ev.loadA rfl rfl rfl (Src.r 19 rfl) rfl rfl (by decide)) rfl ?_
            refine L.yes rfl ?_
            refine L.call (js := []) (js' := []) (Ctr.tb true (valid17_c ((cutR f x (fun _ => 0)).size : Int) (cutR f x (fun _ => 0)) b3 hb3 (by have := ok3.n2; omega)) (okB_ok ok3)) rfl rfl rfl (by decide) ⟨(Has.r 15 rfl), (Has.r 16 rfl), (Has.r 17 rfl), (Has.r 18 rfl), trivial⟩ rfl ?_
            rintro _ _ _ ⟨rfl, rfl, rfl⟩
            refine L.yes rfl ?_
            refine L.step (Ev.pure rfl) rfl ?_
            refine L.step (Ev.pure rfl) rfl ?_
            refine L.step (Ev.pure rfl) rfl ?_
            refine L.yes rfl ?_
            refine L.step (Ev.loadA rfl rfl rfl (Src.r 24 rfl) rfl rfl (by decide)) rfl ?_
            refine L.yes rfl ?_
            refine L.call (js := []) (js' := []) (Ctr.tb true (valid17_c ((cutR f x (fun i => mask.getD i 0)).size : Int) (cutR f x (fun i => mask.getD i 0)) b4 hb4 (by have := ok4.n2; omega)) (okB_ok ok4)) rfl rfl rfl (by decide) ⟨(Has.r 20 rfl), (Has.r 21 rfl), (Has.r 22 rfl), (Has.r 23 rfl), trivial⟩ rfl ?_
            rintro _ _ _ ⟨rfl, rfl, rfl⟩
            refine L.yes rfl ?_
            refine L.step (Ev.pure rfl) rfl ?_
            refine L.step (Ev.pure rfl) rfl ?_
            refine L.step (Ev.pure rfl) rfl ?_
            refine L.yes rfl ?_
            refine L.step (Ev.fieldAddr rfl rfl rfl rfl rfl rfl (Src.r 19 rfl) (Nat.zero_lt_succ _) rfl) rfl ?_
            refine L.yes rfl ?_
            refine L.step (Ev.load rfl rfl rfl (Src.r 19 rfl) rfl) rfl ?_
            refine L.yes rfl ?_
            refine L.step (Ev.pure rfl) rfl ?_
            refine L.yes rfl ?_
            refine L.step (Ev.fieldAddr rfl rfl rfl rfl rfl rfl (Src.r 2 rfl) (Nat.zero_lt_succ _) rfl) rfl ?_
            refine L.yes rfl ?_
            refine L.step (Ev.load rfl rfl rfl (Src.r 2 rfl) rfl) rfl ?_
            refine L.yes rfl ?_
            refine L.step (Ev.pure rfl) rfl ?_
            refine L.yes rfl ?_
            refine L.step (Ev.pure rfl) rfl ?_
            refine L.step (Ev.pure rfl) rfl ?_
            refine L.step (Ev.pure rfl) rfl ?_
            refine L.bool 107 rfl (fun hg107 => ?_) (fun hg107 => ?_)
            · skip
              replace hg107 := b_ne hg107
              exact (hg107 (congrArg Nat.cast hn3)).elim
            · skip
              replace hg107 := b_eq hg107
              refine L.yes rfl ?_
              refine L.step (Ev.fieldAddr rfl rfl rfl rfl rfl rfl (Src.r 24 rfl) (Nat.zero_lt_succ _) rfl) rfl ?_
              refine L.yes rfl ?_
              refine L.step (Ev.load rfl rfl rfl (Src.r 24 rfl) rfl) rfl ?_
              refine L.yes rfl ?_
              refine L.step (Ev.pure rfl) rfl ?_
              refine L.yes rfl ?_
              refine L.step (Ev.fieldAddr rfl rfl rfl rfl rfl rfl (Src.r 2 rfl) (Nat.zero_lt_succ _) rfl) rfl ?_
              refine L.yes rfl ?_
              refine L.step (Ev.load rfl rfl rfl (Src.r 2 rfl) rfl) rfl ?_
              refine L.yes rfl ?_
              refine L.step (Ev.pure rfl) rfl ?_
              refine L.yes rfl ?_
              refine L.step (Ev.pure rfl) rfl ?_
              refine L.step (Ev.pure rfl) rfl ?_
              refine L.step (Ev.pure rfl) rfl ?_
              refine L.bool 116 rfl (fun hg116 => ?_) (fun hg116 => ?_)
              · skip
                replace hg116 := b_ne hg116
                exact (hg116 (congrArg Nat.cast hn4)).elim
              · skip
                replace hg116 := b_eq hg116
                refine L.yes rfl ?_
                refine L.step (Ev.fieldAddr rfl rfl rfl rfl rfl rfl (Src.r 24 rfl) (Nat.zero_lt_succ _) rfl) rfl ?_
                refine L.yes rfl ?_
                refine L.step (Ev.load rfl rfl rfl (Src.r 24 rfl) rfl) rfl ?_
                refine L.yes rfl ?_
                refine L.step (Ev.fieldAddr rfl rfl rfl rfl rfl rfl (Src.r 2 rfl) (Nat.zero_lt_succ _) rfl) rfl ?_
                refine L.yes rfl ?_
                refine L.step (Ev.load rfl rfl rfl (Src.r 2 rfl) rfl) rfl ?_
                refine L.yes rfl ?_
                refine L.step (Ev.pure rfl) rfl ?_
                refine L.step (Ev.pure rfl) rfl ?_
                refine L.step (Ev.pure rfl) rfl ?_
                refine L.bool 123 rfl (fun hg123 => ?_) (fun hg123 => ?_)
                · skip
                  replace hg123 := b_ne hg123
                  exact (hg123 (congrArg Nat.cast hs4)).elim
                · skip
                  replace hg123 := b_eq hg123
                  refine L.yes rfl ?_
                  refine L.step (Ev.fieldAddr rfl rfl rfl rfl rfl rfl (Src.r 9 rfl) (Nat.zero_lt_succ _) rfl) rfl ?_
                  refine L.yes rfl ?_
                  refine L.step (Ev.load rfl rfl rfl (Src.r 9 rfl) rfl) rfl ?_
                  refine L.yes rfl ?_
                  refine L.step (Ev.fieldAddr rfl rfl rfl rfl rfl rfl (Src.r 2 rfl) (Nat.zero_lt_succ _) rfl) rfl ?_
                  refine L.yes rfl ?_
                  refine L.step (Ev.load rfl rfl rfl (Src.r 2 rfl) rfl) rfl ?_
                  refine L.yes rfl ?_
                  refine L.step (Ev.pure rfl) rfl ?_
                  refine L.step (Ev.pure rfl) rfl ?_
                  refine L.step (Ev.pure rfl) rfl ?_
                  refine L.bool 130 rfl (fun hg130 => ?_) (fun hg130 => ?_)
                  · skip
                    replace hg130 := b_ne hg130
                    exact (hg130 (congrArg Nat.cast hs1)).elim
                  · skip
                    replace hg130 := b_eq hg130
                    refine L.yes rfl ?_
                    refine L.step (Ev.fieldAddr rfl rfl rfl rfl rfl rfl (Src.r 9 rfl) (Nat.zero_lt_succ _) rfl) rfl ?_
                    refine L.yes rfl ?_
                    refine L.step (Ev.load rfl rfl rfl (Src.r 9 rfl) rfl) rfl ?_
                    refine L.yes rfl ?_
                    refine L.step (Ev.pure rfl) rfl ?_
                    refine L.yes rfl ?_
                    refine L.step (Ev.fieldAddr rfl rfl rfl rfl rfl rfl (Src.r 2 rfl) (Nat.zero_lt_succ _) rfl) rfl ?_
                    refine L.yes rfl ?_
                    refine L.step (Ev.load rfl rfl rfl (Src.r 2 rfl) rfl) rfl ?_
                    refine L.yes rfl ?_
                    refine L.step (Ev.pure rfl) rfl ?_
                    refine L.yes rfl ?_
                    refine L.step (Ev.pure rfl) rfl ?_
                    refine L.step (Ev.pure rfl) rfl ?_
                    refine L.nil ?_
                    refine QE.seq ?_
                    refine C.condB 138 rfl (fun hc138 => ?_) (fun hc138 => ?_)
                    · skip
                      replace hc138 := b_ne hc138
                      exact (hc138 (congrArg Nat.cast hn1)).elim
                    · skip
                      replace hc138 := b_eq hc138
                      refine C.skip ?_
                      refine QE.seq ?_
                      refine C.seq ?_
                      refine C.le (Γ' := [(3, ptrOf A3 0), (5, .bool true), (6, ptrOf A6 0), (8, ptrOf A8 0), (12, ptrOf A12 0), (14, ptrOf A14 0), (7, ptrOf A7 0)]) (R' := [Rd A3 [.bool er, .int .u8 (se.toNat : Int), .int .u8 (at_.toNat : Int), .slice YA data.length yc, .bool torn, .slice MA mask.length mc], Rd MA (U8 mask), Rd A6 [.int .i64 (f.size : Int), .slice b.D f.data.length b.cD, .slice b.W f.wear.length b.cW, .int .i64 f.limit, .slice b.E f.dead.length b.cE], Rd b.D (rowsV b.hs (B8 f.data)), KidsR b.hs (B8 f.data), Rd b1.D (rowsV b1.hs (B8 (cutR f x (fun _ => 255)).data)), KidsR b1.hs (B8 (cutR f x (fun _ => 255)).data), Rd b1.W (I64 (cutR f x (fun _ => 255)).wear), Rd A8 [.int .i64 ((cutR f x (fun _ => 255)).size : Int), .slice b1.D (cutR f x (fun _ => 255)).data.length b1.cD, .slice b1.W (cutR f x (fun _ => 255)).wear.length b1.cW, .int .i64 (cutR f x (fun _ => 255)).limit, .slice b1.E (cutR f x (fun _ => 255)).dead.length b1.cE], Rd b3.D (rowsV b3.hs (B8 (cutR f x (fun _ => 0)).data)), KidsR b3.hs (B8 (cutR f x (fun _ => 0)).data), Rd b3.W (I64 (cutR f x (fun _ => 0)).wear), Rd A12 [.int .i64 ((cutR f x (fun _ => 0)).size : Int), .slice b3.D (cutR f x (fun _ => 0)).data.length b3.cD, .slice b3.W (cutR f x (fun _ => 0)).wear.length b3.cW, .int .i64 (cutR f x (fun _ => 0)).limit, .slice b3.E (cutR f x (fun _ => 0)).dead.length b3.cE], Rd b4.D (rowsV b4.hs (B8 (cutR f x (fun i => mask.getD i 0)).data)), KidsR b4.hs (B8 (cutR f x (fun i => mask.getD i 0)).data), Rd b4.W (I64 (cutR f x (fun i => mask.getD i 0)).wear), Rd A14 [.int .i64 ((cutR f x (fun i => mask.getD i 0)).size : Int), .slice b4.D (cutR f x (fun i => mask.getD i 0)).data.length b4.cD, .slice b4.W (cutR f x (fun i => mask.getD i 0)).wear.length b4.cW, .int .i64 (cutR f x (fun i => mask.getD i 0)).limit, .slice b4.E (cutR f x (fun i => mask.getD i 0)).dead.length b4.cE], Rd A7 [.int .i64 x.kind, .int .i64 x.sec, .int .i64 x.at_, .slice OA x.data.length oc]]) (H' := []) (by exact Le.mk' (rs := [0, 1, 2, 3, 4, 5, 6, 7, 9, 15, 16, 17, 19, 20, 21, 22, 24, 25]) (hs := []) ⟨rfl, rfl, rfl, rfl, rfl, rfl, rfl, trivial⟩ ⟨rfl, rfl, rfl, rfl, rfl, rfl, rfl, rfl, rfl, rfl, rfl, rfl, rfl, rfl, rfl, rfl, rfl, rfl, trivial⟩ trivial (by decide)) ?_
                      refine C.region ?_
                      refine L.step (Ev.fieldAddr rfl rfl rfl rfl rfl rfl (Src.r 17 rfl) (Nat.zero_lt_succ _) rfl) rfl ?_
                      refine L.step (Ev.load rfl rfl rfl (Src.r 17 rfl) rfl) rfl ?_
                      refine L.step (Ev.pure rfl) rfl ?_
                      refine L.nil ?_
                      refine QE.seq ?_
                      refine C.seq ?_
                      refine C.seq ?_
                      refine C.le (Γ' := [(3, ptrOf A3 0), (5, .bool true), (6, ptrOf A6 0), (8, ptrOf A8 0), (12, ptrOf A12 0), (14, ptrOf A14 0), (16, .int .i64 x.sec)]) (R' := [Rd A3 [.bool er, .int .u8 (se.toNat : Int), .int .u8 (at_.toNat : Int), .slice YA data.length yc, .bool torn, .slice MA mask.length mc], Rd MA (U8 mask), Rd A6 [.int .i64 (f.size : Int), .slice b.D f.data.length b.cD, .slice b.W f.wear.length b.cW, .int .i64 f.limit, .slice b.E f.dead.length b.cE], Rd b.D (rowsV b.hs (B8 f.data)), KidsR b.hs (B8 f.data), Rd b1.D (rowsV b1.hs (B8 (cutR f x (fun _ => 255)).data)), KidsR b1.hs (B8 (cutR f x (fun _ => 255)).data), Rd b1.W (I64 (cutR f x (fun _ => 255)).wear), Rd A8 [.int .i64 ((cutR f x (fun _ => 255)).size : Int), .slice b1.D (cutR f x (fun _ => 255)).data.length b1.cD, .slice b1.W (cutR f x (fun _ => 255)).wear.length b1.cW, .int .i64 (cutR f x (fun _ => 255)).limit, .slice b1.E (cutR f x (fun _ => 255)).dead.length b1.cE], Rd b3.D (rowsV b3.hs (B8 (cutR f x (fun _ => 0)).data)), KidsR b3.hs (B8 (cutR f x (fun _ => 0)).data), Rd b3.W (I64 (cutR f x (fun _ => 0)).wear), Rd A12 [.int .i64 ((cutR f x (fun _ => 0)).size : Int), .slice b3.D (cutR f x (fun _ => 0)).data.length b3.cD, .slice b3.W (cutR f x (fun _ => 0)).wear.length b3.cW, .int .i64 (cutR f x (fun _ => 0)).limit, .slice b3.E (cutR f x (fun _ => 0)).dead.length b3.cE], Rd b4.D (rowsV b4.hs (B8 (cutR f x (fun i => mask.getD i 0)).data)), KidsR b4.hs (B8 (cutR f x (fun i => mask.getD i 0)).data), Rd b4.W (I64 (cutR f x (fun i => mask.getD i 0)).wear), Rd A14 [.int .i64 ((cutR f x (fun i => mask.getD i 0)).size : Int), .slice b4.D (cutR f x (fun i => mask.getD i 0)).data.length b4.cD, .slice b4.W (cutR f x (fun i => mask.getD i 0)).wear.length b4.cW, .int .i64 (cutR f x (fun i => mask.getD i 0)).limit, .slice b4.E (cutR f x (fun i => mask.getD i 0)).dead.length b4.cE]]) (H' := []) (by exact Le.mk' (rs := [0, 1, 2, 3, 4, 5, 6, 7, 8, 9, 10, 11, 12, 13, 14, 15, 16]) (hs := []) ⟨rfl, rfl, rfl, rfl, rfl, rfl, rfl, trivial⟩ ⟨rfl, rfl, rfl, rfl, rfl, rfl, rfl, rfl, rfl, rfl, rfl, rfl, rfl, rfl, rfl, rfl, rfl, trivial⟩ trivial (by decide)) ?_
                      refine C.region ?_
                      refine L.step (Ev.pure rfl) rfl ?_
                      refine L.nil ?_
                      refine QE.seq ?_
                      refine C.block ?_
                      refine C.loop (fun k : Nat => [(3, ptrOf A3 0), (5, .bool true), (6, ptrOf A6 0), (8, ptrOf A8 0), (12, ptrOf A12 0), (14, ptrOf A14 0), (16, .int .i64 x.sec), (17, .int .i64 (k : Int))]) (fun k : Nat => [Rd A3 [.bool er, .int .u8 (se.toNat : Int), .int .u8 (at_.toNat : Int), .slice YA data.length yc, .bool torn, .slice MA mask.length mc], Rd MA (U8 mask), Rd A6 [.int .i64 (f.size : Int), .slice b.D f.data.length b.cD, .slice b.W f.wear.length b.cW, .int .i64 f.limit, .slice b.E f.dead.length b.cE], Rd b.D (rowsV b.hs (B8 f.data)), KidsR b.hs (B8 f.data), Rd b1.D (rowsV b1.hs (B8 (cutR f x (fun _ => 255)).data)), KidsR b1.hs (B8 (cutR f x (fun _ => 255)).data), Rd b1.W (I64 (cutR f x (fun _ => 255)).wear), Rd A8 [.int .i64 ((cutR f x (fun _ => 255)).size : Int), .slice b1.D (cutR f x (fun _ => 255)).data.length b1.cD, .slice b1.W (cutR f x (fun _ => 255)).wear.length b1.cW, .int .i64 (cutR f x (fun _ => 255)).limit, .slice b1.E (cutR f x (fun _ => 255)).dead.length b1.cE], Rd b3.D (rowsV b3.hs (B8 (cutR f x (fun _ => 0)).data)), KidsR b3.hs (B8 (cutR f x (fun _ => 0)).data), Rd b3.W (I64 (cutR f x (fun _ => 0)).wear), Rd A12 [.int .i64 ((cutR f x (fun _ => 0)).size : Int), .slice b3.D (cutR f x (fun _ => 0)).data.length b3.cD, .slice b3.W (cutR f x (fun _ => 0)).wear.length b3.cW, .int .i64 (cutR f x (fun _ => 0)).limit, .slice b3.E (cutR f x (fun _ => 0)).dead.length b3.cE], Rd b4.D (rowsV b4.hs (B8 (cutR f x (fun i => mask.getD i 0)).data)), KidsR b4.hs (B8 (cutR f x (fun i => mask.getD i 0)).data), Rd b4.W (I64 (cutR f x (fun i => mask.getD i 0)).wear), Rd A14 [.int .i64 ((cutR f x (fun i => mask.getD i 0)).size : Int), .slice b4.D (cutR f x (fun i => mask.getD i 0)).data.length b4.cD, .slice b4.W (cutR f x (fun i => mask.getD i 0)).wear.length b4.cW, .int .i64 (cutR f x (fun i => mask.getD i 0)).limit, .slice b4.E (cutR f x (fun i => mask.getD i 0)).dead.length b4.cE]]) (fun k : Nat => []) (fun k : Nat => k ≤ f.size) (fun k : Nat => f.size - k) 0 (Nat.zero_le _) (by exact Le.mk' (rs := [0, 1, 2, 3, 4, 5, 6, 7, 8, 9, 10, 11, 12, 13, 14, 15, 16]) (hs := []) ⟨rfl, rfl, rfl, rfl, rfl, rfl, rfl, rfl, trivial⟩ ⟨rfl, rfl, rfl, rfl, rfl, rfl, rfl, rfl, rfl, rfl, rfl, rfl, rfl, rfl, rfl, rfl, rfl, trivial⟩ trivial (by decide)) ?_
                      rintro k hkz
                      refine C.seq ?_
                      refine C.seq ?_
                      refine C.region ?_
                      refine L.step (Ev.pure rfl) rfl ?_
                      refine L.step (Ev.fieldAddr rfl rfl rfl rfl rfl rfl (Src.r 2 rfl) (Nat.zero_lt_succ _) rfl) rfl ?_
                      refine L.step (Ev.load rfl rfl rfl (Src.r 2 rfl) rfl) rfl ?_
                      refine L.step (Ev.pure rfl) rfl ?_
                      refine L.nil ?_
                      refine QE.seq ?_
                      refine C.condB 144 rfl (fun hc144 => ?_) (fun hc144 => ?_)
                      · skip
                        replace hc144 := of_decide_eq_true hc144
                        have hkf : k < f.size := Int.ofNat_lt.1 hc144
                        have hk := hkf
                        rw [← hrow] at hk
                        have hk1 := hkf
                        rw [← hr1] at hk1
                        have hk4 := hkf
                        rw [← hr4] at hk4
                        refine C.skip ?_
                        refine QE.seq ?_
                        refine C.seq ?_
                        refine C.block ?_
                        refine C.seq ?_
                        refine C.region ?_
                        refine L.step (Ev.pure rfl) rfl ?_
                        refine L.nil ?_
                        refine QE.seq ?_
                        refine C.seqJ (fun q : UInt8 => [(3, ptrOf A3 0), (5, .bool true), (6, ptrOf A6 0), (8, ptrOf A8 0), (12, ptrOf A12 0), (14, ptrOf A14 0), (16, .int .i64 x.sec), (17, .int .i64 (k : Int)), (18, .int .u8 (q.toNat : Int))]) (fun q : UInt8 => [Rd A3 [.bool er, .int .u8 (se.toNat : Int), .int .u8 (at_.toNat : Int), .slice YA data.length yc, .bool torn, .slice MA mask.length mc], Rd MA (U8 mask), Rd A6 [.int .i64 (f.size : Int), .slice b.D f.data.length b.cD, .slice b.W f.wear.length b.cW, .int .i64 f.limit, .slice b.E f.dead.length b.cE], Rd b.D (rowsV b.hs (B8 f.data)), KidsR b.hs (B8 f.data), Rd b1.D (rowsV b1.hs (B8 (cutR f x (fun _ => 255)).data)), KidsR b1.hs (B8 (cutR f x (fun _ => 255)).data), Rd b1.W (I64 (cutR f x (fun _ => 255)).wear), Rd A8 [.int .i64 ((cutR f x (fun _ => 255)).size : Int), .slice b1.D (cutR f x (fun _ => 255)).data.length b1.cD, .slice b1.W (cutR f x (fun _ => 255)).wear.length b1.cW, .int .i64 (cutR f x (fun _ => 255)).limit, .slice b1.E (cutR f x (fun _ => 255)).dead.length b1.cE], Rd b3.D (rowsV b3.hs (B8 (cutR f x (fun _ => 0)).data)), KidsR b3.hs (B8 (cutR f x (fun _ => 0)).data), Rd b3.W (I64 (cutR f x (fun _ => 0)).wear), Rd A12 [.int .i64 ((cutR f x (fun _ => 0)).size : Int), .slice b3.D (cutR f x (fun _ => 0)).data.length b3.cD, .slice b3.W (cutR f x (fun _ => 0)).wear.length b3.cW, .int .i64 (cutR f x (fun _ => 0)).limit, .slice b3.E (cutR f x (fun _ => 0)).dead.length b3.cE], Rd b4.D (rowsV b4.hs (B8 (cutR f x (fun i => mask.getD i 0)).data)), KidsR b4.hs (B8 (cutR f x (fun i => mask.getD i 0)).data), Rd b4.W (I64 (cutR f x (fun i => mask.getD i 0)).wear), Rd A14 [.int .i64 ((cutR f x (fun i => mask.getD i 0)).size : Int), .slice b4.D (cutR f x (fun i => mask.getD i 0)).data.length b4.cD, .slice b4.W (cutR f x (fun i => mask.getD i 0)).wear.length b4.cW, .int .i64 (cutR f x (fun i => mask.getD i 0)).limit, .slice b4.E (cutR f x (fun i => mask.getD i 0)).dead.length b4.cE]]) (fun q : UInt8 => []) (fun q : UInt8 => q = mask.getD k 0) ?_ ?_
                        · skip
                          refine C.seq ?_
                          refine C.region ?_
                          refine L.step (Ev.pure rfl) rfl ?_
                          refine L.step (Ev.fieldAddr rfl rfl rfl rfl rfl rfl (Src.r 0 rfl) (Nat.zero_lt_succ _) rfl) rfl ?_
                          refine L.step (Ev.load rfl rfl rfl (Src.r 0 rfl) rfl) rfl ?_
                          refine L.step (Ev.pure rfl) rfl ?_
                          refine L.step (Ev.pure rfl) rfl ?_
                          refine L.nil ?_
                          refine QE.seq ?_
                          refine C.condB 151 rfl (fun hc151 => ?_) (fun hc151 => ?_)
                          · skip
                            replace hc151 := of_decide_eq_true hc151
                            have hkm : k < mask.length := Int.ofNat_lt.1 hc151
                            refine C.region ?_
                            refine L.step (Ev.fieldAddr rfl rfl rfl rfl rfl rfl (Src.r 0 rfl) (Nat.zero_lt_succ _) rfl) rfl ?_
                            refine L.step (Ev.load rfl rfl rfl (Src.r 0 rfl) rfl) rfl ?_
                            refine L.step (Ev.pure rfl) rfl ?_
                            refine L.step (Ev.idx1 (k := k) rfl rfl rfl rfl rfl rfl rfl hkm (Src.r 1 rfl) (U8_pos hkm)) rfl ?_
                            refine L.step (Ev.load rfl rfl rfl (Src.r 1 rfl) (U8_get hkm)) rfl ?_
                            refine L.step (Ev.pure rfl) rfl ?_
                            refine L.nil ?_
                            refine QE.join (mask.getD k 0) (by exact rfl) (by exact Le.mk' (rs := [0, 1, 2, 3, 4, 5, 6, 7, 8, 9, 10, 11, 12, 13, 14, 15, 16]) (hs := []) ⟨rfl, rfl, rfl, rfl, rfl, rfl, rfl, rfl, rfl, trivial⟩ ⟨rfl, rfl, rfl, rfl, rfl, rfl, rfl, rfl, rfl, rfl, rfl, rfl, rfl, rfl, rfl, rfl, rfl, trivial⟩ trivial (by decide))
                          · skip
                            replace hc151 := of_decide_eq_false hc151
                            have hkm : mask.length ≤ k := by omega
                            refine C.skip ?_
                            refine QE.join (0) (by exact (getD_ge hkm).symm) (by exact Le.mk' (rs := [0, 1, 2, 3, 4, 5, 6, 7, 8, 9, 10, 11, 12, 13, 14, 15, 16]) (hs := []) ⟨rfl, rfl, rfl, rfl, rfl, rfl, rfl, rfl, rfl, trivial⟩ ⟨rfl, rfl, rfl, rfl, rfl, rfl, rfl, rfl, rfl, rfl, rfl, rfl, rfl, rfl, rfl, rfl, rfl, trivial⟩ trivial (by decide))
                        · skip
                          rintro u hu2
                          refine C.seq ?_
                          refine C.regionQ (by kernel_rfl) ?_
                          refine LQ.step (Ev.fieldAddr rfl rfl rfl rfl rfl rfl (Src.r 16 rfl) (Nat.zero_lt_succ _) rfl) rfl ?_
                          refine LQ.step (Ev.load rfl rfl rfl (Src.r 16 rfl) rfl) rfl ?_
                          refine LQ.step (Ev.pure rfl) rfl ?_
                          refine LQ.step (Ev.idx1 (k := x.sec.toNat) rfl rfl rfl rfl rfl rfl hsq ht4 (Src.r 13 rfl) (rows_pos hb4 ht4)) rfl ?_
                          refine LQ.step (Ev.load rfl rfl rfl (Src.r 13 rfl) (rows8_get hb4 ht4)) rfl ?_
                          refine LQ.step (Ev.pure rfl) rfl ?_
                          refine LQ.step (Ev.idx1 (k := k) rfl rfl rfl rfl rfl rfl rfl hk4 ((Src.kid 14 rfl (by rw [B8_len]; exact hb4) (x.sec.toNat) (by rw [B8_len]; exact ht4)).cast (B8_get _)) (U8_pos hk4)) rfl ?_
                          refine LQ.step (Ev.load rfl rfl rfl ((Src.kid 14 rfl (by rw [B8_len]; exact hb4) (x.sec.toNat) (by rw [B8_len]; exact ht4)).cast (B8_get _)) (U8_get hk4)) rfl ?_
                          refine LQ.step (Ev.pure rfl) rfl ?_
                          first | refine LQ.step (Ev.andNot8 rfl rfl) rfl ?_ | refine LQ.step (Ev.pure rfl) rfl ?_
                          refine LQ.step (Ev.fieldAddr rfl rfl rfl rfl rfl rfl (Src.r 2 rfl) (Nat.zero_lt_succ _) rfl) rfl ?_
                          refine LQ.step (Ev.load rfl rfl rfl (Src.r 2 rfl) rfl) rfl ?_
                          refine LQ.step (Ev.pure rfl) rfl ?_
                          refine LQ.step (Ev.idx1 (k := x.sec.toNat) rfl rfl rfl rfl rfl rfl hsq ht (Src.r 3 rfl) (rows_pos hb ht)) rfl ?_
                          refine LQ.step (Ev.load rfl rfl rfl (Src.r 3 rfl) (rows8_get hb ht)) rfl ?_
                          refine LQ.step (Ev.pure rfl) rfl ?_
                          refine LQ.step (Ev.idx1 (k := k) rfl rfl rfl rfl rfl rfl rfl hk ((Src.kid 4 rfl (by rw [B8_len]; exact hb) (x.sec.toNat) (by rw [B8_len]; exact ht)).cast (B8_get _)) (U8_pos hk)) rfl ?_
                          refine LQ.step (Ev.load rfl rfl rfl ((Src.kid 4 rfl (by rw [B8_len]; exact hb) (x.sec.toNat) (by rw [B8_len]; exact ht)).cast (B8_get _)) (U8_get hk)) rfl ?_
                          refine LQ.step (Ev.pure rfl) rfl ?_
                          first | refine LQ.step (Ev.andNot8 rfl rfl) rfl ?_ | refine LQ.step (Ev.pure rfl) rfl ?_
                          refine LQ.step (Ev.pure rfl) rfl ?_
                          refine LQ.step (Ev.pure rfl) rfl ?_
                          refine LQ.bool 178 rfl (fun hg178 => ?_) (fun hg178 => ?_)
                          · skip
                            replace hg178 := b_ne hg178
                            exact (hg178 (u8_eq.2 (by rw [hu2]; exact cutR_not hE hkf))).elim
                          · skip
                            replace hg178 := b_eq hg178
                            refine LQ.yes rfl ?_
                            refine LQ.step (Ev.fieldAddr rfl rfl rfl rfl rfl rfl (Src.r 16 rfl) (Nat.zero_lt_succ _) rfl) rfl ?_
                            refine LQ.yes rfl ?_
                            refine LQ.step (Ev.load rfl rfl rfl (Src.r 16 rfl) rfl) rfl ?_
                            refine LQ.yes rfl ?_
                            refine LQ.step (Ev.pure rfl) rfl ?_
                            refine LQ.yes rfl ?_
                            refine LQ.step (Ev.idx1 (k := x.sec.toNat) rfl rfl rfl rfl rfl rfl hsq ht4 (Src.r 13 rfl) (rows_pos hb4 ht4)) rfl ?_
                            refine LQ.yes rfl ?_
                            refine LQ.step (Ev.load rfl rfl rfl (Src.r 13 rfl) (rows8_get hb4 ht4)) rfl ?_
                            refine LQ.yes rfl ?_
                            refine LQ.step (Ev.pure rfl) rfl ?_
                            refine LQ.yes rfl ?_
                            refine LQ.step (Ev.idx1 (k := k) rfl rfl rfl rfl rfl rfl rfl hk4 ((Src.kid 14 rfl (by rw [B8_len]; exact hb4) (x.sec.toNat) (by rw [B8_len]; exact ht4)).cast (B8_get _)) (U8_pos hk4)) rfl ?_
                            refine LQ.yes rfl ?_
                            refine LQ.step (Ev.load rfl rfl rfl ((Src.kid 14 rfl (by rw [B8_len]; exact hb4) (x.sec.toNat) (by rw [B8_len]; exact ht4)).cast (B8_get _)) (U8_get hk4)) rfl ?_
                            refine LQ.yes rfl ?_
                            refine LQ.step (Ev.pure rfl) rfl ?_
                            refine LQ.yes rfl ?_
                            first | refine LQ.step (Ev.and8 rfl rfl) rfl ?_ | refine LQ.step (Ev.pure rfl) rfl ?_
                            refine LQ.yes rfl ?_
                            refine LQ.step (Ev.fieldAddr rfl rfl rfl rfl rfl rfl (Src.r 8 rfl) (Nat.zero_lt_succ _) rfl) rfl ?_
                            refine LQ.yes rfl ?_
                            refine LQ.step (Ev.load rfl rfl rfl (Src.r 8 rfl) rfl) rfl ?_
                            refine LQ.yes rfl ?_
                            refine LQ.step (Ev.pure rfl) rfl ?_
                            refine LQ.yes rfl ?_
                            refine LQ.step (Ev.idx1 (k := x.sec.toNat) rfl rfl rfl rfl rfl rfl hsq ht1 (Src.r 5 rfl) (rows_pos hb1 ht1)) rfl ?_
                            refine LQ.yes rfl ?_
                            refine LQ.step (Ev.load rfl rfl rfl (Src.r 5 rfl) (rows8_get hb1 ht1)) rfl ?_
                            refine LQ.yes rfl ?_
                            refine LQ.step (Ev.pure rfl) rfl ?_
                            refine LQ.yes rfl ?_
                            refine LQ.step (Ev.idx1 (k := k) rfl rfl rfl rfl rfl rfl rfl hk1 ((Src.kid 6 rfl (by rw [B8_len]; exact hb1) (x.sec.toNat) (by rw [B8_len]; exact ht1)).cast (B8_get _)) (U8_pos hk1)) rfl ?_
                            refine LQ.yes rfl ?_
                            refine LQ.step (Ev.load rfl rfl rfl ((Src.kid 6 rfl (by rw [B8_len]; exact hb1) (x.sec.toNat) (by rw [B8_len]; exact ht1)).cast (B8_get _)) (U8_get hk1)) rfl ?_
                            refine LQ.yes rfl ?_
                            refine LQ.step (Ev.pure rfl) rfl ?_
                            refine LQ.yes rfl ?_
                            first | refine LQ.step (Ev.and8 rfl rfl) rfl ?_ | refine LQ.step (Ev.pure rfl) rfl ?_
                            refine LQ.yes rfl ?_
                            refine LQ.step (Ev.pure rfl) rfl ?_
                            refine LQ.step (Ev.pure rfl) rfl ?_
                            refine LQ.nil ?_
                            refine QE.seq ?_
                            refine C.condB 200 rfl (fun hc200 => ?_) (fun hc200 => ?_)
                            · skip
                              replace hc200 := b_ne hc200
                              exact (hc200 (u8_eq.2 (by rw [hu2]; exact cutR_in hE hkf))).elim
                            · skip
                              replace hc200 := b_eq hc200
                              refine C.skip ?_
                              refine QE.blkN ?_
                              refine QE.seq ?_
                              refine C.region ?_
                              refine L.step (Ev.pure rfl) rfl ?_
                              refine L.step (Ev.add rfl rfl (by omega) (by omega)) rfl ?_
                              refine L.step (Ev.pure rfl) rfl ?_
                              refine L.nil ?_
                              refine QE.round (k + 1) (by omega) (by omega) (by exact Le.mk' (rs := [0, 1, 2, 3, 4, 5, 6, 7, 8, 9, 10, 11, 12, 13, 14, 15, 16]) (hs := []) ⟨rfl, rfl, rfl, rfl, rfl, rfl, rfl, rfl, trivial⟩ ⟨rfl, rfl, rfl, rfl, rfl, rfl, rfl, rfl, rfl, rfl, rfl, rfl, rfl, rfl, rfl, rfl, rfl, trivial⟩ trivial (by decide))
                      · skip
                        replace hc144 := of_decide_eq_false hc144
                        refine C.exit ?_
                        refine QE.tX ?_
                        refine QE.tX ?_
                        refine QE.blk ?_
                        refine QE.seq ?_
                        refine C.seq ?_
                        refine C.regionQ (by kernel_rfl) ?_
                        refine LQ.step (Ev.fieldAddr rfl rfl rfl rfl rfl rfl (Src.r 12 rfl) (Nat.zero_lt_succ _) rfl) rfl ?_
                        refine LQ.step (Ev.load rfl rfl rfl (Src.r 12 rfl) rfl) rfl ?_
                        refine LQ.step (Ev.pure rfl) rfl ?_
                        refine LQ.step (Ev.idx1 (k := x.sec.toNat) rfl rfl rfl rfl rfl rfl hsq ht3 (Src.r 9 rfl) (rows_pos hb3 ht3)) rfl ?_
                        refine LQ.step (Ev.load rfl rfl rfl (Src.r 9 rfl) (rows8_get hb3 ht3)) rfl ?_
                        refine LQ.step (Ev.fieldAddr rfl rfl rfl rfl rfl rfl (Src.r 2 rfl) (Nat.zero_lt_succ _) rfl) rfl ?_
                        refine LQ.step (Ev.load rfl rfl rfl (Src.r 2 rfl) rfl) rfl ?_
                        refine LQ.step (Ev.pure rfl) rfl ?_
                        refine LQ.step (Ev.idx1 (k := x.sec.toNat) rfl rfl rfl rfl rfl rfl hsq ht (Src.r 3 rfl) (rows_pos hb ht)) rfl ?_
                        refine LQ.step (Ev.load rfl rfl rfl (Src.r 3 rfl) (rows8_get hb ht)) rfl ?_
                        refine LQ.call (.bool true) (Ctr.tb true (same_c _ _ _ _ ((cutR f x (fun _ => 0)).data.getD x.sec.toNat []) (f.data.getD x.sec.toNat []) hL3 hL) (by rw [cutR_none ok hE (fun _ _ => rfl)]; simp)) (fun _ _ _ h => h.1) rfl ⟨((Has.kid 10 rfl (by rw [B8_len]; exact hb3) (x.sec.toNat) (by rw [B8_len]; exact ht3)).cast (B8_get _)), ((Has.kid 4 rfl (by rw [B8_len]; exact hb) (x.sec.toNat) (by rw [B8_len]; exact ht)).cast (B8_get _)), trivial⟩ rfl ?_
                        refine LQ.step (Ev.pure rfl) rfl ?_
                        refine LQ.yes rfl ?_
                        refine LQ.step (Ev.fieldAddr rfl rfl rfl rfl rfl rfl (Src.r 12 rfl) (Nat.zero_lt_succ _) rfl) rfl ?_
                        refine LQ.yes rfl ?_
                        refine LQ.step (Ev.load rfl rfl rfl (Src.r 12 rfl) rfl) rfl ?_
                        refine LQ.yes rfl ?_
                        refine LQ.step (Ev.pure rfl) rfl ?_
                        refine LQ.yes rfl ?_
                        refine LQ.step (Ev.idx1 (k := x.sec.toNat) rfl rfl rfl rfl rfl rfl hsq hv3 (Src.r 11 rfl) (I64_pos hv3)) rfl ?_
                        refine LQ.yes rfl ?_
                        refine LQ.step (Ev.load rfl rfl rfl (Src.r 11 rfl) (I64_get hv3)) rfl ?_
                        refine LQ.yes rfl ?_
                        refine LQ.step (Ev.fieldAddr rfl rfl rfl rfl rfl rfl (Src.r 8 rfl) (Nat.zero_lt_succ _) rfl) rfl ?_
                        refine LQ.yes rfl ?_
                        refine LQ.step (Ev.load rfl rfl rfl (Src.r 8 rfl) rfl) rfl ?_
                        refine LQ.yes rfl ?_
                        refine LQ.step (Ev.pure rfl) rfl ?_
                        refine LQ.yes rfl ?_
                        refine LQ.step (Ev.idx1 (k := x.sec.toNat) rfl rfl rfl rfl rfl rfl hsq hv1 (Src.r 7 rfl) (I64_pos hv1)) rfl ?_
                        refine LQ.yes rfl ?_
                        refine LQ.step (Ev.load rfl rfl rfl (Src.r 7 rfl) (I64_get hv1)) rfl ?_
                        refine LQ.yes rfl ?_
                        refine LQ.step (Ev.pure rfl) rfl ?_
                        refine LQ.step (Ev.pure rfl) rfl ?_
                        refine LQ.step (Ev.pure rfl) rfl ?_
                        refine LQ.bool 225 rfl (fun hg225 => ?_) (fun hg225 => ?_)
                        · skip
                          replace hg225 := i_eq hg225
                          refine LQ.yes rfl ?_
                          refine LQ.step (Ev.fieldAddr rfl rfl rfl rfl rfl rfl (Src.r 16 rfl) (Nat.zero_lt_succ _) rfl) rfl ?_
                          refine LQ.yes rfl ?_
                          refine LQ.step (Ev.load rfl rfl rfl (Src.r 16 rfl) rfl) rfl ?_
                          refine LQ.yes rfl ?_
                          refine LQ.step (Ev.pure rfl) rfl ?_
                          refine LQ.yes rfl ?_
                          refine LQ.step (Ev.idx1 (k := x.sec.toNat) rfl rfl rfl rfl rfl rfl hsq hv4 (Src.r 15 rfl) (I64_pos hv4)) rfl ?_
                          refine LQ.yes rfl ?_
                          refine LQ.step (Ev.load rfl rfl rfl (Src.r 15 rfl) (I64_get hv4)) rfl ?_
                          refine LQ.yes rfl ?_
                          refine LQ.step (Ev.fieldAddr rfl rfl rfl rfl rfl rfl (Src.r 8 rfl) (Nat.zero_lt_succ _) rfl) rfl ?_
                          refine LQ.yes rfl ?_
                          refine LQ.step (Ev.load rfl rfl rfl (Src.r 8 rfl) rfl) rfl ?_
                          refine LQ.yes rfl ?_
                          refine LQ.step (Ev.pure rfl) rfl ?_
                          refine LQ.yes rfl ?_
                          refine LQ.step (Ev.idx1 (k := x.sec.toNat) rfl rfl rfl rfl rfl rfl hsq hv1 (Src.r 7 rfl) (I64_pos hv1)) rfl ?_
                          refine LQ.yes rfl ?_
                          refine LQ.step (Ev.load rfl rfl rfl (Src.r 7 rfl) (I64_get hv1)) rfl ?_
                          refine LQ.yes rfl ?_
                          refine LQ.step (Ev.pure rfl) rfl ?_
                          refine LQ.step (Ev.pure rfl) rfl ?_
                          refine LQ.step (Ev.pure rfl) rfl ?_
                          refine LQ.bool 238 rfl (fun hg238 => ?_) (fun hg238 => ?_)
                          · skip
                            replace hg238 := i_eq hg238
                            refine LQ.yes rfl ?_
                            refine LQ.step (Ev.pure rfl) rfl ?_
                            refine LQ.step (Ev.pure rfl) rfl ?_
                            refine LQ.step (Ev.pure rfl) rfl ?_
                            refine LQ.nil ?_
                            refine QE.seq ?_
                            refine C.ret ?_
                            refine QE.ret (js := []) (hs := []) (vs := [_]) rfl ⟨rfl, trivial⟩ (by decide) ?_
                            exact ⟨rfl, rfl, rfl⟩
                          · skip
                            replace hg238 := i_ne hg238
                            exact (hg238 (by rw [cutR_wearq hE (fun i => mask.getD i 0) (fun _ => 255)])).elim
                        · skip
                          replace hg225 := i_ne hg225
                          exact (hg225 (by rw [cutR_wearq hE (fun _ => 0) (fun _ => 255)])).elim

end Go.Proofs.Ythfjkdgopkmgoaa
