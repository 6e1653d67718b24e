/-
  The contract of FlashOthers.
-/
import Derived.Test.YthfjkdgopkmgoaaWFlM
namespace Go.Proofs.Ythfjkdgopkmgoaa
open Go.Sl

set_option maxHeartbeats 2000000 in
theorem others_c (rs : UInt8) (rd : List (List UInt8)) (rw : List UInt8) (re : UInt8) (RD RW : Option Addr) (rc rwc : Nat) (rhs : List Hd) (hrh : rhs.length = rd.length) (hrl : rd.length ≤ 9223372036854775807) (hrr : ∀ i, (rd.getD i []).length ≤ 9223372036854775807) (hrw : rw.length ≤ 9223372036854775807) (er torn : Bool) (se at_ : UInt8) (data mask : List UInt8) (YA MA : Option Addr) (yc mc : Nat) (hyc : data.length ≤ yc) (hyl : data.length ≤ 9223372036854775807) (hml : mask.length ≤ 9223372036854775807) :
    Ctr X 16 [.agg (List.toArray [.int .u8 (rs.toNat : Int), .slice RD rd.length rc, .slice RW rw.length rwc, .int .u8 (re.toNat : Int)]), .agg (List.toArray [.bool er, .int .u8 (se.toNat : Int), .int .u8 (at_.toNat : Int), .slice YA data.length yc, .bool torn, .slice MA mask.length mc])] [Rd RD (rowsV rhs (B8 rd)), KidsR rhs (B8 rd), Rd RW (U8 rw), Rd YA (U8 data), Rd MA (U8 mask)] [] (fun v R' H' => v = .bool true ∧ R' = [] ∧ H' = []) := by
  refine Ctr.of (X := X) (fn := Try.f16) Try.func16 rfl (by kernel_rfl) rfl ?_
  intro β
  refine C.seq ?_
  refine C.region ?_
  refine L.boxA rfl rfl (fun A2 => ?_)
  refine L.boxA rfl rfl (fun A3 => ?_)
  refine L.step (Ev.pure rfl) rfl ?_
  refine L.nil ?_
  refine QE.seq ?_
  refine C.seq ?_
  refine C.freeze 0 rfl [1] (by decide) (by decide) ?_
  refine C.freeze 0 rfl [] (by decide) (by decide) ?_
  refine C.region ?_
  refine L.call (js := []) (js' := []) (sanity_c) rfl rfl rfl (by decide) trivial rfl ?_
  rintro _ _ _ ⟨rfl, rfl, rfl⟩
  refine L.step (Ev.pure rfl) rfl ?_
  refine L.nil ?_
  refine QE.seq ?_
  refine C.seq ?_
  refine C.region ?_
  refine L.step (Ev.loadA rfl rfl rfl (Src.r 1 rfl) rfl rfl (by decide)) rfl ?_
  refine L.call (js := []) (js' := []) (made_c rs rd rw re RD RW rc rwc rhs hrh hrl hrr hrw) rfl rfl rfl (by decide) ⟨(Has.r 2 rfl), (Has.r 3 rfl), (Has.r 4 rfl), trivial⟩ rfl ?_
  rintro _ _ _ ⟨f, b, ok, hlim, hsz, hdl, hb, rfl, rfl, rfl⟩
  refine L.alloc rfl rfl rfl (fun A6 => ?_)
  refine L.storeA (j := 4) rfl rfl rfl rfl rfl (Nat.zero_lt_succ _) rfl rfl ?_
  refine L.nil ?_
  refine QE.seq ?_
  refine C.seq ?_
  refine C.le (Γ' := [(3, ptrOf A3 0), (5, .bool true), (6, ptrOf A6 0)]) (R' := [Rd A3 [.bool er, .int .u8 (se.toNat : Int), .int .u8 (at_.toNat : Int), .slice YA data.length yc, .bool torn, .slice MA mask.length mc], Rd YA (U8 data), Rd MA (U8 mask)]) (H' := [Own 32 5 A6 1 1 [.int .i64 (f.size : Int), .slice b.D f.data.length b.cD, .slice b.W f.wear.length b.cW, .int .i64 f.limit, .slice b.E f.dead.length b.cE], Own 24 1 b.D f.data.length b.cD (rowsV b.hs (B8 f.data)), OwnKids 5 b.hs (B8 f.data), Own 3 1 b.W f.wear.length b.cW (I64 f.wear), Own 4 1 b.E f.dead.length b.cE (Bs f.dead)]) (by exact Le.mk' (rs := [0, 5, 6]) (hs := [4, 0, 1, 2, 3]) ⟨rfl, rfl, rfl, trivial⟩ ⟨rfl, rfl, rfl, trivial⟩ ⟨rfl, rfl, rfl, rfl, rfl, trivial⟩ (by decide)) ?_
  refine C.freeze 1 rfl [0, 2, 3, 4] (by decide) (by decide) ?_
  refine C.freezeKids 1 rfl [0, 2, 3] (by decide) (by decide) ?_
  refine C.freeze 1 rfl [0, 2] (by decide) (by decide) ?_
  refine C.freeze 1 rfl [0] (by decide) (by decide) ?_
  refine C.freeze 0 rfl [] (by decide) (by decide) ?_
  refine C.region ?_
  refine L.step (Ev.loadA rfl rfl rfl (Src.r 0 rfl) rfl rfl (by decide)) rfl ?_
  refine L.step (Ev.loadA rfl rfl rfl (Src.r 5 rfl) rfl rfl (by decide)) rfl ?_
  refine L.callR (js := []) (js' := []) (op_g f b ok hb er torn se at_ data YA MA yc _ mc hyl hyc) rfl rfl rfl (by decide) ⟨(Has.r 4 rfl), (Has.r 3 rfl), (Has.r 2 rfl), (Has.r 1 rfl), (Has.r 6 rfl), trivial⟩ rfl ?_
  rintro _ _ _ ⟨x, OA, oc, ⟨gx, hxl, hx2, hxs⟩, rfl, rfl, rfl⟩
  refine L.alloc rfl rfl rfl (fun A7 => ?_)
  refine L.storeA (j := 0) rfl rfl rfl rfl rfl (Nat.zero_lt_succ _) rfl rfl ?_
  refine L.nil ?_
  refine QE.seq ?_
  refine C.seq ?_
  refine C.le (Γ' := [(3, ptrOf A3 0), (5, .bool true), (6, ptrOf A6 0), (7, ptrOf A7 0)]) (R' := [Rd A3 [.bool er, .int .u8 (se.toNat : Int), .int .u8 (at_.toNat : Int), .slice YA data.length yc, .bool torn, .slice MA mask.length mc], Rd YA (U8 data), Rd MA (U8 mask), Rd A6 [.int .i64 (f.size : Int), .slice b.D f.data.length b.cD, .slice b.W f.wear.length b.cW, .int .i64 f.limit, .slice b.E f.dead.length b.cE], Rd b.D (rowsV b.hs (B8 f.data)), KidsR b.hs (B8 f.data), Rd b.W (I64 f.wear), Rd b.E (Bs f.dead), Rd OA (U8 x.data)]) (H' := [Own 53 4 A7 1 1 [.int .i64 x.kind, .int .i64 x.sec, .int .i64 x.at_, .slice OA x.data.length oc]]) (by exact Le.mk' (rs := [6, 7, 8, 1, 5, 4, 3, 2, 0]) (hs := [0]) ⟨rfl, rfl, rfl, rfl, trivial⟩ ⟨rfl, rfl, rfl, rfl, rfl, rfl, rfl, rfl, rfl, trivial⟩ ⟨rfl, trivial⟩ (by decide)) ?_
  refine C.freeze 0 rfl [] (by decide) (by decide) ?_
  have gxs := gx.s
  have hsq : x.sec = ((x.sec.toNat : Nat) : Int) := (Int.toNat_of_nonneg gxs.1).symm
  have hrow := ok.rows x.sec.toNat gx.lt
  have hokw := ok.wl
  have hoke := ok.dl
  have ht := gx.lt
  have hv := gx.lt
  rw [← hokw] at hv
  have hu := gx.lt
  rw [← hoke] at hu
  have hL := len_big hrow hsz
  try clear hxs
  refine C.region ?_
  refine L.step (Ev.loadA rfl rfl rfl (Src.r 4 rfl) rfl rfl (by decide)) rfl ?_
  refine L.step (Ev.loadA rfl rfl rfl (Src.r 0 rfl) rfl rfl (by decide)) rfl ?_
  refine L.callR (js := []) (js' := []) (do_c f b ok hb x OA oc (by omega)) rfl rfl rfl (by decide) ⟨(Has.r 5 rfl), (Has.r 6 rfl), (Has.r 7 rfl), (Has.r 8 rfl), (Has.r 9 rfl), trivial⟩ rfl ?_
  rintro _ _ _ ⟨b1, hb1, rfl, rfl, rfl⟩
  refine L.step (Ev.pure rfl) rfl ?_
  refine L.step (Ev.pure rfl) rfl ?_
  refine L.step (Ev.pure rfl) rfl ?_
  refine L.alloc rfl rfl rfl (fun A8 => ?_)
  refine L.storeA (j := 0) rfl rfl rfl rfl rfl (Nat.zero_lt_succ _) rfl rfl ?_
  refine L.step (Ev.pure rfl) rfl ?_
  refine L.nil ?_
  refine QE.seq ?_
  refine C.seqJ (fun q : (Nat → UInt8) × Fa => [(5, .bool true), (6, ptrOf A6 0), (7, ptrOf A7 0), (8, ptrOf A8 0), (9, .int .i64 (checkE f x))]) (fun q : (Nat → UInt8) × Fa => [Rd A6 [.int .i64 (f.size : Int), .slice b.D f.data.length b.cD, .slice b.W f.wear.length b.cW, .int .i64 f.limit, .slice b.E f.dead.length b.cE], Rd b.D (rowsV b.hs (B8 f.data)), KidsR b.hs (B8 f.data), Rd b.W (I64 f.wear), Rd b.E (Bs f.dead), Rd OA (U8 x.data), Rd A7 [.int .i64 x.kind, .int .i64 x.sec, .int .i64 x.at_, .slice OA x.data.length oc], Rd q.2.D (rowsV q.2.hs (B8 (cutR f x q.1).data)), KidsR q.2.hs (B8 (cutR f x q.1).data), Rd q.2.W (I64 (cutR f x q.1).wear), Rd q.2.E (Bs (cutR f x q.1).dead)]) (fun q : (Nat → UInt8) × Fa => [Own 32 5 A8 1 1 [.int .i64 ((cutR f x q.1).size : Int), .slice q.2.D (cutR f x q.1).data.length q.2.cD, .slice q.2.W (cutR f x q.1).wear.length q.2.cW, .int .i64 (cutR f x q.1).limit, .slice q.2.E (cutR f x q.1).dead.length q.2.cE]]) (fun q : (Nat → UInt8) × Fa => q.2.hs.length = (cutR f x q.1).data.length) ?_ ?_
  · skip
    refine C.seq ?_
    refine C.le (Γ' := [(3, ptrOf A3 0), (5, .bool true), (6, ptrOf A6 0), (7, ptrOf A7 0), (8, ptrOf A8 0), (9, .int .i64 (checkE f x))]) (R' := [Rd A3 [.bool er, .int .u8 (se.toNat : Int), .int .u8 (at_.toNat : Int), .slice YA data.length yc, .bool torn, .slice MA mask.length mc], Rd YA (U8 data), Rd MA (U8 mask), Rd A6 [.int .i64 (f.size : Int), .slice b.D f.data.length b.cD, .slice b.W f.wear.length b.cW, .int .i64 f.limit, .slice b.E f.dead.length b.cE], Rd b.D (rowsV b.hs (B8 f.data)), KidsR b.hs (B8 f.data), Rd b.W (I64 f.wear), Rd b.E (Bs f.dead), Rd OA (U8 x.data), Rd A7 [.int .i64 x.kind, .int .i64 x.sec, .int .i64 x.at_, .slice OA x.data.length oc], Rd b1.D (rowsV b1.hs (B8 (cutR f x (fun _ => 255)).data)), KidsR b1.hs (B8 (cutR f x (fun _ => 255)).data), Rd b1.W (I64 (cutR f x (fun _ => 255)).wear), Rd b1.E (Bs (cutR f x (fun _ => 255)).dead)]) (H' := [Own 32 5 A8 1 1 [.int .i64 ((cutR f x (fun _ => 255)).size : Int), .slice b1.D (cutR f x (fun _ => 255)).data.length b1.cD, .slice b1.W (cutR f x (fun _ => 255)).wear.length b1.cW, .int .i64 (cutR f x (fun _ => 255)).limit, .slice b1.E (cutR f x (fun _ => 255)).dead.length b1.cE]]) (by exact Le.mk' (rs := [5, 6, 7, 8, 9, 10, 11, 12, 13, 4, 0, 1, 2, 3]) (hs := [0]) ⟨rfl, rfl, rfl, rfl, rfl, rfl, trivial⟩ ⟨rfl, rfl, rfl, rfl, rfl, rfl, rfl, rfl, rfl, rfl, rfl, rfl, rfl, rfl, trivial⟩ ⟨rfl, trivial⟩ (by decide)) ?_
    refine C.region ?_
    refine L.step (Ev.fieldAddr rfl rfl rfl rfl rfl rfl (Src.r 0 rfl) (Nat.zero_lt_succ _) rfl) rfl ?_
    refine L.step (Ev.load rfl rfl rfl (Src.r 0 rfl) rfl) rfl ?_
    refine L.nil ?_
    refine QE.seq ?_
    refine C.condB 27 rfl (fun hc27 => ?_) (fun hc27 => ?_)
    · skip
      refine C.region ?_
      refine L.step (Ev.loadA rfl rfl rfl (Src.r 3 rfl) rfl rfl (by decide)) rfl ?_
      refine L.step (Ev.loadA rfl rfl rfl (Src.r 9 rfl) rfl rfl (by decide)) rfl ?_
      refine L.step (Ev.fieldAddr rfl rfl rfl rfl rfl rfl (Src.r 0 rfl) (Nat.zero_lt_succ _) rfl) rfl ?_
      refine L.step (Ev.load rfl rfl rfl (Src.r 0 rfl) rfl) rfl ?_
      refine L.callR (js := []) (js' := [0]) (cut_e f b ok hb x OA oc (by omega) mask MA _ mc (by rfl) (by omega) (fun i => mask.getD i 0) (fun _ _ => rfl)) rfl rfl rfl (by decide) ⟨(Has.r 4 rfl), (Has.r 5 rfl), (Has.r 6 rfl), (Has.r 7 rfl), (Has.r 8 rfl), (Has.r 2 rfl), trivial⟩ rfl ?_
      rintro _ _ _ ⟨b2, hb2, rfl, rfl, rfl⟩
      refine L.step (Ev.pure rfl) rfl ?_
      refine L.step (Ev.pure rfl) rfl ?_
      refine L.step (Ev.pure rfl) rfl ?_
      refine L.storeA (j := 0) rfl rfl rfl rfl rfl (Nat.zero_lt_succ _) rfl rfl ?_
      refine L.step (Ev.pure rfl) rfl ?_
      refine L.nil ?_
      refine QE.join (((fun i => mask.getD i 0), b2)) (by exact hb2) (by exact Le.mk' (rs := [7, 8, 9, 10, 11, 12, 13, 0, 1, 2, 3]) (hs := [0]) ⟨rfl, rfl, rfl, rfl, rfl, trivial⟩ ⟨rfl, rfl, rfl, rfl, rfl, rfl, rfl, rfl, rfl, rfl, rfl, trivial⟩ ⟨rfl, trivial⟩ (by decide))
    · skip
      refine C.skip ?_
      refine QE.join (((fun _ => 255), b1)) (by exact hb1) (by exact Le.mk' (rs := [3, 4, 5, 6, 7, 8, 9, 10, 11, 12, 13]) (hs := [0]) ⟨rfl, rfl, rfl, rfl, rfl, trivial⟩ ⟨rfl, rfl, rfl, rfl, rfl, rfl, rfl, rfl, rfl, rfl, rfl, trivial⟩ ⟨rfl, trivial⟩ (by decide))
  · skip
    clear hb1
    rintro ⟨mk, b1⟩ hb1
    dsimp only at hb1 ⊢
    refine C.seq ?_
    refine C.freeze 0 rfl [] (by decide) (by decide) ?_
    refine C.region ?_
    refine L.step (Ev.fieldAddr rfl rfl rfl rfl rfl rfl (Src.r 7 rfl) (Nat.zero_lt_succ _) rfl) rfl ?_
    refine L.step (Ev.load rfl rfl rfl (Src.r 7 rfl) rfl) rfl ?_
    refine L.step (Ev.pure rfl) rfl ?_
    refine L.nil ?_
    refine QE.seq ?_
    refine C.seqJ (fun q : Bool => [(5, .bool true), (6, ptrOf A6 0), (7, ptrOf A7 0), (8, ptrOf A8 0), (9, .int .i64 (checkE f x)), (10, .int .i64 x.sec), (11, .bool q)]) (fun q : Bool => [Rd A6 [.int .i64 (f.size : Int), .slice b.D f.data.length b.cD, .slice b.W f.wear.length b.cW, .int .i64 f.limit, .slice b.E f.dead.length b.cE], Rd b.D (rowsV b.hs (B8 f.data)), KidsR b.hs (B8 f.data), Rd b.W (I64 f.wear), Rd b.E (Bs f.dead), Rd OA (U8 x.data), Rd A7 [.int .i64 x.kind, .int .i64 x.sec, .int .i64 x.at_, .slice OA x.data.length oc], Rd b1.D (rowsV b1.hs (B8 (cutR f x mk).data)), KidsR b1.hs (B8 (cutR f x mk).data), Rd b1.W (I64 (cutR f x mk).wear), Rd b1.E (Bs (cutR f x mk).dead), Rd A8 [.int .i64 ((cutR f x mk).size : Int), .slice b1.D (cutR f x mk).data.length b1.cD, .slice b1.W (cutR f x mk).wear.length b1.cW, .int .i64 (cutR f x mk).limit, .slice b1.E (cutR f x mk).dead.length b1.cE]]) (fun q : Bool => []) (fun q : Bool => q = decide (x.kind = 1 ∧ f.wear.getD x.sec.toNat 0 = f.limit)) ?_ ?_
    · skip
      refine C.regionQ (by kernel_rfl) ?_
      refine LQ.step (Ev.fieldAddr rfl rfl rfl rfl rfl rfl (Src.r 7 rfl) (Nat.zero_lt_succ _) rfl) rfl ?_
      refine LQ.step (Ev.load rfl rfl rfl (Src.r 7 rfl) rfl) rfl ?_
      refine LQ.step (Ev.pure rfl) rfl ?_
      refine LQ.step (Ev.pure rfl) rfl ?_
      refine LQ.bool 41 rfl (fun hg41 => ?_) (fun hg41 => ?_)
      · skip
        replace hg41 := i_eq hg41
        refine LQ.yes rfl ?_
        refine LQ.step (Ev.fieldAddr rfl rfl rfl rfl rfl rfl (Src.r 1 rfl) (Nat.zero_lt_succ _) rfl) rfl ?_
        refine LQ.yes rfl ?_
        refine LQ.step (Ev.load rfl rfl rfl (Src.r 1 rfl) rfl) rfl ?_
        refine LQ.yes rfl ?_
        refine LQ.step (Ev.pure rfl) rfl ?_
        refine LQ.yes rfl ?_
        refine LQ.step (Ev.idx1 (k := x.sec.toNat) rfl rfl rfl rfl rfl rfl hsq hv (Src.r 4 rfl) (I64_pos hv)) rfl ?_
        refine LQ.yes rfl ?_
        refine LQ.step (Ev.load rfl rfl rfl (Src.r 4 rfl) (I64_get hv)) rfl ?_
        refine LQ.yes rfl ?_
        refine LQ.step (Ev.fieldAddr rfl rfl rfl rfl rfl rfl (Src.r 1 rfl) (Nat.zero_lt_succ _) rfl) rfl ?_
        refine LQ.yes rfl ?_
        refine LQ.step (Ev.load rfl rfl rfl (Src.r 1 rfl) rfl) rfl ?_
        refine LQ.yes rfl ?_
        refine LQ.step (Ev.pure rfl) rfl ?_
        refine LQ.step (Ev.pure rfl) rfl ?_
        refine LQ.step (Ev.pure rfl) rfl ?_
        refine LQ.nil ?_
        refine QE.join ((f.wear.getD x.sec.toNat 0 == f.limit)) (by rw [Bool.eq_iff_iff]; simp [hg41]) (by exact Le.mk' (rs := [1, 2, 3, 4, 5, 6, 7, 8, 9, 10, 11, 0]) (hs := []) ⟨rfl, rfl, rfl, rfl, rfl, rfl, rfl, trivial⟩ ⟨rfl, rfl, rfl, rfl, rfl, rfl, rfl, rfl, rfl, rfl, rfl, rfl, trivial⟩ trivial (by decide))
      · skip
        replace hg41 := i_ne hg41
        refine LQ.no rfl rfl rfl ?_
        refine LQ.no rfl rfl rfl ?_
        refine LQ.no rfl rfl rfl ?_
        refine LQ.no rfl rfl rfl ?_
        refine LQ.no rfl rfl rfl ?_
        refine LQ.no rfl rfl rfl ?_
        refine LQ.no rfl rfl rfl ?_
        refine LQ.no rfl rfl rfl ?_
        refine LQ.step (Ev.pure rfl) rfl ?_
        refine LQ.step (Ev.pure rfl) rfl ?_
        refine LQ.nil ?_
        refine QE.join (false) (by simp [hg41]) (by exact Le.mk' (rs := [1, 2, 3, 4, 5, 6, 7, 8, 9, 10, 11, 0]) (hs := []) ⟨rfl, rfl, rfl, rfl, rfl, rfl, rfl, trivial⟩ ⟨rfl, rfl, rfl, rfl, rfl, rfl, rfl, rfl, rfl, rfl, rfl, rfl, trivial⟩ trivial (by decide))
    · skip
      rintro w hw
      refine C.seq ?_
      refine C.seq ?_
      refine C.region ?_
      refine L.step (Ev.fieldAddr rfl rfl rfl rfl rfl rfl (Src.r 0 rfl) (Nat.zero_lt_succ _) rfl) rfl ?_
      refine L.step (Ev.load rfl rfl rfl (Src.r 0 rfl) rfl) rfl ?_
      refine L.step (Ev.pure rfl) rfl ?_
      refine L.step (Ev.idx1 (k := x.sec.toNat) rfl rfl rfl rfl rfl rfl hsq hu (Src.r 4 rfl) (Bs_pos hu)) rfl ?_
      refine L.step (Ev.load rfl rfl rfl (Src.r 4 rfl) (Bs_get hu)) rfl ?_
      refine L.nil ?_
      refine QE.seq ?_
      refine C.condB 55 rfl (fun hc55 => ?_) (fun hc55 => ?_)
      · skip
        have hE1 := gx.dead hc55
        refine C.seq ?_
        refine C.region ?_
        refine L.step (Ev.pure rfl) rfl ?_
        refine L.step (Ev.pure rfl) rfl ?_
        refine L.step (Ev.pure rfl) rfl ?_
        refine L.bool 58 rfl (fun hg58 => ?_) (fun hg58 => ?_)
        · skip
          replace hg58 := i_eq hg58
          refine L.yes rfl ?_
          refine L.step (Ev.loadA rfl rfl rfl (Src.r 11 rfl) rfl rfl (by decide)) rfl ?_
          refine L.yes rfl ?_
          refine L.step (Ev.build rfl rfl rfl rfl rfl rfl rfl) rfl ?_
          refine L.yes rfl ?_
          refine L.call (js := []) (js' := []) (Ctr.tb true (sameF_c (cutR f x mk) flz b1 az (cutR_sm ok) flz_sm hb1 rfl) (decide_eq_true (cutR_bad (by rw [hE1]; decide) _))) rfl rfl rfl (by decide) ⟨(Has.r 7 rfl), (Has.r 8 rfl), (Has.r 9 rfl), (Has.r 10 rfl), Has.nil, Has.kids0, Has.nil, Has.nil, trivial⟩ rfl ?_
          rintro _ _ _ ⟨rfl, rfl, rfl⟩
          refine L.step (Ev.pure rfl) rfl ?_
          refine L.step (Ev.pure rfl) rfl ?_
          refine L.yes rfl ?_
          refine L.step (Ev.pure rfl) rfl ?_
          refine L.step (Ev.pure rfl) rfl ?_
          refine L.step (Ev.pure rfl) rfl ?_
          refine L.nil ?_
          refine QE.seq ?_
          refine C.ret ?_
          refine QE.tR ?_
          refine QE.ret (js := []) (hs := []) (vs := [_]) rfl ⟨rfl, trivial⟩ (by decide) ?_
          exact ⟨rfl, rfl, rfl⟩
        · skip
          replace hg58 := i_ne hg58
          exact (hg58 hE1).elim
      · skip
        refine C.skip ?_
        refine QE.seq ?_
        refine C.seq ?_
        refine C.seq ?_
        refine C.region ?_
        refine L.step (Ev.pure rfl) rfl ?_
        refine L.nil ?_
        refine QE.seq ?_
        refine C.condB 66 rfl (fun hc66 => ?_) (fun hc66 => ?_)
        · skip
          have hw2 := of_decide_eq_true (hw.symm.trans hc66)
          have hE2 := gx.worn hc55 hw2
          refine C.seq ?_
          refine C.region ?_
          refine L.step (Ev.pure rfl) rfl ?_
          refine L.step (Ev.pure rfl) rfl ?_
          refine L.step (Ev.pure rfl) rfl ?_
          refine L.bool 69 rfl (fun hg69 => ?_) (fun hg69 => ?_)
          · skip
            replace hg69 := i_eq hg69
            refine L.yes rfl ?_
            refine L.step (Ev.loadA rfl rfl rfl (Src.r 11 rfl) rfl rfl (by decide)) rfl ?_
            refine L.yes rfl ?_
            refine L.step (Ev.build rfl rfl rfl rfl rfl rfl rfl) rfl ?_
            refine L.yes rfl ?_
            refine L.call (js := []) (js' := []) (Ctr.tb true (sameF_c (cutR f x mk) flz b1 az (cutR_sm ok) flz_sm hb1 rfl) (decide_eq_true (cutR_bad (by rw [hE2]; decide) _))) rfl rfl rfl (by decide) ⟨(Has.r 7 rfl), (Has.r 8 rfl), (Has.r 9 rfl), (Has.r 10 rfl), Has.nil, Has.kids0, Has.nil, Has.nil, trivial⟩ rfl ?_
            rintro _ _ _ ⟨rfl, rfl, rfl⟩
            refine L.step (Ev.pure rfl) rfl ?_
            refine L.step (Ev.pure rfl) rfl ?_
            refine L.yes rfl ?_
            refine L.step (Ev.pure rfl) rfl ?_
            refine L.step (Ev.pure rfl) rfl ?_
            refine L.step (Ev.pure rfl) rfl ?_
            refine L.nil ?_
            refine QE.seq ?_
            refine C.ret ?_
            refine QE.tR ?_
            refine QE.ret (js := []) (hs := []) (vs := [_]) rfl ⟨rfl, trivial⟩ (by decide) ?_
            exact ⟨rfl, rfl, rfl⟩
          · skip
            replace hg69 := i_ne hg69
            exact (hg69 hE2).elim
        · skip
          have hE : checkE f x = 0 := gx.fine hc55 (of_decide_eq_false (hw.symm.trans hc66))
          obtain ⟨ok1, hn1, hs1, hl1, hw1, he1, hd1, hr1⟩ := cutR_kept (x := x) ok hE mk
          refine C.skip ?_
          refine QE.seq ?_
          refine C.seq ?_
          refine C.seq ?_
          refine C.region ?_
          refine L.step (Ev.pure rfl) rfl ?_
          refine L.step (Ev.pure rfl) rfl ?_
          refine L.step (Ev.pure rfl) rfl ?_
          refine L.bool 79 rfl (fun hg79 => ?_) (fun hg79 => ?_)
          · skip
            replace hg79 := b_ne hg79
            exact (hg79 hE).elim
          · skip
            replace hg79 := b_eq hg79
            refine L.yes rfl ?_
            refine L.step (Ev.fieldAddr rfl rfl rfl rfl rfl rfl (Src.r 11 rfl) (Nat.zero_lt_succ _) rfl) rfl ?_
            refine L.yes rfl ?_
            refine L.step (Ev.load rfl rfl rfl (Src.r 11 rfl) rfl) rfl ?_
            refine L.yes rfl ?_
            refine L.step (Ev.fieldAddr rfl rfl rfl rfl rfl rfl (Src.r 0 rfl) (Nat.zero_lt_succ _) rfl) rfl ?_
            refine L.yes rfl ?_
            refine L.step (Ev.load rfl rfl rfl (Src.r 0 rfl) rfl) rfl ?_
            refine L.yes rfl ?_
            refine L.step (Ev.pure rfl) rfl ?_
            refine L.step (Ev.pure rfl) rfl ?_
            refine L.step (Ev.pure rfl) rfl ?_
            refine L.bool 86 rfl (fun hg86 => ?_) (fun hg86 => ?_)
            · skip
              replace hg86 := b_ne hg86
              exact (hg86 (congrArg Nat.cast hs1)).elim
            · skip
              replace hg86 := b_eq hg86
              refine L.yes rfl ?_
              refine L.step (Ev.fieldAddr rfl rfl rfl rfl rfl rfl (Src.r 11 rfl) (Nat.zero_lt_succ _) rfl) rfl ?_
              refine L.yes rfl ?_
              refine L.step (Ev.load rfl rfl rfl (Src.r 11 rfl) rfl) rfl ?_
              refine L.yes rfl ?_
              refine L.step (Ev.fieldAddr rfl rfl rfl rfl rfl rfl (Src.r 0 rfl) (Nat.zero_lt_succ _) rfl) rfl ?_
              refine L.yes rfl ?_
              refine L.step (Ev.load rfl rfl rfl (Src.r 0 rfl) rfl) rfl ?_
              refine L.yes rfl ?_
              refine L.step (Ev.pure rfl) rfl ?_
              refine L.step (Ev.pure rfl) rfl ?_
              refine L.step (Ev.pure rfl) rfl ?_
              refine L.bool 93 rfl (fun hg93 => ?_) (fun hg93 => ?_)
              · skip
                replace hg93 := b_ne hg93
                exact (hg93 hl1).elim
              · skip
                replace hg93 := b_eq hg93
                refine L.yes rfl ?_
                refine L.step (Ev.loadA rfl rfl rfl (Src.r 11 rfl) rfl rfl (by decide)) rfl ?_
                refine L.yes rfl ?_
                refine L.call (js := []) (js' := []) (Ctr.tb true (valid17_c ((cutR f x mk).size : Int) (cutR f x mk) b1 hb1 (by have := ok1.n2; omega)) (okB_ok ok1)) rfl rfl rfl (by decide) ⟨(Has.r 7 rfl), (Has.r 8 rfl), (Has.r 9 rfl), (Has.r 10 rfl), trivial⟩ rfl ?_
                rintro _ _ _ ⟨rfl, rfl, rfl⟩
                refine L.yes rfl ?_
                refine L.step (Ev.pure rfl) rfl ?_
                refine L.step (Ev.pure rfl) rfl ?_
                refine L.step (Ev.pure rfl) rfl ?_
                refine L.yes rfl ?_
                refine L.step (Ev.fieldAddr rfl rfl rfl rfl rfl rfl (Src.r 11 rfl) (Nat.zero_lt_succ _) rfl) rfl ?_
                refine L.yes rfl ?_
                refine L.step (Ev.load rfl rfl rfl (Src.r 11 rfl) rfl) rfl ?_
                refine L.yes rfl ?_
                refine L.step (Ev.pure rfl) rfl ?_
                refine L.yes rfl ?_
                refine L.step (Ev.fieldAddr rfl rfl rfl rfl rfl rfl (Src.r 0 rfl) (Nat.zero_lt_succ _) rfl) rfl ?_
                refine L.yes rfl ?_
                refine L.step (Ev.load rfl rfl rfl (Src.r 0 rfl) rfl) rfl ?_
                refine L.yes rfl ?_
                refine L.step (Ev.pure rfl) rfl ?_
                refine L.yes rfl ?_
                refine L.step (Ev.pure rfl) rfl ?_
                refine L.step (Ev.pure rfl) rfl ?_
                refine L.nil ?_
                refine QE.seq ?_
                refine C.condB 106 rfl (fun hc106 => ?_) (fun hc106 => ?_)
                · skip
                  replace hc106 := b_ne hc106
                  exact (hc106 (congrArg Nat.cast hn1)).elim
                · skip
                  replace hc106 := b_eq hc106
                  refine C.skip ?_
                  refine QE.seq ?_
                  refine C.seq ?_
                  refine C.seq ?_
                  refine C.region ?_
                  refine L.step (Ev.pure rfl) rfl ?_
                  refine L.nil ?_
                  refine QE.seq ?_
                  refine C.block ?_
                  refine C.loop (fun k : Nat => [(5, .bool true), (6, ptrOf A6 0), (7, ptrOf A7 0), (8, ptrOf A8 0), (10, .int .i64 x.sec), (12, .int .i64 (k : Int))]) (fun k : Nat => [Rd A6 [.int .i64 (f.size : Int), .slice b.D f.data.length b.cD, .slice b.W f.wear.length b.cW, .int .i64 f.limit, .slice b.E f.dead.length b.cE], Rd b.D (rowsV b.hs (B8 f.data)), KidsR b.hs (B8 f.data), Rd b.W (I64 f.wear), Rd b.E (Bs f.dead), Rd OA (U8 x.data), Rd A7 [.int .i64 x.kind, .int .i64 x.sec, .int .i64 x.at_, .slice OA x.data.length oc], Rd b1.D (rowsV b1.hs (B8 (cutR f x mk).data)), KidsR b1.hs (B8 (cutR f x mk).data), Rd b1.W (I64 (cutR f x mk).wear), Rd b1.E (Bs (cutR f x mk).dead), Rd A8 [.int .i64 ((cutR f x mk).size : Int), .slice b1.D (cutR f x mk).data.length b1.cD, .slice b1.W (cutR f x mk).wear.length b1.cW, .int .i64 (cutR f x mk).limit, .slice b1.E (cutR f x mk).dead.length b1.cE]]) (fun k : Nat => []) (fun k : Nat => k ≤ f.data.length) (fun k : Nat => f.data.length - k) 0 (Nat.zero_le _) (by exact Le.mk' (rs := [0, 1, 2, 3, 4, 5, 6, 7, 8, 9, 10, 11]) (hs := []) ⟨rfl, rfl, rfl, rfl, rfl, rfl, trivial⟩ ⟨rfl, rfl, rfl, rfl, rfl, rfl, rfl, rfl, rfl, rfl, rfl, rfl, trivial⟩ trivial (by decide)) ?_
                  rintro k hk
                  refine C.seq ?_
                  refine C.seq ?_
                  refine C.region ?_
                  refine L.step (Ev.pure rfl) rfl ?_
                  refine L.step (Ev.fieldAddr rfl rfl rfl rfl rfl rfl (Src.r 0 rfl) (Nat.zero_lt_succ _) rfl) rfl ?_
                  refine L.step (Ev.load rfl rfl rfl (Src.r 0 rfl) rfl) rfl ?_
                  refine L.step (Ev.pure rfl) rfl ?_
                  refine L.step (Ev.pure rfl) rfl ?_
                  refine L.nil ?_
                  refine QE.seq ?_
                  refine C.condB 111 rfl (fun hc111 => ?_) (fun hc111 => ?_)
                  · skip
                    replace hc111 := of_decide_eq_true hc111
                    have kn : k < f.data.length := Int.ofNat_lt.1 hc111
                    have hwk := ok.wear k kn
                    have hrk := ok.rows k kn
                    have hr1k := hr1 k kn
                    have hlim2 := ok.l2
                    have kw := kn
                    rw [← hokw] at kw
                    have ke := kn
                    rw [← hoke] at ke
                    have kn1 := kn
                    rw [← hn1] at kn1
                    have kw1 := kn
                    rw [← hw1] at kw1
                    have ke1 := kn
                    rw [← he1] at ke1
                    refine C.skip ?_
                    refine QE.seq ?_
                    refine C.seq ?_
                    refine C.block ?_
                    refine C.seq ?_
                    refine C.region ?_
                    refine L.step (Ev.fieldAddr rfl rfl rfl rfl rfl rfl (Src.r 0 rfl) (Nat.zero_lt_succ _) rfl) rfl ?_
                    refine L.step (Ev.load rfl rfl rfl (Src.r 0 rfl) rfl) rfl ?_
                    refine L.step (Ev.pure rfl) rfl ?_
                    refine L.step (Ev.idx1 (k := k) rfl rfl rfl rfl rfl rfl rfl kw (Src.r 3 rfl) (I64_pos kw)) rfl ?_
                    refine L.step (Ev.load rfl rfl rfl (Src.r 3 rfl) (I64_get kw)) rfl ?_
                    refine L.step (Ev.pure rfl) rfl ?_
                    refine L.nil ?_
                    refine QE.seq ?_
                    refine C.seqJ (fun q : Int => [(5, .bool true), (6, ptrOf A6 0), (7, ptrOf A7 0), (8, ptrOf A8 0), (10, .int .i64 x.sec), (12, .int .i64 (k : Int)), (13, .int .i64 q)]) (fun q : Int => [Rd A6 [.int .i64 (f.size : Int), .slice b.D f.data.length b.cD, .slice b.W f.wear.length b.cW, .int .i64 f.limit, .slice b.E f.dead.length b.cE], Rd b.D (rowsV b.hs (B8 f.data)), KidsR b.hs (B8 f.data), Rd b.W (I64 f.wear), Rd b.E (Bs f.dead), Rd OA (U8 x.data), Rd A7 [.int .i64 x.kind, .int .i64 x.sec, .int .i64 x.at_, .slice OA x.data.length oc], Rd b1.D (rowsV b1.hs (B8 (cutR f x mk).data)), KidsR b1.hs (B8 (cutR f x mk).data), Rd b1.W (I64 (cutR f x mk).wear), Rd b1.E (Bs (cutR f x mk).dead), Rd A8 [.int .i64 ((cutR f x mk).size : Int), .slice b1.D (cutR f x mk).data.length b1.cD, .slice b1.W (cutR f x mk).wear.length b1.cW, .int .i64 (cutR f x mk).limit, .slice b1.E (cutR f x mk).dead.length b1.cE]]) (fun q : Int => []) (fun q : Int => q = (cutR f x mk).wear.getD k 0) ?_ ?_
                    · skip
                      refine C.seq ?_
                      refine C.region ?_
                      refine L.step (Ev.pure rfl) rfl ?_
                      refine L.step (Ev.pure rfl) rfl ?_
                      refine L.step (Ev.pure rfl) rfl ?_
                      refine L.step (Ev.pure rfl) rfl ?_
                      refine L.bool 122 rfl (fun hg122 => ?_) (fun hg122 => ?_)
                      · skip
                        replace hg122 := i_eq hg122
                        refine L.yes rfl ?_
                        refine L.step (Ev.fieldAddr rfl rfl rfl rfl rfl rfl (Src.r 6 rfl) (Nat.zero_lt_succ _) rfl) rfl ?_
                        refine L.yes rfl ?_
                        refine L.step (Ev.load rfl rfl rfl (Src.r 6 rfl) rfl) rfl ?_
                        refine L.yes rfl ?_
                        refine L.step (Ev.pure rfl) rfl ?_
                        refine L.step (Ev.pure rfl) rfl ?_
                        refine L.nil ?_
                        refine QE.seq ?_
                        refine C.condB 126 rfl (fun hc126 => ?_) (fun hc126 => ?_)
                        · skip
                          replace hc126 := i_eq hc126
                          refine C.region ?_
                          refine L.step (Ev.pure rfl) rfl ?_
                          refine L.step (Ev.add rfl rfl (by omega) (by omega)) rfl ?_
                          refine L.step (Ev.pure rfl) rfl ?_
                          refine L.nil ?_
                          refine QE.join (f.wear.getD k 0 + 1) (by exact (cutR_wear1 ok hE (by omega) (by omega))) (by exact Le.mk' (rs := [0, 1, 2, 3, 4, 5, 6, 7, 8, 9, 10, 11]) (hs := []) ⟨rfl, rfl, rfl, rfl, rfl, rfl, rfl, trivial⟩ ⟨rfl, rfl, rfl, rfl, rfl, rfl, rfl, rfl, rfl, rfl, rfl, rfl, trivial⟩ trivial (by decide))
                        · skip
                          replace hc126 := i_ne hc126
                          refine C.skip ?_
                          refine QE.join (f.wear.getD k 0) (by exact (cutR_wear2 hE (by omega))) (by exact Le.mk' (rs := [0, 1, 2, 3, 4, 5, 6, 7, 8, 9, 10, 11]) (hs := []) ⟨rfl, rfl, rfl, rfl, rfl, rfl, rfl, trivial⟩ ⟨rfl, rfl, rfl, rfl, rfl, rfl, rfl, rfl, rfl, rfl, rfl, rfl, trivial⟩ trivial (by decide))
                      · skip
                        replace hg122 := i_ne hg122
                        refine L.no rfl rfl rfl ?_
                        refine L.no rfl rfl rfl ?_
                        refine L.no rfl rfl rfl ?_
                        refine L.step (Ev.pure rfl) rfl ?_
                        refine L.nil ?_
                        refine QE.seq ?_
                        refine C.cond rfl (fun h => by cases h) (fun _ => ?_)
                        refine C.skip ?_
                        refine QE.join (f.wear.getD k 0) (by exact (cutR_wear2 hE (by omega))) (by exact Le.mk' (rs := [0, 1, 2, 3, 4, 5, 6, 7, 8, 9, 10, 11]) (hs := []) ⟨rfl, rfl, rfl, rfl, rfl, rfl, rfl, trivial⟩ ⟨rfl, rfl, rfl, rfl, rfl, rfl, rfl, rfl, rfl, rfl, rfl, rfl, trivial⟩ trivial (by decide))
                    · skip
                      rintro w hw
                      refine C.seq ?_
                      refine C.regionQ (by kernel_rfl) ?_
                      refine LQ.step (Ev.fieldAddr rfl rfl rfl rfl rfl rfl (Src.r 11 rfl) (Nat.zero_lt_succ _) rfl) rfl ?_
                      refine LQ.step (Ev.load rfl rfl rfl (Src.r 11 rfl) rfl) rfl ?_
                      refine LQ.step (Ev.pure rfl) rfl ?_
                      refine LQ.step (Ev.idx1 (k := k) rfl rfl rfl rfl rfl rfl rfl ke1 (Src.r 10 rfl) (Bs_pos ke1)) rfl ?_
                      refine LQ.step (Ev.load rfl rfl rfl (Src.r 10 rfl) (Bs_get ke1)) rfl ?_
                      refine LQ.step (Ev.fieldAddr rfl rfl rfl rfl rfl rfl (Src.r 0 rfl) (Nat.zero_lt_succ _) rfl) rfl ?_
                      refine LQ.step (Ev.load rfl rfl rfl (Src.r 0 rfl) rfl) rfl ?_
                      refine LQ.step (Ev.pure rfl) rfl ?_
                      refine LQ.step (Ev.idx1 (k := k) rfl rfl rfl rfl rfl rfl rfl ke (Src.r 4 rfl) (Bs_pos ke)) rfl ?_
                      refine LQ.step (Ev.load rfl rfl rfl (Src.r 4 rfl) (Bs_get ke)) rfl ?_
                      refine LQ.step (Ev.neBool rfl rfl rfl rfl) rfl ?_
                      refine LQ.step (Ev.pure rfl) rfl ?_
                      refine LQ.bool 140 rfl (fun hg140 => ?_) (fun hg140 => ?_)
                      · skip
                        rw [hd1] at hg140; simp at hg140
                      · skip
                        refine LQ.yes rfl ?_
                        refine LQ.step (Ev.fieldAddr rfl rfl rfl rfl rfl rfl (Src.r 11 rfl) (Nat.zero_lt_succ _) rfl) rfl ?_
                        refine LQ.yes rfl ?_
                        refine LQ.step (Ev.load rfl rfl rfl (Src.r 11 rfl) rfl) rfl ?_
                        refine LQ.yes rfl ?_
                        refine LQ.step (Ev.pure rfl) rfl ?_
                        refine LQ.yes rfl ?_
                        refine LQ.step (Ev.idx1 (k := k) rfl rfl rfl rfl rfl rfl rfl kw1 (Src.r 9 rfl) (I64_pos kw1)) rfl ?_
                        refine LQ.yes rfl ?_
                        refine LQ.step (Ev.load rfl rfl rfl (Src.r 9 rfl) (I64_get kw1)) rfl ?_
                        refine LQ.yes rfl ?_
                        refine LQ.step (Ev.pure rfl) rfl ?_
                        refine LQ.yes rfl ?_
                        refine LQ.step (Ev.pure rfl) rfl ?_
                        refine LQ.step (Ev.pure rfl) rfl ?_
                        refine LQ.step (Ev.pure rfl) rfl ?_
                        refine LQ.bool 149 rfl (fun hg149 => ?_) (fun hg149 => ?_)
                        · skip
                          replace hg149 := b_ne hg149
                          exact (hg149 hw.symm).elim
                        · skip
                          replace hg149 := b_eq hg149
                          refine LQ.yes rfl ?_
                          refine LQ.step (Ev.pure rfl) rfl ?_
                          refine LQ.yes rfl ?_
                          refine LQ.step (Ev.pure rfl) rfl ?_
                          refine LQ.yes rfl ?_
                          refine LQ.step (Ev.pure rfl) rfl ?_
                          refine LQ.yes rfl ?_
                          refine LQ.step (Ev.pure rfl) rfl ?_
                          refine LQ.bool 153 rfl (fun hg153 => ?_) (fun hg153 => ?_)
                          · skip
                            replace hg153 := b_ne hg153
                            refine LQ.yes rfl ?_
                            refine LQ.step (Ev.fieldAddr rfl rfl rfl rfl rfl rfl (Src.r 11 rfl) (Nat.zero_lt_succ _) rfl) rfl ?_
                            refine LQ.yes rfl ?_
                            refine LQ.step (Ev.load rfl rfl rfl (Src.r 11 rfl) rfl) rfl ?_
                            refine LQ.yes rfl ?_
                            refine LQ.step (Ev.pure rfl) rfl ?_
                            refine LQ.yes rfl ?_
                            refine LQ.step (Ev.idx1 (k := k) rfl rfl rfl rfl rfl rfl rfl kn1 (Src.r 7 rfl) (rows_pos hb1 kn1)) rfl ?_
                            refine LQ.yes rfl ?_
                            refine LQ.step (Ev.load rfl rfl rfl (Src.r 7 rfl) (rows8_get hb1 kn1)) rfl ?_
                            refine LQ.yes rfl ?_
                            refine LQ.step (Ev.fieldAddr rfl rfl rfl rfl rfl rfl (Src.r 0 rfl) (Nat.zero_lt_succ _) rfl) rfl ?_
                            refine LQ.yes rfl ?_
                            refine LQ.step (Ev.load rfl rfl rfl (Src.r 0 rfl) rfl) rfl ?_
                            refine LQ.yes rfl ?_
                            refine LQ.step (Ev.pure rfl) rfl ?_
                            refine LQ.yes rfl ?_
                            refine LQ.step (Ev.idx1 (k := k) rfl rfl rfl rfl rfl rfl rfl kn (Src.r 1 rfl) (rows_pos hb kn)) rfl ?_
                            refine LQ.yes rfl ?_
                            refine LQ.step (Ev.load rfl rfl rfl (Src.r 1 rfl) (rows8_get hb kn)) rfl ?_
                            refine LQ.yes rfl ?_
                            refine LQ.call (.bool true) (Ctr.tb true (same_c _ _ _ _ ((cutR f x mk).data.getD k []) (f.data.getD k []) (len_big hr1k hsz) (len_big hrk hsz)) (by rw [cutR_other hE (by omega)]; simp)) (fun _ _ _ h => h.1) rfl ⟨((Has.kid 8 rfl (by rw [B8_len]; exact hb1) (k) (by rw [B8_len]; exact kn1)).cast (B8_get _)), ((Has.kid 2 rfl (by rw [B8_len]; exact hb) (k) (by rw [B8_len]; exact kn)).cast (B8_get _)), trivial⟩ rfl ?_
                            refine LQ.yes rfl ?_
                            refine LQ.step (Ev.pure rfl) rfl ?_
                            refine LQ.yes rfl ?_
                            refine LQ.step (Ev.pure rfl) rfl ?_
                            refine LQ.step (Ev.pure rfl) rfl ?_
                            refine LQ.nil ?_
                            refine QE.seq ?_
                            refine C.cond rfl (fun h => by cases h) (fun _ => ?_)
                            refine C.skip ?_
                            refine QE.blkN ?_
                            refine QE.seq ?_
                            refine C.region ?_
                            refine L.step (Ev.pure rfl) rfl ?_
                            refine L.step (Ev.add rfl rfl (by omega) (by omega)) rfl ?_
                            refine L.step (Ev.pure rfl) rfl ?_
                            refine L.nil ?_
                            refine QE.round (k + 1) (by omega) (by omega) (by exact Le.mk' (rs := [0, 1, 2, 3, 4, 5, 6, 7, 8, 9, 10, 11]) (hs := []) ⟨rfl, rfl, rfl, rfl, rfl, rfl, trivial⟩ ⟨rfl, rfl, rfl, rfl, rfl, rfl, rfl, rfl, rfl, rfl, rfl, rfl, trivial⟩ trivial (by decide))
                          · skip
                            replace hg153 := b_eq hg153
                            refine LQ.no rfl rfl rfl ?_
                            refine LQ.no rfl rfl rfl ?_
                            refine LQ.no rfl rfl rfl ?_
                            refine LQ.no rfl rfl rfl ?_
                            refine LQ.no rfl rfl rfl ?_
                            refine LQ.no rfl rfl rfl ?_
                            refine LQ.no rfl rfl rfl ?_
                            refine LQ.no rfl rfl rfl ?_
                            refine LQ.no rfl rfl rfl ?_
                            refine LQ.no rfl rfl rfl ?_
                            refine LQ.no rfl rfl rfl ?_
                            refine LQ.no rfl rfl rfl ?_
                            refine LQ.yes rfl ?_
                            refine LQ.step (Ev.pure rfl) rfl ?_
                            refine LQ.step (Ev.pure rfl) rfl ?_
                            refine LQ.nil ?_
                            refine QE.seq ?_
                            refine C.cond rfl (fun h => by cases h) (fun _ => ?_)
                            refine C.skip ?_
                            refine QE.blkN ?_
                            refine QE.seq ?_
                            refine C.region ?_
                            refine L.step (Ev.pure rfl) rfl ?_
                            refine L.step (Ev.add rfl rfl (by omega) (by omega)) rfl ?_
                            refine L.step (Ev.pure rfl) rfl ?_
                            refine L.nil ?_
                            refine QE.round (k + 1) (by omega) (by omega) (by exact Le.mk' (rs := [0, 1, 2, 3, 4, 5, 6, 7, 8, 9, 10, 11]) (hs := []) ⟨rfl, rfl, rfl, rfl, rfl, rfl, trivial⟩ ⟨rfl, rfl, rfl, rfl, rfl, rfl, rfl, rfl, rfl, rfl, rfl, rfl, trivial⟩ trivial (by decide))
                  · skip
                    replace hc111 := of_decide_eq_false hc111
                    refine C.exit ?_
                    refine QE.tX ?_
                    refine QE.tX ?_
                    refine QE.blk ?_
                    refine QE.seq ?_
                    refine C.seq ?_
                    refine C.region ?_
                    refine L.step (Ev.pure rfl) rfl ?_
                    refine L.step (Ev.pure rfl) rfl ?_
                    refine L.nil ?_
                    refine QE.seq ?_
                    refine C.ret ?_
                    refine QE.ret (js := []) (hs := []) (vs := [_]) rfl ⟨rfl, trivial⟩ (by decide) ?_
                    exact ⟨rfl, rfl, rfl⟩

end Go.Proofs.Ythfjkdgopkmgoaa
