/-
  The contract of FlashReaches.
-/
import Derived.Test.YthfjkdgopkmgoaaWFlM
import Derived.Test.YthfjkdgopkmgoaaSlJ
import Derived.Test.YthfjkdgopkmgoaaPo
namespace Go.Proofs.Ythfjkdgopkmgoaa
open Go.Sl

theorem same_n (A B : Option Addr) (c d : Nat) (xs ys : List UInt8) (hxs : xs.length ≤ 9223372036854775807) (hys : ys.length ≤ 9223372036854775807) {n : Nat} (hn : ys.length = n) :
    Ctr X 25 [.slice A xs.length c, .slice B n d] [Rd A (U8 xs), Rd B (U8 ys)] [] (fun v R' H' => v = .bool (xs == ys) ∧ R' = [] ∧ H' = []) := by
  subst hn
  exact same_c A B c d xs ys hxs hys

set_option maxHeartbeats 2000000 in
theorem reaches_c (rs : UInt8) (rd : List (List UInt8)) (rw : List UInt8) (re : UInt8) (RD RW : Option Addr) (rc rwc : Nat) (rhs : List Hd) (hrh : rhs.length = rd.length) (hrl : rd.length ≤ 9223372036854775807) (hrr : ∀ i, (rd.getD i []).length ≤ 9223372036854775807) (hrw : rw.length ≤ 9223372036854775807) (LA QA : Option Addr) (lc qc : Nat) (sL : List Stp6) (ql : List UInt8) (_hLl : sL.length ≤ 9223372036854775807) (hql : ql.length ≤ 9223372036854775807) (hLs : ∀ k, (sL.getD k Stp6.zero).data.length ≤ (sL.getD k Stp6.zero).yc ∧ (sL.getD k Stp6.zero).data.length ≤ 9223372036854775807 ∧ (sL.getD k Stp6.zero).mask.length ≤ 9223372036854775807) :
    Ctr X 15 [.agg (List.toArray [.int .u8 (rs.toNat : Int), .slice RD rd.length rc, .slice RW rw.length rwc, .int .u8 (re.toNat : Int)]), .slice LA sL.length lc, .slice QA ql.length qc] [Rd RD (rowsV rhs (B8 rd)), KidsR rhs (B8 rd), Rd RW (U8 rw), Rd LA (stepsV sL), KidsR (stepsY sL) (B8 (sL.map Stp6.data)), KidsR (stepsM sL) (B8 (sL.map Stp6.mask)), Rd QA (U8 ql)] [] (fun v R' H' => v = .bool true ∧ R' = [] ∧ H' = []) := by
  refine Ctr.of (X := X) (fn := Try.f15) Try.func15 rfl (by kernel_rfl) rfl ?_
  intro β
  refine C.seq ?_
  refine C.region ?_
  refine L.boxA rfl rfl (fun A3 => ?_)
  refine L.step (Ev.pure rfl) rfl ?_
  refine L.nil ?_
  refine QE.seq ?_
  refine C.seq ?_
  refine C.freeze 0 rfl [] (by decide) (by decide) ?_
  refine C.region ?_
  refine L.call (js := []) (js' := []) (sanity_c) rfl rfl rfl (by decide) trivial rfl ?_
  rintro _ _ _ ⟨rfl, rfl, rfl⟩
  refine L.step (Ev.pure rfl) rfl ?_
  refine L.nil ?_
  refine QE.seq ?_
  refine C.seq ?_
  refine C.region ?_
  refine L.step (Ev.loadA rfl rfl rfl (Src.r 0 rfl) rfl rfl (by decide)) rfl ?_
  refine L.call (js := []) (js' := []) (made_c rs rd rw re RD RW rc rwc rhs hrh hrl hrr hrw) rfl rfl rfl (by decide) ⟨(Has.r 1 rfl), (Has.r 2 rfl), (Has.r 3 rfl), trivial⟩ rfl ?_
  rintro _ _ _ ⟨f, b, ok, hlim, hsz, hdl, hb, rfl, rfl, rfl⟩
  refine L.alloc rfl rfl rfl (fun A8 => ?_)
  refine L.storeA (j := 4) rfl rfl rfl rfl rfl (Nat.zero_lt_succ _) rfl rfl ?_
  refine L.nil ?_
  refine QE.seq ?_
  refine C.seqJ (fun q : Fl × Fa => [(1, .slice LA sL.length lc), (2, .slice QA ql.length qc), (7, .bool true), (8, ptrOf A8 0)]) (fun q : Fl × Fa => [Rd LA (stepsV sL), KidsR (stepsY sL) (B8 (sL.map Stp6.data)), KidsR (stepsM sL) (B8 (sL.map Stp6.mask)), Rd QA (U8 ql), Rd q.2.D (rowsV q.2.hs (B8 q.1.data)), KidsR q.2.hs (B8 q.1.data), Rd q.2.W (I64 q.1.wear), Rd q.2.E (Bs q.1.dead)]) (fun q : Fl × Fa => [Own 32 5 A8 1 1 [.int .i64 (q.1.size : Int), .slice q.2.D q.1.data.length q.2.cD, .slice q.2.W q.1.wear.length q.2.cW, .int .i64 q.1.limit, .slice q.2.E q.1.dead.length q.2.cE]]) (fun q : Fl × Fa => q.1.Ok ∧ q.1.size ≤ 12 ∧ q.1.data.length ≤ 4 ∧ q.2.hs.length = q.1.data.length) ?_ ?_
  · skip
    refine C.seq ?_
    refine C.le (Γ' := [(1, .slice LA sL.length lc), (2, .slice QA ql.length qc), (7, .bool true), (8, ptrOf A8 0)]) (R' := [Rd LA (stepsV sL), KidsR (stepsY sL) (B8 (sL.map Stp6.data)), KidsR (stepsM sL) (B8 (sL.map Stp6.mask)), Rd QA (U8 ql)]) (H' := [Own 32 5 A8 1 1 [.int .i64 (f.size : Int), .slice b.D f.data.length b.cD, .slice b.W f.wear.length b.cW, .int .i64 f.limit, .slice b.E f.dead.length b.cE], Own 24 1 b.D f.data.length b.cD (rowsV b.hs (B8 f.data)), OwnKids 5 b.hs (B8 f.data), Own 3 1 b.W f.wear.length b.cW (I64 f.wear), Own 4 1 b.E f.dead.length b.cE (Bs f.dead)]) (by exact Le.mk' (rs := [4, 5, 6, 7]) (hs := [4, 0, 1, 2, 3]) ⟨rfl, rfl, rfl, rfl, trivial⟩ ⟨rfl, rfl, rfl, rfl, trivial⟩ ⟨rfl, rfl, rfl, rfl, rfl, trivial⟩ (by decide)) ?_
    refine C.freeze 1 rfl [0, 2, 3, 4] (by decide) (by decide) ?_
    refine C.freezeKids 1 rfl [0, 2, 3] (by decide) (by decide) ?_
    refine C.freeze 1 rfl [0, 2] (by decide) (by decide) ?_
    refine C.freeze 1 rfl [0] (by decide) (by decide) ?_
    refine C.region ?_
    refine L.step (Ev.pure rfl) rfl ?_
    refine L.nil ?_
    refine QE.seq ?_
    refine C.block ?_
    refine C.loop (fun q : Nat × Fl × Fa => [(1, .slice LA sL.length lc), (2, .slice QA ql.length qc), (7, .bool true), (8, ptrOf A8 0), (9, .int .i64 (q.1 : Int))]) (fun q : Nat × Fl × Fa => [Rd LA (stepsV sL), KidsR (stepsY sL) (B8 (sL.map Stp6.data)), KidsR (stepsM sL) (B8 (sL.map Stp6.mask)), Rd QA (U8 ql), Rd q.2.2.D (rowsV q.2.2.hs (B8 q.2.1.data)), KidsR q.2.2.hs (B8 q.2.1.data), Rd q.2.2.W (I64 q.2.1.wear), Rd q.2.2.E (Bs q.2.1.dead)]) (fun q : Nat × Fl × Fa => [Own 32 5 A8 1 1 [.int .i64 (q.2.1.size : Int), .slice q.2.2.D q.2.1.data.length q.2.2.cD, .slice q.2.2.W q.2.1.wear.length q.2.2.cW, .int .i64 q.2.1.limit, .slice q.2.2.E q.2.1.dead.length q.2.2.cE]]) (fun q : Nat × Fl × Fa => q.1 ≤ sL.length ∧ q.2.1.Ok ∧ q.2.1.size ≤ 12 ∧ q.2.1.data.length ≤ 4 ∧ q.2.2.hs.length = q.2.1.data.length) (fun q : Nat × Fl × Fa => sL.length - q.1) (0, f, b) ⟨Nat.zero_le _, ok, hsz, hdl, hb⟩ (by exact Le.mk' (rs := [4, 5, 6, 7, 3, 2, 1, 0]) (hs := [0]) ⟨rfl, rfl, rfl, rfl, rfl, trivial⟩ ⟨rfl, rfl, rfl, rfl, rfl, rfl, rfl, rfl, trivial⟩ ⟨rfl, trivial⟩ (by decide)) ?_
    clear hb hdl hsz ok hlim
    rintro ⟨k, f, b⟩ ⟨hkz, ok, hsz, hdl, hb⟩
    dsimp only at hkz ok hsz hdl hb ⊢
    refine C.seq ?_
    refine C.seq ?_
    refine C.region ?_
    refine L.step (Ev.pure rfl) rfl ?_
    refine L.step (Ev.pure rfl) rfl ?_
    refine L.step (Ev.pure rfl) rfl ?_
    refine L.step (Ev.pure rfl) rfl ?_
    refine L.step (Ev.pure rfl) rfl ?_
    refine L.bool 25 rfl (fun hg25 => ?_) (fun hg25 => ?_)
    · skip
      replace hg25 := of_decide_eq_true hg25
      have hkL : k < sL.length := Int.ofNat_lt.1 hg25
      refine L.yes rfl ?_
      refine L.step (Ev.pure rfl) rfl ?_
      refine L.yes rfl ?_
      refine L.step (Ev.pure rfl) rfl ?_
      refine L.step (Ev.pure rfl) rfl ?_
      refine L.nil ?_
      refine QE.seq ?_
      refine C.condB 28 rfl (fun hc28 => ?_) (fun hc28 => ?_)
      · skip
        replace hc28 := of_decide_eq_true hc28
        refine C.skip ?_
        refine QE.seq ?_
        refine C.seq ?_
        refine C.block ?_
        refine C.seq ?_
        refine C.more (r := Rd (sL.getD k Stp6.zero).yA (U8 (sL.getD k Stp6.zero).data)) (Has.stepY 1 rfl hkL) ?_
        refine C.join (fun q : Fo × Option Addr × Nat × Option Addr => [(1, .slice LA sL.length lc), (2, .slice QA ql.length qc), (7, .bool true), (8, ptrOf A8 0), (9, .int .i64 (k : Int)), (10, ptrOf q.2.2.2 0)]) (fun q : Fo × Option Addr × Nat × Option Addr => [Rd LA (stepsV sL), KidsR (stepsY sL) (B8 (sL.map Stp6.data)), KidsR (stepsM sL) (B8 (sL.map Stp6.mask)), Rd QA (U8 ql), Rd b.D (rowsV b.hs (B8 f.data)), KidsR b.hs (B8 f.data), Rd b.W (I64 f.wear), Rd b.E (Bs f.dead), Rd q.2.1 (U8 q.1.data)]) (fun q : Fo × Option Addr × Nat × Option Addr => [Own 32 5 A8 1 1 [.int .i64 (f.size : Int), .slice b.D f.data.length b.cD, .slice b.W f.wear.length b.cW, .int .i64 f.limit, .slice b.E f.dead.length b.cE], Own 53 4 q.2.2.2 1 1 [.int .i64 q.1.kind, .int .i64 q.1.sec, .int .i64 q.1.at_, .slice q.2.1 q.1.data.length q.2.2.1]]) (fun q : Fo × Option Addr × Nat × Option Addr => GoodOp f q.1 ∧ q.1.data.length ≤ 9223372036854775807) ?_ ?_
        · skip
          refine C.regionM [Rd A8 [.int .i64 (f.size : Int), .slice b.D f.data.length b.cD, .slice b.W f.wear.length b.cW, .int .i64 f.limit, .slice b.E f.dead.length b.cE], Rd LA (stepsV sL)] ⟨Has.o 0 rfl, Has.r 1 rfl, trivial⟩ ?_
          refine LM.q 0 rfl (by kernel_rfl) (Ev.loadA rfl rfl rfl (Src.r 0 rfl) rfl rfl (by decide)) rfl ⟨Has.o 0 rfl, Has.r 1 rfl, trivial⟩ ?_
          refine LM.q 1 rfl (by kernel_rfl) (Ev.pure rfl) rfl ⟨Has.o 0 rfl, Has.r 1 rfl, trivial⟩ ?_
          refine LM.q 2 rfl (by kernel_rfl) (Ev.pure rfl) rfl ⟨Has.o 0 rfl, Has.r 1 rfl, trivial⟩ ?_
          refine LM.q 3 rfl (by kernel_rfl) (Ev.idx (k := k) (m := k * 6) rfl rfl rfl rfl rfl rfl hkL (Src.r 1 rfl) (steps_pos hkL) rfl) rfl ⟨Has.o 0 rfl, Has.r 1 rfl, trivial⟩ ?_
          refine LM.q 4 rfl (by kernel_rfl) (Ev.loadA (k := k * 6) rfl rfl rfl (Src.r 1 rfl) (stepsV_at sL k hkL) rfl (by decide)) rfl ⟨Has.o 0 rfl, Has.r 1 rfl, trivial⟩ ?_
          refine LM.alt [5, 6] (by kernel_rfl) (by decide) ⟨Has.o 0 rfl, Has.r 1 rfl, trivial⟩ ⟨⟨_, rfl, ?_⟩, ⟨_, rfl, ?_⟩, trivial⟩
          · skip
            refine L.callR (js := []) (js' := [0]) (op_g f b ok hb (sL.getD k Stp6.zero).er (sL.getD k Stp6.zero).torn (sL.getD k Stp6.zero).se (sL.getD k Stp6.zero).at_ (sL.getD k Stp6.zero).data (sL.getD k Stp6.zero).yA (sL.getD k Stp6.zero).mA (sL.getD k Stp6.zero).yc _ (sL.getD k Stp6.zero).mc (hLs k).2.1 (hLs k).1) rfl rfl rfl (by decide) ⟨(Has.r 5 rfl), (Has.r 6 rfl), (Has.r 7 rfl), (Has.r 8 rfl), (Has.r 0 rfl), trivial⟩ rfl ?_
            rintro _ _ _ ⟨x, OA, oc, ⟨gx, hxl, hx2, hxs⟩, rfl, rfl, rfl⟩
            refine L.nil (QE.m (by kernel_rfl) ?_)
            refine LM.f 6 rfl (by kernel_rfl) ⟨Has.o 0 rfl, Has.r 2 rfl, trivial⟩ ?_
            refine L.alloc rfl rfl rfl (fun A10 => ?_)
            refine L.nil (QE.m (by kernel_rfl) ?_)
            refine LM.cut [] (by kernel_rfl) ⟨Has.o 0 rfl, Has.r 2 rfl, trivial⟩ ?_
            refine LM.f 7 rfl (by kernel_rfl) trivial ?_
            refine L.storeA (j := 1) rfl rfl rfl rfl rfl (Nat.zero_lt_succ _) rfl rfl ?_
            refine L.nil (QE.m (by kernel_rfl) ?_)
            refine LM.nil (by kernel_rfl) trivial ?_
            refine QE.joined ((x, OA, oc, A10)) (by exact ⟨gx, Nat.le_trans hxl (hLs k).2.1⟩) (by exact Le.mk' (rs := [2, 3, 4, 5, 6, 7, 8, 9, 0]) (hs := [0, 1]) ⟨rfl, rfl, rfl, rfl, rfl, rfl, trivial⟩ ⟨rfl, rfl, rfl, rfl, rfl, rfl, rfl, rfl, rfl, trivial⟩ ⟨rfl, rfl, trivial⟩ (by decide))
          · skip
            refine L.alloc rfl rfl rfl (fun A10 => ?_)
            refine L.nil (QE.m (by kernel_rfl) ?_)
            refine LM.f 5 rfl (by kernel_rfl) ⟨Has.o 0 rfl, Has.r 1 rfl, trivial⟩ ?_
            refine L.callR (js := []) (js' := [0, 1]) (op_g f b ok hb (sL.getD k Stp6.zero).er (sL.getD k Stp6.zero).torn (sL.getD k Stp6.zero).se (sL.getD k Stp6.zero).at_ (sL.getD k Stp6.zero).data (sL.getD k Stp6.zero).yA (sL.getD k Stp6.zero).mA (sL.getD k Stp6.zero).yc _ (sL.getD k Stp6.zero).mc (hLs k).2.1 (hLs k).1) rfl rfl rfl (by decide) ⟨(Has.r 5 rfl), (Has.r 6 rfl), (Has.r 7 rfl), (Has.r 8 rfl), (Has.r 0 rfl), trivial⟩ rfl ?_
            rintro _ _ _ ⟨x, OA, oc, ⟨gx, hxl, hx2, hxs⟩, rfl, rfl, rfl⟩
            refine L.nil (QE.m (by kernel_rfl) ?_)
            refine LM.cut [] (by kernel_rfl) ⟨Has.o 0 rfl, Has.r 2 rfl, trivial⟩ ?_
            refine LM.f 7 rfl (by kernel_rfl) trivial ?_
            refine L.storeA (j := 1) rfl rfl rfl rfl rfl (Nat.zero_lt_succ _) rfl rfl ?_
            refine L.nil (QE.m (by kernel_rfl) ?_)
            refine LM.nil (by kernel_rfl) trivial ?_
            refine QE.joined ((x, OA, oc, A10)) (by exact ⟨gx, Nat.le_trans hxl (hLs k).2.1⟩) (by exact Le.mk' (rs := [2, 3, 4, 5, 6, 7, 8, 9, 0]) (hs := [0, 1]) ⟨rfl, rfl, rfl, rfl, rfl, rfl, trivial⟩ ⟨rfl, rfl, rfl, rfl, rfl, rfl, rfl, rfl, rfl, trivial⟩ ⟨rfl, rfl, trivial⟩ (by decide))
        · skip
          rintro ⟨x, OA, oc, A10⟩ ⟨gx, hxl⟩
          dsimp only at gx hxl ⊢
          refine QE.seq ?_
          refine C.seq ?_
          refine C.freeze 1 rfl [0] (by decide) (by decide) ?_
          refine C.region ?_
          refine L.step (Ev.loadA rfl rfl rfl (Src.o 0 rfl) rfl rfl (by decide)) rfl ?_
          refine L.step (Ev.loadA rfl rfl rfl (Src.r 0 rfl) rfl rfl (by decide)) rfl ?_
          refine L.callR (js := []) (js' := [0]) (do_c f b ok hb x OA oc (by omega)) rfl rfl rfl (by decide) ⟨(Has.r 5 rfl), (Has.r 6 rfl), (Has.r 7 rfl), (Has.r 8 rfl), (Has.r 9 rfl), trivial⟩ rfl ?_
          rintro _ _ _ ⟨b1, hb1, rfl, rfl, rfl⟩
          refine L.step (Ev.pure rfl) rfl ?_
          refine L.step (Ev.pure rfl) rfl ?_
          refine L.step (Ev.pure rfl) rfl ?_
          refine L.alloc rfl rfl rfl (fun A11 => ?_)
          refine L.storeA (j := 1) rfl rfl rfl rfl rfl (Nat.zero_lt_succ _) rfl rfl ?_
          refine L.step (Ev.pure rfl) rfl ?_
          refine L.nil ?_
          refine QE.seq ?_
          refine C.seqJ (fun q : (Nat → UInt8) × Fa => [(1, .slice LA sL.length lc), (2, .slice QA ql.length qc), (7, .bool true), (8, ptrOf A8 0), (9, .int .i64 (k : Int)), (10, ptrOf A10 0), (11, ptrOf A11 0), (12, .int .i64 (checkE f x))]) (fun q : (Nat → UInt8) × Fa => [Rd LA (stepsV sL), KidsR (stepsY sL) (B8 (sL.map Stp6.data)), KidsR (stepsM sL) (B8 (sL.map Stp6.mask)), Rd QA (U8 ql), Rd b.D (rowsV b.hs (B8 f.data)), KidsR b.hs (B8 f.data), Rd b.W (I64 f.wear), Rd b.E (Bs f.dead), Rd q.2.D (rowsV q.2.hs (B8 (cutR f x q.1).data)), KidsR q.2.hs (B8 (cutR f x q.1).data), Rd q.2.W (I64 (cutR f x q.1).wear), Rd q.2.E (Bs (cutR f x q.1).dead)]) (fun q : (Nat → UInt8) × Fa => [Own 32 5 A8 1 1 [.int .i64 (f.size : Int), .slice b.D f.data.length b.cD, .slice b.W f.wear.length b.cW, .int .i64 f.limit, .slice b.E f.dead.length b.cE], Own 32 5 A11 1 1 [.int .i64 ((cutR f x q.1).size : Int), .slice q.2.D (cutR f x q.1).data.length q.2.cD, .slice q.2.W (cutR f x q.1).wear.length q.2.cW, .int .i64 (cutR f x q.1).limit, .slice q.2.E (cutR f x q.1).dead.length q.2.cE]]) (fun q : (Nat → UInt8) × Fa => q.2.hs.length = (cutR f x q.1).data.length) ?_ ?_
          · skip
            refine C.seq ?_
            refine C.le (Γ' := [(1, .slice LA sL.length lc), (2, .slice QA ql.length qc), (7, .bool true), (8, ptrOf A8 0), (9, .int .i64 (k : Int)), (10, ptrOf A10 0), (11, ptrOf A11 0), (12, .int .i64 (checkE f x))]) (R' := [Rd LA (stepsV sL), KidsR (stepsY sL) (B8 (sL.map Stp6.data)), KidsR (stepsM sL) (B8 (sL.map Stp6.mask)), Rd QA (U8 ql), Rd b.D (rowsV b.hs (B8 f.data)), KidsR b.hs (B8 f.data), Rd b.W (I64 f.wear), Rd b.E (Bs f.dead), Rd OA (U8 x.data), Rd A10 [.int .i64 x.kind, .int .i64 x.sec, .int .i64 x.at_, .slice OA x.data.length oc], Rd b1.D (rowsV b1.hs (B8 (cutR f x (fun _ => 255)).data)), KidsR b1.hs (B8 (cutR f x (fun _ => 255)).data), Rd b1.W (I64 (cutR f x (fun _ => 255)).wear), Rd b1.E (Bs (cutR f x (fun _ => 255)).dead)]) (H' := [Own 32 5 A8 1 1 [.int .i64 (f.size : Int), .slice b.D f.data.length b.cD, .slice b.W f.wear.length b.cW, .int .i64 f.limit, .slice b.E f.dead.length b.cE], Own 32 5 A11 1 1 [.int .i64 ((cutR f x (fun _ => 255)).size : Int), .slice b1.D (cutR f x (fun _ => 255)).data.length b1.cD, .slice b1.W (cutR f x (fun _ => 255)).wear.length b1.cW, .int .i64 (cutR f x (fun _ => 255)).limit, .slice b1.E (cutR f x (fun _ => 255)).dead.length b1.cE]]) (by exact Le.mk' (rs := [5, 6, 7, 8, 9, 10, 11, 12, 13, 4, 0, 1, 2, 3]) (hs := [0, 1]) ⟨rfl, rfl, rfl, rfl, rfl, rfl, rfl, rfl, trivial⟩ ⟨rfl, rfl, rfl, rfl, rfl, rfl, rfl, rfl, rfl, rfl, rfl, rfl, rfl, rfl, trivial⟩ ⟨rfl, rfl, trivial⟩ (by decide)) ?_
            refine C.region ?_
            refine L.step (Ev.pure rfl) rfl ?_
            refine L.step (Ev.pure rfl) rfl ?_
            refine L.step (Ev.idx (k := k) (m := k * 6) rfl rfl rfl rfl rfl rfl hkL (Src.r 0 rfl) (steps_pos hkL) rfl) rfl ?_
            refine L.step (Ev.fieldAddr rfl rfl rfl rfl rfl rfl (Src.r 0 rfl) (steps_pos hkL) rfl) rfl ?_
            refine L.step (Ev.load rfl rfl rfl (Src.r 0 rfl) ((stepsV_get sL k 4 hkL (by decide)).trans rfl)) rfl ?_
            refine L.nil ?_
            refine QE.seq ?_
            refine C.condB 47 rfl (fun hc47 => ?_) (fun hc47 => ?_)
            · skip
              refine C.more (r := Rd (sL.getD k Stp6.zero).mA (U8 (sL.getD k Stp6.zero).mask)) (Has.stepM 2 rfl hkL) ?_
              refine C.regionM [Rd A8 [.int .i64 (f.size : Int), .slice b.D f.data.length b.cD, .slice b.W f.wear.length b.cW, .int .i64 f.limit, .slice b.E f.dead.length b.cE], Rd A10 [.int .i64 x.kind, .int .i64 x.sec, .int .i64 x.at_, .slice OA x.data.length oc], Rd LA (stepsV sL)] ⟨Has.o 0 rfl, Has.r 10 rfl, Has.r 1 rfl, trivial⟩ ?_
              refine LM.q 0 rfl (by kernel_rfl) (Ev.loadA rfl rfl rfl (Src.r 0 rfl) rfl rfl (by decide)) rfl ⟨Has.o 0 rfl, Has.r 10 rfl, Has.r 1 rfl, trivial⟩ ?_
              refine LM.q 1 rfl (by kernel_rfl) (Ev.loadA rfl rfl rfl (Src.r 1 rfl) rfl rfl (by decide)) rfl ⟨Has.o 0 rfl, Has.r 10 rfl, Has.r 1 rfl, trivial⟩ ?_
              refine LM.q 2 rfl (by kernel_rfl) (Ev.pure rfl) rfl ⟨Has.o 0 rfl, Has.r 10 rfl, Has.r 1 rfl, trivial⟩ ?_
              refine LM.q 3 rfl (by kernel_rfl) (Ev.pure rfl) rfl ⟨Has.o 0 rfl, Has.r 10 rfl, Has.r 1 rfl, trivial⟩ ?_
              refine LM.q 4 rfl (by kernel_rfl) (Ev.idx (k := k) (m := k * 6) rfl rfl rfl rfl rfl rfl hkL (Src.r 2 rfl) (steps_pos hkL) rfl) rfl ⟨Has.o 0 rfl, Has.r 10 rfl, Has.r 1 rfl, trivial⟩ ?_
              refine LM.q 5 rfl (by kernel_rfl) (Ev.fieldAddr rfl rfl rfl rfl rfl rfl (Src.r 2 rfl) (steps_pos hkL) rfl) rfl ⟨Has.o 0 rfl, Has.r 10 rfl, Has.r 1 rfl, trivial⟩ ?_
              refine LM.q 6 rfl (by kernel_rfl) (Ev.load rfl rfl rfl (Src.r 2 rfl) ((stepsV_get sL k 5 hkL (by decide)).trans rfl)) rfl ⟨Has.o 0 rfl, Has.r 10 rfl, Has.r 1 rfl, trivial⟩ ?_
              refine LM.f 7 rfl (by kernel_rfl) ⟨Has.o 0 rfl, Has.r 10 rfl, Has.r 1 rfl, trivial⟩ ?_
              refine L.callR (js := []) (js' := [0, 1]) (cut_e f b ok hb x OA oc (by omega) (sL.getD k Stp6.zero).mask (sL.getD k Stp6.zero).mA _ (sL.getD k Stp6.zero).mc (by rfl) (hLs k).2.2 (fun i => (sL.getD k Stp6.zero).mask.getD i 0) (fun _ _ => rfl)) rfl rfl rfl (by decide) ⟨(Has.r 5 rfl), (Has.r 6 rfl), (Has.r 7 rfl), (Has.r 8 rfl), (Has.r 9 rfl), (Has.r 0 rfl), trivial⟩ rfl ?_
              rintro _ _ _ ⟨b2, hb2, rfl, rfl, rfl⟩
              refine L.nil (QE.m (by kernel_rfl) ?_)
              refine LM.q 8 rfl (by kernel_rfl) (Ev.pure rfl) rfl ⟨Has.o 0 rfl, Has.r 14 rfl, Has.r 5 rfl, trivial⟩ ?_
              refine LM.q 9 rfl (by kernel_rfl) (Ev.pure rfl) rfl ⟨Has.o 0 rfl, Has.r 14 rfl, Has.r 5 rfl, trivial⟩ ?_
              refine LM.q 10 rfl (by kernel_rfl) (Ev.pure rfl) rfl ⟨Has.o 0 rfl, Has.r 14 rfl, Has.r 5 rfl, trivial⟩ ?_
              refine LM.f 11 rfl (by kernel_rfl) ⟨Has.o 0 rfl, Has.r 14 rfl, Has.r 5 rfl, trivial⟩ ?_
              refine L.storeA (j := 1) rfl rfl rfl rfl rfl (Nat.zero_lt_succ _) rfl rfl ?_
              refine L.nil (QE.m (by kernel_rfl) ?_)
              refine LM.cut [] (by kernel_rfl) ⟨Has.o 0 rfl, Has.r 14 rfl, Has.r 5 rfl, trivial⟩ ?_
              refine LM.f 12 rfl (by kernel_rfl) trivial ?_
              refine L.step (Ev.pure rfl) rfl ?_
              refine L.nil (QE.m (by kernel_rfl) ?_)
              refine LM.nil (by kernel_rfl) trivial ?_
              refine QE.join (((fun i => (sL.getD k Stp6.zero).mask.getD i 0), b2)) (by exact hb2) (by exact Le.mk' (rs := [5, 6, 7, 8, 9, 10, 11, 12, 0, 1, 2, 3]) (hs := [0, 1]) ⟨rfl, rfl, rfl, rfl, rfl, rfl, rfl, rfl, trivial⟩ ⟨rfl, rfl, rfl, rfl, rfl, rfl, rfl, rfl, rfl, rfl, rfl, rfl, trivial⟩ ⟨rfl, rfl, trivial⟩ (by decide))
            · skip
              refine C.skip ?_
              refine QE.join (((fun _ => 255), b1)) (by exact hb1) (by exact Le.mk' (rs := [0, 1, 2, 3, 4, 5, 6, 7, 10, 11, 12, 13]) (hs := [0, 1]) ⟨rfl, rfl, rfl, rfl, rfl, rfl, rfl, rfl, trivial⟩ ⟨rfl, rfl, rfl, rfl, rfl, rfl, rfl, rfl, rfl, rfl, rfl, rfl, trivial⟩ ⟨rfl, rfl, trivial⟩ (by decide))
          · skip
            clear hb1
            rintro ⟨mk, b1⟩ hb1
            dsimp only at hb1 ⊢
            refine C.seqJ (fun q : Fl × Fa => [(1, .slice LA sL.length lc), (2, .slice QA ql.length qc), (7, .bool true), (8, ptrOf A8 0), (9, .int .i64 (k : Int))]) (fun q : Fl × Fa => [Rd LA (stepsV sL), KidsR (stepsY sL) (B8 (sL.map Stp6.data)), KidsR (stepsM sL) (B8 (sL.map Stp6.mask)), Rd QA (U8 ql), Rd q.2.D (rowsV q.2.hs (B8 q.1.data)), KidsR q.2.hs (B8 q.1.data), Rd q.2.W (I64 q.1.wear), Rd q.2.E (Bs q.1.dead)]) (fun q : Fl × Fa => [Own 32 5 A8 1 1 [.int .i64 (q.1.size : Int), .slice q.2.D q.1.data.length q.2.cD, .slice q.2.W q.1.wear.length q.2.cW, .int .i64 q.1.limit, .slice q.2.E q.1.dead.length q.2.cE]]) (fun q : Fl × Fa => q.1.Ok ∧ q.1.size ≤ 12 ∧ q.1.data.length ≤ 4 ∧ q.2.hs.length = q.1.data.length) ?_ ?_
            · skip
              refine C.seq ?_
              refine C.region ?_
              refine L.step (Ev.pure rfl) rfl ?_
              refine L.step (Ev.pure rfl) rfl ?_
              refine L.nil ?_
              refine QE.seq ?_
              refine C.condB 60 rfl (fun hc60 => ?_) (fun hc60 => ?_)
              · skip
                replace hc60 := i_eq hc60
                refine C.region ?_
                refine L.step (Ev.loadA rfl rfl rfl (Src.o 1 rfl) rfl rfl (by decide)) rfl ?_
                refine L.storeA (j := 0) rfl rfl rfl rfl rfl (Nat.zero_lt_succ _) rfl rfl ?_
                refine L.nil ?_
                have k1 := cutR_kept (x := x) ok hc60 mk
                refine QE.join (((cutR f x mk), b1)) (by exact ⟨k1.ok, by dsimp only; rw [k1.s]; exact hsz, by dsimp only; rw [k1.n]; exact hdl, hb1⟩) (by exact Le.mk' (rs := [0, 1, 2, 3, 8, 9, 10, 11]) (hs := [0]) ⟨rfl, rfl, rfl, rfl, rfl, trivial⟩ ⟨rfl, rfl, rfl, rfl, rfl, rfl, rfl, rfl, trivial⟩ ⟨rfl, trivial⟩ (by decide))
              · skip
                replace hc60 := i_ne hc60
                refine C.skip ?_
                refine QE.join ((f, b)) (by exact ⟨ok, hsz, hdl, hb⟩) (by exact Le.mk' (rs := [0, 1, 2, 3, 4, 5, 6, 7]) (hs := [0]) ⟨rfl, rfl, rfl, rfl, rfl, trivial⟩ ⟨rfl, rfl, rfl, rfl, rfl, rfl, rfl, rfl, trivial⟩ ⟨rfl, trivial⟩ (by decide))
            · skip
              clear gx hb1 hb hdl hsz ok
              rintro ⟨f, b⟩ ⟨ok, hsz, hdl, hb⟩
              dsimp only at ok hsz hdl hb ⊢
              refine C.seq ?_
              refine C.region ?_
              refine L.step (Ev.loadA rfl rfl rfl (Src.o 0 rfl) rfl rfl (by decide)) rfl ?_
              refine L.call (js := []) (js' := [0]) (Ctr.tb true (valid17_c (f.size : Int) f b hb (by have := ok.n2; omega)) (okB_ok ok)) rfl rfl rfl (by decide) ⟨(Has.r 4 rfl), (Has.r 5 rfl), (Has.r 6 rfl), (Has.r 7 rfl), trivial⟩ rfl ?_
              rintro _ _ _ ⟨rfl, rfl, rfl⟩
              refine L.step (Ev.pure rfl) rfl ?_
              refine L.step (Ev.pure rfl) rfl ?_
              refine L.yes rfl ?_
              refine L.step (Ev.fieldAddr rfl rfl rfl rfl rfl rfl (Src.o 0 rfl) (Nat.zero_lt_succ _) rfl) rfl ?_
              refine L.yes rfl ?_
              refine L.step (Ev.load rfl rfl rfl (Src.o 0 rfl) rfl) rfl ?_
              refine L.yes rfl ?_
              refine L.step (Ev.pure rfl) rfl ?_
              refine L.yes rfl ?_
              refine L.step (Ev.pure rfl) rfl ?_
              refine L.step (Ev.pure rfl) rfl ?_
              refine L.nil ?_
              refine QE.seq ?_
              refine C.condB 70 rfl (fun hc70 => ?_) (fun hc70 => ?_)
              · skip
                replace hc70 := i_eq hc70
                have := ok.n1
                omega
              · skip
                replace hc70 := i_ne hc70
                refine C.skip ?_
                refine QE.blkN ?_
                refine QE.seq ?_
                refine C.region ?_
                refine L.step (Ev.pure rfl) rfl ?_
                refine L.step (Ev.add rfl rfl (by omega) (by omega)) rfl ?_
                refine L.step (Ev.pure rfl) rfl ?_
                refine L.nil ?_
                refine QE.round (i := (k, f, b)) ((k + 1, f, b)) (by exact ⟨hkL, ok, hsz, hdl, hb⟩) (by dsimp only; omega) (by exact Le.mk' (rs := [0, 1, 2, 3, 4, 5, 6, 7]) (hs := [0]) ⟨rfl, rfl, rfl, rfl, rfl, trivial⟩ ⟨rfl, rfl, rfl, rfl, rfl, rfl, rfl, rfl, trivial⟩ ⟨rfl, trivial⟩ (by decide))
      · skip
        replace hc28 := of_decide_eq_false hc28
        refine C.exit ?_
        refine QE.tX ?_
        refine QE.tX ?_
        refine QE.blk ?_
        refine QE.join ((f, b)) (by exact ⟨ok, hsz, hdl, hb⟩) (by exact Le.mk' (rs := [0, 1, 2, 3, 4, 5, 6, 7]) (hs := [0]) ⟨rfl, rfl, rfl, rfl, trivial⟩ ⟨rfl, rfl, rfl, rfl, rfl, rfl, rfl, rfl, trivial⟩ ⟨rfl, trivial⟩ (by decide))
    · skip
      replace hg25 := of_decide_eq_false hg25
      refine L.no rfl rfl rfl ?_
      refine L.no rfl rfl rfl ?_
      refine L.step (Ev.pure rfl) rfl ?_
      refine L.nil ?_
      refine QE.seq ?_
      refine C.cond rfl (fun h => by cases h) (fun _ => ?_)
      refine C.exit ?_
      refine QE.tX ?_
      refine QE.tX ?_
      refine QE.blk ?_
      refine QE.join ((f, b)) (by exact ⟨ok, hsz, hdl, hb⟩) (by exact Le.mk' (rs := [0, 1, 2, 3, 4, 5, 6, 7]) (hs := [0]) ⟨rfl, rfl, rfl, rfl, trivial⟩ ⟨rfl, rfl, rfl, rfl, rfl, rfl, rfl, rfl, trivial⟩ ⟨rfl, trivial⟩ (by decide))
  · skip
    clear hb hdl hsz ok hlim
    rintro ⟨f0, b0⟩ ⟨ok, hsz, hdl, hb⟩
    dsimp only at ok hsz hdl hb ⊢
    refine C.seq ?_
    refine C.region ?_
    refine L.step (Ev.pure rfl) rfl ?_
    refine L.step (Ev.fieldAddr rfl rfl rfl rfl rfl rfl (Src.o 0 rfl) (Nat.zero_lt_succ _) rfl) rfl ?_
    refine L.step (Ev.load rfl rfl rfl (Src.o 0 rfl) rfl) rfl ?_
    refine L.call (js := []) (js' := [0]) (sized_c ql QA qc f0.size (by omega) hql) rfl rfl rfl (by decide) ⟨(Has.r 3 rfl), trivial⟩ rfl ?_
    rintro _ _ _ ⟨A74, rfl, rfl, rfl⟩
    refine L.step (Ev.pure rfl) rfl ?_
    refine L.nil ?_
    refine QE.seq ?_
    refine C.seq ?_
    refine C.seq ?_
    refine C.freeze 0 rfl [1] (by decide) (by decide) ?_
    refine C.region ?_
    refine L.step (Ev.pure rfl) rfl ?_
    refine L.nil ?_
    refine QE.seq ?_
    refine C.block ?_
    refine C.loop (fun q : Nat × Fl × Fa => [(7, .bool true), (8, ptrOf A8 0), (13, .slice A74 f0.size f0.size), (14, .int .i64 (q.1 : Int))]) (fun q : Nat × Fl × Fa => [Rd q.2.2.D (rowsV q.2.2.hs (B8 q.2.1.data)), KidsR q.2.2.hs (B8 q.2.1.data), Rd q.2.2.W (I64 q.2.1.wear), Rd q.2.2.E (Bs q.2.1.dead), Rd A74 (U8 (sizedB ql f0.size))]) (fun q : Nat × Fl × Fa => [Own 32 5 A8 1 1 [.int .i64 (q.2.1.size : Int), .slice q.2.2.D q.2.1.data.length q.2.2.cD, .slice q.2.2.W q.2.1.wear.length q.2.2.cW, .int .i64 q.2.1.limit, .slice q.2.2.E q.2.1.dead.length q.2.2.cE]]) (fun q : Nat × Fl × Fa => q.2.1.size = f0.size ∧ Phase q.1 q.2.1 (sizedB ql f0.size) ∧ q.2.1.Ok ∧ q.2.1.size ≤ 12 ∧ q.2.1.data.length ≤ 4 ∧ q.2.2.hs.length = q.2.1.data.length) (fun q : Nat × Fl × Fa => 3 - q.1) (0, f0, b0) ⟨rfl, .inl rfl, ok, hsz, hdl, hb⟩ (by exact Le.mk' (rs := [5, 6, 7, 8, 0]) (hs := [0]) ⟨rfl, rfl, rfl, rfl, trivial⟩ ⟨rfl, rfl, rfl, rfl, rfl, trivial⟩ ⟨rfl, trivial⟩ (by decide)) ?_
    clear hb hdl ok
    have hsz0 := hsz
    clear hsz
    rintro ⟨k, f, b⟩ ⟨hfs, hph, ok, hsz, hdl, hb⟩
    dsimp only at hfs hph ok hsz hdl hb ⊢
    refine C.seq ?_
    refine C.seq ?_
    refine C.region ?_
    refine L.step (Ev.pure rfl) rfl ?_
    refine L.step (Ev.pure rfl) rfl ?_
    refine L.nil ?_
    refine QE.seq ?_
    refine C.condB 76 rfl (fun hc76 => ?_) (fun hc76 => ?_)
    · skip
      replace hc76 := of_decide_eq_true hc76
      refine C.skip ?_
      refine QE.seq ?_
      refine C.seq ?_
      refine C.block ?_
      refine C.seq ?_
      have hn0 := ok.n1
      have ht := hn0
      have hv : 0 < f.wear.length := by rw [ok.wl]; exact hn0
      have hu : 0 < f.dead.length := by rw [ok.dl]; exact hn0
      have hrow := ok.rows 0 hn0
      have hL := len_big hrow hsz
      have hwl : (sizedB ql f0.size).length = f.size := by rw [sizedB_len]; exact hfs.symm
      have hWL := len_big hwl hsz
      refine C.region ?_
      refine L.step (Ev.loadA rfl rfl rfl (Src.o 0 rfl) rfl rfl (by decide)) rfl ?_
      refine L.step (Ev.pure rfl) rfl ?_
      refine L.callR (js := []) (js' := [0]) (ltow_n f b ok hb 0 (sizedB ql f0.size) A74 _ _ (sizedB_len _ _) (by omega)) rfl rfl rfl (by decide) ⟨(Has.r 0 rfl), (Has.r 1 rfl), (Has.r 2 rfl), (Has.r 3 rfl), (Has.r 4 rfl), trivial⟩ rfl ?_
      rintro _ _ _ ⟨T81, t81, rfl, rfl, rfl⟩
      refine L.alloc rfl rfl rfl (fun A15 => ?_)
      refine L.storeA (j := 1) rfl rfl rfl rfl rfl (Nat.zero_lt_succ _) rfl rfl ?_
      refine L.nil ?_
      refine QE.seq ?_
      refine C.seq ?_
      refine C.seq ?_
      refine C.freeze 1 rfl [0] (by decide) (by decide) ?_
      refine C.region ?_
      refine L.step (Ev.fieldAddr rfl rfl rfl rfl rfl rfl (Src.r 0 rfl) (Nat.zero_lt_succ _) rfl) rfl ?_
      refine L.step (Ev.load rfl rfl rfl (Src.r 0 rfl) rfl) rfl ?_
      refine L.step (Ev.pure rfl) rfl ?_
      refine L.nil ?_
      refine QE.seq ?_
      refine C.condB 84 rfl (fun hc84 => ?_) (fun hc84 => ?_)
      · skip
        replace hc84 := b_ne hc84
        obtain ⟨hne, hdisj⟩ := towN_err ok hwl hc84
        refine C.seq ?_
        refine C.regionQ (by kernel_rfl) ?_
        refine LQ.step (Ev.fieldAddr rfl rfl rfl rfl rfl rfl (Src.r 0 rfl) (Nat.zero_lt_succ _) rfl) rfl ?_
        refine LQ.step (Ev.load rfl rfl rfl (Src.r 0 rfl) rfl) rfl ?_
        refine LQ.step (Ev.pure rfl) rfl ?_
        refine LQ.step (Ev.pure rfl) rfl ?_
        refine LQ.bool 88 rfl (fun hg88 => ?_) (fun hg88 => ?_)
        · skip
          replace hg88 := i_eq hg88
          have hdd : f.dead.getD 0 false = true := by
            rcases hdisj with h | h
            · exact h.2
            · omega
          refine LQ.yes rfl ?_
          refine LQ.step (Ev.fieldAddr rfl rfl rfl rfl rfl rfl (Src.o 0 rfl) (Nat.zero_lt_succ _) rfl) rfl ?_
          refine LQ.yes rfl ?_
          refine LQ.step (Ev.load rfl rfl rfl (Src.o 0 rfl) rfl) rfl ?_
          refine LQ.yes rfl ?_
          refine LQ.step (Ev.idx1 (k := 0) rfl rfl rfl rfl rfl rfl rfl hu (Src.r 5 rfl) (Bs_pos hu)) rfl ?_
          refine LQ.yes rfl ?_
          refine LQ.step (Ev.load rfl rfl rfl (Src.r 5 rfl) (Bs_get hu)) rfl ?_
          refine LQ.step (Ev.pure rfl) rfl ?_
          refine LQ.step (Ev.pure rfl) rfl ?_
          refine LQ.bool 94 rfl (fun hg94 => ?_) (fun hg94 => ?_)
          · skip
            refine LQ.no rfl rfl rfl ?_
            refine LQ.no rfl rfl rfl ?_
            refine LQ.no rfl rfl rfl ?_
            refine LQ.no rfl rfl rfl ?_
            refine LQ.no rfl rfl rfl ?_
            refine LQ.no rfl rfl rfl ?_
            refine LQ.no rfl rfl rfl ?_
            refine LQ.no rfl rfl rfl ?_
            refine LQ.no rfl rfl rfl ?_
            refine LQ.no rfl rfl rfl ?_
            refine LQ.no rfl rfl rfl ?_
            refine LQ.no rfl rfl rfl ?_
            refine LQ.no rfl rfl rfl ?_
            refine LQ.no rfl rfl rfl ?_
            refine LQ.no rfl rfl rfl ?_
            refine LQ.no rfl rfl rfl ?_
            refine LQ.no rfl rfl rfl ?_
            refine LQ.no rfl rfl rfl ?_
            refine LQ.no rfl rfl rfl ?_
            refine LQ.step (Ev.pure rfl) rfl ?_
            refine LQ.step (Ev.pure rfl) rfl ?_
            refine LQ.yes rfl ?_
            refine LQ.step (Ev.fieldAddr rfl rfl rfl rfl rfl rfl (Src.o 0 rfl) (Nat.zero_lt_succ _) rfl) rfl ?_
            refine LQ.yes rfl ?_
            refine LQ.step (Ev.load rfl rfl rfl (Src.o 0 rfl) rfl) rfl ?_
            refine LQ.yes rfl ?_
            refine LQ.step (Ev.idx1 (k := 0) rfl rfl rfl rfl rfl rfl rfl ht (Src.r 2 rfl) (rows_pos hb ht)) rfl ?_
            refine LQ.yes rfl ?_
            refine LQ.step (Ev.load rfl rfl rfl (Src.r 2 rfl) (rows8_get hb ht)) rfl ?_
            refine LQ.yes rfl ?_
            refine LQ.step (Ev.pure rfl) rfl ?_
            refine LQ.yes rfl ?_
            refine LQ.call (.bool false) (Ctr.tb false (same_n _ _ _ _ (f.data.getD 0 []) (sizedB ql f0.size) hL hWL (sizedB_len _ _)) (by simpa using hne)) (fun _ _ _ h => h.1) rfl ⟨((Has.kid 3 rfl (by rw [B8_len]; exact hb) (0) (by rw [B8_len]; exact ht)).cast (B8_get _)), (Has.r 6 rfl), trivial⟩ rfl ?_
            refine LQ.yes rfl ?_
            refine LQ.step (Ev.pure rfl) rfl ?_
            refine LQ.step (Ev.pure rfl) rfl ?_
            refine LQ.step (Ev.pure rfl) rfl ?_
            refine LQ.yes rfl ?_
            refine LQ.step (Ev.pure rfl) rfl ?_
            refine LQ.step (Ev.pure rfl) rfl ?_
            refine LQ.step (Ev.pure rfl) rfl ?_
            refine LQ.nil ?_
            refine QE.seq ?_
            refine C.ret ?_
            refine QE.tR ?_
            refine QE.bR ?_
            refine QE.tR ?_
            refine QE.tR ?_
            refine QE.bR ?_
            refine QE.tR ?_
            refine QE.ret (js := []) (hs := []) (vs := [_]) rfl ⟨rfl, trivial⟩ (by decide) ?_
            exact ⟨rfl, rfl, rfl⟩
          · skip
            rw [hdd] at hg94; cases hg94
        · skip
          replace hg88 := i_ne hg88
          obtain ⟨h172, hdd, hww⟩ := hdisj.resolve_left (fun h => hg88 h.1)
          refine LQ.no rfl rfl rfl ?_
          refine LQ.no rfl rfl rfl ?_
          refine LQ.no rfl rfl rfl ?_
          refine LQ.no rfl rfl rfl ?_
          refine LQ.step (Ev.pure rfl) rfl ?_
          refine LQ.step (Ev.pure rfl) rfl ?_
          refine LQ.yes rfl ?_
          refine LQ.step (Ev.fieldAddr rfl rfl rfl rfl rfl rfl (Src.r 0 rfl) (Nat.zero_lt_succ _) rfl) rfl ?_
          refine LQ.yes rfl ?_
          refine LQ.step (Ev.load rfl rfl rfl (Src.r 0 rfl) rfl) rfl ?_
          refine LQ.yes rfl ?_
          refine LQ.step (Ev.pure rfl) rfl ?_
          refine LQ.yes rfl ?_
          refine LQ.step (Ev.pure rfl) rfl ?_
          refine LQ.bool 98 rfl (fun hg98 => ?_) (fun hg98 => ?_)
          · skip
            replace hg98 := i_eq hg98
            refine LQ.yes rfl ?_
            refine LQ.step (Ev.fieldAddr rfl rfl rfl rfl rfl rfl (Src.o 0 rfl) (Nat.zero_lt_succ _) rfl) rfl ?_
            refine LQ.yes rfl ?_
            refine LQ.step (Ev.load rfl rfl rfl (Src.o 0 rfl) rfl) rfl ?_
            refine LQ.yes rfl ?_
            refine LQ.step (Ev.idx1 (k := 0) rfl rfl rfl rfl rfl rfl rfl hu (Src.r 5 rfl) (Bs_pos hu)) rfl ?_
            refine LQ.yes rfl ?_
            refine LQ.step (Ev.load rfl rfl rfl (Src.r 5 rfl) (Bs_get hu)) rfl ?_
            refine LQ.yes rfl ?_
            refine LQ.step (Ev.pure rfl) rfl ?_
            refine LQ.yes rfl ?_
            refine LQ.step (Ev.pure rfl) rfl ?_
            refine LQ.yes rfl ?_
            refine LQ.step (Ev.pure rfl) rfl ?_
            refine LQ.bool 105 rfl (fun hg105 => ?_) (fun hg105 => ?_)
            · skip
              refine LQ.yes rfl ?_
              refine LQ.step (Ev.fieldAddr rfl rfl rfl rfl rfl rfl (Src.o 0 rfl) (Nat.zero_lt_succ _) rfl) rfl ?_
              refine LQ.yes rfl ?_
              refine LQ.step (Ev.load rfl rfl rfl (Src.o 0 rfl) rfl) rfl ?_
              refine LQ.yes rfl ?_
              refine LQ.step (Ev.idx1 (k := 0) rfl rfl rfl rfl rfl rfl rfl hv (Src.r 4 rfl) (I64_pos hv)) rfl ?_
              refine LQ.yes rfl ?_
              refine LQ.step (Ev.load rfl rfl rfl (Src.r 4 rfl) (I64_get hv)) rfl ?_
              refine LQ.yes rfl ?_
              refine LQ.step (Ev.fieldAddr rfl rfl rfl rfl rfl rfl (Src.o 0 rfl) (Nat.zero_lt_succ _) rfl) rfl ?_
              refine LQ.yes rfl ?_
              refine LQ.step (Ev.load rfl rfl rfl (Src.o 0 rfl) rfl) rfl ?_
              refine LQ.yes rfl ?_
              refine LQ.step (Ev.pure rfl) rfl ?_
              refine LQ.yes rfl ?_
              refine LQ.step (Ev.pure rfl) rfl ?_
              refine LQ.step (Ev.pure rfl) rfl ?_
              refine LQ.step (Ev.pure rfl) rfl ?_
              refine LQ.bool 115 rfl (fun hg115 => ?_) (fun hg115 => ?_)
              · skip
                replace hg115 := i_eq hg115
                refine LQ.yes rfl ?_
                refine LQ.step (Ev.fieldAddr rfl rfl rfl rfl rfl rfl (Src.o 0 rfl) (Nat.zero_lt_succ _) rfl) rfl ?_
                refine LQ.yes rfl ?_
                refine LQ.step (Ev.load rfl rfl rfl (Src.o 0 rfl) rfl) rfl ?_
                refine LQ.yes rfl ?_
                refine LQ.step (Ev.idx1 (k := 0) rfl rfl rfl rfl rfl rfl rfl ht (Src.r 2 rfl) (rows_pos hb ht)) rfl ?_
                refine LQ.yes rfl ?_
                refine LQ.step (Ev.load rfl rfl rfl (Src.r 2 rfl) (rows8_get hb ht)) rfl ?_
                refine LQ.yes rfl ?_
                refine LQ.step (Ev.pure rfl) rfl ?_
                refine LQ.yes rfl ?_
                refine LQ.call (.bool false) (Ctr.tb false (same_n _ _ _ _ (f.data.getD 0 []) (sizedB ql f0.size) hL hWL (sizedB_len _ _)) (by simpa using hne)) (fun _ _ _ h => h.1) rfl ⟨((Has.kid 3 rfl (by rw [B8_len]; exact hb) (0) (by rw [B8_len]; exact ht)).cast (B8_get _)), (Has.r 6 rfl), trivial⟩ rfl ?_
                refine LQ.yes rfl ?_
                refine LQ.step (Ev.pure rfl) rfl ?_
                refine LQ.step (Ev.pure rfl) rfl ?_
                refine LQ.step (Ev.pure rfl) rfl ?_
                refine LQ.yes rfl ?_
                refine LQ.step (Ev.pure rfl) rfl ?_
                refine LQ.step (Ev.pure rfl) rfl ?_
                refine LQ.step (Ev.pure rfl) rfl ?_
                refine LQ.nil ?_
                refine QE.seq ?_
                refine C.ret ?_
                refine QE.tR ?_
                refine QE.bR ?_
                refine QE.tR ?_
                refine QE.tR ?_
                refine QE.bR ?_
                refine QE.tR ?_
                refine QE.ret (js := []) (hs := []) (vs := [_]) rfl ⟨rfl, trivial⟩ (by decide) ?_
                exact ⟨rfl, rfl, rfl⟩
              · skip
                replace hg115 := i_ne hg115
                exact (hg115 hww).elim
            · skip
              rw [hdd] at hg105; cases hg105
          · skip
            replace hg98 := i_ne hg98
            exact (hg98 h172).elim
      · skip
        replace hc84 := b_eq hc84
        have he0 := hc84
        refine C.skip ?_
        refine QE.seq ?_
        refine C.seq ?_
        refine C.seq ?_
        refine C.region ?_
        refine L.step (Ev.fieldAddr rfl rfl rfl rfl rfl rfl (Src.r 0 rfl) (Nat.zero_lt_succ _) rfl) rfl ?_
        refine L.step (Ev.load rfl rfl rfl (Src.r 0 rfl) rfl) rfl ?_
        refine L.nil ?_
        refine QE.seq ?_
        refine C.condB 128 rfl (fun hc128 => ?_) (fun hc128 => ?_)
        · skip
          refine C.seq ?_
          refine C.region ?_
          refine L.step (Ev.fieldAddr rfl rfl rfl rfl rfl rfl (Src.o 0 rfl) (Nat.zero_lt_succ _) rfl) rfl ?_
          refine L.step (Ev.load rfl rfl rfl (Src.o 0 rfl) rfl) rfl ?_
          refine L.step (Ev.idx1 (k := 0) rfl rfl rfl rfl rfl rfl rfl ht (Src.r 2 rfl) (rows_pos hb ht)) rfl ?_
          refine L.step (Ev.load rfl rfl rfl (Src.r 2 rfl) (rows8_get hb ht)) rfl ?_
          refine L.step (Ev.pure rfl) rfl ?_
          refine L.call (js := []) (js' := [0]) (Ctr.tb true (same_n _ _ _ _ (f.data.getD 0 []) (sizedB ql f0.size) hL hWL (sizedB_len _ _)) (by rw [towN_done ok hwl hc128]; simp)) rfl rfl rfl (by decide) ⟨((Has.kid 3 rfl (by rw [B8_len]; exact hb) (0) (by rw [B8_len]; exact ht)).cast (B8_get _)), (Has.r 6 rfl), trivial⟩ rfl ?_
          rintro _ _ _ ⟨rfl, rfl, rfl⟩
          refine L.step (Ev.pure rfl) rfl ?_
          refine L.yes rfl ?_
          refine L.step (Ev.pure rfl) rfl ?_
          refine L.step (Ev.pure rfl) rfl ?_
          refine L.step (Ev.pure rfl) rfl ?_
          refine L.nil ?_
          refine QE.seq ?_
          refine C.ret ?_
          refine QE.tR ?_
          refine QE.bR ?_
          refine QE.tR ?_
          refine QE.tR ?_
          refine QE.bR ?_
          refine QE.tR ?_
          refine QE.ret (js := []) (hs := []) (vs := [_]) rfl ⟨rfl, trivial⟩ (by decide) ?_
          exact ⟨rfl, rfl, rfl⟩
        · skip
          obtain ⟨hne, hxe, hE⟩ := towN_go ok hwl he0 hc128
          rw [← hxe] at hE
          have kx := cutR_kept ok hE (fun _ => 255)
          have ok1 := kx.ok
          refine C.skip ?_
          refine QE.seq ?_
          refine C.seq ?_
          refine C.region ?_
          refine L.step (Ev.loadA rfl rfl rfl (Src.o 0 rfl) rfl rfl (by decide)) rfl ?_
          refine L.step (Ev.fieldAddr rfl rfl rfl rfl rfl rfl (Src.r 0 rfl) (Nat.zero_lt_succ _) rfl) rfl ?_
          refine L.step (Ev.loadA rfl rfl rfl (Src.r 0 rfl) rfl rfl (by decide)) rfl ?_
          refine L.callR (js := []) (js' := [0]) (do_c f b ok hb (towN f 0 (sizedB ql f0.size)).x T81 t81 (towN_len (by rw [sizedB_len]; omega))) rfl rfl rfl (by decide) ⟨(Has.r 2 rfl), (Has.r 3 rfl), (Has.r 4 rfl), (Has.r 5 rfl), (Has.r 1 rfl), trivial⟩ rfl ?_
          rintro _ _ _ ⟨b1, hb1, rfl, rfl, rfl⟩
          refine L.step (Ev.pure rfl) rfl ?_
          refine L.step (Ev.pure rfl) rfl ?_
          refine L.step (Ev.pure rfl) rfl ?_
          refine L.alloc rfl rfl rfl (fun A16 => ?_)
          refine L.storeA (j := 1) rfl rfl rfl rfl rfl (Nat.zero_lt_succ _) rfl rfl ?_
          refine L.step (Ev.pure rfl) rfl ?_
          refine L.nil ?_
          refine QE.seq ?_
          refine C.seq ?_
          refine C.seq ?_
          refine C.le (Γ' := [(7, .bool true), (8, ptrOf A8 0), (13, .slice A74 f0.size f0.size), (14, .int .i64 (k : Int)), (16, ptrOf A16 0), (17, .int .i64 (checkE f (towN f 0 (sizedB ql f0.size)).x))]) (R' := [Rd A74 (U8 (sizedB ql f0.size)), Rd b1.D (rowsV b1.hs (B8 (cutR f (towN f 0 (sizedB ql f0.size)).x (fun _ => 255)).data)), KidsR b1.hs (B8 (cutR f (towN f 0 (sizedB ql f0.size)).x (fun _ => 255)).data), Rd b1.W (I64 (cutR f (towN f 0 (sizedB ql f0.size)).x (fun _ => 255)).wear), Rd b1.E (Bs (cutR f (towN f 0 (sizedB ql f0.size)).x (fun _ => 255)).dead)]) (H' := [Own 32 5 A8 1 1 [.int .i64 (f.size : Int), .slice b.D f.data.length b.cD, .slice b.W f.wear.length b.cW, .int .i64 f.limit, .slice b.E f.dead.length b.cE], Own 32 5 A16 1 1 [.int .i64 ((cutR f (towN f 0 (sizedB ql f0.size)).x (fun _ => 255)).size : Int), .slice b1.D (cutR f (towN f 0 (sizedB ql f0.size)).x (fun _ => 255)).data.length b1.cD, .slice b1.W (cutR f (towN f 0 (sizedB ql f0.size)).x (fun _ => 255)).wear.length b1.cW, .int .i64 (cutR f (towN f 0 (sizedB ql f0.size)).x (fun _ => 255)).limit, .slice b1.E (cutR f (towN f 0 (sizedB ql f0.size)).x (fun _ => 255)).dead.length b1.cE]]) (by exact Le.mk' (rs := [10, 0, 1, 2, 3]) (hs := [0, 1]) ⟨rfl, rfl, rfl, rfl, rfl, rfl, trivial⟩ ⟨rfl, rfl, rfl, rfl, rfl, trivial⟩ ⟨rfl, rfl, trivial⟩ (by decide)) ?_
          refine C.region ?_
          refine L.step (Ev.pure rfl) rfl ?_
          refine L.step (Ev.pure rfl) rfl ?_
          refine L.step (Ev.pure rfl) rfl ?_
          refine L.bool 147 rfl (fun hg147 => ?_) (fun hg147 => ?_)
          · skip
            replace hg147 := b_ne hg147
            exact (hg147 hE).elim
          · skip
            replace hg147 := b_eq hg147
            refine L.yes rfl ?_
            refine L.step (Ev.loadA rfl rfl rfl (Src.o 1 rfl) rfl rfl (by decide)) rfl ?_
            refine L.yes rfl ?_
            refine L.call (js := []) (js' := [0, 1]) (Ctr.tb true (valid17_c ((cutR f (towN f 0 (sizedB ql f0.size)).x (fun _ => 255)).size : Int) (cutR f (towN f 0 (sizedB ql f0.size)).x (fun _ => 255)) b1 hb1 (by have := ok1.n2; omega)) (okB_ok ok1)) rfl rfl rfl (by decide) ⟨(Has.r 1 rfl), (Has.r 2 rfl), (Has.r 3 rfl), (Has.r 4 rfl), trivial⟩ rfl ?_
            rintro _ _ _ ⟨rfl, rfl, rfl⟩
            refine L.yes rfl ?_
            refine L.step (Ev.pure rfl) rfl ?_
            refine L.step (Ev.pure rfl) rfl ?_
            refine L.nil ?_
            refine QE.seq ?_
            refine C.cond rfl (fun h => by cases h) (fun _ => ?_)
            refine C.skip ?_
            refine QE.seq ?_
            refine C.region ?_
            refine L.step (Ev.loadA rfl rfl rfl (Src.o 1 rfl) rfl rfl (by decide)) rfl ?_
            refine L.storeA (j := 0) rfl rfl rfl rfl rfl (Nat.zero_lt_succ _) rfl rfl ?_
            refine L.nil ?_
            refine QE.blkN ?_
            refine QE.seq ?_
            refine C.region ?_
            refine L.step (Ev.pure rfl) rfl ?_
            refine L.step (Ev.add rfl rfl (by omega) (by omega)) rfl ?_
            refine L.step (Ev.pure rfl) rfl ?_
            refine L.nil ?_
            refine QE.round (i := (k, f, b)) ((k + 1, cutR f (towN f 0 (sizedB ql f0.size)).x (fun _ => 255), b1)) (by exact ⟨by dsimp only; rw [kx.s]; exact hfs, Phase.next ok hwl hph he0 hc128, ok1, by dsimp only; rw [kx.s]; exact hsz, by dsimp only; rw [kx.n]; exact hdl, hb1⟩) (by dsimp only; have := hph.lt; omega) (by exact Le.mk' (rs := [1, 2, 3, 4, 0]) (hs := [0]) ⟨rfl, rfl, rfl, rfl, trivial⟩ ⟨rfl, rfl, rfl, rfl, rfl, trivial⟩ ⟨rfl, trivial⟩ (by decide))
    · skip
      replace hc76 := of_decide_eq_false hc76
      have := hph.lt
      omega

end Go.Proofs.Ythfjkdgopkmgoaa
