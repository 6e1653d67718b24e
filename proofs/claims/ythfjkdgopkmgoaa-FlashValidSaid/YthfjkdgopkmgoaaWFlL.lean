/-
  The contracts of the Flash laws.
-/
import Derived.Test.YthfjkdgopkmgoaaWFlK
import Derived.Test.YthfjkdgopkmgoaaPm
namespace Go.Proofs.Ythfjkdgopkmgoaa
open Go.Sl

theorem ltow_n (f : Fl) (a : Fa) (ok : f.Ok) (hh : a.hs.length = f.data.length) (sec : Int) (want : List UInt8) (W : Option Addr) (wn wc : Nat) (hwn : want.length = wn) (hwl : wn ≤ 1000000) :
    Ctr X 43 [.agg (List.toArray [.int .i64 (f.size : Int), .slice a.D f.data.length a.cD, .slice a.W f.wear.length a.cW, .int .i64 f.limit, .slice a.E f.dead.length a.cE]), .int .i64 sec, .slice W wn wc] [Rd a.D (rowsV a.hs (B8 f.data)), KidsR a.hs (B8 f.data), Rd a.W (I64 f.wear), Rd a.E (Bs f.dead), Rd W (U8 want)] [] (fun v R' H' => ∃ A c, v = .agg (List.toArray [.int .i64 (towN f sec want).x.kind, .int .i64 (towN f sec want).x.sec, .int .i64 (towN f sec want).x.at_, .slice A (towN f sec want).x.data.length c, .bool (towN f sec want).done, .int .i64 (towN f sec want).e]) ∧ R' = [Rd A (U8 (towN f sec want).x.data)] ∧ H' = []) := by
  subst hwn
  exact ltow_c f a ok hh sec want W wc hwl
theorem tow17_n (f : Fl) (a : Fa) (ok : f.Ok) (hh : a.hs.length = f.data.length) (sec : Int) (want : List UInt8) (W : Option Addr) (wn wc : Nat) (hwn : want.length = wn) (hwl : wn ≤ 1000000) :
    Ctr X 44 [.agg (List.toArray [.int .i64 (f.size : Int), .slice a.D f.data.length a.cD, .slice a.W f.wear.length a.cW, .int .i64 f.limit, .slice a.E f.dead.length a.cE]), .int .i64 sec, .slice W wn wc] [Rd a.D (rowsV a.hs (B8 f.data)), KidsR a.hs (B8 f.data), Rd a.W (I64 f.wear), Rd a.E (Bs f.dead), Rd W (U8 want)] [] (fun v R' H' => ∃ A c, v = .agg (List.toArray [.int .i64 (towN f sec want).x.kind, .int .i64 (towN f sec want).x.sec, .int .i64 (towN f sec want).x.at_, .slice A (towN f sec want).x.data.length c, .bool (towN f sec want).done, .int .i64 (towN f sec want).e]) ∧ R' = [Rd A (U8 (towN f sec want).x.data)] ∧ H' = []) := by
  subst hwn
  exact tow17_c f a ok hh sec want W wc hwl
theorem cutR_sm {f : Fl} {x : Fo} {mk : Nat → UInt8} (ok : f.Ok) : (cutR f x mk).Sm := by
  by_cases h : checkE f x = 0
  · rw [cutR_ok h]; exact (cutF_ok ok h mk).sm
  · rw [cutR_bad h]; exact ⟨by decide, by decide, by decide, fun i => by simp [flz]⟩
theorem towN_len {f : Fl} {sec : Int} {want : List UInt8} (h : want.length ≤ 1000000) : (towN f sec want).x.data.length ≤ 9223372036854775807 := by
  have h1 : (towX f sec want).data.length ≤ want.length := by unfold towX; split <;> simp
  unfold towN
  split
  · simp [fo0]
  · split
    · simp [fo0]
    · split
      · simp [fo0]
      · dsimp only; omega

set_option maxHeartbeats 2000000 in
theorem matchesReference_c (rs : UInt8) (rd : List (List UInt8)) (rw : List UInt8) (re : UInt8) (RD RW : Option Addr) (rc rwc : Nat) (rhs : List Hd) (hrh : rhs.length = rd.length) (hrl : rd.length ≤ 9223372036854775807) (hrr : ∀ i, (rd.getD i []).length ≤ 9223372036854775807) (hrw : rw.length ≤ 9223372036854775807) (x : Fo) (p q : List UInt8) (OA PA QA : Option Addr) (oc pc qc : Nat) (hol : x.data.length ≤ 9223372036854775807) (hpl : p.length ≤ 9223372036854775807) (hql : q.length ≤ 9223372036854775807) :
    Ctr X 10 [.agg (List.toArray [.int .u8 (rs.toNat : Int), .slice RD rd.length rc, .slice RW rw.length rwc, .int .u8 (re.toNat : Int)]), .agg (List.toArray [.int .i64 x.kind, .int .i64 x.sec, .int .i64 x.at_, .slice OA x.data.length oc]), .agg (List.toArray [.slice PA p.length pc, .slice QA q.length qc])] [Rd RD (rowsV rhs (B8 rd)), KidsR rhs (B8 rd), Rd RW (U8 rw), Rd OA (U8 x.data), Rd PA (U8 p), Rd QA (U8 q)] [] (fun v R' H' => v = .bool true ∧ R' = [] ∧ H' = []) := by
  refine Ctr.of (X := X) (fn := Try.f10) Try.func10 rfl (by kernel_rfl) rfl ?_
  intro β
  refine C.seq ?_
  refine C.region ?_
  refine L.boxA rfl rfl (fun A3 => ?_)
  refine L.boxA rfl rfl (fun A4 => ?_)
  refine L.boxA rfl rfl (fun A5 => ?_)
  refine L.step (Ev.pure rfl) rfl ?_
  refine L.nil ?_
  refine QE.seq ?_
  refine C.seq ?_
  refine C.freeze 0 rfl [1, 2] (by decide) (by decide) ?_
  refine C.freeze 0 rfl [1] (by decide) (by decide) ?_
  refine C.freeze 0 rfl [] (by decide) (by decide) ?_
  refine C.region ?_
  refine L.call (js := []) (js' := []) (sanity_c) rfl rfl rfl (by decide) trivial rfl ?_
  rintro _ _ _ ⟨rfl, rfl, rfl⟩
  refine L.step (Ev.pure rfl) rfl ?_
  refine L.nil ?_
  refine QE.seq ?_
  refine C.seq ?_
  refine C.region ?_
  refine L.step (Ev.loadA rfl rfl rfl (Src.r 2 rfl) rfl rfl (by decide)) rfl ?_
  refine L.call (js := []) (js' := []) (made_c rs rd rw re RD RW rc rwc rhs hrh hrl hrr hrw) rfl rfl rfl (by decide) ⟨(Has.r 3 rfl), (Has.r 4 rfl), (Has.r 5 rfl), trivial⟩ rfl ?_
  rintro _ _ _ ⟨f, b, ok, hlim, hsz, hdl, hb, rfl, rfl, rfl⟩
  refine L.alloc rfl rfl rfl (fun A8 => ?_)
  refine L.storeA (j := 4) rfl rfl rfl rfl rfl (Nat.zero_lt_succ _) rfl rfl ?_
  refine L.nil ?_
  refine QE.seq ?_
  refine C.seq ?_
  refine C.seq ?_
  refine C.le (Γ' := [(4, ptrOf A4 0), (5, ptrOf A5 0), (7, .bool true), (8, ptrOf A8 0)]) (R' := [Rd A5 [.slice PA p.length pc, .slice QA q.length qc], Rd A4 [.int .i64 x.kind, .int .i64 x.sec, .int .i64 x.at_, .slice OA x.data.length oc], Rd OA (U8 x.data), Rd PA (U8 p), Rd QA (U8 q)]) (H' := [Own 32 5 A8 1 1 [.int .i64 (f.size : Int), .slice b.D f.data.length b.cD, .slice b.W f.wear.length b.cW, .int .i64 f.limit, .slice b.E f.dead.length b.cE], Own 24 1 b.D f.data.length b.cD (rowsV b.hs (B8 f.data)), OwnKids 5 b.hs (B8 f.data), Own 3 1 b.W f.wear.length b.cW (I64 f.wear), Own 4 1 b.E f.dead.length b.cE (Bs f.dead)]) (by exact Le.mk' (rs := [0, 1, 6, 7, 8]) (hs := [4, 0, 1, 2, 3]) ⟨rfl, rfl, rfl, rfl, trivial⟩ ⟨rfl, rfl, rfl, rfl, rfl, trivial⟩ ⟨rfl, rfl, rfl, rfl, rfl, trivial⟩ (by decide)) ?_
  refine C.freeze 1 rfl [0, 2, 3, 4] (by decide) (by decide) ?_
  refine C.freezeKids 1 rfl [0, 2, 3] (by decide) (by decide) ?_
  refine C.freeze 1 rfl [0, 2] (by decide) (by decide) ?_
  refine C.freeze 1 rfl [0] (by decide) (by decide) ?_
  refine C.freeze 0 rfl [] (by decide) (by decide) ?_
  refine C.region ?_
  refine L.step (Ev.fieldAddr rfl rfl rfl rfl rfl rfl (Src.r 6 rfl) (Nat.zero_lt_succ _) rfl) rfl ?_
  refine L.step (Ev.load rfl rfl rfl (Src.r 6 rfl) rfl) rfl ?_
  refine L.step (Ev.pure rfl) rfl ?_
  refine L.step (Ev.pure rfl) rfl ?_
  refine L.step (Ev.pure rfl) rfl ?_
  refine L.bool 25 rfl (fun hg25 => ?_) (fun hg25 => ?_)
  · skip
    replace hg25 := of_decide_eq_true hg25
    refine L.no rfl rfl rfl ?_
    refine L.no rfl rfl rfl ?_
    refine L.no rfl rfl rfl ?_
    refine L.no rfl rfl rfl ?_
    refine L.step (Ev.pure rfl) rfl ?_
    refine L.step (Ev.pure rfl) rfl ?_
    refine L.no rfl rfl rfl ?_
    refine L.no rfl rfl rfl ?_
    refine L.no rfl rfl rfl ?_
    refine L.no rfl rfl rfl ?_
    refine L.step (Ev.pure rfl) rfl ?_
    refine L.nil ?_
    refine QE.seq ?_
    refine C.cond rfl (fun _ => ?_) (fun h => by cases h)
    refine C.seq ?_
    refine C.region ?_
    refine L.step (Ev.pure rfl) rfl ?_
    refine L.step (Ev.pure rfl) rfl ?_
    refine L.nil ?_
    refine QE.seq ?_
    refine C.ret ?_
    refine QE.tR ?_
    refine QE.ret (js := []) (hs := []) (vs := [_]) rfl ⟨rfl, trivial⟩ (by decide) ?_
    exact ⟨rfl, rfl, rfl⟩
  · skip
    replace hg25 := of_decide_eq_false hg25
    refine L.yes rfl ?_
    refine L.step (Ev.idxArr (k := 0) rfl rfl rfl rfl rfl rfl (by decide) (Src.r 5 rfl) (Nat.zero_lt_succ _) rfl) rfl ?_
    refine L.yes rfl ?_
    refine L.step (Ev.load rfl rfl rfl (Src.r 5 rfl) rfl) rfl ?_
    refine L.yes rfl ?_
    refine L.step (Ev.pure rfl) rfl ?_
    refine L.yes rfl ?_
    refine L.step (Ev.pure rfl) rfl ?_
    refine L.step (Ev.pure rfl) rfl ?_
    refine L.step (Ev.pure rfl) rfl ?_
    refine L.bool 31 rfl (fun hg31 => ?_) (fun hg31 => ?_)
    · skip
      replace hg31 := of_decide_eq_true hg31
      refine L.no rfl rfl rfl ?_
      refine L.no rfl rfl rfl ?_
      refine L.no rfl rfl rfl ?_
      refine L.no rfl rfl rfl ?_
      refine L.step (Ev.pure rfl) rfl ?_
      refine L.nil ?_
      refine QE.seq ?_
      refine C.cond rfl (fun _ => ?_) (fun h => by cases h)
      refine C.seq ?_
      refine C.region ?_
      refine L.step (Ev.pure rfl) rfl ?_
      refine L.step (Ev.pure rfl) rfl ?_
      refine L.nil ?_
      refine QE.seq ?_
      refine C.ret ?_
      refine QE.tR ?_
      refine QE.ret (js := []) (hs := []) (vs := [_]) rfl ⟨rfl, trivial⟩ (by decide) ?_
      exact ⟨rfl, rfl, rfl⟩
    · skip
      replace hg31 := of_decide_eq_false hg31
      refine L.yes rfl ?_
      refine L.step (Ev.idxArr (k := 1) rfl rfl rfl rfl rfl rfl (by decide) (Src.r 5 rfl) (Nat.zero_lt_succ _) rfl) rfl ?_
      refine L.yes rfl ?_
      refine L.step (Ev.load rfl rfl rfl (Src.r 5 rfl) rfl) rfl ?_
      refine L.yes rfl ?_
      refine L.step (Ev.pure rfl) rfl ?_
      refine L.yes rfl ?_
      refine L.step (Ev.pure rfl) rfl ?_
      refine L.step (Ev.pure rfl) rfl ?_
      refine L.nil ?_
      refine QE.seq ?_
      refine C.condB 36 rfl (fun hc36 => ?_) (fun hc36 => ?_)
      · skip
        replace hc36 := of_decide_eq_true hc36
        refine C.seq ?_
        refine C.region ?_
        refine L.step (Ev.pure rfl) rfl ?_
        refine L.step (Ev.pure rfl) rfl ?_
        refine L.nil ?_
        refine QE.seq ?_
        refine C.ret ?_
        refine QE.tR ?_
        refine QE.ret (js := []) (hs := []) (vs := [_]) rfl ⟨rfl, trivial⟩ (by decide) ?_
        exact ⟨rfl, rfl, rfl⟩
      · skip
        replace hc36 := of_decide_eq_false hc36
        have hq40 : q.length ≤ 40 := by omega
        refine C.skip ?_
        refine QE.seq ?_
        refine C.seq ?_
        refine C.le (Γ' := [(4, ptrOf A4 0), (5, ptrOf A5 0), (7, .bool true), (8, ptrOf A8 0)]) (R' := [Rd A5 [.slice PA p.length pc, .slice QA q.length qc], Rd A4 [.int .i64 x.kind, .int .i64 x.sec, .int .i64 x.at_, .slice OA x.data.length oc], Rd OA (U8 x.data), Rd PA (U8 p), Rd QA (U8 q), Rd A8 [.int .i64 (f.size : Int), .slice b.D f.data.length b.cD, .slice b.W f.wear.length b.cW, .int .i64 f.limit, .slice b.E f.dead.length b.cE], Rd b.D (rowsV b.hs (B8 f.data)), KidsR b.hs (B8 f.data), Rd b.W (I64 f.wear), Rd b.E (Bs f.dead)]) (H' := []) (by exact Le.mk' (rs := [5, 6, 7, 8, 9, 0, 4, 3, 2, 1]) (hs := []) ⟨rfl, rfl, rfl, rfl, trivial⟩ ⟨rfl, rfl, rfl, rfl, rfl, rfl, rfl, rfl, rfl, rfl, trivial⟩ trivial (by decide)) ?_
        refine C.region ?_
        refine L.step (Ev.loadA rfl rfl rfl (Src.r 5 rfl) rfl rfl (by decide)) rfl ?_
        refine L.step (Ev.loadA rfl rfl rfl (Src.r 1 rfl) rfl rfl (by decide)) rfl ?_
        refine L.callR (js := []) (js' := []) (do_c f b ok hb x OA oc hol) rfl rfl rfl (by decide) ⟨(Has.r 6 rfl), (Has.r 7 rfl), (Has.r 8 rfl), (Has.r 9 rfl), (Has.r 2 rfl), trivial⟩ rfl ?_
        rintro _ _ _ ⟨b1, hb1, rfl, rfl, rfl⟩
        refine L.step (Ev.pure rfl) rfl ?_
        refine L.step (Ev.pure rfl) rfl ?_
        refine L.step (Ev.pure rfl) rfl ?_
        refine L.alloc rfl rfl rfl (fun A9 => ?_)
        refine L.storeA (j := 0) rfl rfl rfl rfl rfl (Nat.zero_lt_succ _) rfl rfl ?_
        refine L.step (Ev.pure rfl) rfl ?_
        refine L.nil ?_
        refine QE.seq ?_
        refine C.seq ?_
        refine C.le (Γ' := [(4, ptrOf A4 0), (5, ptrOf A5 0), (7, .bool true), (8, ptrOf A8 0), (9, ptrOf A9 0), (10, .int .i64 (checkE f x))]) (R' := [Rd A5 [.slice PA p.length pc, .slice QA q.length qc], Rd A4 [.int .i64 x.kind, .int .i64 x.sec, .int .i64 x.at_, .slice OA x.data.length oc], Rd OA (U8 x.data), Rd PA (U8 p), Rd QA (U8 q), Rd A8 [.int .i64 (f.size : Int), .slice b.D f.data.length b.cD, .slice b.W f.wear.length b.cW, .int .i64 f.limit, .slice b.E f.dead.length b.cE], Rd b.D (rowsV b.hs (B8 f.data)), KidsR b.hs (B8 f.data), Rd b.W (I64 f.wear), Rd b.E (Bs f.dead), Rd b1.D (rowsV b1.hs (B8 (cutR f x (fun _ => 255)).data)), KidsR b1.hs (B8 (cutR f x (fun _ => 255)).data), Rd b1.W (I64 (cutR f x (fun _ => 255)).wear), Rd b1.E (Bs (cutR f x (fun _ => 255)).dead)]) (H' := [Own 32 5 A9 1 1 [.int .i64 ((cutR f x (fun _ => 255)).size : Int), .slice b1.D (cutR f x (fun _ => 255)).data.length b1.cD, .slice b1.W (cutR f x (fun _ => 255)).wear.length b1.cW, .int .i64 (cutR f x (fun _ => 255)).limit, .slice b1.E (cutR f x (fun _ => 255)).dead.length b1.cE]]) (by exact Le.mk' (rs := [4, 5, 6, 7, 8, 9, 10, 11, 12, 13, 0, 1, 2, 3]) (hs := [0]) ⟨rfl, rfl, rfl, rfl, rfl, rfl, trivial⟩ ⟨rfl, rfl, rfl, rfl, rfl, rfl, rfl, rfl, rfl, rfl, rfl, rfl, rfl, rfl, trivial⟩ ⟨rfl, trivial⟩ (by decide)) ?_
        refine C.freeze 0 rfl [] (by decide) (by decide) ?_
        refine C.region ?_
        refine L.step (Ev.loadA rfl rfl rfl (Src.r 6 rfl) rfl rfl (by decide)) rfl ?_
        refine L.step (Ev.loadA rfl rfl rfl (Src.r 2 rfl) rfl rfl (by decide)) rfl ?_
        refine L.callR (js := []) (js' := []) (do17_c f b ok hb x OA oc hol) rfl rfl rfl (by decide) ⟨(Has.r 7 rfl), (Has.r 8 rfl), (Has.r 9 rfl), (Has.r 10 rfl), (Has.r 3 rfl), trivial⟩ rfl ?_
        rintro _ _ _ ⟨b2, hb2, rfl, rfl, rfl⟩
        refine L.step (Ev.pure rfl) rfl ?_
        refine L.step (Ev.pure rfl) rfl ?_
        refine L.step (Ev.pure rfl) rfl ?_
        refine L.alloc rfl rfl rfl (fun A11 => ?_)
        refine L.storeA (j := 0) rfl rfl rfl rfl rfl (Nat.zero_lt_succ _) rfl rfl ?_
        refine L.step (Ev.pure rfl) rfl ?_
        refine L.nil ?_
        refine QE.seq ?_
        refine C.seq ?_
        refine C.le (Γ' := [(4, ptrOf A4 0), (5, ptrOf A5 0), (7, .bool true), (8, ptrOf A8 0), (9, ptrOf A9 0), (10, .int .i64 (checkE f x)), (11, ptrOf A11 0), (12, .int .i64 (checkE f x))]) (R' := [Rd A5 [.slice PA p.length pc, .slice QA q.length qc], Rd A4 [.int .i64 x.kind, .int .i64 x.sec, .int .i64 x.at_, .slice OA x.data.length oc], Rd OA (U8 x.data), Rd PA (U8 p), Rd QA (U8 q), Rd A8 [.int .i64 (f.size : Int), .slice b.D f.data.length b.cD, .slice b.W f.wear.length b.cW, .int .i64 f.limit, .slice b.E f.dead.length b.cE], Rd b.D (rowsV b.hs (B8 f.data)), KidsR b.hs (B8 f.data), Rd b.W (I64 f.wear), Rd b.E (Bs f.dead), Rd b1.D (rowsV b1.hs (B8 (cutR f x (fun _ => 255)).data)), KidsR b1.hs (B8 (cutR f x (fun _ => 255)).data), Rd b1.W (I64 (cutR f x (fun _ => 255)).wear), Rd b1.E (Bs (cutR f x (fun _ => 255)).dead), Rd A9 [.int .i64 ((cutR f x (fun _ => 255)).size : Int), .slice b1.D (cutR f x (fun _ => 255)).data.length b1.cD, .slice b1.W (cutR f x (fun _ => 255)).wear.length b1.cW, .int .i64 (cutR f x (fun _ => 255)).limit, .slice b1.E (cutR f x (fun _ => 255)).dead.length b1.cE], Rd b2.D (rowsV b2.hs (B8 (cutR f x (fun _ => 255)).data)), KidsR b2.hs (B8 (cutR f x (fun _ => 255)).data), Rd b2.W (I64 (cutR f x (fun _ => 255)).wear), Rd b2.E (Bs (cutR f x (fun _ => 255)).dead)]) (H' := [Own 32 5 A11 1 1 [.int .i64 ((cutR f x (fun _ => 255)).size : Int), .slice b2.D (cutR f x (fun _ => 255)).data.length b2.cD, .slice b2.W (cutR f x (fun _ => 255)).wear.length b2.cW, .int .i64 (cutR f x (fun _ => 255)).limit, .slice b2.E (cutR f x (fun _ => 255)).dead.length b2.cE]]) (by exact Le.mk' (rs := [5, 6, 7, 8, 9, 10, 11, 12, 13, 14, 15, 16, 17, 18, 4, 0, 1, 2, 3]) (hs := [0]) ⟨rfl, rfl, rfl, rfl, rfl, rfl, rfl, rfl, trivial⟩ ⟨rfl, rfl, rfl, rfl, rfl, rfl, rfl, rfl, rfl, rfl, rfl, rfl, rfl, rfl, rfl, rfl, rfl, rfl, rfl, trivial⟩ ⟨rfl, trivial⟩ (by decide)) ?_
        refine C.freeze 0 rfl [] (by decide) (by decide) ?_
        refine C.region ?_
        refine L.step (Ev.loadA rfl rfl rfl (Src.r 6 rfl) rfl rfl (by decide)) rfl ?_
        refine L.step (Ev.loadA rfl rfl rfl (Src.r 2 rfl) rfl rfl (by decide)) rfl ?_
        refine L.step (Ev.idxArr (k := 0) rfl rfl rfl rfl rfl rfl (by decide) (Src.r 1 rfl) (Nat.zero_lt_succ _) rfl) rfl ?_
        refine L.step (Ev.load rfl rfl rfl (Src.r 1 rfl) rfl) rfl ?_
        refine L.callR (js := []) (js' := []) (cut_c f b ok hb x OA oc hol p PA _ pc rfl hpl) rfl rfl rfl (by decide) ⟨(Has.r 7 rfl), (Has.r 8 rfl), (Has.r 9 rfl), (Has.r 10 rfl), (Has.r 3 rfl), (Has.r 4 rfl), trivial⟩ rfl ?_
        rintro _ _ _ ⟨b3, hb3, rfl, rfl, rfl⟩
        refine L.step (Ev.pure rfl) rfl ?_
        refine L.step (Ev.pure rfl) rfl ?_
        refine L.step (Ev.pure rfl) rfl ?_
        refine L.alloc rfl rfl rfl (fun A13 => ?_)
        refine L.storeA (j := 0) rfl rfl rfl rfl rfl (Nat.zero_lt_succ _) rfl rfl ?_
        refine L.step (Ev.pure rfl) rfl ?_
        refine L.nil ?_
        refine QE.seq ?_
        refine C.seq ?_
        refine C.le (Γ' := [(4, ptrOf A4 0), (5, ptrOf A5 0), (7, .bool true), (8, ptrOf A8 0), (9, ptrOf A9 0), (10, .int .i64 (checkE f x)), (11, ptrOf A11 0), (12, .int .i64 (checkE f x)), (13, ptrOf A13 0), (14, .int .i64 (checkE f x))]) (R' := [Rd A5 [.slice PA p.length pc, .slice QA q.length qc], Rd A4 [.int .i64 x.kind, .int .i64 x.sec, .int .i64 x.at_, .slice OA x.data.length oc], Rd OA (U8 x.data), Rd PA (U8 p), Rd QA (U8 q), Rd A8 [.int .i64 (f.size : Int), .slice b.D f.data.length b.cD, .slice b.W f.wear.length b.cW, .int .i64 f.limit, .slice b.E f.dead.length b.cE], Rd b.D (rowsV b.hs (B8 f.data)), KidsR b.hs (B8 f.data), Rd b.W (I64 f.wear), Rd b.E (Bs f.dead), Rd b1.D (rowsV b1.hs (B8 (cutR f x (fun _ => 255)).data)), KidsR b1.hs (B8 (cutR f x (fun _ => 255)).data), Rd b1.W (I64 (cutR f x (fun _ => 255)).wear), Rd b1.E (Bs (cutR f x (fun _ => 255)).dead), Rd A9 [.int .i64 ((cutR f x (fun _ => 255)).size : Int), .slice b1.D (cutR f x (fun _ => 255)).data.length b1.cD, .slice b1.W (cutR f x (fun _ => 255)).wear.length b1.cW, .int .i64 (cutR f x (fun _ => 255)).limit, .slice b1.E (cutR f x (fun _ => 255)).dead.length b1.cE], Rd b2.D (rowsV b2.hs (B8 (cutR f x (fun _ => 255)).data)), KidsR b2.hs (B8 (cutR f x (fun _ => 255)).data), Rd b2.W (I64 (cutR f x (fun _ => 255)).wear), Rd b2.E (Bs (cutR f x (fun _ => 255)).dead), Rd A11 [.int .i64 ((cutR f x (fun _ => 255)).size : Int), .slice b2.D (cutR f x (fun _ => 255)).data.length b2.cD, .slice b2.W (cutR f x (fun _ => 255)).wear.length b2.cW, .int .i64 (cutR f x (fun _ => 255)).limit, .slice b2.E (cutR f x (fun _ => 255)).dead.length b2.cE], Rd b3.D (rowsV b3.hs (B8 (cutR f x (fun i => p.getD i 0)).data)), KidsR b3.hs (B8 (cutR f x (fun i => p.getD i 0)).data), Rd b3.W (I64 (cutR f x (fun i => p.getD i 0)).wear), Rd b3.E (Bs (cutR f x (fun i => p.getD i 0)).dead)]) (H' := [Own 32 5 A13 1 1 [.int .i64 ((cutR f x (fun i => p.getD i 0)).size : Int), .slice b3.D (cutR f x (fun i => p.getD i 0)).data.length b3.cD, .slice b3.W (cutR f x (fun i => p.getD i 0)).wear.length b3.cW, .int .i64 (cutR f x (fun i => p.getD i 0)).limit, .slice b3.E (cutR f x (fun i => p.getD i 0)).dead.length b3.cE]]) (by exact Le.mk' (rs := [5, 6, 7, 8, 9, 10, 11, 12, 13, 14, 15, 16, 17, 18, 19, 20, 21, 22, 23, 4, 0, 1, 2, 3]) (hs := [0]) ⟨rfl, rfl, rfl, rfl, rfl, rfl, rfl, rfl, rfl, rfl, trivial⟩ ⟨rfl, rfl, rfl, rfl, rfl, rfl, rfl, rfl, rfl, rfl, rfl, rfl, rfl, rfl, rfl, rfl, rfl, rfl, rfl, rfl, rfl, rfl, rfl, rfl, trivial⟩ ⟨rfl, trivial⟩ (by decide)) ?_
        refine C.freeze 0 rfl [] (by decide) (by decide) ?_
        refine C.region ?_
        refine L.step (Ev.loadA rfl rfl rfl (Src.r 6 rfl) rfl rfl (by decide)) rfl ?_
        refine L.step (Ev.loadA rfl rfl rfl (Src.r 2 rfl) rfl rfl (by decide)) rfl ?_
        refine L.step (Ev.idxArr (k := 0) rfl rfl rfl rfl rfl rfl (by decide) (Src.r 1 rfl) (Nat.zero_lt_succ _) rfl) rfl ?_
        refine L.step (Ev.load rfl rfl rfl (Src.r 1 rfl) rfl) rfl ?_
        refine L.callR (js := []) (js' := []) (cut17_c f b ok hb x OA oc hol p PA _ pc rfl hpl) rfl rfl rfl (by decide) ⟨(Has.r 7 rfl), (Has.r 8 rfl), (Has.r 9 rfl), (Has.r 10 rfl), (Has.r 3 rfl), (Has.r 4 rfl), trivial⟩ rfl ?_
        rintro _ _ _ ⟨b4, hb4, rfl, rfl, rfl⟩
        refine L.step (Ev.pure rfl) rfl ?_
        refine L.step (Ev.pure rfl) rfl ?_
        refine L.step (Ev.pure rfl) rfl ?_
        refine L.alloc rfl rfl rfl (fun A15 => ?_)
        refine L.storeA (j := 0) rfl rfl rfl rfl rfl (Nat.zero_lt_succ _) rfl rfl ?_
        refine L.step (Ev.pure rfl) rfl ?_
        refine L.nil ?_
        refine QE.seq ?_
        refine C.seq ?_
        refine C.le (Γ' := [(4, ptrOf A4 0), (5, ptrOf A5 0), (7, .bool true), (8, ptrOf A8 0), (9, ptrOf A9 0), (10, .int .i64 (checkE f x)), (11, ptrOf A11 0), (12, .int .i64 (checkE f x)), (13, ptrOf A13 0), (14, .int .i64 (checkE f x)), (15, ptrOf A15 0), (16, .int .i64 (checkE f x))]) (R' := [Rd A5 [.slice PA p.length pc, .slice QA q.length qc], Rd A4 [.int .i64 x.kind, .int .i64 x.sec, .int .i64 x.at_, .slice OA x.data.length oc], Rd OA (U8 x.data), Rd PA (U8 p), Rd QA (U8 q), Rd A8 [.int .i64 (f.size : Int), .slice b.D f.data.length b.cD, .slice b.W f.wear.length b.cW, .int .i64 f.limit, .slice b.E f.dead.length b.cE], Rd b.D (rowsV b.hs (B8 f.data)), KidsR b.hs (B8 f.data), Rd b.W (I64 f.wear), Rd b.E (Bs f.dead), Rd b1.D (rowsV b1.hs (B8 (cutR f x (fun _ => 255)).data)), KidsR b1.hs (B8 (cutR f x (fun _ => 255)).data), Rd b1.W (I64 (cutR f x (fun _ => 255)).wear), Rd b1.E (Bs (cutR f x (fun _ => 255)).dead), Rd A9 [.int .i64 ((cutR f x (fun _ => 255)).size : Int), .slice b1.D (cutR f x (fun _ => 255)).data.length b1.cD, .slice b1.W (cutR f x (fun _ => 255)).wear.length b1.cW, .int .i64 (cutR f x (fun _ => 255)).limit, .slice b1.E (cutR f x (fun _ => 255)).dead.length b1.cE], Rd b2.D (rowsV b2.hs (B8 (cutR f x (fun _ => 255)).data)), KidsR b2.hs (B8 (cutR f x (fun _ => 255)).data), Rd b2.W (I64 (cutR f x (fun _ => 255)).wear), Rd b2.E (Bs (cutR f x (fun _ => 255)).dead), Rd A11 [.int .i64 ((cutR f x (fun _ => 255)).size : Int), .slice b2.D (cutR f x (fun _ => 255)).data.length b2.cD, .slice b2.W (cutR f x (fun _ => 255)).wear.length b2.cW, .int .i64 (cutR f x (fun _ => 255)).limit, .slice b2.E (cutR f x (fun _ => 255)).dead.length b2.cE], Rd b3.D (rowsV b3.hs (B8 (cutR f x (fun i => p.getD i 0)).data)), KidsR b3.hs (B8 (cutR f x (fun i => p.getD i 0)).data), Rd b3.W (I64 (cutR f x (fun i => p.getD i 0)).wear), Rd b3.E (Bs (cutR f x (fun i => p.getD i 0)).dead), Rd A13 [.int .i64 ((cutR f x (fun i => p.getD i 0)).size : Int), .slice b3.D (cutR f x (fun i => p.getD i 0)).data.length b3.cD, .slice b3.W (cutR f x (fun i => p.getD i 0)).wear.length b3.cW, .int .i64 (cutR f x (fun i => p.getD i 0)).limit, .slice b3.E (cutR f x (fun i => p.getD i 0)).dead.length b3.cE], Rd b4.D (rowsV b4.hs (B8 (cutR f x (fun i => p.getD i 0)).data)), KidsR b4.hs (B8 (cutR f x (fun i => p.getD i 0)).data), Rd b4.W (I64 (cutR f x (fun i => p.getD i 0)).wear), Rd b4.E (Bs (cutR f x (fun i => p.getD i 0)).dead)]) (H' := [Own 32 5 A15 1 1 [.int .i64 ((cutR f x (fun i => p.getD i 0)).size : Int), .slice b4.D (cutR f x (fun i => p.getD i 0)).data.length b4.cD, .slice b4.W (cutR f x (fun i => p.getD i 0)).wear.length b4.cW, .int .i64 (cutR f x (fun i => p.getD i 0)).limit, .slice b4.E (cutR f x (fun i => p.getD i 0)).dead.length b4.cE]]) (by exact Le.mk' (rs := [5, 6, 7, 8, 9, 10, 11, 12, 13, 14, 15, 16, 17, 18, 19, 20, 21, 22, 23, 24, 25, 26, 27, 28, 4, 0, 1, 2, 3]) (hs := [0]) ⟨rfl, rfl, rfl, rfl, rfl, rfl, rfl, rfl, rfl, rfl, rfl, rfl, trivial⟩ ⟨rfl, rfl, rfl, rfl, rfl, rfl, rfl, rfl, rfl, rfl, rfl, rfl, rfl, rfl, rfl, rfl, rfl, rfl, rfl, rfl, rfl, rfl, rfl, rfl, rfl, rfl, rfl, rfl, rfl, trivial⟩ ⟨rfl, trivial⟩ (by decide)) ?_
        refine C.freeze 0 rfl [] (by decide) (by decide) ?_
        refine C.region ?_
        refine L.step (Ev.idxArr (k := 1) rfl rfl rfl rfl rfl rfl (by decide) (Src.r 1 rfl) (Nat.zero_lt_succ _) rfl) rfl ?_
        refine L.step (Ev.load rfl rfl rfl (Src.r 1 rfl) rfl) rfl ?_
        refine L.step (Ev.fieldAddr rfl rfl rfl rfl rfl rfl (Src.r 6 rfl) (Nat.zero_lt_succ _) rfl) rfl ?_
        refine L.step (Ev.load rfl rfl rfl (Src.r 6 rfl) rfl) rfl ?_
        refine L.call (js := []) (js' := []) (sized_c q QA qc f.size (by omega) hql) rfl rfl rfl (by decide) ⟨(Has.r 5 rfl), trivial⟩ rfl ?_
        rintro _ _ _ ⟨A70, rfl, rfl, rfl⟩
        refine L.step (Ev.pure rfl) rfl ?_
        refine L.nil ?_
        refine QE.seq ?_
        refine C.seq ?_
        refine C.le (Γ' := [(4, ptrOf A4 0), (5, ptrOf A5 0), (7, .bool true), (8, ptrOf A8 0), (9, ptrOf A9 0), (10, .int .i64 (checkE f x)), (11, ptrOf A11 0), (12, .int .i64 (checkE f x)), (13, ptrOf A13 0), (14, .int .i64 (checkE f x)), (15, ptrOf A15 0), (16, .int .i64 (checkE f x)), (17, .slice A70 f.size f.size)]) (R' := [Rd A5 [.slice PA p.length pc, .slice QA q.length qc], Rd A4 [.int .i64 x.kind, .int .i64 x.sec, .int .i64 x.at_, .slice OA x.data.length oc], Rd OA (U8 x.data), Rd PA (U8 p), Rd QA (U8 q), Rd A8 [.int .i64 (f.size : Int), .slice b.D f.data.length b.cD, .slice b.W f.wear.length b.cW, .int .i64 f.limit, .slice b.E f.dead.length b.cE], Rd b.D (rowsV b.hs (B8 f.data)), KidsR b.hs (B8 f.data), Rd b.W (I64 f.wear), Rd b.E (Bs f.dead), Rd b1.D (rowsV b1.hs (B8 (cutR f x (fun _ => 255)).data)), KidsR b1.hs (B8 (cutR f x (fun _ => 255)).data), Rd b1.W (I64 (cutR f x (fun _ => 255)).wear), Rd b1.E (Bs (cutR f x (fun _ => 255)).dead), Rd A9 [.int .i64 ((cutR f x (fun _ => 255)).size : Int), .slice b1.D (cutR f x (fun _ => 255)).data.length b1.cD, .slice b1.W (cutR f x (fun _ => 255)).wear.length b1.cW, .int .i64 (cutR f x (fun _ => 255)).limit, .slice b1.E (cutR f x (fun _ => 255)).dead.length b1.cE], Rd b2.D (rowsV b2.hs (B8 (cutR f x (fun _ => 255)).data)), KidsR b2.hs (B8 (cutR f x (fun _ => 255)).data), Rd b2.W (I64 (cutR f x (fun _ => 255)).wear), Rd b2.E (Bs (cutR f x (fun _ => 255)).dead), Rd A11 [.int .i64 ((cutR f x (fun _ => 255)).size : Int), .slice b2.D (cutR f x (fun _ => 255)).data.length b2.cD, .slice b2.W (cutR f x (fun _ => 255)).wear.length b2.cW, .int .i64 (cutR f x (fun _ => 255)).limit, .slice b2.E (cutR f x (fun _ => 255)).dead.length b2.cE], Rd b3.D (rowsV b3.hs (B8 (cutR f x (fun i => p.getD i 0)).data)), KidsR b3.hs (B8 (cutR f x (fun i => p.getD i 0)).data), Rd b3.W (I64 (cutR f x (fun i => p.getD i 0)).wear), Rd b3.E (Bs (cutR f x (fun i => p.getD i 0)).dead), Rd A13 [.int .i64 ((cutR f x (fun i => p.getD i 0)).size : Int), .slice b3.D (cutR f x (fun i => p.getD i 0)).data.length b3.cD, .slice b3.W (cutR f x (fun i => p.getD i 0)).wear.length b3.cW, .int .i64 (cutR f x (fun i => p.getD i 0)).limit, .slice b3.E (cutR f x (fun i => p.getD i 0)).dead.length b3.cE], Rd b4.D (rowsV b4.hs (B8 (cutR f x (fun i => p.getD i 0)).data)), KidsR b4.hs (B8 (cutR f x (fun i => p.getD i 0)).data), Rd b4.W (I64 (cutR f x (fun i => p.getD i 0)).wear), Rd b4.E (Bs (cutR f x (fun i => p.getD i 0)).dead), Rd A15 [.int .i64 ((cutR f x (fun i => p.getD i 0)).size : Int), .slice b4.D (cutR f x (fun i => p.getD i 0)).data.length b4.cD, .slice b4.W (cutR f x (fun i => p.getD i 0)).wear.length b4.cW, .int .i64 (cutR f x (fun i => p.getD i 0)).limit, .slice b4.E (cutR f x (fun i => p.getD i 0)).dead.length b4.cE]]) (H' := [Own 5 1 A70 f.size f.size (U8 (sizedB q f.size))]) (by exact Le.mk' (rs := [1, 2, 3, 4, 5, 6, 7, 8, 9, 10, 11, 12, 13, 14, 15, 16, 17, 18, 19, 20, 21, 22, 23, 24, 25, 26, 27, 28, 29, 0]) (hs := [0]) ⟨rfl, rfl, rfl, rfl, rfl, rfl, rfl, rfl, rfl, rfl, rfl, rfl, rfl, trivial⟩ ⟨rfl, rfl, rfl, rfl, rfl, rfl, rfl, rfl, rfl, rfl, rfl, rfl, rfl, rfl, rfl, rfl, rfl, rfl, rfl, rfl, rfl, rfl, rfl, rfl, rfl, rfl, rfl, rfl, rfl, rfl, trivial⟩ ⟨rfl, trivial⟩ (by decide)) ?_
        refine C.freeze 0 rfl [] (by decide) (by decide) ?_
        refine C.regionM [Rd A70 (U8 (sizedB q f.size)), Rd A5 [.slice PA p.length pc, .slice QA q.length qc], Rd A4 [.int .i64 x.kind, .int .i64 x.sec, .int .i64 x.at_, .slice OA x.data.length oc], Rd OA (U8 x.data), Rd PA (U8 p), Rd QA (U8 q), Rd A8 [.int .i64 (f.size : Int), .slice b.D f.data.length b.cD, .slice b.W f.wear.length b.cW, .int .i64 f.limit, .slice b.E f.dead.length b.cE], Rd b.D (rowsV b.hs (B8 f.data)), KidsR b.hs (B8 f.data), Rd b.W (I64 f.wear), Rd b.E (Bs f.dead), Rd b1.D (rowsV b1.hs (B8 (cutR f x (fun _ => 255)).data)), KidsR b1.hs (B8 (cutR f x (fun _ => 255)).data), Rd b1.W (I64 (cutR f x (fun _ => 255)).wear), Rd b1.E (Bs (cutR f x (fun _ => 255)).dead), Rd A9 [.int .i64 ((cutR f x (fun _ => 255)).size : Int), .slice b1.D (cutR f x (fun _ => 255)).data.length b1.cD, .slice b1.W (cutR f x (fun _ => 255)).wear.length b1.cW, .int .i64 (cutR f x (fun _ => 255)).limit, .slice b1.E (cutR f x (fun _ => 255)).dead.length b1.cE], Rd b2.D (rowsV b2.hs (B8 (cutR f x (fun _ => 255)).data)), KidsR b2.hs (B8 (cutR f x (fun _ => 255)).data), Rd b2.W (I64 (cutR f x (fun _ => 255)).wear), Rd b2.E (Bs (cutR f x (fun _ => 255)).dead), Rd A11 [.int .i64 ((cutR f x (fun _ => 255)).size : Int), .slice b2.D (cutR f x (fun _ => 255)).data.length b2.cD, .slice b2.W (cutR f x (fun _ => 255)).wear.length b2.cW, .int .i64 (cutR f x (fun _ => 255)).limit, .slice b2.E (cutR f x (fun _ => 255)).dead.length b2.cE], Rd b3.D (rowsV b3.hs (B8 (cutR f x (fun i => p.getD i 0)).data)), KidsR b3.hs (B8 (cutR f x (fun i => p.getD i 0)).data), Rd b3.W (I64 (cutR f x (fun i => p.getD i 0)).wear), Rd b3.E (Bs (cutR f x (fun i => p.getD i 0)).dead), Rd A13 [.int .i64 ((cutR f x (fun i => p.getD i 0)).size : Int), .slice b3.D (cutR f x (fun i => p.getD i 0)).data.length b3.cD, .slice b3.W (cutR f x (fun i => p.getD i 0)).wear.length b3.cW, .int .i64 (cutR f x (fun i => p.getD i 0)).limit, .slice b3.E (cutR f x (fun i => p.getD i 0)).dead.length b3.cE], Rd b4.D (rowsV b4.hs (B8 (cutR f x (fun i => p.getD i 0)).data)), KidsR b4.hs (B8 (cutR f x (fun i => p.getD i 0)).data), Rd b4.W (I64 (cutR f x (fun i => p.getD i 0)).wear), Rd b4.E (Bs (cutR f x (fun i => p.getD i 0)).dead), Rd A15 [.int .i64 ((cutR f x (fun i => p.getD i 0)).size : Int), .slice b4.D (cutR f x (fun i => p.getD i 0)).data.length b4.cD, .slice b4.W (cutR f x (fun i => p.getD i 0)).wear.length b4.cW, .int .i64 (cutR f x (fun i => p.getD i 0)).limit, .slice b4.E (cutR f x (fun i => p.getD i 0)).dead.length b4.cE]] ⟨Has.r 0 rfl, Has.r 1 rfl, Has.r 2 rfl, Has.r 3 rfl, Has.r 4 rfl, Has.r 5 rfl, Has.r 6 rfl, Has.r 7 rfl, Has.r 8 rfl, Has.r 9 rfl, Has.r 10 rfl, Has.r 11 rfl, Has.r 12 rfl, Has.r 13 rfl, Has.r 14 rfl, Has.r 15 rfl, Has.r 16 rfl, Has.r 17 rfl, Has.r 18 rfl, Has.r 19 rfl, Has.r 20 rfl, Has.r 21 rfl, Has.r 22 rfl, Has.r 23 rfl, Has.r 24 rfl, Has.r 25 rfl, Has.r 26 rfl, Has.r 27 rfl, Has.r 28 rfl, Has.r 29 rfl, Has.r 30 rfl, trivial⟩ ?_
        refine LM.q 0 rfl (by kernel_rfl) (Ev.loadA rfl rfl rfl (Src.r 15 rfl) rfl rfl (by decide)) rfl ⟨Has.r 0 rfl, Has.r 1 rfl, Has.r 2 rfl, Has.r 3 rfl, Has.r 4 rfl, Has.r 5 rfl, Has.r 6 rfl, Has.r 7 rfl, Has.r 8 rfl, Has.r 9 rfl, Has.r 10 rfl, Has.r 11 rfl, Has.r 12 rfl, Has.r 13 rfl, Has.r 14 rfl, Has.r 15 rfl, Has.r 16 rfl, Has.r 17 rfl, Has.r 18 rfl, Has.r 19 rfl, Has.r 20 rfl, Has.r 21 rfl, Has.r 22 rfl, Has.r 23 rfl, Has.r 24 rfl, Has.r 25 rfl, Has.r 26 rfl, Has.r 27 rfl, Has.r 28 rfl, Has.r 29 rfl, Has.r 30 rfl, trivial⟩ ?_
        refine LM.q 1 rfl (by kernel_rfl) (Ev.loadA rfl rfl rfl (Src.r 20 rfl) rfl rfl (by decide)) rfl ⟨Has.r 0 rfl, Has.r 1 rfl, Has.r 2 rfl, Has.r 3 rfl, Has.r 4 rfl, Has.r 5 rfl, Has.r 6 rfl, Has.r 7 rfl, Has.r 8 rfl, Has.r 9 rfl, Has.r 10 rfl, Has.r 11 rfl, Has.r 12 rfl, Has.r 13 rfl, Has.r 14 rfl, Has.r 15 rfl, Has.r 16 rfl, Has.r 17 rfl, Has.r 18 rfl, Has.r 19 rfl, Has.r 20 rfl, Has.r 21 rfl, Has.r 22 rfl, Has.r 23 rfl, Has.r 24 rfl, Has.r 25 rfl, Has.r 26 rfl, Has.r 27 rfl, Has.r 28 rfl, Has.r 29 rfl, Has.r 30 rfl, trivial⟩ ?_
        refine LM.f 2 rfl (by kernel_rfl) ⟨Has.r 0 rfl, Has.r 1 rfl, Has.r 2 rfl, Has.r 3 rfl, Has.r 4 rfl, Has.r 5 rfl, Has.r 6 rfl, Has.r 7 rfl, Has.r 8 rfl, Has.r 9 rfl, Has.r 10 rfl, Has.r 11 rfl, Has.r 12 rfl, Has.r 13 rfl, Has.r 14 rfl, Has.r 15 rfl, Has.r 16 rfl, Has.r 17 rfl, Has.r 18 rfl, Has.r 19 rfl, Has.r 20 rfl, Has.r 21 rfl, Has.r 22 rfl, Has.r 23 rfl, Has.r 24 rfl, Has.r 25 rfl, Has.r 26 rfl, Has.r 27 rfl, Has.r 28 rfl, Has.r 29 rfl, Has.r 30 rfl, trivial⟩ ?_
        refine L.call (js := []) (js' := []) (Ctr.tb true (sameF_c (cutR f x (fun _ => 255)) (cutR f x (fun _ => 255)) b1 b2 (cutR_sm ok) (cutR_sm ok) hb1 hb2) (decide_eq_true rfl)) rfl rfl rfl (by decide) ⟨(Has.r 11 rfl), (Has.r 12 rfl), (Has.r 13 rfl), (Has.r 14 rfl), (Has.r 16 rfl), (Has.r 17 rfl), (Has.r 18 rfl), (Has.r 19 rfl), trivial⟩ rfl ?_
        rintro _ _ _ ⟨rfl, rfl, rfl⟩
        refine L.nil (QE.m (by kernel_rfl) ?_)
        refine LM.q 3 rfl (by kernel_rfl) (Ev.pure rfl) rfl ⟨Has.r 0 rfl, Has.r 1 rfl, Has.r 2 rfl, Has.r 3 rfl, Has.r 4 rfl, Has.r 5 rfl, Has.r 6 rfl, Has.r 7 rfl, Has.r 8 rfl, Has.r 9 rfl, Has.r 10 rfl, Has.r 11 rfl, Has.r 12 rfl, Has.r 13 rfl, Has.r 14 rfl, Has.r 15 rfl, Has.r 16 rfl, Has.r 17 rfl, Has.r 18 rfl, Has.r 19 rfl, Has.r 20 rfl, Has.r 21 rfl, Has.r 22 rfl, Has.r 23 rfl, Has.r 24 rfl, Has.r 25 rfl, Has.r 26 rfl, Has.r 27 rfl, Has.r 28 rfl, Has.r 29 rfl, Has.r 30 rfl, trivial⟩ ?_
        refine LM.qy 4 rfl (by kernel_rfl) rfl (Ev.pure rfl) rfl ⟨Has.r 0 rfl, Has.r 1 rfl, Has.r 2 rfl, Has.r 3 rfl, Has.r 4 rfl, Has.r 5 rfl, Has.r 6 rfl, Has.r 7 rfl, Has.r 8 rfl, Has.r 9 rfl, Has.r 10 rfl, Has.r 11 rfl, Has.r 12 rfl, Has.r 13 rfl, Has.r 14 rfl, Has.r 15 rfl, Has.r 16 rfl, Has.r 17 rfl, Has.r 18 rfl, Has.r 19 rfl, Has.r 20 rfl, Has.r 21 rfl, Has.r 22 rfl, Has.r 23 rfl, Has.r 24 rfl, Has.r 25 rfl, Has.r 26 rfl, Has.r 27 rfl, Has.r 28 rfl, Has.r 29 rfl, Has.r 30 rfl, trivial⟩ ?_
        refine LM.qy 5 rfl (by kernel_rfl) rfl (Ev.pure rfl) rfl ⟨Has.r 0 rfl, Has.r 1 rfl, Has.r 2 rfl, Has.r 3 rfl, Has.r 4 rfl, Has.r 5 rfl, Has.r 6 rfl, Has.r 7 rfl, Has.r 8 rfl, Has.r 9 rfl, Has.r 10 rfl, Has.r 11 rfl, Has.r 12 rfl, Has.r 13 rfl, Has.r 14 rfl, Has.r 15 rfl, Has.r 16 rfl, Has.r 17 rfl, Has.r 18 rfl, Has.r 19 rfl, Has.r 20 rfl, Has.r 21 rfl, Has.r 22 rfl, Has.r 23 rfl, Has.r 24 rfl, Has.r 25 rfl, Has.r 26 rfl, Has.r 27 rfl, Has.r 28 rfl, Has.r 29 rfl, Has.r 30 rfl, trivial⟩ ?_
        refine LM.qy 6 rfl (by kernel_rfl) rfl (Ev.pure rfl) rfl ⟨Has.r 0 rfl, Has.r 1 rfl, Has.r 2 rfl, Has.r 3 rfl, Has.r 4 rfl, Has.r 5 rfl, Has.r 6 rfl, Has.r 7 rfl, Has.r 8 rfl, Has.r 9 rfl, Has.r 10 rfl, Has.r 11 rfl, Has.r 12 rfl, Has.r 13 rfl, Has.r 14 rfl, Has.r 15 rfl, Has.r 16 rfl, Has.r 17 rfl, Has.r 18 rfl, Has.r 19 rfl, Has.r 20 rfl, Has.r 21 rfl, Has.r 22 rfl, Has.r 23 rfl, Has.r 24 rfl, Has.r 25 rfl, Has.r 26 rfl, Has.r 27 rfl, Has.r 28 rfl, Has.r 29 rfl, Has.r 30 rfl, trivial⟩ ?_
        refine LM.q 7 rfl (by kernel_rfl) (Ev.pure rfl) rfl ⟨Has.r 0 rfl, Has.r 1 rfl, Has.r 2 rfl, Has.r 3 rfl, Has.r 4 rfl, Has.r 5 rfl, Has.r 6 rfl, Has.r 7 rfl, Has.r 8 rfl, Has.r 9 rfl, Has.r 10 rfl, Has.r 11 rfl, Has.r 12 rfl, Has.r 13 rfl, Has.r 14 rfl, Has.r 15 rfl, Has.r 16 rfl, Has.r 17 rfl, Has.r 18 rfl, Has.r 19 rfl, Has.r 20 rfl, Has.r 21 rfl, Has.r 22 rfl, Has.r 23 rfl, Has.r 24 rfl, Has.r 25 rfl, Has.r 26 rfl, Has.r 27 rfl, Has.r 28 rfl, Has.r 29 rfl, Has.r 30 rfl, trivial⟩ ?_
        refine LM.q 8 rfl (by kernel_rfl) (Ev.pure rfl) rfl ⟨Has.r 0 rfl, Has.r 1 rfl, Has.r 2 rfl, Has.r 3 rfl, Has.r 4 rfl, Has.r 5 rfl, Has.r 6 rfl, Has.r 7 rfl, Has.r 8 rfl, Has.r 9 rfl, Has.r 10 rfl, Has.r 11 rfl, Has.r 12 rfl, Has.r 13 rfl, Has.r 14 rfl, Has.r 15 rfl, Has.r 16 rfl, Has.r 17 rfl, Has.r 18 rfl, Has.r 19 rfl, Has.r 20 rfl, Has.r 21 rfl, Has.r 22 rfl, Has.r 23 rfl, Has.r 24 rfl, Has.r 25 rfl, Has.r 26 rfl, Has.r 27 rfl, Has.r 28 rfl, Has.r 29 rfl, Has.r 30 rfl, trivial⟩ ?_
        refine LM.bool 79 rfl (fun hg79 => ?_) (fun hg79 => ?_)
        · skip
          replace hg79 := i_eq hg79
          refine LM.qy 9 rfl (by kernel_rfl) rfl (Ev.loadA rfl rfl rfl (Src.r 25 rfl) rfl rfl (by decide)) rfl ⟨Has.r 0 rfl, Has.r 1 rfl, Has.r 2 rfl, Has.r 3 rfl, Has.r 4 rfl, Has.r 5 rfl, Has.r 6 rfl, Has.r 7 rfl, Has.r 8 rfl, Has.r 9 rfl, Has.r 10 rfl, Has.r 11 rfl, Has.r 12 rfl, Has.r 13 rfl, Has.r 14 rfl, Has.r 15 rfl, Has.r 16 rfl, Has.r 17 rfl, Has.r 18 rfl, Has.r 19 rfl, Has.r 20 rfl, Has.r 21 rfl, Has.r 22 rfl, Has.r 23 rfl, Has.r 24 rfl, Has.r 25 rfl, Has.r 26 rfl, Has.r 27 rfl, Has.r 28 rfl, Has.r 29 rfl, Has.r 30 rfl, trivial⟩ ?_
          refine LM.qy 10 rfl (by kernel_rfl) rfl (Ev.loadA rfl rfl rfl (Src.r 30 rfl) rfl rfl (by decide)) rfl ⟨Has.r 0 rfl, Has.r 1 rfl, Has.r 2 rfl, Has.r 3 rfl, Has.r 4 rfl, Has.r 5 rfl, Has.r 6 rfl, Has.r 7 rfl, Has.r 8 rfl, Has.r 9 rfl, Has.r 10 rfl, Has.r 11 rfl, Has.r 12 rfl, Has.r 13 rfl, Has.r 14 rfl, Has.r 15 rfl, Has.r 16 rfl, Has.r 17 rfl, Has.r 18 rfl, Has.r 19 rfl, Has.r 20 rfl, Has.r 21 rfl, Has.r 22 rfl, Has.r 23 rfl, Has.r 24 rfl, Has.r 25 rfl, Has.r 26 rfl, Has.r 27 rfl, Has.r 28 rfl, Has.r 29 rfl, Has.r 30 rfl, trivial⟩ ?_
          refine LM.f 11 rfl (by kernel_rfl) ⟨Has.r 0 rfl, Has.r 1 rfl, Has.r 2 rfl, Has.r 3 rfl, Has.r 4 rfl, Has.r 5 rfl, Has.r 6 rfl, Has.r 7 rfl, Has.r 8 rfl, Has.r 9 rfl, Has.r 10 rfl, Has.r 11 rfl, Has.r 12 rfl, Has.r 13 rfl, Has.r 14 rfl, Has.r 15 rfl, Has.r 16 rfl, Has.r 17 rfl, Has.r 18 rfl, Has.r 19 rfl, Has.r 20 rfl, Has.r 21 rfl, Has.r 22 rfl, Has.r 23 rfl, Has.r 24 rfl, Has.r 25 rfl, Has.r 26 rfl, Has.r 27 rfl, Has.r 28 rfl, Has.r 29 rfl, Has.r 30 rfl, trivial⟩ ?_
          refine L.yes rfl ?_
          refine L.call (js := []) (js' := []) (Ctr.tb true (sameF_c (cutR f x (fun i => p.getD i 0)) (cutR f x (fun i => p.getD i 0)) b3 b4 (cutR_sm ok) (cutR_sm ok) hb3 hb4) (decide_eq_true rfl)) rfl rfl rfl (by decide) ⟨(Has.r 21 rfl), (Has.r 22 rfl), (Has.r 23 rfl), (Has.r 24 rfl), (Has.r 26 rfl), (Has.r 27 rfl), (Has.r 28 rfl), (Has.r 29 rfl), trivial⟩ rfl ?_
          rintro _ _ _ ⟨rfl, rfl, rfl⟩
          refine L.nil (QE.m (by kernel_rfl) ?_)
          refine LM.q 12 rfl (by kernel_rfl) (Ev.pure rfl) rfl ⟨Has.r 0 rfl, Has.r 1 rfl, Has.r 2 rfl, Has.r 3 rfl, Has.r 4 rfl, Has.r 5 rfl, Has.r 6 rfl, Has.r 7 rfl, Has.r 8 rfl, Has.r 9 rfl, Has.r 10 rfl, Has.r 11 rfl, Has.r 12 rfl, Has.r 13 rfl, Has.r 14 rfl, Has.r 15 rfl, Has.r 16 rfl, Has.r 17 rfl, Has.r 18 rfl, Has.r 19 rfl, Has.r 20 rfl, Has.r 21 rfl, Has.r 22 rfl, Has.r 23 rfl, Has.r 24 rfl, Has.r 25 rfl, Has.r 26 rfl, Has.r 27 rfl, Has.r 28 rfl, Has.r 29 rfl, Has.r 30 rfl, trivial⟩ ?_
          refine LM.q 13 rfl (by kernel_rfl) (Ev.pure rfl) rfl ⟨Has.r 0 rfl, Has.r 1 rfl, Has.r 2 rfl, Has.r 3 rfl, Has.r 4 rfl, Has.r 5 rfl, Has.r 6 rfl, Has.r 7 rfl, Has.r 8 rfl, Has.r 9 rfl, Has.r 10 rfl, Has.r 11 rfl, Has.r 12 rfl, Has.r 13 rfl, Has.r 14 rfl, Has.r 15 rfl, Has.r 16 rfl, Has.r 17 rfl, Has.r 18 rfl, Has.r 19 rfl, Has.r 20 rfl, Has.r 21 rfl, Has.r 22 rfl, Has.r 23 rfl, Has.r 24 rfl, Has.r 25 rfl, Has.r 26 rfl, Has.r 27 rfl, Has.r 28 rfl, Has.r 29 rfl, Has.r 30 rfl, trivial⟩ ?_
          refine LM.qy 14 rfl (by kernel_rfl) rfl (Ev.pure rfl) rfl ⟨Has.r 0 rfl, Has.r 1 rfl, Has.r 2 rfl, Has.r 3 rfl, Has.r 4 rfl, Has.r 5 rfl, Has.r 6 rfl, Has.r 7 rfl, Has.r 8 rfl, Has.r 9 rfl, Has.r 10 rfl, Has.r 11 rfl, Has.r 12 rfl, Has.r 13 rfl, Has.r 14 rfl, Has.r 15 rfl, Has.r 16 rfl, Has.r 17 rfl, Has.r 18 rfl, Has.r 19 rfl, Has.r 20 rfl, Has.r 21 rfl, Has.r 22 rfl, Has.r 23 rfl, Has.r 24 rfl, Has.r 25 rfl, Has.r 26 rfl, Has.r 27 rfl, Has.r 28 rfl, Has.r 29 rfl, Has.r 30 rfl, trivial⟩ ?_
          refine LM.qy 15 rfl (by kernel_rfl) rfl (Ev.pure rfl) rfl ⟨Has.r 0 rfl, Has.r 1 rfl, Has.r 2 rfl, Has.r 3 rfl, Has.r 4 rfl, Has.r 5 rfl, Has.r 6 rfl, Has.r 7 rfl, Has.r 8 rfl, Has.r 9 rfl, Has.r 10 rfl, Has.r 11 rfl, Has.r 12 rfl, Has.r 13 rfl, Has.r 14 rfl, Has.r 15 rfl, Has.r 16 rfl, Has.r 17 rfl, Has.r 18 rfl, Has.r 19 rfl, Has.r 20 rfl, Has.r 21 rfl, Has.r 22 rfl, Has.r 23 rfl, Has.r 24 rfl, Has.r 25 rfl, Has.r 26 rfl, Has.r 27 rfl, Has.r 28 rfl, Has.r 29 rfl, Has.r 30 rfl, trivial⟩ ?_
          refine LM.qy 16 rfl (by kernel_rfl) rfl (Ev.pure rfl) rfl ⟨Has.r 0 rfl, Has.r 1 rfl, Has.r 2 rfl, Has.r 3 rfl, Has.r 4 rfl, Has.r 5 rfl, Has.r 6 rfl, Has.r 7 rfl, Has.r 8 rfl, Has.r 9 rfl, Has.r 10 rfl, Has.r 11 rfl, Has.r 12 rfl, Has.r 13 rfl, Has.r 14 rfl, Has.r 15 rfl, Has.r 16 rfl, Has.r 17 rfl, Has.r 18 rfl, Has.r 19 rfl, Has.r 20 rfl, Has.r 21 rfl, Has.r 22 rfl, Has.r 23 rfl, Has.r 24 rfl, Has.r 25 rfl, Has.r 26 rfl, Has.r 27 rfl, Has.r 28 rfl, Has.r 29 rfl, Has.r 30 rfl, trivial⟩ ?_
          refine LM.q 17 rfl (by kernel_rfl) (Ev.pure rfl) rfl ⟨Has.r 0 rfl, Has.r 1 rfl, Has.r 2 rfl, Has.r 3 rfl, Has.r 4 rfl, Has.r 5 rfl, Has.r 6 rfl, Has.r 7 rfl, Has.r 8 rfl, Has.r 9 rfl, Has.r 10 rfl, Has.r 11 rfl, Has.r 12 rfl, Has.r 13 rfl, Has.r 14 rfl, Has.r 15 rfl, Has.r 16 rfl, Has.r 17 rfl, Has.r 18 rfl, Has.r 19 rfl, Has.r 20 rfl, Has.r 21 rfl, Has.r 22 rfl, Has.r 23 rfl, Has.r 24 rfl, Has.r 25 rfl, Has.r 26 rfl, Has.r 27 rfl, Has.r 28 rfl, Has.r 29 rfl, Has.r 30 rfl, trivial⟩ ?_
          refine LM.q 18 rfl (by kernel_rfl) (Ev.pure rfl) rfl ⟨Has.r 0 rfl, Has.r 1 rfl, Has.r 2 rfl, Has.r 3 rfl, Has.r 4 rfl, Has.r 5 rfl, Has.r 6 rfl, Has.r 7 rfl, Has.r 8 rfl, Has.r 9 rfl, Has.r 10 rfl, Has.r 11 rfl, Has.r 12 rfl, Has.r 13 rfl, Has.r 14 rfl, Has.r 15 rfl, Has.r 16 rfl, Has.r 17 rfl, Has.r 18 rfl, Has.r 19 rfl, Has.r 20 rfl, Has.r 21 rfl, Has.r 22 rfl, Has.r 23 rfl, Has.r 24 rfl, Has.r 25 rfl, Has.r 26 rfl, Has.r 27 rfl, Has.r 28 rfl, Has.r 29 rfl, Has.r 30 rfl, trivial⟩ ?_
          refine LM.bool 89 rfl (fun hg89 => ?_) (fun hg89 => ?_)
          · skip
            replace hg89 := i_eq hg89
            refine LM.qy 19 rfl (by kernel_rfl) rfl (Ev.loadA rfl rfl rfl (Src.r 6 rfl) rfl rfl (by decide)) rfl ⟨Has.r 0 rfl, Has.r 1 rfl, Has.r 2 rfl, Has.r 3 rfl, Has.r 4 rfl, Has.r 5 rfl, Has.r 6 rfl, Has.r 7 rfl, Has.r 8 rfl, Has.r 9 rfl, Has.r 10 rfl, Has.r 11 rfl, Has.r 12 rfl, Has.r 13 rfl, Has.r 14 rfl, Has.r 15 rfl, Has.r 16 rfl, Has.r 17 rfl, Has.r 18 rfl, Has.r 19 rfl, Has.r 20 rfl, Has.r 21 rfl, Has.r 22 rfl, Has.r 23 rfl, Has.r 24 rfl, Has.r 25 rfl, Has.r 26 rfl, Has.r 27 rfl, Has.r 28 rfl, Has.r 29 rfl, Has.r 30 rfl, trivial⟩ ?_
            refine LM.qy 20 rfl (by kernel_rfl) rfl (Ev.fieldAddr rfl rfl rfl rfl rfl rfl (Src.r 2 rfl) (Nat.zero_lt_succ _) rfl) rfl ⟨Has.r 0 rfl, Has.r 1 rfl, Has.r 2 rfl, Has.r 3 rfl, Has.r 4 rfl, Has.r 5 rfl, Has.r 6 rfl, Has.r 7 rfl, Has.r 8 rfl, Has.r 9 rfl, Has.r 10 rfl, Has.r 11 rfl, Has.r 12 rfl, Has.r 13 rfl, Has.r 14 rfl, Has.r 15 rfl, Has.r 16 rfl, Has.r 17 rfl, Has.r 18 rfl, Has.r 19 rfl, Has.r 20 rfl, Has.r 21 rfl, Has.r 22 rfl, Has.r 23 rfl, Has.r 24 rfl, Has.r 25 rfl, Has.r 26 rfl, Has.r 27 rfl, Has.r 28 rfl, Has.r 29 rfl, Has.r 30 rfl, trivial⟩ ?_
            refine LM.qy 21 rfl (by kernel_rfl) rfl (Ev.load rfl rfl rfl (Src.r 2 rfl) rfl) rfl ⟨Has.r 0 rfl, Has.r 1 rfl, Has.r 2 rfl, Has.r 3 rfl, Has.r 4 rfl, Has.r 5 rfl, Has.r 6 rfl, Has.r 7 rfl, Has.r 8 rfl, Has.r 9 rfl, Has.r 10 rfl, Has.r 11 rfl, Has.r 12 rfl, Has.r 13 rfl, Has.r 14 rfl, Has.r 15 rfl, Has.r 16 rfl, Has.r 17 rfl, Has.r 18 rfl, Has.r 19 rfl, Has.r 20 rfl, Has.r 21 rfl, Has.r 22 rfl, Has.r 23 rfl, Has.r 24 rfl, Has.r 25 rfl, Has.r 26 rfl, Has.r 27 rfl, Has.r 28 rfl, Has.r 29 rfl, Has.r 30 rfl, trivial⟩ ?_
            refine LM.qy 22 rfl (by kernel_rfl) rfl (Ev.pure rfl) rfl ⟨Has.r 0 rfl, Has.r 1 rfl, Has.r 2 rfl, Has.r 3 rfl, Has.r 4 rfl, Has.r 5 rfl, Has.r 6 rfl, Has.r 7 rfl, Has.r 8 rfl, Has.r 9 rfl, Has.r 10 rfl, Has.r 11 rfl, Has.r 12 rfl, Has.r 13 rfl, Has.r 14 rfl, Has.r 15 rfl, Has.r 16 rfl, Has.r 17 rfl, Has.r 18 rfl, Has.r 19 rfl, Has.r 20 rfl, Has.r 21 rfl, Has.r 22 rfl, Has.r 23 rfl, Has.r 24 rfl, Has.r 25 rfl, Has.r 26 rfl, Has.r 27 rfl, Has.r 28 rfl, Has.r 29 rfl, Has.r 30 rfl, trivial⟩ ?_
            refine LM.qy 24 rfl (by kernel_rfl) rfl (Ev.loadA rfl rfl rfl (Src.r 6 rfl) rfl rfl (by decide)) rfl ⟨Has.r 0 rfl, Has.r 1 rfl, Has.r 2 rfl, Has.r 3 rfl, Has.r 4 rfl, Has.r 5 rfl, Has.r 6 rfl, Has.r 7 rfl, Has.r 8 rfl, Has.r 9 rfl, Has.r 10 rfl, Has.r 11 rfl, Has.r 12 rfl, Has.r 13 rfl, Has.r 14 rfl, Has.r 15 rfl, Has.r 16 rfl, Has.r 17 rfl, Has.r 18 rfl, Has.r 19 rfl, Has.r 20 rfl, Has.r 21 rfl, Has.r 22 rfl, Has.r 23 rfl, Has.r 24 rfl, Has.r 25 rfl, Has.r 26 rfl, Has.r 27 rfl, Has.r 28 rfl, Has.r 29 rfl, Has.r 30 rfl, trivial⟩ ?_
            refine LM.qy 25 rfl (by kernel_rfl) rfl (Ev.fieldAddr rfl rfl rfl rfl rfl rfl (Src.r 2 rfl) (Nat.zero_lt_succ _) rfl) rfl ⟨Has.r 0 rfl, Has.r 1 rfl, Has.r 2 rfl, Has.r 3 rfl, Has.r 4 rfl, Has.r 5 rfl, Has.r 6 rfl, Has.r 7 rfl, Has.r 8 rfl, Has.r 9 rfl, Has.r 10 rfl, Has.r 11 rfl, Has.r 12 rfl, Has.r 13 rfl, Has.r 14 rfl, Has.r 15 rfl, Has.r 16 rfl, Has.r 17 rfl, Has.r 18 rfl, Has.r 19 rfl, Has.r 20 rfl, Has.r 21 rfl, Has.r 22 rfl, Has.r 23 rfl, Has.r 24 rfl, Has.r 25 rfl, Has.r 26 rfl, Has.r 27 rfl, Has.r 28 rfl, Has.r 29 rfl, Has.r 30 rfl, trivial⟩ ?_
            refine LM.qy 26 rfl (by kernel_rfl) rfl (Ev.load rfl rfl rfl (Src.r 2 rfl) rfl) rfl ⟨Has.r 0 rfl, Has.r 1 rfl, Has.r 2 rfl, Has.r 3 rfl, Has.r 4 rfl, Has.r 5 rfl, Has.r 6 rfl, Has.r 7 rfl, Has.r 8 rfl, Has.r 9 rfl, Has.r 10 rfl, Has.r 11 rfl, Has.r 12 rfl, Has.r 13 rfl, Has.r 14 rfl, Has.r 15 rfl, Has.r 16 rfl, Has.r 17 rfl, Has.r 18 rfl, Has.r 19 rfl, Has.r 20 rfl, Has.r 21 rfl, Has.r 22 rfl, Has.r 23 rfl, Has.r 24 rfl, Has.r 25 rfl, Has.r 26 rfl, Has.r 27 rfl, Has.r 28 rfl, Has.r 29 rfl, Has.r 30 rfl, trivial⟩ ?_
            refine LM.qy 27 rfl (by kernel_rfl) rfl (Ev.pure rfl) rfl ⟨Has.r 0 rfl, Has.r 1 rfl, Has.r 2 rfl, Has.r 3 rfl, Has.r 4 rfl, Has.r 5 rfl, Has.r 6 rfl, Has.r 7 rfl, Has.r 8 rfl, Has.r 9 rfl, Has.r 10 rfl, Has.r 11 rfl, Has.r 12 rfl, Has.r 13 rfl, Has.r 14 rfl, Has.r 15 rfl, Has.r 16 rfl, Has.r 17 rfl, Has.r 18 rfl, Has.r 19 rfl, Has.r 20 rfl, Has.r 21 rfl, Has.r 22 rfl, Has.r 23 rfl, Has.r 24 rfl, Has.r 25 rfl, Has.r 26 rfl, Has.r 27 rfl, Has.r 28 rfl, Has.r 29 rfl, Has.r 30 rfl, trivial⟩ ?_
            refine LM.f 23 rfl (by kernel_rfl) ⟨Has.r 0 rfl, Has.r 1 rfl, Has.r 2 rfl, Has.r 3 rfl, Has.r 4 rfl, Has.r 5 rfl, Has.r 6 rfl, Has.r 7 rfl, Has.r 8 rfl, Has.r 9 rfl, Has.r 10 rfl, Has.r 11 rfl, Has.r 12 rfl, Has.r 13 rfl, Has.r 14 rfl, Has.r 15 rfl, Has.r 16 rfl, Has.r 17 rfl, Has.r 18 rfl, Has.r 19 rfl, Has.r 20 rfl, Has.r 21 rfl, Has.r 22 rfl, Has.r 23 rfl, Has.r 24 rfl, Has.r 25 rfl, Has.r 26 rfl, Has.r 27 rfl, Has.r 28 rfl, Has.r 29 rfl, Has.r 30 rfl, trivial⟩ ?_
            refine L.yes rfl ?_
            refine L.callR (js := []) (js' := []) (ltow_n f b ok hb x.sec (sizedB q f.size) A70 _ _ (sizedB_len _ _) (by omega)) rfl rfl rfl (by decide) ⟨(Has.r 7 rfl), (Has.r 8 rfl), (Has.r 9 rfl), (Has.r 10 rfl), (Has.r 0 rfl), trivial⟩ rfl ?_
            rintro _ _ _ ⟨T94, t94, rfl, rfl, rfl⟩
            refine L.nil (QE.m (by kernel_rfl) ?_)
            refine LM.f 28 rfl (by kernel_rfl) ⟨Has.r 1 rfl, Has.r 2 rfl, Has.r 3 rfl, Has.r 4 rfl, Has.r 5 rfl, Has.r 6 rfl, Has.r 7 rfl, Has.r 8 rfl, Has.r 9 rfl, Has.r 10 rfl, Has.r 11 rfl, Has.r 12 rfl, Has.r 13 rfl, Has.r 14 rfl, Has.r 15 rfl, Has.r 16 rfl, Has.r 17 rfl, Has.r 18 rfl, Has.r 19 rfl, Has.r 20 rfl, Has.r 21 rfl, Has.r 22 rfl, Has.r 23 rfl, Has.r 24 rfl, Has.r 25 rfl, Has.r 26 rfl, Has.r 27 rfl, Has.r 28 rfl, Has.r 29 rfl, Has.r 30 rfl, Has.r 31 rfl, trivial⟩ ?_
            refine L.yes rfl ?_
            refine L.callR (js := []) (js' := []) (tow17_n f b ok hb x.sec (sizedB q f.size) A70 _ _ (sizedB_len _ _) (by omega)) rfl rfl rfl (by decide) ⟨(Has.r 8 rfl), (Has.r 9 rfl), (Has.r 10 rfl), (Has.r 11 rfl), (Has.r 1 rfl), trivial⟩ rfl ?_
            rintro _ _ _ ⟨T99, t99, rfl, rfl, rfl⟩
            refine L.nil (QE.m (by kernel_rfl) ?_)
            refine LM.f 29 rfl (by kernel_rfl) ⟨Has.r 2 rfl, Has.r 3 rfl, Has.r 4 rfl, Has.r 5 rfl, Has.r 6 rfl, Has.r 7 rfl, Has.r 8 rfl, Has.r 9 rfl, Has.r 10 rfl, Has.r 11 rfl, Has.r 12 rfl, Has.r 13 rfl, Has.r 14 rfl, Has.r 15 rfl, Has.r 16 rfl, Has.r 17 rfl, Has.r 18 rfl, Has.r 19 rfl, Has.r 20 rfl, Has.r 21 rfl, Has.r 22 rfl, Has.r 23 rfl, Has.r 24 rfl, Has.r 25 rfl, Has.r 26 rfl, Has.r 27 rfl, Has.r 28 rfl, Has.r 29 rfl, Has.r 30 rfl, Has.r 31 rfl, Has.r 32 rfl, trivial⟩ ?_
            refine L.yes rfl ?_
            refine L.call (js := []) (js' := []) (Ctr.tb true (lsame_c (towN f x.sec (sizedB q f.size)) (towN f x.sec (sizedB q f.size)) _ _ _ _ (towN_len (by first | omega | (rw [sizedB_len]; omega))) (towN_len (by first | omega | (rw [sizedB_len]; omega)))) (decide_eq_true rfl)) rfl rfl rfl (by decide) ⟨(Has.r 1 rfl), (Has.r 0 rfl), trivial⟩ rfl ?_
            rintro _ _ _ ⟨rfl, rfl, rfl⟩
            refine L.nil (QE.m (by kernel_rfl) ?_)
            refine LM.q 30 rfl (by kernel_rfl) (Ev.pure rfl) rfl ⟨Has.r 2 rfl, Has.r 3 rfl, Has.r 4 rfl, Has.r 5 rfl, Has.r 6 rfl, Has.r 7 rfl, Has.r 8 rfl, Has.r 9 rfl, Has.r 10 rfl, Has.r 11 rfl, Has.r 12 rfl, Has.r 13 rfl, Has.r 14 rfl, Has.r 15 rfl, Has.r 16 rfl, Has.r 17 rfl, Has.r 18 rfl, Has.r 19 rfl, Has.r 20 rfl, Has.r 21 rfl, Has.r 22 rfl, Has.r 23 rfl, Has.r 24 rfl, Has.r 25 rfl, Has.r 26 rfl, Has.r 27 rfl, Has.r 28 rfl, Has.r 29 rfl, Has.r 30 rfl, Has.r 31 rfl, Has.r 32 rfl, trivial⟩ ?_
            refine LM.q 31 rfl (by kernel_rfl) (Ev.pure rfl) rfl ⟨Has.r 2 rfl, Has.r 3 rfl, Has.r 4 rfl, Has.r 5 rfl, Has.r 6 rfl, Has.r 7 rfl, Has.r 8 rfl, Has.r 9 rfl, Has.r 10 rfl, Has.r 11 rfl, Has.r 12 rfl, Has.r 13 rfl, Has.r 14 rfl, Has.r 15 rfl, Has.r 16 rfl, Has.r 17 rfl, Has.r 18 rfl, Has.r 19 rfl, Has.r 20 rfl, Has.r 21 rfl, Has.r 22 rfl, Has.r 23 rfl, Has.r 24 rfl, Has.r 25 rfl, Has.r 26 rfl, Has.r 27 rfl, Has.r 28 rfl, Has.r 29 rfl, Has.r 30 rfl, Has.r 31 rfl, Has.r 32 rfl, trivial⟩ ?_
            refine LM.qy 32 rfl (by kernel_rfl) rfl (Ev.loadA rfl rfl rfl (Src.r 6 rfl) rfl rfl (by decide)) rfl ⟨Has.r 2 rfl, Has.r 3 rfl, Has.r 4 rfl, Has.r 5 rfl, Has.r 6 rfl, Has.r 7 rfl, Has.r 8 rfl, Has.r 9 rfl, Has.r 10 rfl, Has.r 11 rfl, Has.r 12 rfl, Has.r 13 rfl, Has.r 14 rfl, Has.r 15 rfl, Has.r 16 rfl, Has.r 17 rfl, Has.r 18 rfl, Has.r 19 rfl, Has.r 20 rfl, Has.r 21 rfl, Has.r 22 rfl, Has.r 23 rfl, Has.r 24 rfl, Has.r 25 rfl, Has.r 26 rfl, Has.r 27 rfl, Has.r 28 rfl, Has.r 29 rfl, Has.r 30 rfl, Has.r 31 rfl, Has.r 32 rfl, trivial⟩ ?_
            refine LM.qy 33 rfl (by kernel_rfl) rfl (Ev.idxArr (k := 1) rfl rfl rfl rfl rfl rfl (by decide) (Src.r 1 rfl) (Nat.zero_lt_succ _) rfl) rfl ⟨Has.r 2 rfl, Has.r 3 rfl, Has.r 4 rfl, Has.r 5 rfl, Has.r 6 rfl, Has.r 7 rfl, Has.r 8 rfl, Has.r 9 rfl, Has.r 10 rfl, Has.r 11 rfl, Has.r 12 rfl, Has.r 13 rfl, Has.r 14 rfl, Has.r 15 rfl, Has.r 16 rfl, Has.r 17 rfl, Has.r 18 rfl, Has.r 19 rfl, Has.r 20 rfl, Has.r 21 rfl, Has.r 22 rfl, Has.r 23 rfl, Has.r 24 rfl, Has.r 25 rfl, Has.r 26 rfl, Has.r 27 rfl, Has.r 28 rfl, Has.r 29 rfl, Has.r 30 rfl, Has.r 31 rfl, Has.r 32 rfl, trivial⟩ ?_
            refine LM.qy 34 rfl (by kernel_rfl) rfl (Ev.load rfl rfl rfl (Src.r 1 rfl) rfl) rfl ⟨Has.r 2 rfl, Has.r 3 rfl, Has.r 4 rfl, Has.r 5 rfl, Has.r 6 rfl, Has.r 7 rfl, Has.r 8 rfl, Has.r 9 rfl, Has.r 10 rfl, Has.r 11 rfl, Has.r 12 rfl, Has.r 13 rfl, Has.r 14 rfl, Has.r 15 rfl, Has.r 16 rfl, Has.r 17 rfl, Has.r 18 rfl, Has.r 19 rfl, Has.r 20 rfl, Has.r 21 rfl, Has.r 22 rfl, Has.r 23 rfl, Has.r 24 rfl, Has.r 25 rfl, Has.r 26 rfl, Has.r 27 rfl, Has.r 28 rfl, Has.r 29 rfl, Has.r 30 rfl, Has.r 31 rfl, Has.r 32 rfl, trivial⟩ ?_
            refine LM.qy 36 rfl (by kernel_rfl) rfl (Ev.loadA rfl rfl rfl (Src.r 6 rfl) rfl rfl (by decide)) rfl ⟨Has.r 2 rfl, Has.r 3 rfl, Has.r 4 rfl, Has.r 5 rfl, Has.r 6 rfl, Has.r 7 rfl, Has.r 8 rfl, Has.r 9 rfl, Has.r 10 rfl, Has.r 11 rfl, Has.r 12 rfl, Has.r 13 rfl, Has.r 14 rfl, Has.r 15 rfl, Has.r 16 rfl, Has.r 17 rfl, Has.r 18 rfl, Has.r 19 rfl, Has.r 20 rfl, Has.r 21 rfl, Has.r 22 rfl, Has.r 23 rfl, Has.r 24 rfl, Has.r 25 rfl, Has.r 26 rfl, Has.r 27 rfl, Has.r 28 rfl, Has.r 29 rfl, Has.r 30 rfl, Has.r 31 rfl, Has.r 32 rfl, trivial⟩ ?_
            refine LM.qy 37 rfl (by kernel_rfl) rfl (Ev.idxArr (k := 1) rfl rfl rfl rfl rfl rfl (by decide) (Src.r 1 rfl) (Nat.zero_lt_succ _) rfl) rfl ⟨Has.r 2 rfl, Has.r 3 rfl, Has.r 4 rfl, Has.r 5 rfl, Has.r 6 rfl, Has.r 7 rfl, Has.r 8 rfl, Has.r 9 rfl, Has.r 10 rfl, Has.r 11 rfl, Has.r 12 rfl, Has.r 13 rfl, Has.r 14 rfl, Has.r 15 rfl, Has.r 16 rfl, Has.r 17 rfl, Has.r 18 rfl, Has.r 19 rfl, Has.r 20 rfl, Has.r 21 rfl, Has.r 22 rfl, Has.r 23 rfl, Has.r 24 rfl, Has.r 25 rfl, Has.r 26 rfl, Has.r 27 rfl, Has.r 28 rfl, Has.r 29 rfl, Has.r 30 rfl, Has.r 31 rfl, Has.r 32 rfl, trivial⟩ ?_
            refine LM.qy 38 rfl (by kernel_rfl) rfl (Ev.load rfl rfl rfl (Src.r 1 rfl) rfl) rfl ⟨Has.r 2 rfl, Has.r 3 rfl, Has.r 4 rfl, Has.r 5 rfl, Has.r 6 rfl, Has.r 7 rfl, Has.r 8 rfl, Has.r 9 rfl, Has.r 10 rfl, Has.r 11 rfl, Has.r 12 rfl, Has.r 13 rfl, Has.r 14 rfl, Has.r 15 rfl, Has.r 16 rfl, Has.r 17 rfl, Has.r 18 rfl, Has.r 19 rfl, Has.r 20 rfl, Has.r 21 rfl, Has.r 22 rfl, Has.r 23 rfl, Has.r 24 rfl, Has.r 25 rfl, Has.r 26 rfl, Has.r 27 rfl, Has.r 28 rfl, Has.r 29 rfl, Has.r 30 rfl, Has.r 31 rfl, Has.r 32 rfl, trivial⟩ ?_
            refine LM.f 35 rfl (by kernel_rfl) ⟨Has.r 2 rfl, Has.r 3 rfl, Has.r 4 rfl, Has.r 5 rfl, Has.r 6 rfl, Has.r 7 rfl, Has.r 8 rfl, Has.r 9 rfl, Has.r 10 rfl, Has.r 11 rfl, Has.r 12 rfl, Has.r 13 rfl, Has.r 14 rfl, Has.r 15 rfl, Has.r 16 rfl, Has.r 17 rfl, Has.r 18 rfl, Has.r 19 rfl, Has.r 20 rfl, Has.r 21 rfl, Has.r 22 rfl, Has.r 23 rfl, Has.r 24 rfl, Has.r 25 rfl, Has.r 26 rfl, Has.r 27 rfl, Has.r 28 rfl, Has.r 29 rfl, Has.r 30 rfl, Has.r 31 rfl, Has.r 32 rfl, trivial⟩ ?_
            refine L.yes rfl ?_
            refine L.callR (js := []) (js' := []) (ltow_c f b ok hb 0 q QA qc (by omega)) rfl rfl rfl (by decide) ⟨(Has.r 9 rfl), (Has.r 10 rfl), (Has.r 11 rfl), (Has.r 12 rfl), (Has.r 7 rfl), trivial⟩ rfl ?_
            rintro _ _ _ ⟨T106, t106, rfl, rfl, rfl⟩
            refine L.nil (QE.m (by kernel_rfl) ?_)
            refine LM.cut [] (by kernel_rfl) ⟨Has.r 3 rfl, Has.r 4 rfl, Has.r 5 rfl, Has.r 6 rfl, Has.r 7 rfl, Has.r 8 rfl, Has.r 9 rfl, Has.r 10 rfl, Has.r 11 rfl, Has.r 12 rfl, Has.r 13 rfl, Has.r 14 rfl, Has.r 15 rfl, Has.r 16 rfl, Has.r 17 rfl, Has.r 18 rfl, Has.r 19 rfl, Has.r 20 rfl, Has.r 21 rfl, Has.r 22 rfl, Has.r 23 rfl, Has.r 24 rfl, Has.r 25 rfl, Has.r 26 rfl, Has.r 27 rfl, Has.r 28 rfl, Has.r 29 rfl, Has.r 30 rfl, Has.r 31 rfl, Has.r 32 rfl, Has.r 33 rfl, trivial⟩ ?_
            refine LM.f 39 rfl (by kernel_rfl) trivial ?_
            refine L.yes rfl ?_
            refine L.callR (js := []) (js' := []) (tow17_c f b ok hb 0 q QA qc (by omega)) rfl rfl rfl (by decide) ⟨(Has.r 10 rfl), (Has.r 11 rfl), (Has.r 12 rfl), (Has.r 13 rfl), (Has.r 8 rfl), trivial⟩ rfl ?_
            rintro _ _ _ ⟨T110, t110, rfl, rfl, rfl⟩
            refine L.nil (QE.m (by kernel_rfl) ?_)
            refine LM.f 40 rfl (by kernel_rfl) trivial ?_
            refine L.yes rfl ?_
            refine L.call (js := []) (js' := []) (Ctr.tb true (lsame_c (towN f 0 q) (towN f 0 q) _ _ _ _ (towN_len (by first | omega | (rw [sizedB_len]; omega))) (towN_len (by first | omega | (rw [sizedB_len]; omega)))) (decide_eq_true rfl)) rfl rfl rfl (by decide) ⟨(Has.r 1 rfl), (Has.r 0 rfl), trivial⟩ rfl ?_
            rintro _ _ _ ⟨rfl, rfl, rfl⟩
            refine L.nil (QE.m (by kernel_rfl) ?_)
            refine LM.f 41 rfl (by kernel_rfl) trivial ?_
            refine L.step (Ev.pure rfl) rfl ?_
            refine L.nil (QE.m (by kernel_rfl) ?_)
            refine LM.f 42 rfl (by kernel_rfl) trivial ?_
            refine L.step (Ev.pure rfl) rfl ?_
            refine L.nil (QE.m (by kernel_rfl) ?_)
            refine LM.f 43 rfl (by kernel_rfl) trivial ?_
            refine L.yes rfl ?_
            refine L.step (Ev.pure rfl) rfl ?_
            refine L.nil (QE.m (by kernel_rfl) ?_)
            refine LM.f 44 rfl (by kernel_rfl) trivial ?_
            refine L.step (Ev.pure rfl) rfl ?_
            refine L.nil (QE.m (by kernel_rfl) ?_)
            refine LM.f 45 rfl (by kernel_rfl) trivial ?_
            refine L.step (Ev.pure rfl) rfl ?_
            refine L.nil (QE.m (by kernel_rfl) ?_)
            refine LM.nil (by kernel_rfl) trivial ?_
            refine QE.seq ?_
            refine C.ret ?_
            refine QE.ret (js := []) (hs := []) (vs := [_]) rfl ⟨rfl, trivial⟩ (by decide) ?_
            exact ⟨rfl, rfl, rfl⟩
          · skip
            replace hg89 := i_ne hg89
            exact (hg89 rfl).elim
        · skip
          replace hg79 := i_ne hg79
          exact (hg79 rfl).elim

end Go.Proofs.Ythfjkdgopkmgoaa
