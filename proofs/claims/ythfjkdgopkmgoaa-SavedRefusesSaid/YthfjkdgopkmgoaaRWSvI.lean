/-
  The contract of the Saved laws' sanity.
-/
import Derived.Test.YthfjkdgopkmgoaaRWSvH
import Derived.Test.YthfjkdgopkmgoaaRWFlK
import Derived.Test.YthfjkdgopkmgoaaRSlN
namespace Go.Proofs.Ythfjkdgopkmgoaa
open Go.Sl

theorem rec_k (sec : Int) (SA SB : Option Addr) (a b : List UInt8) (ca cb : Nat) (r : List UInt8) (e : Int) (hr : recS sec a b = r) (he : recE sec a b = e) (hca : a.length ≤ ca) (hal : a.length ≤ 9223372036854775807) (hbl : b.length ≤ 9223372036854775807) :
    Ctr X 21 [.int .i64 sec, .slice SA a.length ca, .slice SB b.length cb] [Rd SA (U8 a), Rd SB (U8 b)] [] (fun v R' H' => ∃ (A : Option Addr) (c : Nat), v = .tuple #[.slice A r.length c, .int .i64 e] ∧ R' = [] ∧ H' = [Own 5 1 A r.length c (U8 r)]) := by
  subst hr he
  exact record_c sec SA SB a b ca cb hca hal hbl
theorem res_k (SA RB : Option Addr) (b rec : List UInt8) (ca rc : Nat) (r : List UInt8) (e : Int) (hr : resS b rec = r) (he : resE b rec = e) (hbl : b.length ≤ 900000) (hrl : rec.length ≤ 900000) (hrc : rec.length ≤ rc) :
    Ctr X 23 [.slice SA b.length ca, .slice RB rec.length rc] [Rd SA (U8 b), Rd RB (U8 rec)] [] (fun v R' H' => ∃ (A : Option Addr) (c : Nat), v = .tuple #[.slice A r.length c, .int .i64 e] ∧ R' = [] ∧ H' = [Own 5 1 A r.length c (U8 r)]) := by
  subst hr he
  exact restore_c SA RB b rec ca rc hbl hrl hrc
theorem ltow_k (f : Fl) (a : Fa) (ok : f.Ok) (hh : a.hs.length = f.data.length) (us : List Int) (U : Option Addr) (uc : Nat) (hu : UOk f us) (at_ : Int) (b : List UInt8) (W : Option Addr) (wc : Nat) (hbl : b.length ≤ 1000000) (hwc : b.length ≤ wc) (hcap : Caps f a) (r : Nx) (hr : towS f us at_ b = r) :
    Ctr X 27 [.agg (List.toArray [.int .i64 (f.size : Int), .slice a.D f.data.length a.cD, .slice a.W f.wear.length a.cW, .int .i64 f.limit, .slice a.E f.dead.length a.cE]), .agg (List.toArray [.int .i64 0, .int .i64 0, .int .i64 0, .int .i64 0, .int .i64 0, .slice none 0 0, .slice U us.length uc, .slice none 0 0]), .agg (List.toArray [.int .i64 at_, .slice W b.length wc])] [Rd a.D (rowsV a.hs (B8 f.data)), KidsR a.hs (B8 f.data), Rd a.W (I64 f.wear), Rd a.E (Bs f.dead), Rd U (I64 us), Rd W (U8 b)] [] (fun v R' H' => ∃ A c, v = .agg (List.toArray [.int .i64 r.x.kind, .int .i64 r.x.sec, .int .i64 r.x.at_, .slice A r.x.data.length c, .bool r.done, .int .i64 r.e]) ∧ R' = [Rd A (U8 r.x.data)] ∧ H' = []) := by
  subst hr
  exact ltowU_c f a ok hh us U uc hu at_ b W wc hbl hwc hcap
theorem llast_k (f : Fl) (a : Fa) (ok : f.Ok) (hh : a.hs.length = f.data.length) (us : List Int) (U : Option Addr) (uc : Nat) (hu : UOk f us) (e : Int) (r : Fnd) (hr : lastS (area f us) (f.size : Int) e = r) :
    Ctr X 30 [.agg (List.toArray [.int .i64 (f.size : Int), .slice a.D f.data.length a.cD, .slice a.W f.wear.length a.cW, .int .i64 f.limit, .slice a.E f.dead.length a.cE]), .agg (List.toArray [.int .i64 0, .int .i64 0, .int .i64 0, .int .i64 0, .int .i64 0, .slice none 0 0, .slice U us.length uc, .slice none 0 0]), .int .i64 e] [Rd a.D (rowsV a.hs (B8 f.data)), KidsR a.hs (B8 f.data), Rd a.W (I64 f.wear), Rd a.E (Bs f.dead), Rd U (I64 us)] [] (fun v R' H' => ∃ A c, v = .agg (List.toArray [.slice A r.b.length c, .int .i64 r.at_, .int .i64 r.e]) ∧ R' = [Rd A (U8 r.b)] ∧ H' = []) := by
  subst hr
  exact llast_c f a ok hh us U uc hu e
def Fs : Fl := fl0 4 5 9
def Us : List Int := [0]
theorem fl0_ok (z : Nat) (h1 : 1 ≤ z) (h2 : z ≤ 4096) : (fl0 z 5 9).Ok := by
  refine ⟨h1, h2, by simp [fl0], by simp [fl0], by simp [fl0], by simp [fl0], fun i hi => ?_, by simp [fl0], by simp [fl0], fun i hi => ?_⟩
  · have hi5 : i < 5 := by simpa [fl0] using hi
    show ((List.replicate 5 (List.replicate z (255 : UInt8))).getD i []).length = z
    rw [getD_rep _ _ _ _ hi5]
    simp
  · have hi5 : i < 5 := by simpa [fl0] using hi
    show 0 ≤ (List.replicate 5 (0 : Int)).getD i 0 ∧ (List.replicate 5 (0 : Int)).getD i 0 ≤ 9
    rw [getD_rep _ _ _ _ hi5]
    decide
theorem Fs_ok : Fs.Ok := fl0_ok 4 (by decide) (by decide)
theorem Us_ok : UOk Fs Us := undoL_ok 0 rfl
theorem towK1 : towS Fs Us 1 [5] = Nx.mk ⟨2, 0, 1, [5]⟩ false 0 := by kernel_rfl
theorem towK4 : towS Fs Us 4 [5] = Nx.mk fo0 false 210 := by kernel_rfl
theorem lastK : lastS (area Fs Us) (Fs.size : Int) 4 = ⟨[], 0, 210⟩ := by kernel_rfl

set_option maxHeartbeats 1000000 in
theorem sanity21_c  :
    Ctr X 18 [] [] [] (fun v R' H' => v = .bool true ∧ R' = [] ∧ H' = []) := by
  refine Ctr.of (X := X) (fn := Try.f18) Try.func18 rfl (by kernel_rfl) rfl ?_
  intro β
  refine C.seq ?_
  refine C.region ?_
  refine L.step (Ev.pure rfl) rfl ?_
  refine L.nil ?_
  refine QE.seq ?_
  refine C.seq ?_
  refine C.region ?_
  refine L.lit rfl rfl rfl rfl rfl (by rfl) (by rfl) (by rfl) rfl rfl (fun A20 => ?_)
  refine L.lit rfl rfl rfl rfl rfl (by rfl) (by rfl) (by rfl) rfl rfl (fun A21 => ?_)
  refine L.step (Ev.pure rfl) rfl ?_
  refine L.step (Ev.pure rfl) rfl ?_
  refine L.nil ?_
  refine QE.seq ?_
  refine C.seq ?_
  refine C.region ?_
  refine L.lit rfl rfl rfl rfl rfl (by rfl) (by rfl) (by rfl) rfl rfl (fun A22 => ?_)
  refine L.step (Ev.pure rfl) rfl ?_
  refine L.nil ?_
  refine QE.seq ?_
  refine C.seq ?_
  refine C.freeze 0 rfl [1, 2] (by decide) (by decide) ?_
  refine C.norm (H' := [_, _]) [0, 1] ⟨rfl, rfl, trivial⟩ (by decide) ?_
  refine C.freeze 0 rfl [1] (by decide) (by decide) ?_
  refine C.norm (H' := [_]) [0] ⟨rfl, trivial⟩ (by decide) ?_
  refine C.freeze 0 rfl [] (by decide) (by decide) ?_
  refine C.region ?_
  refine L.step (Ev.pure rfl) rfl ?_
  refine L.step (Ev.pure rfl) rfl ?_
  refine L.call (js := []) (js' := []) (rec_k 7 A20 A21 [1, 2, 3, 4] [1, 9, 9, 4] 4 4 [7, 0, 1, 0, 1, 0, 2, 2, 3, 0, 11] 0 (by kernel_rfl) (by kernel_rfl) (by decide) (by decide) (by decide)) rfl rfl rfl (by decide) ⟨(Has.r 2 rfl), (Has.r 1 rfl), trivial⟩ rfl ?_
  rintro _ _ _ ⟨R26, r26, rfl, rfl, rfl⟩
  refine L.norm (H' := [_]) [0] ⟨rfl, trivial⟩ (by decide) ?_
  refine L.step (Ev.pure rfl) rfl ?_
  refine L.step (Ev.pure rfl) rfl ?_
  refine L.step (Ev.pure rfl) rfl ?_
  refine L.step (Ev.pure rfl) rfl ?_
  refine L.step (Ev.pure rfl) rfl ?_
  refine L.nil ?_
  refine QE.seq ?_
  refine C.seq ?_
  refine C.region ?_
  refine L.step (Ev.pure rfl) rfl ?_
  refine L.step (Ev.pure rfl) rfl ?_
  refine L.call (js := []) (js' := [0]) (rec_k 7 A20 A20 [1, 2, 3, 4] [1, 2, 3, 4] 4 4 [7, 0, 0, 0, 5] 0 (by kernel_rfl) (by kernel_rfl) (by decide) (by decide) (by decide)) rfl rfl rfl (by decide) ⟨(Has.r 2 rfl), (Has.r 2 rfl), trivial⟩ rfl ?_
  rintro _ _ _ ⟨R32, r32, rfl, rfl, rfl⟩
  refine L.norm (H' := [_, _]) [0, 1] ⟨rfl, rfl, trivial⟩ (by decide) ?_
  refine L.step (Ev.pure rfl) rfl ?_
  refine L.step (Ev.pure rfl) rfl ?_
  refine L.step (Ev.pure rfl) rfl ?_
  refine L.step (Ev.pure rfl) rfl ?_
  refine L.step (Ev.pure rfl) rfl ?_
  refine L.nil ?_
  refine QE.seq ?_
  refine C.seq ?_
  refine C.region ?_
  refine L.step (Ev.pure rfl) rfl ?_
  refine L.step (Ev.pure rfl) rfl ?_
  refine L.call (js := []) (js' := [0, 1]) (res_k A21 A22 [1, 9, 9, 4] [7, 0, 1, 0, 1, 0, 2, 2, 3, 0, 11] 4 11 [1, 2, 3, 4] 0 (by kernel_rfl) (by kernel_rfl) (by decide) (by decide) (by decide)) rfl rfl rfl (by decide) ⟨(Has.r 1 rfl), (Has.r 0 rfl), trivial⟩ rfl ?_
  rintro _ _ _ ⟨R38, r38, rfl, rfl, rfl⟩
  refine L.norm (H' := [_, _, _]) [0, 1, 2] ⟨rfl, rfl, rfl, trivial⟩ (by decide) ?_
  refine L.step (Ev.pure rfl) rfl ?_
  refine L.step (Ev.pure rfl) rfl ?_
  refine L.step (Ev.pure rfl) rfl ?_
  refine L.step (Ev.pure rfl) rfl ?_
  refine L.step (Ev.pure rfl) rfl ?_
  refine L.nil ?_
  refine QE.seq ?_
  refine C.seq ?_
  refine C.region ?_
  refine L.step (Ev.pure rfl) rfl ?_
  refine L.step (Ev.pure rfl) rfl ?_
  refine L.call (js := []) (js' := [0, 1, 2]) (rec_k 64 A20 A21 [1, 2, 3, 4] [1, 9, 9, 4] 4 4 [] 210 (by kernel_rfl) (by kernel_rfl) (by decide) (by decide) (by decide)) rfl rfl rfl (by decide) ⟨(Has.r 2 rfl), (Has.r 1 rfl), trivial⟩ rfl ?_
  rintro _ _ _ ⟨R44, r44, rfl, rfl, rfl⟩
  refine L.norm (H' := [_, _, _, _]) [0, 1, 2, 3] ⟨rfl, rfl, rfl, rfl, trivial⟩ (by decide) ?_
  refine L.step (Ev.pure rfl) rfl ?_
  refine L.step (Ev.pure rfl) rfl ?_
  refine L.step (Ev.pure rfl) rfl ?_
  refine L.step (Ev.pure rfl) rfl ?_
  refine L.step (Ev.pure rfl) rfl ?_
  refine L.nil ?_
  refine QE.seq ?_
  refine C.seq ?_
  refine C.region ?_
  refine L.step (Ev.pure rfl) rfl ?_
  refine L.step (Ev.pure rfl) rfl ?_
  refine L.step (Ev.sliceH (h := 10) rfl rfl rfl rfl rfl rfl (by decide)) rfl ?_
  refine L.call (js := []) (js' := [0, 1, 2, 3]) (res_k A21 A22 [1, 9, 9, 4] [7, 0, 1, 0, 1, 0, 2, 2, 3, 0] 4 11 [] 210 (by kernel_rfl) (by kernel_rfl) (by decide) (by decide) (by decide)) rfl rfl rfl (by decide) ⟨(Has.r 1 rfl), (Has.take (xs := U8 [7, 0, 1, 0, 1, 0, 2, 2, 3, 0, 11]) (Has.r 0 rfl) 10), trivial⟩ rfl ?_
  rintro _ _ _ ⟨R51, r51, rfl, rfl, rfl⟩
  refine L.norm (H' := [_, _, _, _, _]) [0, 1, 2, 3, 4] ⟨rfl, rfl, rfl, rfl, rfl, trivial⟩ (by decide) ?_
  refine L.step (Ev.pure rfl) rfl ?_
  refine L.step (Ev.pure rfl) rfl ?_
  refine L.step (Ev.pure rfl) rfl ?_
  refine L.step (Ev.pure rfl) rfl ?_
  refine L.step (Ev.pure rfl) rfl ?_
  refine L.nil ?_
  refine QE.seq ?_
  refine C.seq ?_
  refine C.region ?_
  refine L.step (Ev.build rfl rfl rfl rfl rfl rfl rfl) rfl ?_
  refine L.call (js := []) (js' := [0, 1, 2, 3, 4]) (made21_c 0 0 Fs Us (by kernel_rfl) (by kernel_rfl)) rfl rfl rfl (by decide) trivial rfl ?_
  rintro _ _ _ ⟨a, U, uc, hb, hcp, rfl, rfl, rfl⟩
  refine L.norm (H' := [_, _, _, _, _, _, _, _, _, _]) [0, 1, 2, 3, 4, 5, 6, 7, 8, 9] ⟨rfl, rfl, rfl, rfl, rfl, rfl, rfl, rfl, rfl, rfl, trivial⟩ (by decide) ?_
  refine L.step (Ev.pure rfl) rfl ?_
  refine L.step (Ev.pure rfl) rfl ?_
  refine L.step (Ev.pure rfl) rfl ?_
  refine L.alloc rfl rfl rfl (fun A14 => ?_)
  refine L.alloc rfl rfl rfl (fun A15 => ?_)
  refine L.storeA (j := 10) rfl rfl rfl rfl rfl (Nat.zero_lt_succ _) rfl rfl ?_
  refine L.storeA (j := 11) rfl rfl rfl rfl rfl (Nat.zero_lt_succ _) rfl rfl ?_
  refine L.nil ?_
  refine QE.seq ?_
  refine C.seq ?_
  refine C.freeze 0 rfl [1, 2, 3, 4, 5, 6, 7, 8, 9, 10, 11] (by decide) (by decide) ?_
  refine C.norm (H' := [_, _, _, _, _, _, _, _, _, _, _]) [0, 1, 2, 3, 4, 5, 6, 7, 8, 9, 10] ⟨rfl, rfl, rfl, rfl, rfl, rfl, rfl, rfl, rfl, rfl, rfl, trivial⟩ (by decide) ?_
  refine C.freezeKids 0 rfl [1, 2, 3, 4, 5, 6, 7, 8, 9, 10] (by decide) (by decide) ?_
  refine C.norm (H' := [_, _, _, _, _, _, _, _, _, _]) [0, 1, 2, 3, 4, 5, 6, 7, 8, 9] ⟨rfl, rfl, rfl, rfl, rfl, rfl, rfl, rfl, rfl, rfl, trivial⟩ (by decide) ?_
  refine C.freeze 0 rfl [1, 2, 3, 4, 5, 6, 7, 8, 9] (by decide) (by decide) ?_
  refine C.norm (H' := [_, _, _, _, _, _, _, _, _]) [0, 1, 2, 3, 4, 5, 6, 7, 8] ⟨rfl, rfl, rfl, rfl, rfl, rfl, rfl, rfl, rfl, trivial⟩ (by decide) ?_
  refine C.freeze 0 rfl [1, 2, 3, 4, 5, 6, 7, 8] (by decide) (by decide) ?_
  refine C.norm (H' := [_, _, _, _, _, _, _, _]) [0, 1, 2, 3, 4, 5, 6, 7] ⟨rfl, rfl, rfl, rfl, rfl, rfl, rfl, rfl, trivial⟩ (by decide) ?_
  refine C.freeze 0 rfl [1, 2, 3, 4, 5, 6, 7] (by decide) (by decide) ?_
  refine C.norm (H' := [_, _, _, _, _, _, _]) [0, 1, 2, 3, 4, 5, 6] ⟨rfl, rfl, rfl, rfl, rfl, rfl, rfl, trivial⟩ (by decide) ?_
  refine C.freeze 5 rfl [0, 1, 2, 3, 4, 6] (by decide) (by decide) ?_
  refine C.norm (H' := [_, _, _, _, _, _]) [0, 1, 2, 3, 4, 5] ⟨rfl, rfl, rfl, rfl, rfl, rfl, trivial⟩ (by decide) ?_
  refine C.freeze 5 rfl [0, 1, 2, 3, 4] (by decide) (by decide) ?_
  refine C.norm (H' := [_, _, _, _, _]) [0, 1, 2, 3, 4] ⟨rfl, rfl, rfl, rfl, rfl, trivial⟩ (by decide) ?_
  refine C.region ?_
  refine L.step (Ev.loadA rfl rfl rfl (Src.r 1 rfl) rfl rfl (by decide)) rfl ?_
  refine L.step (Ev.loadA rfl rfl rfl (Src.r 0 rfl) rfl rfl (by decide)) rfl ?_
  refine L.lit rfl rfl rfl rfl rfl (by rfl) (by rfl) (by rfl) rfl rfl (fun A61 => ?_)
  refine L.step (Ev.build rfl rfl rfl rfl rfl rfl rfl) rfl ?_
  refine L.freeze 5 rfl [0, 1, 2, 3, 4] (by decide) (by decide) ?_
  refine L.norm (H' := [_, _, _, _, _]) [0, 1, 2, 3, 4] ⟨rfl, rfl, rfl, rfl, rfl, trivial⟩ (by decide) ?_
  refine L.callR (js := []) (js' := [0, 1, 2, 3, 4]) (ltow_k Fs a Fs_ok hb Us U uc Us_ok 1 [5] A61 1 (by decide) (by decide) hcp (Nx.mk ⟨2, 0, 1, [5]⟩ false 0) towK1) rfl rfl rfl (by decide) ⟨(Has.r 7 rfl), (Has.r 6 rfl), (Has.r 5 rfl), (Has.r 4 rfl), (Has.r 3 rfl), (Has.r 0 rfl), trivial⟩ rfl ?_
  rintro _ _ _ ⟨T63, t63, rfl, rfl, rfl⟩
  refine L.norm (H' := [_, _, _, _, _]) [0, 1, 2, 3, 4] ⟨rfl, rfl, rfl, rfl, rfl, trivial⟩ (by decide) ?_
  refine L.alloc rfl rfl rfl (fun A16 => ?_)
  refine L.storeA (j := 5) rfl rfl rfl rfl rfl (Nat.zero_lt_succ _) rfl rfl ?_
  refine L.nil ?_
  refine QE.seq ?_
  refine C.seq ?_
  refine C.region ?_
  refine L.step (Ev.loadA rfl rfl rfl (Src.r 3 rfl) rfl rfl (by decide)) rfl ?_
  refine L.step (Ev.loadA rfl rfl rfl (Src.r 2 rfl) rfl rfl (by decide)) rfl ?_
  refine L.lit rfl rfl rfl rfl rfl (by rfl) (by rfl) (by rfl) rfl rfl (fun A66 => ?_)
  refine L.step (Ev.build rfl rfl rfl rfl rfl rfl rfl) rfl ?_
  refine L.freeze 6 rfl [0, 1, 2, 3, 4, 5] (by decide) (by decide) ?_
  refine L.norm (H' := [_, _, _, _, _, _]) [0, 1, 2, 3, 4, 5] ⟨rfl, rfl, rfl, rfl, rfl, rfl, trivial⟩ (by decide) ?_
  refine L.callR (js := []) (js' := [0, 1, 2, 3, 4, 5]) (ltow_k Fs a Fs_ok hb Us U uc Us_ok 4 [5] A66 1 (by decide) (by decide) hcp (Nx.mk fo0 false 210) towK4) rfl rfl rfl (by decide) ⟨(Has.r 9 rfl), (Has.r 8 rfl), (Has.r 7 rfl), (Has.r 6 rfl), (Has.r 5 rfl), (Has.r 0 rfl), trivial⟩ rfl ?_
  rintro _ _ _ ⟨T68, t68, rfl, rfl, rfl⟩
  refine L.norm (H' := [_, _, _, _, _, _]) [0, 1, 2, 3, 4, 5] ⟨rfl, rfl, rfl, rfl, rfl, rfl, trivial⟩ (by decide) ?_
  refine L.alloc rfl rfl rfl (fun A17 => ?_)
  refine L.storeA (j := 6) rfl rfl rfl rfl rfl (Nat.zero_lt_succ _) rfl rfl ?_
  refine L.nil ?_
  refine QE.seq ?_
  refine C.seq ?_
  refine C.region ?_
  refine L.step (Ev.loadA rfl rfl rfl (Src.r 5 rfl) rfl rfl (by decide)) rfl ?_
  refine L.step (Ev.loadA rfl rfl rfl (Src.r 4 rfl) rfl rfl (by decide)) rfl ?_
  refine L.callR (js := []) (js' := [0, 1, 2, 3, 4, 5, 6]) (llast_k Fs a Fs_ok hb Us U uc Us_ok 4 ⟨[], 0, 210⟩ lastK) rfl rfl rfl (by decide) ⟨(Has.r 10 rfl), (Has.r 9 rfl), (Has.r 8 rfl), (Has.r 7 rfl), (Has.r 6 rfl), trivial⟩ rfl ?_
  rintro _ _ _ ⟨T71, t71, rfl, rfl, rfl⟩
  refine L.norm (H' := [_, _, _, _, _, _, _]) [0, 1, 2, 3, 4, 5, 6] ⟨rfl, rfl, rfl, rfl, rfl, rfl, rfl, trivial⟩ (by decide) ?_
  refine L.alloc rfl rfl rfl (fun A18 => ?_)
  refine L.storeA (j := 7) rfl rfl rfl rfl rfl (Nat.zero_lt_succ _) rfl rfl ?_
  refine L.nil ?_
  refine QE.seq ?_
  refine C.seq ?_
  refine C.region ?_
  refine L.step (Ev.pure rfl) rfl ?_
  refine L.step (Ev.pure rfl) rfl ?_
  refine L.step (Ev.pure rfl) rfl ?_
  refine L.bool 74 rfl (fun hg74 => ?_) (fun hg74 => ?_)
  · skip
    replace hg74 := i_eq hg74
    refine L.yes rfl ?_
    refine L.step (Ev.pure rfl) rfl ?_
    refine L.yes rfl ?_
    refine L.step (Ev.pure rfl) rfl ?_
    refine L.yes rfl ?_
    refine L.call (js := []) (js' := [0, 1, 2, 3, 4, 5, 6, 7]) (Ctr.tb true (same_c R26 A22 r26 11 [7, 0, 1, 0, 1, 0, 2, 2, 3, 0, 11] [7, 0, 1, 0, 1, 0, 2, 2, 3, 0, 11] (by decide) (by decide)) (by kernel_rfl)) rfl rfl rfl (by decide) ⟨(Has.o 4 rfl), (Has.r 12 rfl), trivial⟩ rfl ?_
    rintro _ _ _ ⟨rfl, rfl, rfl⟩
    refine L.norm (H' := [_, _, _, _, _, _, _, _]) [0, 1, 2, 3, 4, 5, 6, 7] ⟨rfl, rfl, rfl, rfl, rfl, rfl, rfl, rfl, trivial⟩ (by decide) ?_
    refine L.step (Ev.pure rfl) rfl ?_
    refine L.step (Ev.pure rfl) rfl ?_
    refine L.yes rfl ?_
    refine L.step (Ev.pure rfl) rfl ?_
    refine L.yes rfl ?_
    refine L.step (Ev.pure rfl) rfl ?_
    refine L.step (Ev.pure rfl) rfl ?_
    refine L.step (Ev.pure rfl) rfl ?_
    refine L.bool 83 rfl (fun hg83 => ?_) (fun hg83 => ?_)
    · skip
      replace hg83 := i_eq hg83
      refine L.yes rfl ?_
      refine L.step (Ev.pure rfl) rfl ?_
      refine L.yes rfl ?_
      refine L.lit rfl rfl rfl rfl rfl (by rfl) (by rfl) (by rfl) rfl rfl (fun A85 => ?_)
      refine L.yes rfl ?_
      refine L.call (js := []) (js' := [0, 1, 2, 3, 4, 5, 6, 7, 8]) (Ctr.tb true (same_c R32 A85 r32 5 [7, 0, 0, 0, 5] [7, 0, 0, 0, 5] (by decide) (by decide)) (by kernel_rfl)) rfl rfl rfl (by decide) ⟨(Has.o 3 rfl), (Has.o 8 rfl), trivial⟩ rfl ?_
      rintro _ _ _ ⟨rfl, rfl, rfl⟩
      refine L.norm (H' := [_, _, _, _, _, _, _, _, _]) [0, 1, 2, 3, 4, 5, 6, 7, 8] ⟨rfl, rfl, rfl, rfl, rfl, rfl, rfl, rfl, rfl, trivial⟩ (by decide) ?_
      refine L.step (Ev.pure rfl) rfl ?_
      refine L.step (Ev.pure rfl) rfl ?_
      refine L.yes rfl ?_
      refine L.step (Ev.pure rfl) rfl ?_
      refine L.yes rfl ?_
      refine L.step (Ev.pure rfl) rfl ?_
      refine L.step (Ev.pure rfl) rfl ?_
      refine L.step (Ev.pure rfl) rfl ?_
      refine L.bool 92 rfl (fun hg92 => ?_) (fun hg92 => ?_)
      · skip
        replace hg92 := i_eq hg92
        refine L.yes rfl ?_
        refine L.step (Ev.pure rfl) rfl ?_
        refine L.yes rfl ?_
        refine L.step (Ev.pure rfl) rfl ?_
        refine L.yes rfl ?_
        refine L.call (js := []) (js' := [0, 1, 2, 3, 4, 5, 6, 7, 8]) (Ctr.tb true (same_c R38 A20 r38 4 [1, 2, 3, 4] [1, 2, 3, 4] (by decide) (by decide)) (by kernel_rfl)) rfl rfl rfl (by decide) ⟨(Has.o 2 rfl), (Has.r 14 rfl), trivial⟩ rfl ?_
        rintro _ _ _ ⟨rfl, rfl, rfl⟩
        refine L.norm (H' := [_, _, _, _, _, _, _, _, _]) [0, 1, 2, 3, 4, 5, 6, 7, 8] ⟨rfl, rfl, rfl, rfl, rfl, rfl, rfl, rfl, rfl, trivial⟩ (by decide) ?_
        refine L.step (Ev.pure rfl) rfl ?_
        refine L.step (Ev.pure rfl) rfl ?_
        refine L.yes rfl ?_
        refine L.step (Ev.pure rfl) rfl ?_
        refine L.yes rfl ?_
        refine L.step (Ev.pure rfl) rfl ?_
        refine L.step (Ev.pure rfl) rfl ?_
        refine L.step (Ev.pure rfl) rfl ?_
        refine L.bool 101 rfl (fun hg101 => ?_) (fun hg101 => ?_)
        · skip
          replace hg101 := i_eq hg101
          refine L.yes rfl ?_
          refine L.step (Ev.pure rfl) rfl ?_
          refine L.yes rfl ?_
          refine L.step (Ev.pure rfl) rfl ?_
          refine L.step (Ev.pure rfl) rfl ?_
          refine L.step (Ev.pure rfl) rfl ?_
          refine L.bool 105 rfl (fun hg105 => ?_) (fun hg105 => ?_)
          · skip
            replace hg105 := i_eq hg105
            refine L.yes rfl ?_
            refine L.step (Ev.pure rfl) rfl ?_
            refine L.yes rfl ?_
            refine L.call (js := []) (js' := [0, 1, 2, 3, 4, 5, 6, 7, 8]) (sector_c A22 [7, 0, 1, 0, 1, 0, 2, 2, 3, 0, 11] 11 (by decide)) rfl rfl rfl (by decide) ⟨(Has.r 12 rfl), trivial⟩ rfl ?_
            rintro _ _ _ ⟨rfl, rfl, rfl⟩
            refine L.norm (H' := [_, _, _, _, _, _, _, _, _]) [0, 1, 2, 3, 4, 5, 6, 7, 8] ⟨rfl, rfl, rfl, rfl, rfl, rfl, rfl, rfl, rfl, trivial⟩ (by decide) ?_
            refine L.yes rfl ?_
            refine L.step (Ev.pure rfl) rfl ?_
            refine L.step (Ev.pure rfl) rfl ?_
            refine L.step (Ev.pure rfl) rfl ?_
            refine L.nil ?_
            refine QE.seq ?_
            refine C.seq ?_
            refine C.freeze 5 rfl [0, 1, 2, 3, 4, 6, 7, 8] (by decide) (by decide) ?_
            refine C.norm (H' := [_, _, _, _, _, _, _, _]) [0, 1, 2, 3, 4, 5, 6, 7] ⟨rfl, rfl, rfl, rfl, rfl, rfl, rfl, rfl, trivial⟩ (by decide) ?_
            refine C.freeze 5 rfl [0, 1, 2, 3, 4, 6, 7] (by decide) (by decide) ?_
            refine C.norm (H' := [_, _, _, _, _, _, _]) [0, 1, 2, 3, 4, 5, 6] ⟨rfl, rfl, rfl, rfl, rfl, rfl, rfl, trivial⟩ (by decide) ?_
            refine C.freeze 5 rfl [0, 1, 2, 3, 4, 6] (by decide) (by decide) ?_
            refine C.norm (H' := [_, _, _, _, _, _]) [0, 1, 2, 3, 4, 5] ⟨rfl, rfl, rfl, rfl, rfl, rfl, trivial⟩ (by decide) ?_
            refine C.regionM [Rd A18 [.slice T71 0 t71, .int .i64 0, .int .i64 210], Rd A17 [.int .i64 0, .int .i64 0, .int .i64 0, .slice T68 0 t68, .bool false, .int .i64 210], Rd A16 [.int .i64 2, .int .i64 0, .int .i64 1, .slice T63 1 t63, .bool false, .int .i64 0], Rd T71 (U8 []), Rd T68 (U8 (Nx.mk fo0 false 210).x.data), Rd A66 (U8 [5]), Rd T63 (U8 (Nx.mk ⟨2, 0, 1, [5]⟩ false 0).x.data), Rd A61 (U8 [5]), Rd A15 [.int .i64 0, .int .i64 0, .int .i64 0, .int .i64 0, .int .i64 0, .slice none 0 0, .slice U Us.length uc, .slice none 0 0], Rd A14 [.int .i64 (Fs.size : Int), .slice a.D Fs.data.length a.cD, .slice a.W Fs.wear.length a.cW, .int .i64 Fs.limit, .slice a.E Fs.dead.length a.cE], Rd U (I64 Us), Rd a.E (Bs Fs.dead), Rd a.W (I64 Fs.wear), KidsR a.hs (B8 Fs.data), Rd a.D (rowsV a.hs (B8 Fs.data)), Rd A22 (U8 [7, 0, 1, 0, 1, 0, 2, 2, 3, 0, 11]), Rd A21 (U8 [1, 9, 9, 4]), Rd A20 (U8 [1, 2, 3, 4])] ⟨Has.r 0 rfl, Has.r 1 rfl, Has.r 2 rfl, Has.r 3 rfl, Has.r 4 rfl, Has.r 5 rfl, Has.r 6 rfl, Has.r 7 rfl, Has.r 8 rfl, Has.r 9 rfl, Has.r 10 rfl, Has.r 11 rfl, Has.r 12 rfl, Has.r 13 rfl, Has.r 14 rfl, Has.r 15 rfl, Has.r 16 rfl, Has.r 17 rfl, trivial⟩ ?_
            refine LM.q 0 rfl (by kernel_rfl) (Ev.pure rfl) rfl ⟨Has.r 0 rfl, Has.r 1 rfl, Has.r 2 rfl, Has.r 3 rfl, Has.r 4 rfl, Has.r 5 rfl, Has.r 6 rfl, Has.r 7 rfl, Has.r 8 rfl, Has.r 9 rfl, Has.r 10 rfl, Has.r 11 rfl, Has.r 12 rfl, Has.r 13 rfl, Has.r 14 rfl, Has.r 15 rfl, Has.r 16 rfl, Has.r 17 rfl, trivial⟩ ?_
            refine LM.q 1 rfl (by kernel_rfl) (Ev.pure rfl) rfl ⟨Has.r 0 rfl, Has.r 1 rfl, Has.r 2 rfl, Has.r 3 rfl, Has.r 4 rfl, Has.r 5 rfl, Has.r 6 rfl, Has.r 7 rfl, Has.r 8 rfl, Has.r 9 rfl, Has.r 10 rfl, Has.r 11 rfl, Has.r 12 rfl, Has.r 13 rfl, Has.r 14 rfl, Has.r 15 rfl, Has.r 16 rfl, Has.r 17 rfl, trivial⟩ ?_
            refine LM.bool 111 rfl (fun hg111 => ?_) (fun hg111 => ?_)
            · skip
              replace hg111 := i_eq hg111
              refine LM.qy 2 rfl (by kernel_rfl) rfl (Ev.fieldAddr rfl rfl rfl rfl rfl rfl (Src.r 2 rfl) (Nat.zero_lt_succ _) rfl) rfl ⟨Has.r 0 rfl, Has.r 1 rfl, Has.r 2 rfl, Has.r 3 rfl, Has.r 4 rfl, Has.r 5 rfl, Has.r 6 rfl, Has.r 7 rfl, Has.r 8 rfl, Has.r 9 rfl, Has.r 10 rfl, Has.r 11 rfl, Has.r 12 rfl, Has.r 13 rfl, Has.r 14 rfl, Has.r 15 rfl, Has.r 16 rfl, Has.r 17 rfl, trivial⟩ ?_
              refine LM.qy 3 rfl (by kernel_rfl) rfl (Ev.load rfl rfl rfl (Src.r 2 rfl) rfl) rfl ⟨Has.r 0 rfl, Has.r 1 rfl, Has.r 2 rfl, Has.r 3 rfl, Has.r 4 rfl, Has.r 5 rfl, Has.r 6 rfl, Has.r 7 rfl, Has.r 8 rfl, Has.r 9 rfl, Has.r 10 rfl, Has.r 11 rfl, Has.r 12 rfl, Has.r 13 rfl, Has.r 14 rfl, Has.r 15 rfl, Has.r 16 rfl, Has.r 17 rfl, trivial⟩ ?_
              refine LM.qy 4 rfl (by kernel_rfl) rfl (Ev.pure rfl) rfl ⟨Has.r 0 rfl, Has.r 1 rfl, Has.r 2 rfl, Has.r 3 rfl, Has.r 4 rfl, Has.r 5 rfl, Has.r 6 rfl, Has.r 7 rfl, Has.r 8 rfl, Has.r 9 rfl, Has.r 10 rfl, Has.r 11 rfl, Has.r 12 rfl, Has.r 13 rfl, Has.r 14 rfl, Has.r 15 rfl, Has.r 16 rfl, Has.r 17 rfl, trivial⟩ ?_
              refine LM.q 5 rfl (by kernel_rfl) (Ev.pure rfl) rfl ⟨Has.r 0 rfl, Has.r 1 rfl, Has.r 2 rfl, Has.r 3 rfl, Has.r 4 rfl, Has.r 5 rfl, Has.r 6 rfl, Has.r 7 rfl, Has.r 8 rfl, Has.r 9 rfl, Has.r 10 rfl, Has.r 11 rfl, Has.r 12 rfl, Has.r 13 rfl, Has.r 14 rfl, Has.r 15 rfl, Has.r 16 rfl, Has.r 17 rfl, trivial⟩ ?_
              refine LM.q 6 rfl (by kernel_rfl) (Ev.pure rfl) rfl ⟨Has.r 0 rfl, Has.r 1 rfl, Has.r 2 rfl, Has.r 3 rfl, Has.r 4 rfl, Has.r 5 rfl, Has.r 6 rfl, Has.r 7 rfl, Has.r 8 rfl, Has.r 9 rfl, Has.r 10 rfl, Has.r 11 rfl, Has.r 12 rfl, Has.r 13 rfl, Has.r 14 rfl, Has.r 15 rfl, Has.r 16 rfl, Has.r 17 rfl, trivial⟩ ?_
              refine LM.bool 116 rfl (fun hg116 => ?_) (fun hg116 => ?_)
              · skip
                replace hg116 := i_eq hg116
                refine LM.qy 7 rfl (by kernel_rfl) rfl (Ev.fieldAddr rfl rfl rfl rfl rfl rfl (Src.r 2 rfl) (Nat.zero_lt_succ _) rfl) rfl ⟨Has.r 0 rfl, Has.r 1 rfl, Has.r 2 rfl, Has.r 3 rfl, Has.r 4 rfl, Has.r 5 rfl, Has.r 6 rfl, Has.r 7 rfl, Has.r 8 rfl, Has.r 9 rfl, Has.r 10 rfl, Has.r 11 rfl, Has.r 12 rfl, Has.r 13 rfl, Has.r 14 rfl, Has.r 15 rfl, Has.r 16 rfl, Has.r 17 rfl, trivial⟩ ?_
                refine LM.qy 8 rfl (by kernel_rfl) rfl (Ev.load rfl rfl rfl (Src.r 2 rfl) rfl) rfl ⟨Has.r 0 rfl, Has.r 1 rfl, Has.r 2 rfl, Has.r 3 rfl, Has.r 4 rfl, Has.r 5 rfl, Has.r 6 rfl, Has.r 7 rfl, Has.r 8 rfl, Has.r 9 rfl, Has.r 10 rfl, Has.r 11 rfl, Has.r 12 rfl, Has.r 13 rfl, Has.r 14 rfl, Has.r 15 rfl, Has.r 16 rfl, Has.r 17 rfl, trivial⟩ ?_
                refine LM.qy 9 rfl (by kernel_rfl) rfl (Ev.pure rfl) rfl ⟨Has.r 0 rfl, Has.r 1 rfl, Has.r 2 rfl, Has.r 3 rfl, Has.r 4 rfl, Has.r 5 rfl, Has.r 6 rfl, Has.r 7 rfl, Has.r 8 rfl, Has.r 9 rfl, Has.r 10 rfl, Has.r 11 rfl, Has.r 12 rfl, Has.r 13 rfl, Has.r 14 rfl, Has.r 15 rfl, Has.r 16 rfl, Has.r 17 rfl, trivial⟩ ?_
                refine LM.q 10 rfl (by kernel_rfl) (Ev.pure rfl) rfl ⟨Has.r 0 rfl, Has.r 1 rfl, Has.r 2 rfl, Has.r 3 rfl, Has.r 4 rfl, Has.r 5 rfl, Has.r 6 rfl, Has.r 7 rfl, Has.r 8 rfl, Has.r 9 rfl, Has.r 10 rfl, Has.r 11 rfl, Has.r 12 rfl, Has.r 13 rfl, Has.r 14 rfl, Has.r 15 rfl, Has.r 16 rfl, Has.r 17 rfl, trivial⟩ ?_
                refine LM.q 11 rfl (by kernel_rfl) (Ev.pure rfl) rfl ⟨Has.r 0 rfl, Has.r 1 rfl, Has.r 2 rfl, Has.r 3 rfl, Has.r 4 rfl, Has.r 5 rfl, Has.r 6 rfl, Has.r 7 rfl, Has.r 8 rfl, Has.r 9 rfl, Has.r 10 rfl, Has.r 11 rfl, Has.r 12 rfl, Has.r 13 rfl, Has.r 14 rfl, Has.r 15 rfl, Has.r 16 rfl, Has.r 17 rfl, trivial⟩ ?_
                refine LM.bool 121 rfl (fun hg121 => ?_) (fun hg121 => ?_)
                · skip
                  refine LM.qy 12 rfl (by kernel_rfl) rfl (Ev.fieldAddr rfl rfl rfl rfl rfl rfl (Src.r 2 rfl) (Nat.zero_lt_succ _) rfl) rfl ⟨Has.r 0 rfl, Has.r 1 rfl, Has.r 2 rfl, Has.r 3 rfl, Has.r 4 rfl, Has.r 5 rfl, Has.r 6 rfl, Has.r 7 rfl, Has.r 8 rfl, Has.r 9 rfl, Has.r 10 rfl, Has.r 11 rfl, Has.r 12 rfl, Has.r 13 rfl, Has.r 14 rfl, Has.r 15 rfl, Has.r 16 rfl, Has.r 17 rfl, trivial⟩ ?_
                  refine LM.qy 13 rfl (by kernel_rfl) rfl (Ev.loadA rfl rfl rfl (Src.r 2 rfl) rfl rfl (by decide)) rfl ⟨Has.r 0 rfl, Has.r 1 rfl, Has.r 2 rfl, Has.r 3 rfl, Has.r 4 rfl, Has.r 5 rfl, Has.r 6 rfl, Has.r 7 rfl, Has.r 8 rfl, Has.r 9 rfl, Has.r 10 rfl, Has.r 11 rfl, Has.r 12 rfl, Has.r 13 rfl, Has.r 14 rfl, Has.r 15 rfl, Has.r 16 rfl, Has.r 17 rfl, trivial⟩ ?_
                  refine LM.qy 14 rfl (by kernel_rfl) rfl (Ev.fieldAddr rfl rfl rfl rfl rfl rfl (Src.r 8 rfl) (Nat.zero_lt_succ _) rfl) rfl ⟨Has.r 0 rfl, Has.r 1 rfl, Has.r 2 rfl, Has.r 3 rfl, Has.r 4 rfl, Has.r 5 rfl, Has.r 6 rfl, Has.r 7 rfl, Has.r 8 rfl, Has.r 9 rfl, Has.r 10 rfl, Has.r 11 rfl, Has.r 12 rfl, Has.r 13 rfl, Has.r 14 rfl, Has.r 15 rfl, Has.r 16 rfl, Has.r 17 rfl, trivial⟩ ?_
                  refine LM.qy 15 rfl (by kernel_rfl) rfl (Ev.load rfl rfl rfl (Src.r 8 rfl) rfl) rfl ⟨Has.r 0 rfl, Has.r 1 rfl, Has.r 2 rfl, Has.r 3 rfl, Has.r 4 rfl, Has.r 5 rfl, Has.r 6 rfl, Has.r 7 rfl, Has.r 8 rfl, Has.r 9 rfl, Has.r 10 rfl, Has.r 11 rfl, Has.r 12 rfl, Has.r 13 rfl, Has.r 14 rfl, Has.r 15 rfl, Has.r 16 rfl, Has.r 17 rfl, trivial⟩ ?_
                  refine LM.qy 16 rfl (by kernel_rfl) rfl (Ev.idx1 (k := 0) rfl rfl rfl rfl rfl rfl rfl (by decide) (Src.r 10 rfl) (by decide)) rfl ⟨Has.r 0 rfl, Has.r 1 rfl, Has.r 2 rfl, Has.r 3 rfl, Has.r 4 rfl, Has.r 5 rfl, Has.r 6 rfl, Has.r 7 rfl, Has.r 8 rfl, Has.r 9 rfl, Has.r 10 rfl, Has.r 11 rfl, Has.r 12 rfl, Has.r 13 rfl, Has.r 14 rfl, Has.r 15 rfl, Has.r 16 rfl, Has.r 17 rfl, trivial⟩ ?_
                  refine LM.qy 17 rfl (by kernel_rfl) rfl (Ev.load rfl rfl rfl (Src.r 10 rfl) (I64_get (by decide))) rfl ⟨Has.r 0 rfl, Has.r 1 rfl, Has.r 2 rfl, Has.r 3 rfl, Has.r 4 rfl, Has.r 5 rfl, Has.r 6 rfl, Has.r 7 rfl, Has.r 8 rfl, Has.r 9 rfl, Has.r 10 rfl, Has.r 11 rfl, Has.r 12 rfl, Has.r 13 rfl, Has.r 14 rfl, Has.r 15 rfl, Has.r 16 rfl, Has.r 17 rfl, trivial⟩ ?_
                  refine LM.f 18 rfl (by kernel_rfl) ⟨Has.r 0 rfl, Has.r 1 rfl, Has.r 2 rfl, Has.r 3 rfl, Has.r 4 rfl, Has.r 5 rfl, Has.r 6 rfl, Has.r 7 rfl, Has.r 8 rfl, Has.r 9 rfl, Has.r 10 rfl, Has.r 11 rfl, Has.r 12 rfl, Has.r 13 rfl, Has.r 14 rfl, Has.r 15 rfl, Has.r 16 rfl, Has.r 17 rfl, trivial⟩ ?_
                  refine L.yes rfl ?_
                  refine L.lit rfl rfl rfl rfl rfl (by rfl) (by rfl) (by rfl) rfl rfl (fun A128 => ?_)
                  refine L.nil (QE.m (by kernel_rfl) ?_)
                  refine LM.f 19 rfl (by kernel_rfl) ⟨Has.r 0 rfl, Has.r 1 rfl, Has.r 2 rfl, Has.r 3 rfl, Has.r 4 rfl, Has.r 5 rfl, Has.r 6 rfl, Has.r 7 rfl, Has.r 8 rfl, Has.r 9 rfl, Has.r 10 rfl, Has.r 11 rfl, Has.r 12 rfl, Has.r 13 rfl, Has.r 14 rfl, Has.r 15 rfl, Has.r 16 rfl, Has.r 17 rfl, trivial⟩ ?_
                  refine L.yes rfl ?_
                  refine L.step (Ev.build rfl rfl rfl rfl rfl rfl rfl) rfl ?_
                  refine L.nil (QE.m (by kernel_rfl) ?_)
                  refine LM.cut [] (by kernel_rfl) ⟨Has.r 0 rfl, Has.r 1 rfl, Has.r 2 rfl, Has.r 3 rfl, Has.r 4 rfl, Has.r 5 rfl, Has.r 6 rfl, Has.r 7 rfl, Has.r 8 rfl, Has.r 9 rfl, Has.r 10 rfl, Has.r 11 rfl, Has.r 12 rfl, Has.r 13 rfl, Has.r 14 rfl, Has.r 15 rfl, Has.r 16 rfl, Has.r 17 rfl, trivial⟩ ?_
                  refine LM.f 20 rfl (by kernel_rfl) trivial ?_
                  refine L.yes rfl ?_
                  refine L.freeze 6 rfl [0, 1, 2, 3, 4, 5] (by decide) (by decide) ?_
                  refine L.norm (H' := [_, _, _, _, _, _]) [0, 1, 2, 3, 4, 5] ⟨rfl, rfl, rfl, rfl, rfl, rfl, trivial⟩ (by decide) ?_
                  refine L.call (js := []) (js' := [0, 1, 2, 3, 4, 5]) (Ctr.tb true (sameO_c (Fo.mk 2 0 1 [5]) (Fo.mk 2 0 1 [5]) T63 A128 t63 1 (by decide) (by decide)) (by kernel_rfl)) rfl rfl rfl (by decide) ⟨(Has.r 7 rfl), (Has.r 0 rfl), trivial⟩ rfl ?_
                  rintro _ _ _ ⟨rfl, rfl, rfl⟩
                  refine L.norm (H' := [_, _, _, _, _, _]) [0, 1, 2, 3, 4, 5] ⟨rfl, rfl, rfl, rfl, rfl, rfl, trivial⟩ (by decide) ?_
                  refine L.nil (QE.m (by kernel_rfl) ?_)
                  refine LM.f 21 rfl (by kernel_rfl) trivial ?_
                  refine L.step (Ev.pure rfl) rfl ?_
                  refine L.nil (QE.m (by kernel_rfl) ?_)
                  refine LM.f 22 rfl (by kernel_rfl) trivial ?_
                  refine L.step (Ev.pure rfl) rfl ?_
                  refine L.nil (QE.m (by kernel_rfl) ?_)
                  refine LM.f 23 rfl (by kernel_rfl) trivial ?_
                  refine L.yes rfl ?_
                  refine L.step (Ev.fieldAddr rfl rfl rfl rfl rfl rfl (Src.r 2 rfl) (Nat.zero_lt_succ _) rfl) rfl ?_
                  refine L.nil (QE.m (by kernel_rfl) ?_)
                  refine LM.f 24 rfl (by kernel_rfl) trivial ?_
                  refine L.yes rfl ?_
                  refine L.step (Ev.load rfl rfl rfl (Src.r 2 rfl) rfl) rfl ?_
                  refine L.nil (QE.m (by kernel_rfl) ?_)
                  refine LM.f 25 rfl (by kernel_rfl) trivial ?_
                  refine L.yes rfl ?_
                  refine L.step (Ev.pure rfl) rfl ?_
                  refine L.nil (QE.m (by kernel_rfl) ?_)
                  refine LM.f 26 rfl (by kernel_rfl) trivial ?_
                  refine L.step (Ev.pure rfl) rfl ?_
                  refine L.nil (QE.m (by kernel_rfl) ?_)
                  refine LM.f 27 rfl (by kernel_rfl) trivial ?_
                  refine L.step (Ev.pure rfl) rfl ?_
                  refine L.nil (QE.m (by kernel_rfl) ?_)
                  refine LM.bool 137 rfl (fun hg137 => ?_) (fun hg137 => ?_)
                  · skip
                    replace hg137 := i_eq hg137
                    refine LM.f 28 rfl (by kernel_rfl) trivial ?_
                    refine L.yes rfl ?_
                    refine L.step (Ev.fieldAddr rfl rfl rfl rfl rfl rfl (Src.r 1 rfl) (Nat.zero_lt_succ _) rfl) rfl ?_
                    refine L.nil (QE.m (by kernel_rfl) ?_)
                    refine LM.f 29 rfl (by kernel_rfl) trivial ?_
                    refine L.yes rfl ?_
                    refine L.step (Ev.load rfl rfl rfl (Src.r 1 rfl) rfl) rfl ?_
                    refine L.nil (QE.m (by kernel_rfl) ?_)
                    refine LM.f 30 rfl (by kernel_rfl) trivial ?_
                    refine L.yes rfl ?_
                    refine L.step (Ev.pure rfl) rfl ?_
                    refine L.nil (QE.m (by kernel_rfl) ?_)
                    refine LM.f 31 rfl (by kernel_rfl) trivial ?_
                    refine L.step (Ev.pure rfl) rfl ?_
                    refine L.nil (QE.m (by kernel_rfl) ?_)
                    refine LM.f 32 rfl (by kernel_rfl) trivial ?_
                    refine L.step (Ev.pure rfl) rfl ?_
                    refine L.nil (QE.m (by kernel_rfl) ?_)
                    refine LM.nil (by kernel_rfl) trivial ?_
                    refine QE.seq ?_
                    refine C.ret ?_
                    refine QE.ret (js := []) (hs := []) (vs := [_]) rfl ⟨rfl, trivial⟩ (by decide) ?_
                    exact ⟨rfl, rfl, rfl⟩
                  · skip
                    replace hg137 := i_ne hg137
                    exact (hg137 rfl).elim
                · skip
                  cases hg121
              · skip
                replace hg116 := i_ne hg116
                exact (hg116 rfl).elim
            · skip
              replace hg111 := i_ne hg111
              exact (hg111 rfl).elim
          · skip
            replace hg105 := i_ne hg105
            exact (hg105 rfl).elim
        · skip
          replace hg101 := i_ne hg101
          exact (hg101 rfl).elim
      · skip
        replace hg92 := i_ne hg92
        exact (hg92 rfl).elim
    · skip
      replace hg83 := i_ne hg83
      exact (hg83 rfl).elim
  · skip
    replace hg74 := i_ne hg74
    exact (hg74 rfl).elim

end Go.Proofs.Ythfjkdgopkmgoaa
