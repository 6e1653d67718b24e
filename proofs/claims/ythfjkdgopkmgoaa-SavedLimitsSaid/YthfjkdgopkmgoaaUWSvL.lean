/-
  The contract of SavedLimits.
-/
import Derived.Test.YthfjkdgopkmgoaaUWSvK
import Derived.Test.YthfjkdgopkmgoaaUQb
namespace Go.Proofs.Ythfjkdgopkmgoaa
open Go.Sl

theorem U8_rep' (m : Nat) : List.replicate m (Value.int .u8 0) = U8 (List.replicate m 0) := by simp [U8]
theorem made_blank (sz un : UInt8) {f : Fl} {us : List Int} (hf : f = fl0 (4 + sz.toNat % 12) 5 9) (hus : us = undoL un) : Blank f us := by
  subst hf hus
  have ok := fl0_ok (4 + sz.toNat % 12) (by omega) (by omega)
  have hu : UOk (fl0 (4 + sz.toNat % 12) 5 9) (undoL un) := undoL_ok un (by simp [fl0])
  refine ⟨ok, hu, by rw [undoL_len]; omega, Nat.le_add_right _ _, fun s k hs hk => ?_, fun i => ?_⟩
  · have h5 : ((undoL un).getD s 0).toNat < 5 := by
      have := hu.r s hs
      have e : (fl0 (4 + sz.toNat % 12) 5 9).data.length = 5 := by simp [fl0]
      rw [e] at this
      omega
    show ((List.replicate 5 (List.replicate (4 + sz.toNat % 12) (255 : UInt8))).getD ((undoL un).getD s 0).toNat []).getD k 0 = 255
    rw [getD_rep _ _ _ _ h5, getD_rep _ k _ _ (show k < 4 + sz.toNat % 12 from hk)]
  · show (List.replicate 5 false).getD i false = false
    simp only [List.getD_eq_getElem?_getD, List.getElem?_replicate]
    split <;> rfl

set_option maxHeartbeats 1000000 in
theorem sLimits_c (sz un w : UInt8) :
    Ctr X 9 [.agg (List.toArray [.int .u8 (sz.toNat : Int), .int .u8 (un.toNat : Int)]), .int .u8 (w.toNat : Int)] [] [] (fun v R' H' => v = .bool true ∧ R' = [] ∧ H' = []) := by
  have hw8 := u8_lt w
  refine Ctr.of (X := X) (fn := Try.f9) Try.func9 rfl (by kernel_rfl) rfl ?_
  intro β
  obtain ⟨f, hf⟩ : ∃ f, f = fl0 (4 + sz.toNat % 12) 5 9 := ⟨_, rfl⟩
  obtain ⟨us, hus⟩ : ∃ us, us = undoL un := ⟨_, rfl⟩
  have hbk : Blank f us := made_blank sz un hf hus
  have ok := hbk.ok
  have hu := hbk.hu
  obtain ⟨os1, os2, on1, on2, owl, odl, orows, ol1, ol2, owear⟩ := id ok
  have hone := hbk.one
  have hu0 := hu.r 0 hone
  refine C.seq ?_
  refine C.region ?_
  refine L.boxA rfl rfl (fun A2 => ?_)
  refine L.step (Ev.pure rfl) rfl ?_
  refine L.nil ?_
  refine QE.seq ?_
  refine C.seq ?_
  refine C.freeze 0 rfl [] (by decide) (by decide) ?_
  refine C.region ?_
  refine L.call (js := []) (js' := []) (sanity21_c) rfl rfl rfl (by decide) trivial rfl ?_
  rintro _ _ _ ⟨rfl, rfl, rfl⟩
  refine L.step (Ev.pure rfl) rfl ?_
  refine L.nil ?_
  refine QE.seq ?_
  refine C.seq ?_
  refine C.region ?_
  refine L.step (Ev.loadA rfl rfl rfl (Src.r 0 rfl) rfl rfl (by decide)) rfl ?_
  refine L.call (js := []) (js' := []) (made21_c sz un f us hf hus) rfl rfl rfl (by decide) trivial rfl ?_
  rintro _ _ _ ⟨a, U, uc, hb, hcp, rfl, rfl, rfl⟩
  refine L.norm (H' := [_, _, _, _, _]) [0, 1, 2, 3, 4] ⟨rfl, rfl, rfl, rfl, rfl, trivial⟩ (by decide) ?_
  refine L.step (Ev.pure rfl) rfl ?_
  refine L.step (Ev.pure rfl) rfl ?_
  refine L.step (Ev.pure rfl) rfl ?_
  refine L.alloc rfl rfl rfl (fun A6 => ?_)
  refine L.alloc rfl rfl rfl (fun A7 => ?_)
  refine L.storeA (j := 5) rfl rfl rfl rfl rfl (Nat.zero_lt_succ _) rfl rfl ?_
  refine L.storeA (j := 6) rfl rfl rfl rfl rfl (Nat.zero_lt_succ _) rfl rfl ?_
  refine L.nil ?_
  refine QE.seq ?_
  refine C.seq ?_
  refine C.regionM [Rd A2 [.int .u8 (sz.toNat : Int), .int .u8 (un.toNat : Int)], Rd A6 [.int .i64 (f.size : Int), .slice a.D f.data.length a.cD, .slice a.W f.wear.length a.cW, .int .i64 f.limit, .slice a.E f.dead.length a.cE], Rd A7 [.int .i64 0, .int .i64 0, .int .i64 0, .int .i64 0, .int .i64 0, .slice none 0 0, .slice U us.length uc, .slice none 0 0], Rd a.E (Bs f.dead), Rd U (I64 us)] ⟨Has.r 0 rfl, Has.o 5 rfl, Has.o 6 rfl, Has.o 3 rfl, Has.o 4 rfl, trivial⟩ ?_
  refine LM.q 0 rfl (by kernel_rfl) (Ev.fieldAddr rfl rfl rfl rfl rfl rfl (Src.r 1 rfl) (Nat.zero_lt_succ _) rfl) rfl ⟨Has.r 0 rfl, Has.o 5 rfl, Has.o 6 rfl, Has.o 3 rfl, Has.o 4 rfl, trivial⟩ ?_
  refine LM.q 1 rfl (by kernel_rfl) (Ev.load rfl rfl rfl (Src.r 1 rfl) rfl) rfl ⟨Has.r 0 rfl, Has.o 5 rfl, Has.o 6 rfl, Has.o 3 rfl, Has.o 4 rfl, trivial⟩ ?_
  refine LM.f 2 rfl (by kernel_rfl) ⟨Has.r 0 rfl, Has.o 5 rfl, Has.o 6 rfl, Has.o 3 rfl, Has.o 4 rfl, trivial⟩ ?_
  refine L.step (Ev.fieldAddr rfl rfl rfl rfl rfl rfl (Src.o 6 rfl) (Nat.zero_lt_succ _) rfl) rfl ?_
  refine L.nil (QE.m (by kernel_rfl) ?_)
  refine LM.f 3 rfl (by kernel_rfl) ⟨Has.r 0 rfl, Has.o 5 rfl, Has.o 6 rfl, Has.o 3 rfl, Has.o 4 rfl, trivial⟩ ?_
  refine L.step (Ev.load rfl rfl rfl (Src.o 6 rfl) rfl) rfl ?_
  refine L.nil (QE.m (by kernel_rfl) ?_)
  refine LM.f 4 rfl (by kernel_rfl) ⟨Has.r 0 rfl, Has.o 5 rfl, Has.o 6 rfl, Has.o 3 rfl, Has.o 4 rfl, trivial⟩ ?_
  refine L.step (Ev.idx1 (k := 0) rfl rfl rfl rfl rfl rfl rfl (by omega) (Src.o 4 rfl) (by rw [I64_len]; omega)) rfl ?_
  refine L.nil (QE.m (by kernel_rfl) ?_)
  refine LM.f 5 rfl (by kernel_rfl) ⟨Has.r 0 rfl, Has.o 5 rfl, Has.o 6 rfl, Has.o 3 rfl, Has.o 4 rfl, trivial⟩ ?_
  refine L.step (Ev.load rfl rfl rfl (Src.o 4 rfl) (I64_get (by omega))) rfl ?_
  refine L.nil (QE.m (by kernel_rfl) ?_)
  refine LM.cut [] (by kernel_rfl) ⟨Has.r 0 rfl, Has.o 5 rfl, Has.o 6 rfl, Has.o 3 rfl, Has.o 4 rfl, trivial⟩ ?_
  refine LM.f 6 rfl (by kernel_rfl) trivial ?_
  refine L.step (Ev.idx1 (k := (us.getD 0 0).toNat) rfl rfl rfl rfl rfl rfl (by omega) (by omega) (Src.o 3 rfl) (by rw [Bs_len]; omega)) rfl ?_
  refine L.nil (QE.m (by kernel_rfl) ?_)
  refine LM.f 7 rfl (by kernel_rfl) trivial ?_
  refine L.store (j := 3) rfl rfl rfl rfl rfl rfl rfl (by exact Bs_get (by omega)) ?_
  refine L.nil (QE.m (by kernel_rfl) ?_)
  refine LM.nil (by kernel_rfl) trivial ?_
  refine QE.seq ?_
  refine C.seq ?_
  refine C.le (Γ' := [(1, .int .u8 (w.toNat : Int)), (5, .bool true), (6, ptrOf A6 0), (7, ptrOf A7 0)]) (R' := []) (H' := [Own 24 1 a.D f.data.length a.cD (rowsV a.hs (B8 (deadF f (us.getD 0 0).toNat).data)), OwnKids 5 a.hs (B8 (deadF f (us.getD 0 0).toNat).data), Own 3 1 a.W f.wear.length a.cW (I64 (deadF f (us.getD 0 0).toNat).wear), Own 4 1 a.E (deadF f (us.getD 0 0).toNat).dead.length a.cE (Bs (deadF f (us.getD 0 0).toNat).dead), Own 3 1 U us.length uc (I64 us), Own 32 5 A6 1 1 [.int .i64 (f.size : Int), .slice a.D f.data.length a.cD, .slice a.W f.wear.length a.cW, .int .i64 f.limit, .slice a.E (deadF f (us.getD 0 0).toNat).dead.length a.cE], Own 35 8 A7 1 1 [.int .i64 0, .int .i64 0, .int .i64 0, .int .i64 0, .int .i64 0, .slice none 0 0, .slice U us.length uc, .slice none 0 0]]) (by exact Le.mk' (rs := []) (hs := [0, 1, 2, 3, 4, 5, 6]) ⟨rfl, rfl, rfl, rfl, trivial⟩ trivial ⟨rfl, rfl, rfl, (congrArg some (own_eq (List.length_set ..).symm (Bs_set _ _ _))), rfl, (congrArg some (own_eq rfl (by rw [show (deadF f (us.getD 0 0).toNat).dead.length = f.dead.length from List.length_set ..]; rfl))), rfl, trivial⟩ (by decide)) ?_
  refine C.freeze 0 rfl [1, 2, 3, 4, 5, 6] (by decide) (by decide) ?_
  refine C.norm (H' := [_, _, _, _, _, _]) [0, 1, 2, 3, 4, 5] ⟨rfl, rfl, rfl, rfl, rfl, rfl, trivial⟩ (by decide) ?_
  refine C.freezeKids 0 rfl [1, 2, 3, 4, 5] (by decide) (by decide) ?_
  refine C.norm (H' := [_, _, _, _, _]) [0, 1, 2, 3, 4] ⟨rfl, rfl, rfl, rfl, rfl, trivial⟩ (by decide) ?_
  refine C.freeze 0 rfl [1, 2, 3, 4] (by decide) (by decide) ?_
  refine C.norm (H' := [_, _, _, _]) [0, 1, 2, 3] ⟨rfl, rfl, rfl, rfl, trivial⟩ (by decide) ?_
  refine C.freeze 0 rfl [1, 2, 3] (by decide) (by decide) ?_
  refine C.norm (H' := [_, _, _]) [0, 1, 2] ⟨rfl, rfl, rfl, trivial⟩ (by decide) ?_
  refine C.freeze 0 rfl [1, 2] (by decide) (by decide) ?_
  refine C.norm (H' := [_, _]) [0, 1] ⟨rfl, rfl, trivial⟩ (by decide) ?_
  refine C.freeze 0 rfl [1] (by decide) (by decide) ?_
  refine C.norm (H' := [_]) [0] ⟨rfl, trivial⟩ (by decide) ?_
  refine C.freeze 0 rfl [] (by decide) (by decide) ?_
  refine C.region ?_
  refine L.step (Ev.loadA rfl rfl rfl (Src.r 1 rfl) rfl rfl (by decide)) rfl ?_
  refine L.step (Ev.loadA rfl rfl rfl (Src.r 0 rfl) rfl rfl (by decide)) rfl ?_
  refine L.lit rfl rfl rfl rfl rfl (by rfl) (by rfl) (by rfl) rfl rfl (fun A38 => ?_)
  refine L.step (Ev.build rfl rfl rfl rfl rfl rfl rfl) rfl ?_
  refine L.freeze 0 rfl [] (by decide) (by decide) ?_
  refine L.callR (js := []) (js' := []) (ltow_k (deadF f (us.getD 0 0).toNat) a (deadF_ok ok _) hb us U uc (hu.of rfl) 0 [1] A38 1 (by decide) (by decide) (hcp.of rfl rfl) (Nx.mk fo0 false 171) (tow_dead1 hbk)) rfl rfl rfl (by decide) ⟨(Has.r 7 rfl), (Has.r 6 rfl), (Has.r 5 rfl), (Has.r 4 rfl), (Has.r 3 rfl), (Has.r 0 rfl), trivial⟩ rfl ?_
  rintro _ _ _ ⟨T40, t40, rfl, rfl, rfl⟩
  refine L.alloc rfl rfl rfl (fun A8 => ?_)
  refine L.storeA (j := 0) rfl rfl rfl rfl rfl (Nat.zero_lt_succ _) rfl rfl ?_
  refine L.nil ?_
  refine QE.seq ?_
  refine C.seq ?_
  refine C.region ?_
  refine L.step (Ev.loadA rfl rfl rfl (Src.r 3 rfl) rfl rfl (by decide)) rfl ?_
  refine L.step (Ev.loadA rfl rfl rfl (Src.r 2 rfl) rfl rfl (by decide)) rfl ?_
  refine L.lit rfl rfl rfl rfl rfl (by rfl) (by rfl) (by rfl) rfl rfl (fun A43 => ?_)
  refine L.step (Ev.build rfl rfl rfl rfl rfl rfl rfl) rfl ?_
  refine L.freeze 1 rfl [0] (by decide) (by decide) ?_
  refine L.norm (H' := [_]) [0] ⟨rfl, trivial⟩ (by decide) ?_
  refine L.callR (js := []) (js' := [0]) (ltow_k (deadF f (us.getD 0 0).toNat) a (deadF_ok ok _) hb us U uc (hu.of rfl) 0 [255] A43 1 (by decide) (by decide) (hcp.of rfl rfl) (Nx.mk fo0 true 0) (tow_dead2 hbk)) rfl rfl rfl (by decide) ⟨(Has.r 9 rfl), (Has.r 8 rfl), (Has.r 7 rfl), (Has.r 6 rfl), (Has.r 5 rfl), (Has.r 0 rfl), trivial⟩ rfl ?_
  rintro _ _ _ ⟨T45, t45, rfl, rfl, rfl⟩
  refine L.norm (H' := [_]) [0] ⟨rfl, trivial⟩ (by decide) ?_
  refine L.alloc rfl rfl rfl (fun A9 => ?_)
  refine L.storeA (j := 1) rfl rfl rfl rfl rfl (Nat.zero_lt_succ _) rfl rfl ?_
  refine L.nil ?_
  refine QE.seq ?_
  refine C.seq ?_
  refine C.seq ?_
  refine C.freeze 0 rfl [1] (by decide) (by decide) ?_
  refine C.norm (H' := [_]) [0] ⟨rfl, trivial⟩ (by decide) ?_
  refine C.freeze 0 rfl [] (by decide) (by decide) ?_
  refine C.region ?_
  refine L.step (Ev.fieldAddr rfl rfl rfl rfl rfl rfl (Src.r 1 rfl) (Nat.zero_lt_succ _) rfl) rfl ?_
  refine L.step (Ev.load rfl rfl rfl (Src.r 1 rfl) rfl) rfl ?_
  refine L.step (Ev.pure rfl) rfl ?_
  refine L.step (Ev.pure rfl) rfl ?_
  refine L.bool 49 rfl (fun hg49 => ?_) (fun hg49 => ?_)
  · skip
    replace hg49 := b_ne hg49
    exact (hg49 rfl).elim
  · skip
    replace hg49 := b_eq hg49
    refine L.yes rfl ?_
    refine L.step (Ev.fieldAddr rfl rfl rfl rfl rfl rfl (Src.r 0 rfl) (Nat.zero_lt_succ _) rfl) rfl ?_
    refine L.yes rfl ?_
    refine L.step (Ev.load rfl rfl rfl (Src.r 0 rfl) rfl) rfl ?_
    refine L.yes rfl ?_
    refine L.step (Ev.pure rfl) rfl ?_
    refine L.step (Ev.pure rfl) rfl ?_
    refine L.step (Ev.pure rfl) rfl ?_
    refine L.bool 54 rfl (fun hg54 => ?_) (fun hg54 => ?_)
    · skip
      replace hg54 := b_ne hg54
      exact (hg54 rfl).elim
    · skip
      replace hg54 := b_eq hg54
      refine L.yes rfl ?_
      refine L.step (Ev.fieldAddr rfl rfl rfl rfl rfl rfl (Src.r 0 rfl) (Nat.zero_lt_succ _) rfl) rfl ?_
      refine L.yes rfl ?_
      refine L.step (Ev.load rfl rfl rfl (Src.r 0 rfl) rfl) rfl ?_
      refine L.yes rfl ?_
      refine L.step (Ev.pure rfl) rfl ?_
      refine L.step (Ev.pure rfl) rfl ?_
      refine L.nil ?_
      refine QE.seq ?_
      refine C.condB 58 rfl (fun hc58 => ?_) (fun hc58 => ?_)
      · skip
        cases hc58
      · skip
        refine C.skip ?_
        refine QE.seq ?_
        refine C.seq ?_
        refine C.seq ?_
        refine C.region ?_
        refine L.step (Ev.pure rfl) rfl ?_
        refine L.step (Ev.rem rfl rfl (by omega) (by omega)) rfl ?_
        refine L.step (Ev.pure rfl) rfl ?_
        refine L.nil ?_
        refine QE.seq ?_
        refine C.condB 61 rfl (fun hc61 => ?_) (fun hc61 => ?_)
        · skip
          replace hc61 := b_ne hc61
          refine C.seq ?_
          refine C.region ?_
          refine L.step (Ev.pure rfl) rfl ?_
          refine L.step (Ev.pure rfl) rfl ?_
          refine L.nil ?_
          refine QE.seq ?_
          refine C.ret ?_
          refine QE.tR ?_
          refine QE.ret (js := []) (hs := []) (vs := [_]) rfl ⟨rfl, trivial⟩ (by decide) ?_
          exact ⟨rfl, rfl, rfl⟩
        · skip
          replace hc61 := b_eq hc61
          refine C.skip ?_
          refine QE.seq ?_
          refine C.seq ?_
          obtain ⟨N, hN⟩ : ∃ N, N = 4096 := ⟨_, rfl⟩
          refine C.join (fun q : Option Addr × Option Addr => [(5, .bool true), (10, .slice q.1 N N), (11, .slice q.2 (N + 1) (N + 1))]) (fun q : Option Addr × Option Addr => [Rd A9 [.int .i64 0, .int .i64 0, .int .i64 0, .slice T45 0 t45, .bool true, .int .i64 0], Rd A8 [.int .i64 0, .int .i64 0, .int .i64 0, .slice T40 0 t40, .bool false, .int .i64 171], Rd T45 (U8 (Nx.mk fo0 true 0).x.data), Rd A43 (U8 [255]), Rd T40 (U8 (Nx.mk fo0 false 171).x.data), Rd A38 (U8 [1]), Rd A7 [.int .i64 0, .int .i64 0, .int .i64 0, .int .i64 0, .int .i64 0, .slice none 0 0, .slice U us.length uc, .slice none 0 0], Rd A6 [.int .i64 (f.size : Int), .slice a.D f.data.length a.cD, .slice a.W f.wear.length a.cW, .int .i64 f.limit, .slice a.E (deadF f (us.getD 0 0).toNat).dead.length a.cE], Rd U (I64 us), Rd a.E (Bs (deadF f (us.getD 0 0).toNat).dead), Rd a.W (I64 (deadF f (us.getD 0 0).toNat).wear), KidsR a.hs (B8 (deadF f (us.getD 0 0).toNat).data), Rd a.D (rowsV a.hs (B8 (deadF f (us.getD 0 0).toNat).data))]) (fun q : Option Addr × Option Addr => [Own 5 1 q.1 N N (U8 (altB N 0)), Own 5 1 q.2 (N + 1) (N + 1) (U8 (List.replicate (N + 1) (0 : UInt8)))]) (fun q : Option Addr × Option Addr => True) ?_ ?_
          · skip
            refine C.regionM [Rd A9 [.int .i64 0, .int .i64 0, .int .i64 0, .slice T45 0 t45, .bool true, .int .i64 0], Rd A8 [.int .i64 0, .int .i64 0, .int .i64 0, .slice T40 0 t40, .bool false, .int .i64 171], Rd T45 (U8 (Nx.mk fo0 true 0).x.data), Rd A43 (U8 [255]), Rd T40 (U8 (Nx.mk fo0 false 171).x.data), Rd A38 (U8 [1]), Rd A7 [.int .i64 0, .int .i64 0, .int .i64 0, .int .i64 0, .int .i64 0, .slice none 0 0, .slice U us.length uc, .slice none 0 0], Rd A6 [.int .i64 (f.size : Int), .slice a.D f.data.length a.cD, .slice a.W f.wear.length a.cW, .int .i64 f.limit, .slice a.E (deadF f (us.getD 0 0).toNat).dead.length a.cE], Rd U (I64 us), Rd a.E (Bs (deadF f (us.getD 0 0).toNat).dead), Rd a.W (I64 (deadF f (us.getD 0 0).toNat).wear), KidsR a.hs (B8 (deadF f (us.getD 0 0).toNat).data), Rd a.D (rowsV a.hs (B8 (deadF f (us.getD 0 0).toNat).data))] ⟨Has.r 0 rfl, Has.r 1 rfl, Has.r 2 rfl, Has.r 3 rfl, Has.r 4 rfl, Has.r 5 rfl, Has.r 6 rfl, Has.r 7 rfl, Has.r 8 rfl, Has.r 9 rfl, Has.r 10 rfl, Has.r 11 rfl, Has.r 12 rfl, trivial⟩ ?_
            refine LM.alt [0, 1] (by kernel_rfl) (by decide) ⟨Has.r 0 rfl, Has.r 1 rfl, Has.r 2 rfl, Has.r 3 rfl, Has.r 4 rfl, Has.r 5 rfl, Has.r 6 rfl, Has.r 7 rfl, Has.r 8 rfl, Has.r 9 rfl, Has.r 10 rfl, Has.r 11 rfl, Has.r 12 rfl, trivial⟩ ⟨⟨_, rfl, ?_⟩, ⟨_, rfl, ?_⟩, trivial⟩
            · skip
              refine L.make (m := 4096) rfl rfl rfl rfl rfl rfl rfl rfl rfl (by decide) (by decide) rfl (fun A63 => ?_)
              refine L.nil (QE.m (by kernel_rfl) ?_)
              refine LM.q 2 rfl (by kernel_rfl) (Ev.pure rfl) rfl ⟨Has.r 0 rfl, Has.r 1 rfl, Has.r 2 rfl, Has.r 3 rfl, Has.r 4 rfl, Has.r 5 rfl, Has.r 6 rfl, Has.r 7 rfl, Has.r 8 rfl, Has.r 9 rfl, Has.r 10 rfl, Has.r 11 rfl, Has.r 12 rfl, trivial⟩ ?_
              refine LM.f 1 rfl (by kernel_rfl) ⟨Has.r 0 rfl, Has.r 1 rfl, Has.r 2 rfl, Has.r 3 rfl, Has.r 4 rfl, Has.r 5 rfl, Has.r 6 rfl, Has.r 7 rfl, Has.r 8 rfl, Has.r 9 rfl, Has.r 10 rfl, Has.r 11 rfl, Has.r 12 rfl, trivial⟩ ?_
              refine L.make (m := 4097) rfl rfl rfl rfl rfl rfl rfl rfl rfl (by decide) (by decide) rfl (fun A64 => ?_)
              refine L.nil (QE.m (by kernel_rfl) ?_)
              refine LM.cut [] (by kernel_rfl) ⟨Has.r 0 rfl, Has.r 1 rfl, Has.r 2 rfl, Has.r 3 rfl, Has.r 4 rfl, Has.r 5 rfl, Has.r 6 rfl, Has.r 7 rfl, Has.r 8 rfl, Has.r 9 rfl, Has.r 10 rfl, Has.r 11 rfl, Has.r 12 rfl, trivial⟩ ?_
              refine LM.f 3 rfl (by kernel_rfl) trivial ?_
              refine L.step (Ev.pure rfl) rfl ?_
              refine L.nil (QE.m (by kernel_rfl) ?_)
              refine LM.nil (by kernel_rfl) trivial ?_
              first | exact QE.joined ((A63, A64)) trivial (by exact Le.mk' (rs := [0, 1, 2, 3, 4, 5, 6, 7, 8, 9, 10, 11, 12]) (hs := [0, 1]) ⟨rfl, (by rw [hN]; rfl), (by rw [hN]; rfl), trivial⟩ ⟨rfl, rfl, rfl, rfl, rfl, rfl, rfl, rfl, rfl, rfl, rfl, rfl, rfl, trivial⟩ ⟨(congrArg some (by rw [altB_zero, ← U8_rep', hN]; rfl)), (congrArg some (by rw [← U8_rep', hN]; rfl)), trivial⟩ (by decide)) | exact QE.joined ((A63, A64)) trivial (by exact Le.mk' (rs := [0, 1, 2, 3, 4, 5, 6, 7, 8, 9, 10, 11, 12]) (hs := [1, 0]) ⟨rfl, (by rw [hN]; rfl), (by rw [hN]; rfl), trivial⟩ ⟨rfl, rfl, rfl, rfl, rfl, rfl, rfl, rfl, rfl, rfl, rfl, rfl, rfl, trivial⟩ ⟨(congrArg some (by rw [altB_zero, ← U8_rep', hN]; rfl)), (congrArg some (by rw [← U8_rep', hN]; rfl)), trivial⟩ (by decide))
            · skip
              refine L.make (m := 4097) rfl rfl rfl rfl rfl rfl rfl rfl rfl (by decide) (by decide) rfl (fun A64 => ?_)
              refine L.nil (QE.m (by kernel_rfl) ?_)
              refine LM.f 0 rfl (by kernel_rfl) ⟨Has.r 0 rfl, Has.r 1 rfl, Has.r 2 rfl, Has.r 3 rfl, Has.r 4 rfl, Has.r 5 rfl, Has.r 6 rfl, Has.r 7 rfl, Has.r 8 rfl, Has.r 9 rfl, Has.r 10 rfl, Has.r 11 rfl, Has.r 12 rfl, trivial⟩ ?_
              refine L.make (m := 4096) rfl rfl rfl rfl rfl rfl rfl rfl rfl (by decide) (by decide) rfl (fun A63 => ?_)
              refine L.nil (QE.m (by kernel_rfl) ?_)
              refine LM.f 2 rfl (by kernel_rfl) ⟨Has.r 0 rfl, Has.r 1 rfl, Has.r 2 rfl, Has.r 3 rfl, Has.r 4 rfl, Has.r 5 rfl, Has.r 6 rfl, Has.r 7 rfl, Has.r 8 rfl, Has.r 9 rfl, Has.r 10 rfl, Has.r 11 rfl, Has.r 12 rfl, trivial⟩ ?_
              refine L.step (Ev.pure rfl) rfl ?_
              refine L.nil (QE.m (by kernel_rfl) ?_)
              refine LM.cut [] (by kernel_rfl) ⟨Has.r 0 rfl, Has.r 1 rfl, Has.r 2 rfl, Has.r 3 rfl, Has.r 4 rfl, Has.r 5 rfl, Has.r 6 rfl, Has.r 7 rfl, Has.r 8 rfl, Has.r 9 rfl, Has.r 10 rfl, Has.r 11 rfl, Has.r 12 rfl, trivial⟩ ?_
              refine LM.f 3 rfl (by kernel_rfl) trivial ?_
              refine L.step (Ev.pure rfl) rfl ?_
              refine L.nil (QE.m (by kernel_rfl) ?_)
              refine LM.nil (by kernel_rfl) trivial ?_
              first | exact QE.joined ((A63, A64)) trivial (by exact Le.mk' (rs := [0, 1, 2, 3, 4, 5, 6, 7, 8, 9, 10, 11, 12]) (hs := [0, 1]) ⟨rfl, (by rw [hN]; rfl), (by rw [hN]; rfl), trivial⟩ ⟨rfl, rfl, rfl, rfl, rfl, rfl, rfl, rfl, rfl, rfl, rfl, rfl, rfl, trivial⟩ ⟨(congrArg some (by rw [altB_zero, ← U8_rep', hN]; rfl)), (congrArg some (by rw [← U8_rep', hN]; rfl)), trivial⟩ (by decide)) | exact QE.joined ((A63, A64)) trivial (by exact Le.mk' (rs := [0, 1, 2, 3, 4, 5, 6, 7, 8, 9, 10, 11, 12]) (hs := [1, 0]) ⟨rfl, (by rw [hN]; rfl), (by rw [hN]; rfl), trivial⟩ ⟨rfl, rfl, rfl, rfl, rfl, rfl, rfl, rfl, rfl, rfl, rfl, rfl, rfl, trivial⟩ ⟨(congrArg some (by rw [altB_zero, ← U8_rep', hN]; rfl)), (congrArg some (by rw [← U8_rep', hN]; rfl)), trivial⟩ (by decide))
          · skip
            rintro ⟨A63, A64⟩ _
            dsimp only
            refine QE.seq ?_
            refine C.seq ?_
            refine C.seq ?_
            refine C.region ?_
            refine L.step (Ev.pure rfl) rfl ?_
            refine L.nil ?_
            refine QE.seq ?_
            refine C.block ?_
            refine C.loop (fun k : Nat => [(5, .bool true), (10, .slice A63 N N), (11, .slice A64 (N + 1) (N + 1)), (12, .int .i64 ((2 * k : Nat) : Int))]) (fun k : Nat => [Rd A9 [.int .i64 0, .int .i64 0, .int .i64 0, .slice T45 0 t45, .bool true, .int .i64 0], Rd A8 [.int .i64 0, .int .i64 0, .int .i64 0, .slice T40 0 t40, .bool false, .int .i64 171], Rd T45 (U8 (Nx.mk fo0 true 0).x.data), Rd A43 (U8 [255]), Rd T40 (U8 (Nx.mk fo0 false 171).x.data), Rd A38 (U8 [1]), Rd A7 [.int .i64 0, .int .i64 0, .int .i64 0, .int .i64 0, .int .i64 0, .slice none 0 0, .slice U us.length uc, .slice none 0 0], Rd A6 [.int .i64 (f.size : Int), .slice a.D f.data.length a.cD, .slice a.W f.wear.length a.cW, .int .i64 f.limit, .slice a.E (deadF f (us.getD 0 0).toNat).dead.length a.cE], Rd U (I64 us), Rd a.E (Bs (deadF f (us.getD 0 0).toNat).dead), Rd a.W (I64 (deadF f (us.getD 0 0).toNat).wear), KidsR a.hs (B8 (deadF f (us.getD 0 0).toNat).data), Rd a.D (rowsV a.hs (B8 (deadF f (us.getD 0 0).toNat).data))]) (fun k : Nat => [Own 5 1 A63 N N (U8 (altB N k)), Own 5 1 A64 (N + 1) (N + 1) (U8 (List.replicate (N + 1) (0 : UInt8)))]) (fun k : Nat => 2 * k ≤ N) (fun k : Nat => N - 2 * k) 0 (Nat.zero_le _) (by exact Le.mk' (rs := [0, 1, 2, 3, 4, 5, 6, 7, 8, 9, 10, 11, 12]) (hs := [0, 1]) ⟨rfl, rfl, rfl, rfl, trivial⟩ ⟨rfl, rfl, rfl, rfl, rfl, rfl, rfl, rfl, rfl, rfl, rfl, rfl, rfl, trivial⟩ ⟨rfl, rfl, trivial⟩ (by decide)) ?_
            intro k hk
            refine C.seq ?_
            refine C.seq ?_
            refine C.region ?_
            refine L.step (Ev.pure rfl) rfl ?_
            refine L.step (Ev.pure rfl) rfl ?_
            refine L.step (Ev.pure rfl) rfl ?_
            refine L.step (Ev.pure rfl) rfl ?_
            refine L.nil ?_
            refine QE.seq ?_
            refine C.condB 68 rfl (fun hc68 => ?_) (fun hc68 => ?_)
            · skip
              replace hc68 := of_decide_eq_true hc68
              refine C.skip ?_
              refine QE.seq ?_
              refine C.seq ?_
              refine C.block ?_
              refine C.region ?_
              refine L.step (Ev.pure rfl) rfl ?_
              refine L.step (Ev.pure rfl) rfl ?_
              refine L.step (Ev.idx1 (k := 2 * k) rfl rfl rfl rfl rfl rfl rfl (by omega) (Src.o 0 rfl) (by rw [U8_len, altB_len]; omega)) rfl ?_
              refine L.store (j := 0) rfl rfl rfl rfl rfl rfl rfl (by exact U8_get (by rw [altB_len]; omega)) ?_
              refine L.nil ?_
              refine QE.blkN ?_
              refine QE.seq ?_
              refine C.region ?_
              refine L.step (Ev.pure rfl) rfl ?_
              refine L.step (Ev.cast (u := .int .i64 ((2 * (k + 1) : Nat) : Int)) (Ev.add rfl rfl (by omega) (by omega)) (congrArg (Value.int .i64) (by omega))) rfl ?_
              refine L.step (Ev.pure rfl) rfl ?_
              refine L.nil ?_
              refine QE.round (k + 1) (by omega) (by omega) (by exact Le.mk' (rs := [0, 1, 2, 3, 4, 5, 6, 7, 8, 9, 10, 11, 12]) (hs := [0, 1]) ⟨rfl, rfl, rfl, rfl, trivial⟩ ⟨rfl, rfl, rfl, rfl, rfl, rfl, rfl, rfl, rfl, rfl, rfl, rfl, rfl, trivial⟩ ⟨(congrArg some (own_eq rfl (by rw [← altB_set, ← U8_set]; rfl))), rfl, trivial⟩ (by decide))
            · skip
              replace hc68 := of_decide_eq_false hc68
              refine C.exit ?_
              refine QE.tX ?_
              refine QE.tX ?_
              refine QE.blk ?_
              refine QE.seq ?_
              refine C.seq ?_
              refine C.freeze 0 rfl [1] (by decide) (by decide) ?_
              refine C.norm (H' := [_]) [0] ⟨rfl, trivial⟩ (by decide) ?_
              refine C.freeze 0 rfl [] (by decide) (by decide) ?_
              obtain rfl : k = 2048 := by omega
              have hla := altB_len N 2048
              obtain ⟨r, hr⟩ : ∃ r, r = recS ((0 : Nat) : Int) (altB N 2048) (List.replicate N (0 : UInt8)) := ⟨_, rfl⟩
              have rI := RecIs.of hr (by omega) (by rw [altB_len, List.length_replicate]) (by rw [altB_len]; omega) (by rw [altB_len]; omega)
              have rle := rI.le
              have rlen := alt_len (k := 2048) (by omega) rI
              refine C.region ?_
              refine L.step (Ev.pure rfl) rfl ?_
              refine L.step (Ev.pure rfl) rfl ?_
              refine L.step (Ev.sliceH (h := N) rfl rfl rfl rfl rfl (by omega) (by omega)) rfl ?_
              refine L.call (js := []) (js' := []) (rec_g 0 A63 A64 (altB N 2048) (List.replicate N (0 : UInt8)) N N N (N + 1) r 0 (altB_len _ _) (List.length_replicate) rI.eq rI.e (by omega) (by omega) (by omega)) rfl rfl rfl (by decide) ⟨(Has.r 1 rfl), ((Has.take (Has.r 0 rfl) N).cast (by rw [← U8_rep', ← U8_rep', List.take_replicate, Nat.min_eq_left (by omega)])), trivial⟩ rfl ?_
              rintro _ _ _ ⟨R78, rc78, rfl, rfl, rfl⟩
              refine L.norm (H' := [_]) [0] ⟨rfl, trivial⟩ (by decide) ?_
              refine L.step (Ev.pure rfl) rfl ?_
              refine L.step (Ev.pure rfl) rfl ?_
              refine L.step (Ev.pure rfl) rfl ?_
              refine L.step (Ev.pure rfl) rfl ?_
              refine L.step (Ev.pure rfl) rfl ?_
              refine L.nil ?_
              refine QE.seq ?_
              refine C.seq ?_
              refine C.cap 0 rfl (fun hrc => ?_)
              refine C.region ?_
              refine L.step (Ev.pure rfl) rfl ?_
              refine L.step (Ev.pure rfl) rfl ?_
              refine L.call (js := []) (js' := [0]) (rec_g 0 A64 A64 (List.replicate (N + 1) (0 : UInt8)) (List.replicate (N + 1) (0 : UInt8)) (N + 1) (N + 1) (N + 1) (N + 1) [] 210 (List.length_replicate) (List.length_replicate) (recS_bad (by unfold RecBad; simp; omega)) (recE_bad (by unfold RecBad; simp; omega)) (by omega) (by omega) (by omega)) rfl rfl rfl (by decide) ⟨(Has.r 0 rfl), (Has.r 0 rfl), trivial⟩ rfl ?_
              rintro _ _ _ ⟨R84, rc84, rfl, rfl, rfl⟩
              refine L.norm (H' := [_, _]) [0, 1] ⟨rfl, rfl, trivial⟩ (by decide) ?_
              refine L.step (Ev.pure rfl) rfl ?_
              refine L.step (Ev.pure rfl) rfl ?_
              refine L.step (Ev.pure rfl) rfl ?_
              refine L.step (Ev.pure rfl) rfl ?_
              refine L.step (Ev.pure rfl) rfl ?_
              refine L.nil ?_
              refine QE.seq ?_
              refine C.seq ?_
              refine C.region ?_
              refine L.step (Ev.pure rfl) rfl ?_
              refine L.step (Ev.pure rfl) rfl ?_
              refine L.call (js := []) (js' := [0, 1]) (rec_g 0 A63 A64 (altB N 2048) (List.replicate (N + 1) (0 : UInt8)) N (N + 1) N (N + 1) [] 210 (altB_len _ _) (List.length_replicate) (recS_bad (by unfold RecBad; rw [altB_len]; simp)) (recE_bad (by unfold RecBad; rw [altB_len]; simp)) (by omega) (by omega) (by omega)) rfl rfl rfl (by decide) ⟨(Has.r 1 rfl), (Has.r 0 rfl), trivial⟩ rfl ?_
              rintro _ _ _ ⟨R90, rc90, rfl, rfl, rfl⟩
              refine L.norm (H' := [_, _, _]) [0, 1, 2] ⟨rfl, rfl, rfl, trivial⟩ (by decide) ?_
              refine L.step (Ev.pure rfl) rfl ?_
              refine L.step (Ev.pure rfl) rfl ?_
              refine L.step (Ev.pure rfl) rfl ?_
              refine L.step (Ev.pure rfl) rfl ?_
              refine L.step (Ev.pure rfl) rfl ?_
              refine L.nil ?_
              refine QE.seq ?_
              refine C.seq ?_
              refine C.region ?_
              refine L.call (js := []) (js' := [0, 1, 2]) (rec_g 0 none none [] [] 0 0 0 0 [] 210 rfl rfl (by decide) (by decide) (by omega) (by omega) (by omega)) rfl rfl rfl (by decide) ⟨Has.nil, Has.nil, trivial⟩ rfl ?_
              rintro _ _ _ ⟨R94, rc94, rfl, rfl, rfl⟩
              refine L.norm (H' := [_, _, _, _]) [0, 1, 2, 3] ⟨rfl, rfl, rfl, rfl, trivial⟩ (by decide) ?_
              refine L.step (Ev.pure rfl) rfl ?_
              refine L.step (Ev.pure rfl) rfl ?_
              refine L.step (Ev.pure rfl) rfl ?_
              refine L.step (Ev.pure rfl) rfl ?_
              refine L.step (Ev.pure rfl) rfl ?_
              refine L.nil ?_
              refine QE.seq ?_
              refine C.seq ?_
              refine C.region ?_
              refine L.step (Ev.pure rfl) rfl ?_
              refine L.step (Ev.sliceH (h := N) rfl rfl rfl rfl rfl (by omega) (by omega)) rfl ?_
              refine L.step (Ev.pure rfl) rfl ?_
              refine L.call (js := []) (js' := [0, 1, 2, 3]) (res_g A64 R78 (List.replicate N (0 : UInt8)) r N (N + 1) rc78 (altB N 2048) 0 List.length_replicate rI.res rI.resE (by omega) (by omega) hrc) rfl rfl rfl (by decide) ⟨((Has.take (Has.r 0 rfl) N).cast (by rw [← U8_rep', ← U8_rep', List.take_replicate, Nat.min_eq_left (by omega)])), (Has.o 3 rfl), trivial⟩ rfl ?_
              rintro _ _ _ ⟨R101, rc101, rfl, rfl, rfl⟩
              refine L.norm (H' := [_, _, _, _, _]) [0, 1, 2, 3, 4] ⟨rfl, rfl, rfl, rfl, rfl, trivial⟩ (by decide) ?_
              refine L.step (Ev.pure rfl) rfl ?_
              refine L.step (Ev.pure rfl) rfl ?_
              refine L.step (Ev.pure rfl) rfl ?_
              refine L.step (Ev.pure rfl) rfl ?_
              refine L.step (Ev.pure rfl) rfl ?_
              refine L.nil ?_
              refine QE.seq ?_
              refine C.seq ?_
              refine C.region ?_
              refine L.step (Ev.pure rfl) rfl ?_
              refine L.step (Ev.pure rfl) rfl ?_
              refine L.step (Ev.pure rfl) rfl ?_
              refine L.bool 106 rfl (fun hg106 => ?_) (fun hg106 => ?_)
              · skip
                replace hg106 := i_eq hg106
                refine L.yes rfl ?_
                refine L.step (Ev.pure rfl) rfl ?_
                refine L.yes rfl ?_
                refine L.step (Ev.pure rfl) rfl ?_
                refine L.yes rfl ?_
                refine L.step (Ev.pure rfl) rfl ?_
                refine L.step (Ev.pure rfl) rfl ?_
                refine L.step (Ev.pure rfl) rfl ?_
                refine L.bool 111 rfl (fun hg111 => ?_) (fun hg111 => ?_)
                · skip
                  replace hg111 := i_eq hg111
                  refine L.yes rfl ?_
                  refine L.step (Ev.pure rfl) rfl ?_
                  refine L.yes rfl ?_
                  refine L.step (Ev.pure rfl) rfl ?_
                  refine L.step (Ev.pure rfl) rfl ?_
                  refine L.step (Ev.pure rfl) rfl ?_
                  refine L.bool 115 rfl (fun hg115 => ?_) (fun hg115 => ?_)
                  · skip
                    replace hg115 := i_eq hg115
                    refine L.yes rfl ?_
                    refine L.step (Ev.pure rfl) rfl ?_
                    refine L.yes rfl ?_
                    refine L.step (Ev.pure rfl) rfl ?_
                    refine L.step (Ev.pure rfl) rfl ?_
                    refine L.step (Ev.pure rfl) rfl ?_
                    refine L.bool 119 rfl (fun hg119 => ?_) (fun hg119 => ?_)
                    · skip
                      replace hg119 := i_eq hg119
                      refine L.yes rfl ?_
                      refine L.step (Ev.pure rfl) rfl ?_
                      refine L.yes rfl ?_
                      refine L.step (Ev.pure rfl) rfl ?_
                      refine L.step (Ev.pure rfl) rfl ?_
                      refine L.step (Ev.pure rfl) rfl ?_
                      refine L.bool 123 rfl (fun hg123 => ?_) (fun hg123 => ?_)
                      · skip
                        replace hg123 := i_eq hg123
                        refine L.yes rfl ?_
                        refine L.step (Ev.pure rfl) rfl ?_
                        refine L.yes rfl ?_
                        refine L.step (Ev.pure rfl) rfl ?_
                        refine L.step (Ev.pure rfl) rfl ?_
                        refine L.step (Ev.pure rfl) rfl ?_
                        refine L.bool 127 rfl (fun hg127 => ?_) (fun hg127 => ?_)
                        · skip
                          replace hg127 := i_eq hg127
                          refine L.yes rfl ?_
                          refine L.step (Ev.pure rfl) rfl ?_
                          refine L.yes rfl ?_
                          refine L.step (Ev.pure rfl) rfl ?_
                          refine L.yes rfl ?_
                          refine L.call (js := []) (js' := [0, 1, 2, 3, 4]) (Ctr.tb true (same_g R101 A63 rc101 N (altB N 2048) (altB N 2048) (altB N 2048).length N rfl (altB_len _ _) (by omega) (by omega)) (by simp)) rfl rfl rfl (by decide) ⟨(Has.o 0 rfl), (Has.r 1 rfl), trivial⟩ rfl ?_
                          rintro _ _ _ ⟨rfl, rfl, rfl⟩
                          refine L.norm (H' := [_, _, _, _, _]) [0, 1, 2, 3, 4] ⟨rfl, rfl, rfl, rfl, rfl, trivial⟩ (by decide) ?_
                          refine L.step (Ev.pure rfl) rfl ?_
                          refine L.step (Ev.pure rfl) rfl ?_
                          refine L.yes rfl ?_
                          refine L.step (Ev.pure rfl) rfl ?_
                          refine L.step (Ev.pure rfl) rfl ?_
                          refine L.step (Ev.pure rfl) rfl ?_
                          refine L.nil ?_
                          refine QE.seq ?_
                          refine C.ret ?_
                          refine QE.ret (js := []) (hs := []) (vs := [_]) rfl ⟨rfl, trivial⟩ (by decide) ?_
                          exact ⟨rfl, rfl, rfl⟩
                        · skip
                          replace hg127 := i_ne hg127
                          exact (hg127 rfl).elim
                      · skip
                        replace hg123 := i_ne hg123
                        exact (hg123 rfl).elim
                    · skip
                      replace hg119 := i_ne hg119
                      exact (hg119 rfl).elim
                  · skip
                    replace hg115 := i_ne hg115
                    exact (hg115 rfl).elim
                · skip
                  replace hg111 := i_ne hg111
                  exact (hg111 (by omega)).elim
              · skip
                replace hg106 := i_ne hg106
                exact (hg106 rfl).elim

end Go.Proofs.Ythfjkdgopkmgoaa
