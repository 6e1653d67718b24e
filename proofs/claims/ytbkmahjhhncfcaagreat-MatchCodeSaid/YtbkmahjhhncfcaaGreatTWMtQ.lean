/-
  The cost by the program; lifted patches; Best.
-/
import Derived.Test.YtbkmahjhhncfcaaGreatTMp
import Derived.Test.YtbkmahjhhncfcaaGreatTWLaL
import Derived.Test.YtbkmahjhhncfcaaGreatTWLaI
import Derived.Test.YtbkmahjhhncfcaaGreatTWMtG
namespace Go.Proofs.YtbkmahjhhncfcaaGreat
open Go.Sl

set_option maxHeartbeats 2000000 in
theorem applyL_c (B : Option Addr) (old new : List UInt8) (bc : Nat) (lf : Bool) (inn out : Int) (ops : List Pq) (OA : Option Addr) (oc : Nat) (hops : ops.length ≤ 9223372036854775807) (hlf : lf = true) (hco : codeB old) (hcn : codeB new) (hbc : old.length ≤ bc) (hE : chkP inn out ops = 0) (hin : inn = ((foF old).length : Int)) (hrun : outsQ (foF old) ops = foF new) :
   Ctr X 53 [.slice B old.length bc, .agg (List.toArray [.bool lf, .int .i64 inn, .int .i64 out, .slice OA ops.length oc])] [Rd B (U8 old), Rd OA (pqV ops), KidsR (pqH ops) (B8 (pqD ops))] [] (fun v R' H' => ∃ (A : Option Addr) (c : Nat), v = .tuple #[.slice A new.length c, .int .i64 0] ∧ R' = [] ∧ H' = [Own 5 1 A new.length c (U8 new)]) := by
 refine Ctr.of (X := X) (fn := Tryz.f53) Tryz.func53 rfl (by kernel_rfl) rfl ?_
 intro β
 change inn = ((formF (liftR old)).length : Int) at hin
 change outsQ (formF (liftR old)) ops = formF (liftR new) at hrun
 have hr := run_ok (old := formF (liftR old)) hE hin
 have hsr := sys_run (old := formF (liftR old)) hE
 have hrd := read_form_lift hcn
 have hlw := low_lift_yes hcn
 have hfn := foF_len (b := new)
 change (formF (liftR new)).length ≤ _ at hfn
 have ho6 := code_len hco
 have hn6 := code_len hcn
 have hln := liftR_lens new
 have hlo := liftR_lens old
 refine C.seq (C.region ?_)
 refine L.boxA rfl rfl (fun A3 => ?_)
 refine Lpu rfl rfl ?_; refine Lpu rfl rfl ?_; refine L.nil (QE.seq (C.seq ?_)); refine C.freeze 0 rfl [] (by decide) (by decide) ?_; refine C.region ?_; refine L.step (Ev.loadA (vs := [.bool lf, .int .i64 inn, .int .i64 out, .slice OA ops.length oc]) rfl rfl rfl (Src.r 0 rfl) rfl rfl (by decide)) rfl ?_; refine L.call (js := []) (js' := []) (symbolsQ_c lf inn out ops OA oc hops) rfl rfl rfl (by decide) (Hq [2, 3] rfl) rfl ?_
 rintro _ _ _ ⟨SA, sc, rfl, rfl, rfl⟩
 refine L.norm (H' := [_]) [0] ⟨rfl, trivial⟩ (by decide) ?_; refine Lpu rfl rfl ?_; refine Lpu rfl rfl ?_; refine Lpu rfl rfl ?_; refine Lpu rfl rfl ?_; refine Lpu rfl rfl ?_; refine L.nil (QE.seq (C.seq (C.seq ?_))); refine C.freeze 0 rfl [] (by decide) (by decide) ?_; refine C.region ?_; refine Lpu rfl rfl ?_; refine Lpu rfl rfl ?_; refine L.nil (QE.seq ?_)
 refine C.condB 18 rfl (fun hc18 => ?_) (fun hc18 => ?_)
 ·
  replace hc18 := b_ne hc18
  exact absurd hE hc18
 ·
  replace hc18 := b_eq hc18
  refine C.skip (QE.seq (C.seq (C.seq (C.region ?_)))); refine L.step (Ev.fieldAddr rfl rfl rfl rfl rfl rfl (Src.r 1 rfl) (Nat.zero_lt_succ _) rfl) rfl ?_; refine L.step (Ev.cast (u := .bool true) (Ev.load rfl rfl rfl (Src.r 1 rfl) rfl) (congrArg Value.bool hlf)) rfl ?_; refine L.nil (QE.seq ?_)
  refine C.condB 21 rfl (fun hc21 => ?_) (fun hc21 => ?_)
  ·
   refine C.seq (C.region ?_); refine Lpu rfl rfl ?_; refine L.call (js := []) (js' := []) (lift_c B old bc hbc (by omega)) rfl rfl rfl (by decide) (Hq [2] rfl) rfl ?_
   rw [liftE_code hco]
   rintro _ _ _ ⟨W1, M1, L1, l1, rfl, rfl, rfl⟩
   refine L.norm (H' := [_, _, _]) [0, 1, 2] ⟨rfl, rfl, rfl, trivial⟩ (by decide) ?_; refine Lpu rfl rfl ?_; refine Lpu rfl rfl ?_; refine Lpu rfl rfl ?_
   refine L.alloc rfl rfl rfl (fun A8 => ?_)
   refine L.storeA (j := 3) rfl rfl rfl rfl rfl (Nat.zero_lt_succ _) rfl rfl ?_; refine Lpu rfl rfl ?_; refine L.nil (QE.seq (C.seq (C.seq ?_))); refine C.freeze 0 rfl [1, 2, 3] (by decide) (by decide) ?_; refine C.norm (H' := [_, _, _]) [0, 1, 2] ⟨rfl, rfl, rfl, trivial⟩ (by decide) ?_; refine C.freeze 0 rfl [1, 2] (by decide) (by decide) ?_; refine C.norm (H' := [_, _]) [0, 1] ⟨rfl, rfl, trivial⟩ (by decide) ?_; refine C.freeze 0 rfl [1] (by decide) (by decide) ?_; refine C.norm (H' := [_]) [0] ⟨rfl, trivial⟩ (by decide) ?_; refine C.region ?_; refine Lpu rfl rfl ?_; refine Lpu rfl rfl ?_; refine L.nil (QE.seq ?_)
   refine C.condB 28 rfl (fun hc28 => ?_) (fun hc28 => ?_)
   ·
    replace hc28 := b_ne hc28
    exact absurd rfl hc28
   ·
    replace hc28 := b_eq hc28
    refine C.skip (QE.seq (C.region ?_)); refine L.step (Ev.loadA (vs := [.slice W1 (liftR old).ws.length (liftR old).ws.length, .slice M1 (liftR old).ms.length (liftR old).ms.length, .slice L1 (liftR old).ls.length l1]) rfl rfl rfl (Src.o 0 rfl) rfl rfl (by decide)) rfl ?_; refine L.call (js := []) (js' := [0]) (form_c W1 M1 L1 (liftR old).ws.length (liftR old).ms.length l1 (liftR old) (by omega) (by omega) (by omega) (liftR_w32 old) (Nat.le_refl _) liftR_asc) rfl rfl rfl (by decide) (Hq [2, 1, 0] rfl) rfl ?_
    rintro _ _ _ ⟨F1, f1, rfl, rfl, rfl⟩
    refine L.norm (H' := [_, _]) [0, 1] ⟨rfl, rfl, trivial⟩ (by decide) ?_; refine Lpu rfl rfl ?_; refine L.nil (QE.seq (C.seq (C.seq ?_))); refine C.freeze 0 rfl [1] (by decide) (by decide) ?_; refine C.norm (H' := [_]) [0] ⟨rfl, trivial⟩ (by decide) ?_; refine C.region ?_; refine Lpu rfl rfl ?_; refine Lpu rfl rfl ?_; refine L.step (Ev.fieldAddr rfl rfl rfl rfl rfl rfl (Src.r 5 rfl) (Nat.zero_lt_succ _) rfl) rfl ?_; refine L.step (Ev.load rfl rfl rfl (Src.r 5 rfl) rfl) rfl ?_; refine Lpu rfl rfl ?_; refine L.nil (QE.seq ?_)
    refine C.condB 35 rfl (fun hc35 => ?_) (fun hc35 => ?_)
    ·
     replace hc35 := b_ne hc35
     omega
    ·
     replace hc35 := b_eq hc35
     refine C.skip (QE.seq (C.seq (C.region ?_))); refine Lpu rfl rfl ?_; refine Lpu rfl rfl ?_; refine L.call (js := []) (js' := [0]) (runQ_c F1 SA (formF (liftR old)) (sysQ inn out ops) f1 sc (by have := hr.2; omega) hr.1) rfl rfl rfl (by decide) (Hq [0, 4] rfl) rfl ?_
     rw [hsr, hrun]
     rintro _ _ _ ⟨YA, yc, rfl, rfl, rfl⟩
     refine L.norm (H' := [_, _]) [0, 1] ⟨rfl, rfl, trivial⟩ (by decide) ?_; refine Lpu rfl rfl ?_; refine Lpu rfl rfl ?_; refine Lpu rfl rfl ?_; refine Lpu rfl rfl ?_; refine Lpu rfl rfl ?_; refine L.nil (QE.seq (C.seq (C.seq (C.region ?_)))); refine Lpu rfl rfl ?_; refine Lpu rfl rfl ?_; refine Lpu rfl rfl ?_
     refine L.bool 44 rfl (fun hg44 => ?_) (fun hg44 => ?_)
     ·
      replace hg44 := b_ne hg44
      exact absurd rfl hg44
     ·
      replace hg44 := b_eq hg44
      refine L.yes rfl ?_; refine L.step (Ev.fieldAddr rfl rfl rfl rfl rfl rfl (Src.r 5 rfl) (Nat.zero_lt_succ _) rfl) rfl ?_; refine L.yes rfl ?_; refine L.step (Ev.cast (u := .bool true) (Ev.load rfl rfl rfl (Src.r 5 rfl) rfl) (congrArg Value.bool hlf)) rfl ?_; refine L.yes rfl ?_; refine Lpu rfl rfl ?_; refine Lpu rfl rfl ?_; refine L.nil (QE.seq ?_)
      refine C.condB 48 rfl (fun hc48 => ?_) (fun hc48 => ?_)
      ·
       cases hc48
      ·
       refine C.skip (QE.seq (C.seq ?_))
       refine C.capO 0 rfl (fun hyc => ?_)
       refine C.freeze 0 rfl [1] (by decide) (by decide) ?_; refine C.norm (H' := [_]) [0] ⟨rfl, trivial⟩ (by decide) ?_; refine C.region ?_; refine Lpu rfl rfl ?_; refine L.call (js := []) (js' := [0]) (read_c YA (formF (liftR new)) yc hyc (by omega)) rfl rfl rfl (by decide) (Hq [0] rfl) rfl ?_
       rw [hrd.1, hrd.2]
       rintro _ _ _ ⟨W2, M2, L2, w2, m2, l2, rfl, rfl, rfl⟩
       refine L.norm (H' := [_, _, _, _]) [0, 1, 2, 3] ⟨rfl, rfl, rfl, rfl, trivial⟩ (by decide) ?_; refine Lpu rfl rfl ?_; refine Lpu rfl rfl ?_; refine Lpu rfl rfl ?_
       refine L.alloc rfl rfl rfl (fun A11 => ?_)
       refine L.storeA (j := 4) rfl rfl rfl rfl rfl (Nat.zero_lt_succ _) rfl rfl ?_; refine Lpu rfl rfl ?_; refine L.nil (QE.seq (C.seq (C.seq ?_))); refine C.freeze 0 rfl [1, 2, 3, 4] (by decide) (by decide) ?_; refine C.norm (H' := [_, _, _, _]) [0, 1, 2, 3] ⟨rfl, rfl, rfl, rfl, trivial⟩ (by decide) ?_; refine C.freeze 0 rfl [1, 2, 3] (by decide) (by decide) ?_; refine C.norm (H' := [_, _, _]) [0, 1, 2] ⟨rfl, rfl, rfl, trivial⟩ (by decide) ?_; refine C.freeze 0 rfl [1, 2] (by decide) (by decide) ?_; refine C.norm (H' := [_, _]) [0, 1] ⟨rfl, rfl, trivial⟩ (by decide) ?_; refine C.region ?_; refine Lpu rfl rfl ?_; refine Lpu rfl rfl ?_; refine L.nil (QE.seq ?_)
       refine C.condB 57 rfl (fun hc57 => ?_) (fun hc57 => ?_)
       ·
        replace hc57 := b_ne hc57
        exact absurd rfl hc57
       ·
        replace hc57 := b_eq hc57
        refine C.skip (QE.seq (C.seq (C.region ?_))); refine L.step (Ev.loadA (vs := [.slice W2 (liftR new).ws.length w2, .slice M2 (liftR new).ms.length m2, .slice L2 (liftR new).ls.length l2]) rfl rfl rfl (Src.o 1 rfl) rfl rfl (by decide)) rfl ?_; refine L.call (js := []) (js' := [0, 1]) (lower_c W2 M2 L2 w2 m2 l2 (liftR new) (by omega) (by omega) (by omega) (liftR_w32 new)) rfl rfl rfl (by decide) (Hq [2, 1, 0] rfl) rfl ?_
        rw [hlw.1, hlw.2]
        rintro _ _ _ ⟨ZA, zc, rfl, rfl, rfl⟩
        refine L.norm (H' := [_, _, _]) [0, 1, 2] ⟨rfl, rfl, rfl, trivial⟩ (by decide) ?_; refine Lpu rfl rfl ?_; refine Lpu rfl rfl ?_; refine Lpu rfl rfl ?_; refine Lpu rfl rfl ?_; refine L.nil (QE.seq (C.ret ?_)); refine QE.ret (js := []) (hs := [0]) (vs := [_, _]) rfl ⟨rfl, rfl, trivial⟩ (by decide) ?_
        exact ⟨ZA, zc, rfl, rfl, rfl⟩
  ·
   cases hc21

theorem madeL_c (B C_ : Option Addr) (old new : List UInt8) (bc cc : Nat) (lf : Bool) (inn out : Int) (ops : List Pq) (OA : Option Addr) (oc : Nat) (hops : ops.length ≤ 9223372036854775807) (hlf : lf = true) (hco : codeB old) (hcn : codeB new) (hbc : old.length ≤ bc) (hE : chkP inn out ops = 0) (hin : inn = ((foF old).length : Int)) (hrun : outsQ (foF old) ops = foF new) :
   Ctr X 22 [.agg (List.toArray [.bool lf, .int .i64 inn, .int .i64 out, .slice OA ops.length oc]), .slice B old.length bc, .slice C_ new.length cc] [Rd B (U8 old), Rd C_ (U8 new), Rd OA (pqV ops), KidsR (pqH ops) (B8 (pqD ops))] [] (fun v R' H' => v = .bool true ∧ R' = [] ∧ H' = []) := by
 refine Ctr.of (X := X) (fn := Tryz.f22) Tryz.func22 rfl (by kernel_rfl) rfl ?_
 intro β
 refine C.seq (C.region ?_)
 refine L.boxA rfl rfl (fun A3 => ?_)
 refine Lpu rfl rfl ?_; refine L.nil (QE.seq (C.seq (C.seq ?_))); refine C.freeze 0 rfl [] (by decide) (by decide) ?_; refine C.region ?_; refine L.step (Ev.loadA (vs := [.bool lf, .int .i64 inn, .int .i64 out, .slice OA ops.length oc]) rfl rfl rfl (Src.r 0 rfl) rfl rfl (by decide)) rfl ?_; refine L.call (js := []) (js' := []) (Ctr.tbM true (right06Q_c lf inn out ops OA oc hops) (by rw [hE]; rfl)) rfl rfl rfl (by decide) (Hq [3] rfl) rfl ?_
 rintro _ _ _ ⟨rfl, rfl, rfl⟩
 refine Lpu rfl rfl ?_; refine L.nil (QE.seq ?_)
 refine C.cond rfl (fun h => by cases h) (fun _ => ?_)
 refine C.skip (QE.seq (C.seq (C.region ?_))); refine Lpu rfl rfl ?_; refine L.step (Ev.loadA (vs := [.bool lf, .int .i64 inn, .int .i64 out, .slice OA ops.length oc]) rfl rfl rfl (Src.r 0 rfl) rfl rfl (by decide)) rfl ?_; refine L.call (js := []) (js' := []) (applyL_c B old new bc lf inn out ops OA oc hops hlf hco hcn hbc hE hin hrun) rfl rfl rfl (by decide) (Hq [1, 3, 4] rfl) rfl ?_
 rintro _ _ _ ⟨YA, yc, rfl, rfl, rfl⟩
 refine L.norm (H' := [_]) [0] ⟨rfl, trivial⟩ (by decide) ?_; refine Lpu rfl rfl ?_; refine Lpu rfl rfl ?_; refine Lpu rfl rfl ?_; refine Lpu rfl rfl ?_; refine Lpu rfl rfl ?_; refine L.nil (QE.seq (C.seq (C.region ?_))); refine Lpu rfl rfl ?_; refine Lpu rfl rfl ?_; refine Lpu rfl rfl ?_
 refine L.bool 20 rfl (fun hg20 => ?_) (fun hg20 => ?_)
 ·
  replace hg20 := i_eq hg20
  refine L.yes rfl ?_; refine Lpu rfl rfl ?_; refine L.yes rfl ?_; refine L.step (Ev.toStr rfl rfl rfl rfl rfl rfl rfl (Src.o 0 rfl)) rfl ?_; refine L.yes rfl ?_; refine Lpu rfl rfl ?_; refine L.yes rfl ?_; refine L.step (Ev.toStr rfl rfl rfl rfl rfl rfl rfl (Src.r 2 rfl)) rfl ?_; refine L.yes rfl ?_; refine L.step (Ev.cast (u := .bool true) (Ev.eqStr rfl rfl) (by simp)) rfl ?_; refine Lpu rfl rfl ?_; refine Lpu rfl rfl ?_; refine L.nil (QE.seq (C.ret ?_)); refine QE.ret (js := []) (hs := []) (vs := [_]) rfl ⟨rfl, trivial⟩ (by decide) ?_
  exact ⟨rfl, rfl, rfl⟩
 ·
  replace hg20 := i_ne hg20
  exact absurd rfl hg20

end Go.Proofs.YtbkmahjhhncfcaaGreat
