/-
  Apply of the program.
-/
import Derived.Test.YtdkilfnbilohmaaVWOyA
namespace Go.Proofs.Ytdkilfnbilohmaa
open Go.Sl

theorem apply_ok {old : List UInt8} {inn out : Int} {ops : List Po} (hE : chkE inn out ops = 0) (hin : inn = (old.length : Int)) : runOk old (syS inn out ops) ∧ (syS inn out ops).length ≤ 1000000 := by
 obtain ⟨k1, k2, k3, k4, k5, k6⟩ := chkE_ok hE
 have hs : syS inn out ops = symL ops := by unfold syS; rw [if_pos hE]
 have htot := chkG_tot ops out k3 k6
 rw [hs]
 refine ⟨fun i hi ho => ?_, by omega⟩
 have hat := symL_atI k6 (k := i) hi
 have := hat.2.1 ho
 omega

set_option maxHeartbeats 1000000 in
theorem apply_c (B : Option Addr) (old : List UInt8) (bc : Nat) (lf : Bool) (inn out : Int) (ops : List Po) (OA : Option Addr) (oc : Nat) (hops : ops.length ≤ 9223372036854775807) (hlf : lf = false) (hE : chkE inn out ops = 0) (hin : inn = (old.length : Int)) :
   Ctr X 9 [.slice B old.length bc, .agg (List.toArray [.bool lf, .int .i64 inn, .int .i64 out, .slice OA ops.length oc])] [Rd B (U8 old), Rd OA (opsV ops)] [] (fun v R' H' => ∃ (A : Option Addr) (c : Nat), v = .tuple #[.slice A (runB old (syS inn out ops)).length c, .int .i64 0] ∧ R' = [] ∧ H' = [Own 5 1 A (runB old (syS inn out ops)).length c (U8 (runB old (syS inn out ops)))]) := by
 refine Ctr.of (X := X) (fn := Try.f9) Try.func9 rfl (by kernel_rfl) rfl ?_
 intro β
 have hrun := apply_ok hE hin
 refine C.seq (C.region ?_)
 refine L.boxA rfl rfl (fun A3 => ?_)
 refine Lpu rfl rfl ?_; refine Lpu rfl rfl ?_; refine L.nil (QE.seq (C.seq ?_)); refine C.freeze 0 rfl [] (by decide) (by decide) ?_; refine C.region ?_; refine L.step (Ev.loadA (vs := [.bool lf, .int .i64 inn, .int .i64 out, .slice OA ops.length oc]) rfl rfl rfl (Src.r 0 rfl) rfl rfl (by decide)) rfl ?_; refine L.call (js := []) (js' := []) (symbols_c lf inn out ops OA oc hops) rfl rfl rfl (by decide) (Hq [2] rfl) rfl ?_
 rintro _ _ _ ⟨SA, sc, rfl, rfl, rfl⟩
 refine L.norm (H' := [_]) [0] ⟨rfl, trivial⟩ (by decide) ?_; refine Lpu rfl rfl ?_; refine Lpu rfl rfl ?_; refine Lpu rfl rfl ?_; refine Lpu rfl rfl ?_; refine Lpu rfl rfl ?_; refine L.nil (QE.seq (C.seq (C.seq ?_))); refine C.freeze 0 rfl [] (by decide) (by decide) ?_; refine C.region ?_; refine Lpu rfl rfl ?_; refine Lpu rfl rfl ?_; refine L.nil (QE.seq ?_)
 refine C.condB 18 rfl (fun hc18 => ?_) (fun hc18 => ?_)
 ·
  replace hc18 := b_ne hc18
  exact absurd hE hc18
 ·
  replace hc18 := b_eq hc18
  refine C.skip (QE.seq (C.seq (C.seq (C.region ?_)))); refine L.step (Ev.fieldAddr rfl rfl rfl rfl rfl rfl (Src.r 1 rfl) (Nat.zero_lt_succ _) rfl) rfl ?_; refine L.step (Ev.load rfl rfl rfl (Src.r 1 rfl) rfl) rfl ?_; refine L.nil (QE.seq ?_)
  refine C.condB 21 rfl (fun hc21 => ?_) (fun hc21 => ?_)
  ·
   rw [hlf] at hc21; cases hc21
  ·
   refine C.skip (QE.seq (C.seq (C.seq (C.region ?_)))); refine Lpu rfl rfl ?_; refine Lpu rfl rfl ?_; refine L.step (Ev.fieldAddr rfl rfl rfl rfl rfl rfl (Src.r 1 rfl) (Nat.zero_lt_succ _) rfl) rfl ?_; refine L.step (Ev.load rfl rfl rfl (Src.r 1 rfl) rfl) rfl ?_; refine Lpu rfl rfl ?_; refine L.nil (QE.seq ?_)
   refine C.condB 35 rfl (fun hc35 => ?_) (fun hc35 => ?_)
   ·
    replace hc35 := b_ne hc35
    omega
   ·
    replace hc35 := b_eq hc35
    refine C.skip (QE.seq (C.seq (C.region ?_))); refine Lpu rfl rfl ?_; refine Lpu rfl rfl ?_; refine L.call (js := []) (js' := []) (run_c B SA old (syS inn out ops) bc sc hrun.2 hrun.1) rfl rfl rfl (by decide) (Hq [2, 0] rfl) rfl ?_
    rintro _ _ _ ⟨YA, yc, rfl, rfl, rfl⟩
    refine L.norm (H' := [_]) [0] ⟨rfl, trivial⟩ (by decide) ?_; refine Lpu rfl rfl ?_; refine Lpu rfl rfl ?_; refine Lpu rfl rfl ?_; refine Lpu rfl rfl ?_; refine Lpu rfl rfl ?_; refine L.nil (QE.seq (C.seq (C.seq (C.region ?_)))); refine Lpu rfl rfl ?_; refine Lpu rfl rfl ?_; refine Lpu rfl rfl ?_
    refine L.bool 44 rfl (fun hg44 => ?_) (fun hg44 => ?_)
    ·
     replace hg44 := b_ne hg44
     exact absurd rfl hg44
    ·
     replace hg44 := b_eq hg44
     refine L.yes rfl ?_; refine L.step (Ev.fieldAddr rfl rfl rfl rfl rfl rfl (Src.r 1 rfl) (Nat.zero_lt_succ _) rfl) rfl ?_; refine L.yes rfl ?_; refine L.step (Ev.load rfl rfl rfl (Src.r 1 rfl) rfl) rfl ?_; refine L.yes rfl ?_; refine Lpu rfl rfl ?_; refine Lpu rfl rfl ?_; refine L.nil (QE.seq ?_)
     refine C.condB 48 rfl (fun hc48 => ?_) (fun hc48 => ?_)
     ·
      refine C.seq (C.region ?_); refine Lpu rfl rfl ?_; refine Lpu rfl rfl ?_; refine Lpu rfl rfl ?_; refine Lpu rfl rfl ?_; refine L.nil (QE.seq (C.ret (QE.tR ?_))); refine QE.ret (js := []) (hs := [0]) (vs := [_, _]) rfl ⟨rfl, rfl, trivial⟩ (by decide) ?_
      exact ⟨YA, yc, rfl, rfl, rfl⟩
     ·
      rw [hlf] at hc48; cases hc48

end Go.Proofs.Ytdkilfnbilohmaa
