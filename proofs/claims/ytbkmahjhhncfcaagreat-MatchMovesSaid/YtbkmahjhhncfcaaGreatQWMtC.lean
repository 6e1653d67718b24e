/-
  Windows.
-/
import Derived.Test.YtbkmahjhhncfcaaGreatQSlO
namespace Go.Proofs.YtbkmahjhhncfcaaGreat
open Go.Sl

theorem less_c (a b : Int) :
   Ctr X 85 [.int .i64 a, .int .i64 b] [] [] (fun v R' H' => v = .bool (decide (a < b)) ∧ R' = [] ∧ H' = []) := by
 refine Ctr.of (X := X) (fn := Tryz.f85) Tryz.func85 rfl (by kernel_rfl) rfl ?_
 intro β
 refine C.seq (C.region ?_); refine Lpu rfl rfl ?_; refine L.nil (QE.seq (C.seq (C.region ?_))); refine Lpu rfl rfl ?_; refine Lpu rfl rfl ?_; refine Lpu rfl rfl ?_; refine Lpu rfl rfl ?_; refine L.nil (QE.seq (C.ret ?_)); refine QE.ret (js := []) (hs := []) (vs := [_]) rfl ⟨rfl, trivial⟩ (by decide) ?_
 exact ⟨rfl, rfl, rfl⟩

set_option maxHeartbeats 2000000 in
theorem add_c (WA PA VA : Option Addr) (pc vc : Nat) (ps vs : List Nat) (place x : Nat) (hl : ps.length = vs.length) (hv : vs.length ≤ 65537) (_hp : place ≤ 1000000) (_hx : x ≤ 1000000) :
   Ctr X 86 [ptrOf WA 0, .int .i64 (place : Int), .int .i64 (x : Int)] [] [Own 145 3 WA 1 1 [.slice PA ps.length pc, .slice VA vs.length vc, .func (.func 85) #[] #[]], OwnW 3 PA ps.length pc (Ni ps), OwnW 3 VA vs.length vc (Ni vs)] (fun v R' H' => ∃ (PA' VA' : Option Addr) (pc' vc' : Nat), v = .tuple #[] ∧ R' = [] ∧ H' = [Own 145 3 WA 1 1 [.slice PA' (ps.take (kpN x vs vs.length) ++ [place]).length pc', .slice VA' (vs.take (kpN x vs vs.length) ++ [x]).length vc', .func (.func 85) #[] #[]], OwnW 3 PA' (ps.take (kpN x vs vs.length) ++ [place]).length pc' (Ni (ps.take (kpN x vs vs.length) ++ [place])), OwnW 3 VA' (vs.take (kpN x vs vs.length) ++ [x]).length vc' (Ni (vs.take (kpN x vs vs.length) ++ [x]))]) := by
 refine Ctr.of (X := X) (fn := Tryz.f86) Tryz.func86 rfl (by kernel_rfl) rfl ?_
 intro β
 refine C.seq (C.region ?_); refine Lpu rfl rfl ?_; refine L.step (Ev.nilCheck rfl (Src.o 0 rfl) (Nat.zero_lt_succ _)) rfl ?_; refine L.step (Ev.fieldAddr rfl rfl rfl rfl rfl rfl (Src.o 0 rfl) (Nat.zero_lt_succ _) rfl) rfl ?_; refine L.step (Ev.load rfl rfl rfl (Src.o 0 rfl) rfl) rfl ?_; refine Lpu rfl rfl ?_; refine Lpu rfl rfl ?_; refine L.nil (QE.seq ?_); refine C.seqJ (fun m : Nat => [(0, ptrOf WA 0), (1, .int .i64 (place : Int)), (2, .int .i64 (x : Int)), (6, .int .i64 (m : Int))]) (fun m : Nat => []) (fun m : Nat => [Own 145 3 WA 1 1 [.slice PA ps.length pc, .slice VA vs.length vc, .func (.func 85) #[] #[]], OwnW 3 PA ps.length pc (Ni ps), OwnW 3 VA vs.length vc (Ni vs)]) (fun m : Nat => m = (kpN x vs vs.length)) ?_ ?_
 ·
  refine C.block ?_; refine C.loop (fun k : Nat => [(0, ptrOf WA 0), (1, .int .i64 (place : Int)), (2, .int .i64 (x : Int)), (6, .int .i64 (k : Int))]) (fun k : Nat => []) (fun k : Nat => [Own 145 3 WA 1 1 [.slice PA ps.length pc, .slice VA vs.length vc, .func (.func 85) #[] #[]], OwnW 3 PA ps.length pc (Ni ps), OwnW 3 VA vs.length vc (Ni vs)]) (fun k : Nat => k ≤ vs.length ∧ (kpN x vs vs.length) = kpN x vs k) (fun k : Nat => k) vs.length ⟨Nat.le_refl _, rfl⟩ (by exact Le.mk' (rs := []) (hs := [0, 1, 2]) ⟨rfl, rfl, rfl, rfl, trivial⟩ trivial ⟨rfl, rfl, rfl, trivial⟩ (by decide)) ?_
  rintro k ⟨hk, hkn⟩
  refine C.seq (C.seq ?_); refine C.regionQ (by kernel_rfl) ?_; refine LQ.step (Ev.pure rfl) rfl ?_; refine LQ.step (Ev.pure rfl) rfl ?_; refine LQ.step (Ev.pure rfl) rfl ?_
  refine LQ.bool 14 rfl (fun hg14 => ?_) (fun hg14 => ?_)
  ·
   replace hg14 := of_decide_eq_true hg14
   refine LQ.yes rfl ?_; refine LQ.step (Ev.pure rfl) rfl ?_; refine LQ.yes rfl ?_; refine LQ.step (Ev.nilCheck rfl (Src.o 0 rfl) (Nat.zero_lt_succ _)) rfl ?_; refine LQ.yes rfl ?_; refine LQ.step (Ev.fieldAddr rfl rfl rfl rfl rfl rfl (Src.o 0 rfl) (Nat.zero_lt_succ _) rfl) rfl ?_; refine LQ.yes rfl ?_; refine LQ.step (Ev.load rfl rfl rfl (Src.o 0 rfl) rfl) rfl ?_; refine LQ.yes rfl ?_; refine LQ.step (Ev.pure rfl) rfl ?_; refine LQ.yes rfl ?_; refine LQ.step (Ev.nilCheck rfl (Src.o 0 rfl) (Nat.zero_lt_succ _)) rfl ?_; refine LQ.yes rfl ?_; refine LQ.step (Ev.fieldAddr rfl rfl rfl rfl rfl rfl (Src.o 0 rfl) (Nat.zero_lt_succ _) rfl) rfl ?_; refine LQ.yes rfl ?_; refine LQ.step (Ev.load rfl rfl rfl (Src.o 0 rfl) rfl) rfl ?_; refine LQ.yes rfl ?_; refine LQ.step (Ev.pure rfl) rfl ?_; refine LQ.yes rfl ?_; refine LQ.step (Ev.sub rfl rfl (by omega) (by omega)) rfl ?_; refine LQ.yes rfl ?_; refine LQ.step (Ev.idx1 (k := k - 1) rfl rfl rfl rfl rfl rfl (by omega) (by omega) (Src.w 2 rfl) (by rw [Ni_len]; omega)) rfl ?_; refine LQ.yes rfl ?_; refine LQ.step (Ev.load rfl rfl rfl (Src.w 2 rfl) (Ni_get (by omega))) rfl ?_; refine LQ.yes rfl ?_; refine LQ.step (Ev.pure rfl) rfl ?_; refine LQ.yes rfl ?_; refine LQ.callv (.bool (decide (((vs.getD (k - 1) 0 : Nat) : Int) < (x : Int)))) (less_c _ _) (fun _ _ _ h => h.1) rfl rfl rfl trivial rfl ?_; refine LQ.yes rfl ?_; refine LQ.step (Ev.pure rfl) rfl ?_; refine LQ.step (Ev.pure rfl) rfl ?_; refine LQ.nil ?_; refine QE.seq ?_
   refine C.condB 30 rfl (fun hc30 => ?_) (fun hc30 => ?_)
   ·
    have hge : ¬ vs.getD (k - 1) 0 < x := by simpa using hc30
    refine C.skip (QE.seq (C.block (C.region ?_))); refine Lpu rfl rfl ?_; refine L.step (Ev.sub rfl rfl (by omega) (by omega)) rfl ?_; refine Lpu rfl rfl ?_; refine L.nil ?_; refine QE.blkN ?_
    refine QE.round (k - 1) (by exact ⟨by omega, by rw [hkn, kpN_pred (by omega) hge]⟩) (by omega) (by exact Le.mk' (rs := []) (hs := [0, 1, 2]) ⟨rfl, rfl, rfl, (congrArg some (congrArg (Value.int .i64) (by omega))), trivial⟩ trivial ⟨rfl, rfl, rfl, trivial⟩ (by decide))
   ·
    have hlt : vs.getD (k - 1) 0 < x := by simpa using hc30
    refine C.exit ?_; refine QE.tX ?_; refine QE.tX ?_; refine QE.blk ?_
    refine QE.join (k) (by rw [hkn, kpN_stop (by omega) hlt]) (by exact Le.mk' (rs := []) (hs := [0, 1, 2]) ⟨rfl, rfl, rfl, rfl, trivial⟩ trivial ⟨rfl, rfl, rfl, trivial⟩ (by decide))
  ·
   replace hg14 := of_decide_eq_false hg14
   refine LQ.no rfl rfl rfl ?_; refine LQ.no rfl rfl rfl ?_; refine LQ.no rfl rfl rfl ?_; refine LQ.no rfl rfl rfl ?_; refine LQ.no rfl rfl rfl ?_; refine LQ.no rfl rfl rfl ?_; refine LQ.no rfl rfl rfl ?_; refine LQ.no rfl rfl rfl ?_; refine LQ.no rfl rfl rfl ?_; refine LQ.no rfl rfl rfl ?_; refine LQ.no rfl rfl rfl ?_; refine LQ.no rfl rfl rfl ?_; refine LQ.no rfl rfl rfl ?_; refine LQ.no rfl rfl rfl ?_; refine LQ.no rfl rfl rfl ?_; refine LQ.step (Ev.pure rfl) rfl ?_; refine LQ.nil ?_; refine QE.seq ?_
   refine C.cond rfl (fun h => by cases h) (fun _ => ?_)
   refine C.exit ?_; refine QE.tX ?_; refine QE.tX ?_; refine QE.blk ?_
   have hk0 : k = 0 := by omega
   subst hk0
   refine QE.join (0) (by rw [hkn]; rfl) (by exact Le.mk' (rs := []) (hs := [0, 1, 2]) ⟨rfl, rfl, rfl, rfl, trivial⟩ trivial ⟨rfl, rfl, rfl, trivial⟩ (by decide))
 ·
  intro m hm
  have hmle := kpN_le x vs vs.length
  rw [← hm] at hmle
  refine C.capW 1 rfl (fun hpc => ?_)
  refine C.capW 2 rfl (fun hvc => ?_)
  refine C.join (fun s : Option Addr × Nat × Option Addr × Nat => []) (fun s : Option Addr × Nat × Option Addr × Nat => []) (fun s : Option Addr × Nat × Option Addr × Nat => [Own 145 3 WA 1 1 [.slice s.1 ((kpN x vs vs.length) + 1) s.2.1, .slice s.2.2.1 ((kpN x vs vs.length) + 1) s.2.2.2, .func (.func 85) #[] #[]], OwnW 3 s.1 ((kpN x vs vs.length) + 1) s.2.1 (Ni (ps.take (kpN x vs vs.length) ++ [place])), OwnW 3 s.2.2.1 ((kpN x vs vs.length) + 1) s.2.2.2 (Ni (vs.take (kpN x vs vs.length) ++ [x]))]) (fun s : Option Addr × Nat × Option Addr × Nat => True) ?_ ?_
  ·
   refine C.regionP ?_; refine LP.mv 1 rfl (by kernel_rfl) rfl rfl ?_; refine LP.m [Rd WA [.slice PA ps.length pc, .slice VA vs.length vc, .func (.func 85) #[] #[]]] ⟨Has.o 0 rfl, trivial⟩ ?_; refine LM.q 0 rfl (by kernel_rfl) (Ev.pure rfl) rfl ⟨Has.o 0 rfl, trivial⟩ ?_; refine LM.q 2 rfl (by kernel_rfl) (Ev.pure rfl) rfl ⟨Has.o 0 rfl, trivial⟩ ?_; refine LM.q 3 rfl (by kernel_rfl) (Ev.nilCheck rfl (Src.r 0 rfl) (Nat.zero_lt_succ _)) rfl ⟨Has.o 0 rfl, trivial⟩ ?_; refine LM.q 4 rfl (by kernel_rfl) (Ev.fieldAddr rfl rfl rfl rfl rfl rfl (Src.r 0 rfl) (Nat.zero_lt_succ _) rfl) rfl ⟨Has.o 0 rfl, trivial⟩ ?_; refine LM.q 5 rfl (by kernel_rfl) (Ev.load rfl rfl rfl (Src.r 0 rfl) rfl) rfl ⟨Has.o 0 rfl, trivial⟩ ?_; refine LM.q 6 rfl (by kernel_rfl) (Ev.pure rfl) rfl ⟨Has.o 0 rfl, trivial⟩ ?_; refine LM.q 7 rfl (by kernel_rfl) (Ev.sliceH (h := m) rfl rfl rfl rfl rfl rfl (by omega)) rfl ⟨Has.o 0 rfl, trivial⟩ ?_; refine LM.q 8 rfl (by kernel_rfl) (Ev.pure rfl) rfl ⟨Has.o 0 rfl, trivial⟩ ?_; refine LM.q 11 rfl (by kernel_rfl) (Ev.pure rfl) rfl ⟨Has.o 0 rfl, trivial⟩ ?_; refine LM.q 12 rfl (by kernel_rfl) (Ev.nilCheck rfl (Src.r 0 rfl) (Nat.zero_lt_succ _)) rfl ⟨Has.o 0 rfl, trivial⟩ ?_; refine LM.q 13 rfl (by kernel_rfl) (Ev.fieldAddr rfl rfl rfl rfl rfl rfl (Src.r 0 rfl) (Nat.zero_lt_succ _) rfl) rfl ⟨Has.o 0 rfl, trivial⟩ ?_; refine LM.q 14 rfl (by kernel_rfl) (Ev.load rfl rfl rfl (Src.r 0 rfl) rfl) rfl ⟨Has.o 0 rfl, trivial⟩ ?_; refine LM.q 15 rfl (by kernel_rfl) (Ev.pure rfl) rfl ⟨Has.o 0 rfl, trivial⟩ ?_; refine LM.q 16 rfl (by kernel_rfl) (Ev.sliceH (h := m) rfl rfl rfl rfl rfl rfl (by omega)) rfl ⟨Has.o 0 rfl, trivial⟩ ?_; refine LM.q 17 rfl (by kernel_rfl) (Ev.pure rfl) rfl ⟨Has.o 0 rfl, trivial⟩ ?_
   refine LM.alt [9, 18] (by kernel_rfl) (by decide) ⟨Has.o 0 rfl, trivial⟩ ⟨⟨_, rfl, ?_⟩, ⟨_, rfl, ?_⟩, trivial⟩
   ·
    refine L.lit rfl rfl rfl rfl rfl (by rfl) (by rfl) (by rfl) rfl rfl (fun A42 => ?_)
    refine L.nil (QE.m (by kernel_rfl) ?_)
    refine LM.alt [10, 18] (by kernel_rfl) (by decide) ⟨Has.o 0 rfl, trivial⟩ ⟨⟨_, rfl, ?_⟩, ⟨_, rfl, ?_⟩, trivial⟩
    ·
     refine L.appendW (j := 1) (m := m) (v := .int .i64 (place : Int)) rfl rfl rfl rfl rfl rfl rfl rfl (by omega) (Src.o 3 rfl) rfl (by omega) (by decide) rfl (fun A43 cc43 => ?_)
     refine L.nil (QE.m (by kernel_rfl) ?_)
     refine LM.f 18 rfl (by kernel_rfl) ⟨Has.o 0 rfl, trivial⟩ ?_
     refine L.lit rfl rfl rfl rfl rfl (by rfl) (by rfl) (by rfl) rfl rfl (fun A51 => ?_)
     refine L.nil (QE.m (by kernel_rfl) ?_)
     refine LM.f 19 rfl (by kernel_rfl) ⟨Has.o 0 rfl, trivial⟩ ?_
     refine L.appendW (j := 2) (m := m) (v := .int .i64 (x : Int)) rfl rfl rfl rfl rfl rfl rfl rfl (by omega) (Src.o 4 rfl) rfl (by omega) (by decide) rfl (fun A52 cc52 => ?_)
     refine L.nil (QE.m (by kernel_rfl) ?_)
     refine LM.cut [] (by kernel_rfl) ⟨Has.o 0 rfl, trivial⟩ ?_; refine LM.f 20 rfl (by kernel_rfl) trivial ?_; refine L.step (Ev.nilCheck rfl (Src.o 0 rfl) (Nat.zero_lt_succ _)) rfl ?_
     refine L.nil (QE.m (by kernel_rfl) ?_)
     refine LM.f 21 rfl (by kernel_rfl) trivial ?_; refine L.step (Ev.fieldAddr rfl rfl rfl rfl rfl rfl (Src.o 0 rfl) (Nat.zero_lt_succ _) rfl) rfl ?_
     refine L.nil (QE.m (by kernel_rfl) ?_)
     refine LM.f 22 rfl (by kernel_rfl) trivial ?_; refine L.store (j := 0) rfl rfl rfl rfl rfl rfl rfl rfl ?_
     refine L.nil (QE.m (by kernel_rfl) ?_)
     refine LM.f 23 rfl (by kernel_rfl) trivial ?_; refine L.step (Ev.nilCheck rfl (Src.o 0 rfl) (Nat.zero_lt_succ _)) rfl ?_
     refine L.nil (QE.m (by kernel_rfl) ?_)
     refine LM.f 24 rfl (by kernel_rfl) trivial ?_; refine L.step (Ev.fieldAddr rfl rfl rfl rfl rfl rfl (Src.o 0 rfl) (Nat.zero_lt_succ _) rfl) rfl ?_
     refine L.nil (QE.m (by kernel_rfl) ?_)
     refine LM.f 25 rfl (by kernel_rfl) trivial ?_; refine L.store (j := 0) rfl rfl rfl rfl rfl rfl rfl rfl ?_
     refine L.nil (QE.m (by kernel_rfl) ?_)
     refine LM.nil (by kernel_rfl) trivial ?_
     try subst hm
     refine QE.joined ((A43, cc43, A52, cc52)) (by exact trivial) (by exact Le.mk' (rs := []) (hs := [0, 1, 2]) trivial trivial ⟨rfl, (congrArg (fun l => some (OwnW 3 A43 ((kpN x vs vs.length) + 1) cc43 l)) (by rw [Ni_take]; exact Ni_app _ [place])), (congrArg (fun l => some (OwnW 3 A52 ((kpN x vs vs.length) + 1) cc52 l)) (by rw [Ni_take]; exact Ni_app _ [x])), trivial⟩ (by decide))
    ·
     refine L.lit rfl rfl rfl rfl rfl (by rfl) (by rfl) (by rfl) rfl rfl (fun A51 => ?_)
     refine L.nil (QE.m (by kernel_rfl) ?_)
     refine LM.f 10 rfl (by kernel_rfl) ⟨Has.o 0 rfl, trivial⟩ ?_
     refine L.appendW (j := 1) (m := m) (v := .int .i64 (place : Int)) rfl rfl rfl rfl rfl rfl rfl rfl (by omega) (Src.o 3 rfl) rfl (by omega) (by decide) rfl (fun A43 cc43 => ?_)
     refine L.nil (QE.m (by kernel_rfl) ?_)
     refine LM.f 19 rfl (by kernel_rfl) ⟨Has.o 0 rfl, trivial⟩ ?_
     refine L.appendW (j := 2) (m := m) (v := .int .i64 (x : Int)) rfl rfl rfl rfl rfl rfl rfl rfl (by omega) (Src.o 4 rfl) rfl (by omega) (by decide) rfl (fun A52 cc52 => ?_)
     refine L.nil (QE.m (by kernel_rfl) ?_)
     refine LM.cut [] (by kernel_rfl) ⟨Has.o 0 rfl, trivial⟩ ?_; refine LM.f 20 rfl (by kernel_rfl) trivial ?_; refine L.step (Ev.nilCheck rfl (Src.o 0 rfl) (Nat.zero_lt_succ _)) rfl ?_
     refine L.nil (QE.m (by kernel_rfl) ?_)
     refine LM.f 21 rfl (by kernel_rfl) trivial ?_; refine L.step (Ev.fieldAddr rfl rfl rfl rfl rfl rfl (Src.o 0 rfl) (Nat.zero_lt_succ _) rfl) rfl ?_
     refine L.nil (QE.m (by kernel_rfl) ?_)
     refine LM.f 22 rfl (by kernel_rfl) trivial ?_; refine L.store (j := 0) rfl rfl rfl rfl rfl rfl rfl rfl ?_
     refine L.nil (QE.m (by kernel_rfl) ?_)
     refine LM.f 23 rfl (by kernel_rfl) trivial ?_; refine L.step (Ev.nilCheck rfl (Src.o 0 rfl) (Nat.zero_lt_succ _)) rfl ?_
     refine L.nil (QE.m (by kernel_rfl) ?_)
     refine LM.f 24 rfl (by kernel_rfl) trivial ?_; refine L.step (Ev.fieldAddr rfl rfl rfl rfl rfl rfl (Src.o 0 rfl) (Nat.zero_lt_succ _) rfl) rfl ?_
     refine L.nil (QE.m (by kernel_rfl) ?_)
     refine LM.f 25 rfl (by kernel_rfl) trivial ?_; refine L.store (j := 0) rfl rfl rfl rfl rfl rfl rfl rfl ?_
     refine L.nil (QE.m (by kernel_rfl) ?_)
     refine LM.nil (by kernel_rfl) trivial ?_
     try subst hm
     refine QE.joined ((A43, cc43, A52, cc52)) (by exact trivial) (by exact Le.mk' (rs := []) (hs := [0, 1, 2]) trivial trivial ⟨rfl, (congrArg (fun l => some (OwnW 3 A43 ((kpN x vs vs.length) + 1) cc43 l)) (by rw [Ni_take]; exact Ni_app _ [place])), (congrArg (fun l => some (OwnW 3 A52 ((kpN x vs vs.length) + 1) cc52 l)) (by rw [Ni_take]; exact Ni_app _ [x])), trivial⟩ (by decide))
   ·
    refine L.lit rfl rfl rfl rfl rfl (by rfl) (by rfl) (by rfl) rfl rfl (fun A51 => ?_)
    refine L.nil (QE.m (by kernel_rfl) ?_)
    refine LM.f 9 rfl (by kernel_rfl) ⟨Has.o 0 rfl, trivial⟩ ?_
    refine L.lit rfl rfl rfl rfl rfl (by rfl) (by rfl) (by rfl) rfl rfl (fun A42 => ?_)
    refine L.nil (QE.m (by kernel_rfl) ?_)
    refine LM.f 10 rfl (by kernel_rfl) ⟨Has.o 0 rfl, trivial⟩ ?_
    refine L.appendW (j := 1) (m := m) (v := .int .i64 (place : Int)) rfl rfl rfl rfl rfl rfl rfl rfl (by omega) (Src.o 4 rfl) rfl (by omega) (by decide) rfl (fun A43 cc43 => ?_)
    refine L.nil (QE.m (by kernel_rfl) ?_)
    refine LM.f 19 rfl (by kernel_rfl) ⟨Has.o 0 rfl, trivial⟩ ?_
    refine L.appendW (j := 2) (m := m) (v := .int .i64 (x : Int)) rfl rfl rfl rfl rfl rfl rfl rfl (by omega) (Src.o 3 rfl) rfl (by omega) (by decide) rfl (fun A52 cc52 => ?_)
    refine L.nil (QE.m (by kernel_rfl) ?_)
    refine LM.cut [] (by kernel_rfl) ⟨Has.o 0 rfl, trivial⟩ ?_; refine LM.f 20 rfl (by kernel_rfl) trivial ?_; refine L.step (Ev.nilCheck rfl (Src.o 0 rfl) (Nat.zero_lt_succ _)) rfl ?_
    refine L.nil (QE.m (by kernel_rfl) ?_)
    refine LM.f 21 rfl (by kernel_rfl) trivial ?_; refine L.step (Ev.fieldAddr rfl rfl rfl rfl rfl rfl (Src.o 0 rfl) (Nat.zero_lt_succ _) rfl) rfl ?_
    refine L.nil (QE.m (by kernel_rfl) ?_)
    refine LM.f 22 rfl (by kernel_rfl) trivial ?_; refine L.store (j := 0) rfl rfl rfl rfl rfl rfl rfl rfl ?_
    refine L.nil (QE.m (by kernel_rfl) ?_)
    refine LM.f 23 rfl (by kernel_rfl) trivial ?_; refine L.step (Ev.nilCheck rfl (Src.o 0 rfl) (Nat.zero_lt_succ _)) rfl ?_
    refine L.nil (QE.m (by kernel_rfl) ?_)
    refine LM.f 24 rfl (by kernel_rfl) trivial ?_; refine L.step (Ev.fieldAddr rfl rfl rfl rfl rfl rfl (Src.o 0 rfl) (Nat.zero_lt_succ _) rfl) rfl ?_
    refine L.nil (QE.m (by kernel_rfl) ?_)
    refine LM.f 25 rfl (by kernel_rfl) trivial ?_; refine L.store (j := 0) rfl rfl rfl rfl rfl rfl rfl rfl ?_
    refine L.nil (QE.m (by kernel_rfl) ?_)
    refine LM.nil (by kernel_rfl) trivial ?_
    try subst hm
    refine QE.joined ((A43, cc43, A52, cc52)) (by exact trivial) (by exact Le.mk' (rs := []) (hs := [0, 1, 2]) trivial trivial ⟨rfl, (congrArg (fun l => some (OwnW 3 A43 ((kpN x vs vs.length) + 1) cc43 l)) (by rw [Ni_take]; exact Ni_app _ [place])), (congrArg (fun l => some (OwnW 3 A52 ((kpN x vs vs.length) + 1) cc52 l)) (by rw [Ni_take]; exact Ni_app _ [x])), trivial⟩ (by decide))
  ·
   rintro ⟨PB, pb, VB, vb⟩ -
   refine QE.retN ?_; refine QE.ret (js := []) (hs := [0, 1, 2]) (vs := []) rfl trivial (by decide) ?_
   have hm1 := kpN_le x vs vs.length
   have e1 : (ps.take (kpN x vs vs.length) ++ [place]).length = (kpN x vs vs.length) + 1 := by rw [List.length_append, List.length_take, Nat.min_eq_left (by omega)]; rfl
   have e2 : (vs.take (kpN x vs vs.length) ++ [x]).length = (kpN x vs vs.length) + 1 := by rw [List.length_append, List.length_take, Nat.min_eq_left (by omega)]; rfl
   rw [e1, e2]
   exact ⟨PB, VB, pb, vb, rfl, rfl, rfl⟩

set_option maxHeartbeats 2000000 in
theorem least_c (WA PA VA : Option Addr) (pc vc : Nat) (ps vs : List Nat) (from_ : Nat) (hl : ps.length = vs.length) (hne : ∃ p ∈ ps, from_ ≤ p) :
   Ctr X 87 [ptrOf WA 0, .int .i64 (from_ : Int)] [] [Own 145 3 WA 1 1 [.slice PA ps.length pc, .slice VA vs.length vc, .func (.func 85) #[] #[]], OwnW 3 PA ps.length pc (Ni ps), OwnW 3 VA vs.length vc (Ni vs)] (fun v R' H' => ∃ (PA' VA' : Option Addr) (pc' vc' : Nat), v = .int .i64 ((ps.getD (lfN from_ ps) 0 : Nat) : Int) ∧ R' = [] ∧ H' = [Own 145 3 WA 1 1 [.slice PA' (ps.drop (lfN from_ ps)).length pc', .slice VA' (vs.drop (lfN from_ ps)).length vc', .func (.func 85) #[] #[]], OwnW 3 PA' (ps.drop (lfN from_ ps)).length pc' (Ni (ps.drop (lfN from_ ps))), OwnW 3 VA' (vs.drop (lfN from_ ps)).length vc' (Ni (vs.drop (lfN from_ ps)))]) := by
 refine Ctr.of (X := X) (fn := Tryz.f87) Tryz.func87 rfl (by kernel_rfl) rfl ?_
 intro β
 have hhd := lfN_head hne
 refine C.seq (C.region ?_); refine Lpu rfl rfl ?_; refine L.nil (QE.seq (C.seq (C.block ?_))); refine C.loop (fun s : List Nat × List Nat × Option Addr × Nat × Option Addr × Nat => [(0, ptrOf WA 0), (1, .int .i64 (from_ : Int))]) (fun s : List Nat × List Nat × Option Addr × Nat × Option Addr × Nat => []) (fun s : List Nat × List Nat × Option Addr × Nat × Option Addr × Nat => [Own 145 3 WA 1 1 [.slice s.2.2.1 s.1.length s.2.2.2.1, .slice s.2.2.2.2.1 s.2.1.length s.2.2.2.2.2, .func (.func 85) #[] #[]], OwnW 3 s.2.2.1 s.1.length s.2.2.2.1 (Ni s.1), OwnW 3 s.2.2.2.2.1 s.2.1.length s.2.2.2.2.2 (Ni s.2.1)]) (fun s : List Nat × List Nat × Option Addr × Nat × Option Addr × Nat => LsI from_ ps vs s.1 s.2.1) (fun s : List Nat × List Nat × Option Addr × Nat × Option Addr × Nat => s.1.length) (ps, vs, PA, pc, VA, vc) (LsI.start from_ ps vs) (by exact Le.mk' (rs := []) (hs := [0, 1, 2]) ⟨rfl, rfl, trivial⟩ trivial ⟨rfl, rfl, rfl, trivial⟩ (by decide)) ?_
 rintro ⟨rs, ts, QA, qc, UA, uc⟩ hls
 dsimp only at hls ⊢
 obtain ⟨q, qs, u, us, rfl, rfl⟩ := hls.some hl hhd.1
 refine C.seq (C.seq (C.region ?_)); refine Lpu rfl rfl ?_; refine L.step (Ev.nilCheck rfl (Src.o 0 rfl) (Nat.zero_lt_succ _)) rfl ?_; refine L.step (Ev.fieldAddr rfl rfl rfl rfl rfl rfl (Src.o 0 rfl) (Nat.zero_lt_succ _) rfl) rfl ?_; refine L.step (Ev.load rfl rfl rfl (Src.o 0 rfl) rfl) rfl ?_; refine L.step (Ev.idx1 (k := 0) rfl rfl rfl rfl rfl rfl rfl (Nat.zero_lt_succ _) (Src.w 1 rfl) (Nat.zero_lt_succ _)) rfl ?_; refine L.step (Ev.load rfl rfl rfl (Src.w 1 rfl) rfl) rfl ?_; refine Lpu rfl rfl ?_; refine Lpu rfl rfl ?_; refine L.nil (QE.seq ?_)
 refine C.condB 12 rfl (fun hc12 => ?_) (fun hc12 => ?_)
 ·
  replace hc12 := of_decide_eq_true hc12
  refine C.skip (QE.seq (C.block ?_))
  refine C.someA 0 rfl (fun hWA => ?_)
  refine C.join (fun u_ : Unit => [(0, ptrOf WA 0), (1, .int .i64 (from_ : Int))]) (fun u_ : Unit => []) (fun u_ : Unit => [Own 145 3 WA 1 1 [.slice (subA QA qc 1 1) qs.length (qc - 1), .slice (subA UA uc 1 1) us.length (uc - 1), .func (.func 85) #[] #[]], OwnW 3 QA (qs.length + 1) qc (Ni (q :: qs)), OwnW 3 UA (us.length + 1) uc (Ni (u :: us))]) (fun u_ : Unit => True) ?_ ?_
  ·
   refine C.regionM [] trivial ?_; refine LM.q 0 rfl (by kernel_rfl) (Ev.pure rfl) rfl trivial ?_; refine LM.q 1 rfl (by kernel_rfl) (Ev.pure rfl) rfl trivial ?_; refine LM.q 2 rfl (by kernel_rfl) (Ev.pure rfl) rfl trivial ?_; refine LM.q 3 rfl (by kernel_rfl) (Ev.nilP hWA rfl) rfl trivial ?_; refine LM.q 4 rfl (by kernel_rfl) (Ev.fieldP hWA rfl rfl rfl rfl rfl rfl rfl) rfl trivial ?_; refine LM.q 7 rfl (by kernel_rfl) (Ev.pure rfl) rfl trivial ?_; refine LM.q 8 rfl (by kernel_rfl) (Ev.nilP hWA rfl) rfl trivial ?_; refine LM.q 9 rfl (by kernel_rfl) (Ev.fieldP hWA rfl rfl rfl rfl rfl rfl rfl) rfl trivial ?_
   refine LM.alt [5, 10] (by kernel_rfl) (by decide) trivial ⟨⟨_, rfl, ?_⟩, ⟨_, rfl, ?_⟩, trivial⟩
   ·
    refine L.step (Ev.load rfl rfl rfl (Src.o 0 rfl) rfl) rfl ?_
    refine L.nil (QE.m (by kernel_rfl) ?_)
    refine LM.q 6 rfl (by kernel_rfl) (Ev.sliceL (l := 1) rfl rfl rfl rfl rfl rfl (by simp)) rfl trivial ?_; refine LM.f 10 rfl (by kernel_rfl) trivial ?_; refine L.step (Ev.load rfl rfl rfl (Src.o 0 rfl) rfl) rfl ?_
    refine L.nil (QE.m (by kernel_rfl) ?_)
    refine LM.q 11 rfl (by kernel_rfl) (Ev.sliceL (l := 1) rfl rfl rfl rfl rfl rfl (by simp)) rfl trivial ?_; refine LM.f 12 rfl (by kernel_rfl) trivial ?_; refine L.step (Ev.nilP hWA rfl) rfl ?_
    refine L.nil (QE.m (by kernel_rfl) ?_)
    refine LM.f 13 rfl (by kernel_rfl) trivial ?_; refine L.step (Ev.fieldP hWA rfl rfl rfl rfl rfl rfl rfl) rfl ?_
    refine L.nil (QE.m (by kernel_rfl) ?_)
    refine LM.f 14 rfl (by kernel_rfl) trivial ?_
    first | refine L.store (j := 0) rfl rfl rfl rfl rfl rfl rfl rfl ?_ | refine L.store (j := 1) rfl rfl rfl rfl rfl rfl rfl rfl ?_ | refine L.store (j := 2) rfl rfl rfl rfl rfl rfl rfl rfl ?_ | refine L.store (j := 3) rfl rfl rfl rfl rfl rfl rfl rfl ?_ | refine L.store (j := 4) rfl rfl rfl rfl rfl rfl rfl rfl ?_ | refine L.store (j := 5) rfl rfl rfl rfl rfl rfl rfl rfl ?_
    refine L.nil (QE.m (by kernel_rfl) ?_)
    refine LM.f 15 rfl (by kernel_rfl) trivial ?_; refine L.step (Ev.nilP hWA rfl) rfl ?_
    refine L.nil (QE.m (by kernel_rfl) ?_)
    refine LM.f 16 rfl (by kernel_rfl) trivial ?_; refine L.step (Ev.fieldP hWA rfl rfl rfl rfl rfl rfl rfl) rfl ?_
    refine L.nil (QE.m (by kernel_rfl) ?_)
    refine LM.f 17 rfl (by kernel_rfl) trivial ?_
    first | refine L.store (j := 0) rfl rfl rfl rfl rfl rfl rfl rfl ?_ | refine L.store (j := 1) rfl rfl rfl rfl rfl rfl rfl rfl ?_ | refine L.store (j := 2) rfl rfl rfl rfl rfl rfl rfl rfl ?_ | refine L.store (j := 3) rfl rfl rfl rfl rfl rfl rfl rfl ?_ | refine L.store (j := 4) rfl rfl rfl rfl rfl rfl rfl rfl ?_ | refine L.store (j := 5) rfl rfl rfl rfl rfl rfl rfl rfl ?_
    refine L.nil (QE.m (by kernel_rfl) ?_)
    refine LM.nil (by kernel_rfl) trivial ?_
    refine QE.joined (()) (by exact trivial) (by exact Le.mk' (rs := []) (hs := [0, 1, 2]) ⟨rfl, rfl, trivial⟩ trivial ⟨rfl, rfl, rfl, trivial⟩ (by decide))
   ·
    refine L.step (Ev.load rfl rfl rfl (Src.o 0 rfl) rfl) rfl ?_
    refine L.nil (QE.m (by kernel_rfl) ?_)
    refine LM.q 11 rfl (by kernel_rfl) (Ev.sliceL (l := 1) rfl rfl rfl rfl rfl rfl (by simp)) rfl trivial ?_; refine LM.f 5 rfl (by kernel_rfl) trivial ?_; refine L.step (Ev.load rfl rfl rfl (Src.o 0 rfl) rfl) rfl ?_
    refine L.nil (QE.m (by kernel_rfl) ?_)
    refine LM.f 6 rfl (by kernel_rfl) trivial ?_; refine L.step (Ev.sliceL (l := 1) rfl rfl rfl rfl rfl rfl (by simp)) rfl ?_
    refine L.nil (QE.m (by kernel_rfl) ?_)
    refine LM.f 12 rfl (by kernel_rfl) trivial ?_; refine L.step (Ev.nilP hWA rfl) rfl ?_
    refine L.nil (QE.m (by kernel_rfl) ?_)
    refine LM.f 13 rfl (by kernel_rfl) trivial ?_; refine L.step (Ev.fieldP hWA rfl rfl rfl rfl rfl rfl rfl) rfl ?_
    refine L.nil (QE.m (by kernel_rfl) ?_)
    refine LM.f 14 rfl (by kernel_rfl) trivial ?_
    first | refine L.store (j := 0) rfl rfl rfl rfl rfl rfl rfl rfl ?_ | refine L.store (j := 1) rfl rfl rfl rfl rfl rfl rfl rfl ?_ | refine L.store (j := 2) rfl rfl rfl rfl rfl rfl rfl rfl ?_ | refine L.store (j := 3) rfl rfl rfl rfl rfl rfl rfl rfl ?_ | refine L.store (j := 4) rfl rfl rfl rfl rfl rfl rfl rfl ?_ | refine L.store (j := 5) rfl rfl rfl rfl rfl rfl rfl rfl ?_
    refine L.nil (QE.m (by kernel_rfl) ?_)
    refine LM.f 15 rfl (by kernel_rfl) trivial ?_; refine L.step (Ev.nilP hWA rfl) rfl ?_
    refine L.nil (QE.m (by kernel_rfl) ?_)
    refine LM.f 16 rfl (by kernel_rfl) trivial ?_; refine L.step (Ev.fieldP hWA rfl rfl rfl rfl rfl rfl rfl) rfl ?_
    refine L.nil (QE.m (by kernel_rfl) ?_)
    refine LM.f 17 rfl (by kernel_rfl) trivial ?_
    first | refine L.store (j := 0) rfl rfl rfl rfl rfl rfl rfl rfl ?_ | refine L.store (j := 1) rfl rfl rfl rfl rfl rfl rfl rfl ?_ | refine L.store (j := 2) rfl rfl rfl rfl rfl rfl rfl rfl ?_ | refine L.store (j := 3) rfl rfl rfl rfl rfl rfl rfl rfl ?_ | refine L.store (j := 4) rfl rfl rfl rfl rfl rfl rfl rfl ?_ | refine L.store (j := 5) rfl rfl rfl rfl rfl rfl rfl rfl ?_
    refine L.nil (QE.m (by kernel_rfl) ?_)
    refine LM.nil (by kernel_rfl) trivial ?_
    refine QE.joined (()) (by exact trivial) (by exact Le.mk' (rs := []) (hs := [0, 1, 2]) ⟨rfl, rfl, trivial⟩ trivial ⟨rfl, rfl, rfl, trivial⟩ (by decide))
  ·
   rintro ⟨⟩ -
   refine QE.blkN ?_; refine QE.tailW 1 rfl ?_; refine QE.tailW 2 rfl ?_
   refine QE.round (i := (q :: qs, u :: us, QA, qc, UA, uc)) ((qs, us, subA QA qc 1 1, qc - 1, subA UA uc 1 1, uc - 1)) (by exact (hls.next (by omega))) (Nat.lt_succ_self _) (by exact Le.mk' (rs := []) (hs := [0, 1, 2]) ⟨rfl, rfl, trivial⟩ trivial ⟨rfl, rfl, rfl, trivial⟩ (by decide))
 ·
  replace hc12 := of_decide_eq_false hc12
  refine C.exit ?_; refine QE.tX ?_; refine QE.tX ?_; refine QE.blk ?_; refine QE.seq (C.seq (C.region ?_)); refine Lpu rfl rfl ?_; refine L.step (Ev.nilCheck rfl (Src.o 0 rfl) (Nat.zero_lt_succ _)) rfl ?_; refine L.step (Ev.fieldAddr rfl rfl rfl rfl rfl rfl (Src.o 0 rfl) (Nat.zero_lt_succ _) rfl) rfl ?_; refine L.step (Ev.load rfl rfl rfl (Src.o 0 rfl) rfl) rfl ?_; refine L.step (Ev.idx1 (k := 0) rfl rfl rfl rfl rfl rfl rfl (Nat.zero_lt_succ _) (Src.w 1 rfl) (Nat.zero_lt_succ _)) rfl ?_; refine L.step (Ev.load rfl rfl rfl (Src.w 1 rfl) rfl) rfl ?_; refine Lpu rfl rfl ?_; refine L.nil (QE.seq (C.ret ?_))
  obtain ⟨e1, e2, e3⟩ := hls.stop (by omega)
  refine QE.ret (js := []) (hs := [0, 1, 2]) (vs := [_]) rfl ⟨rfl, trivial⟩ (by decide) ?_
  exact ⟨QA, UA, qc, uc, congrArg (fun n : Nat => Value.int .i64 (n : Int)) e3, rfl, by rw [← e1, ← e2]; rfl⟩

theorem add_w (WA PA VA : Option Addr) (pc vc : Nat) (ps vs : List Nat) (ss : List Sp) (f n : Nat) (h : WiOk ss f n ps vs) (hf : f ≤ n) (hn : n ≤ 65536) (hc : cst ss n ≤ 1000000) :
   Ctr X 86 [ptrOf WA 0, .int .i64 (n : Int), .int .i64 (cst ss n : Int)] [] [Own 145 3 WA 1 1 [.slice PA ps.length pc, .slice VA vs.length vc, .func (.func 85) #[] #[]], OwnW 3 PA ps.length pc (Ni ps), OwnW 3 VA vs.length vc (Ni vs)] (fun v R' H' => ∃ W : Wn, v = .tuple #[] ∧ R' = [] ∧ H' = [Own 145 3 WA 1 1 [.slice W.PA W.ps.length W.pc, .slice W.VA W.vs.length W.vc, .func (.func 85) #[] #[]], OwnW 3 W.PA W.ps.length W.pc (Ni W.ps), OwnW 3 W.VA W.vs.length W.vc (Ni W.vs)] ∧ WiOk ss f (n + 1) W.ps W.vs) := by
 refine (add_c WA PA VA pc vc ps vs n (cst ss n) h.len.1 (by have := h.len.2; omega) (by omega) hc).mono ?_
 rintro _ _ _ ⟨PB, VB, pb, vb, rfl, rfl, rfl⟩
 exact ⟨⟨PB, VB, pb, vb, _, _⟩, rfl, rfl, rfl, h.add hf⟩
theorem least_w (WA PA VA : Option Addr) (pc vc : Nat) (ps vs : List Nat) (ss : List Sp) (f g n : Nat) (h : WiOk ss f n ps vs) (hf : f ≤ g) (hg : g < n) :
   Ctr X 87 [ptrOf WA 0, .int .i64 (g : Int)] [] [Own 145 3 WA 1 1 [.slice PA ps.length pc, .slice VA vs.length vc, .func (.func 85) #[] #[]], OwnW 3 PA ps.length pc (Ni ps), OwnW 3 VA vs.length vc (Ni vs)] (fun v R' H' => ∃ (W : Wn) (k : Nat), v = .int .i64 (k : Int) ∧ R' = [] ∧ H' = [Own 145 3 WA 1 1 [.slice W.PA W.ps.length W.pc, .slice W.VA W.vs.length W.vc, .func (.func 85) #[] #[]], OwnW 3 W.PA W.ps.length W.pc (Ni W.ps), OwnW 3 W.VA W.vs.length W.vc (Ni W.vs)] ∧ g ≤ k ∧ k < n ∧ (∀ j, g ≤ j → j < n → cst ss k ≤ cst ss j) ∧ WiOk ss g n W.ps W.vs) := by
 refine (least_c WA PA VA pc vc ps vs g h.len.1 (h.has hf hg)).mono ?_
 rintro _ _ _ ⟨PB, VB, pb, vb, rfl, rfl, rfl⟩
 obtain ⟨_, h2, h3, h4, h5⟩ := h.cut hf hg
 exact ⟨⟨PB, VB, pb, vb, _, _⟩, _, rfl, rfl, rfl, h2, h3, h4, h5⟩
end Go.Proofs.YtbkmahjhhncfcaaGreat
