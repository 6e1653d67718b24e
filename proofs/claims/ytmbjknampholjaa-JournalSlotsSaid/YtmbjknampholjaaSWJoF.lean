/-
  The contracts of the reference: Slot, State, Fits, Places, Blank, generation.
-/
import Derived.Test.YtmbjknampholjaaSWJoE
namespace Go.Proofs.Ytmbjknampholjaa
open Go.Sl

theorem same_w (A B : Option Addr) (c d : Nat) (xs ys : List UInt8) (m : Nat) (hm : ys.length = m) (h1 : xs.length ≤ 9223372036854775807) (h2 : ys.length ≤ 9223372036854775807) :
    Ctr X 14 [.slice A xs.length c, .slice B m d] [Rd A (U8 xs), Rd B (U8 ys)] [] (fun v R' H' => v = .bool (xs == ys) ∧ R' = [] ∧ H' = []) := by
  subst hm
  exact same_c A B c d xs ys h1 h2

set_option maxHeartbeats 1000000 in
theorem stR_c (A : Option Addr) (c : Nat) (l : List UInt8) (hl : l.length = 30) :
    Ctr X 27 [.slice A l.length c] [Rd A (U8 l)] [] (fun v R' H' => v = .tuple #[.agg (List.toArray (st9 ((stateF l).getD (List.replicate 9 0)))), .bool (stateF l).isSome] ∧ R' = [] ∧ H' = []) := by
  refine Ctr.of (X := X) (fn := Try.f27) Try.func27 rfl (by kernel_rfl) rfl ?_
  intro β
  refine C.seq ?_
  refine C.region ?_
  refine L.alloc rfl rfl rfl (fun A2 => ?_)
  refine L.step (Ev.pure rfl) rfl ?_
  refine L.nil ?_
  refine QE.seq ?_
  refine C.seq ?_
  refine C.region ?_
  refine L.step (Ev.pure rfl) rfl ?_
  refine L.call (js := []) (js' := [0]) (plainR_c A c l (by omega)) rfl rfl rfl (by decide) ⟨(Has.r 0 rfl), trivial⟩ rfl ?_
  rintro _ _ _ ⟨O, oc, rfl, rfl, rfl⟩
  refine L.step (Ev.pure rfl) rfl ?_
  refine L.step (Ev.pure rfl) rfl ?_
  refine L.step (Ev.pure rfl) rfl ?_
  refine L.step (Ev.pure rfl) rfl ?_
  refine L.step (Ev.pure rfl) rfl ?_
  refine L.nil ?_
  refine QE.seq ?_
  refine C.seq ?_
  refine C.seq ?_
  refine C.region ?_
  refine L.step (Ev.pure rfl) rfl ?_
  refine L.step (Ev.pure rfl) rfl ?_
  refine L.step (Ev.pure rfl) rfl ?_
  refine L.bool 13 rfl (fun hg13 => ?_) (fun hg13 => ?_)
  · skip
    have hno := plainF_none hl (by simpa using hg13)
    refine L.no rfl rfl rfl ?_
    refine L.no rfl rfl rfl ?_
    refine L.no rfl rfl rfl ?_
    refine L.step (Ev.pure rfl) rfl ?_
    refine L.nil ?_
    refine QE.seq ?_
    refine C.cond rfl (fun _ => ?_) (fun h => by cases h)
    refine C.seq ?_
    refine C.region ?_
    refine L.step (Ev.build rfl rfl rfl rfl rfl rfl rfl) rfl ?_
    refine L.storeA (j := 1) rfl rfl rfl rfl rfl (Nat.zero_lt_succ _) rfl rfl ?_
    refine L.step (Ev.pure rfl) rfl ?_
    refine L.nil ?_
    refine QE.seq ?_
    refine C.ret ?_
    refine QE.tR ?_
    refine QE.ret (js := []) (hs := []) (vs := [_, _]) rfl ⟨⟨_, _, 0, _, rfl, rfl, Src.o 1 rfl, .inl ⟨rfl, by decide, _, rfl, rfl, rfl⟩⟩, rfl, trivial⟩ (by decide) ?_
    rw [hno]
    exact ⟨rfl, rfl, rfl⟩
  · skip
    obtain ⟨hp, hst⟩ := plainF_some hl (by simpa using hg13)
    have hlen : (plainF l).1.length = 15 := by rw [hp, evenB_len]
    refine L.yes rfl ?_
    refine L.step (Ev.pure rfl) rfl ?_
    refine L.yes rfl ?_
    refine L.step (Ev.pure rfl) rfl ?_
    refine L.yes rfl ?_
    refine L.step (Ev.pure rfl) rfl ?_
    refine L.step (Ev.pure rfl) rfl ?_
    refine L.nil ?_
    refine QE.seq ?_
    refine C.condB 17 rfl (fun hc17 => ?_) (fun hc17 => ?_)
    · skip
      replace hc17 := b_ne hc17
      omega
    · skip
      replace hc17 := b_eq hc17
      refine C.skip ?_
      refine QE.seq ?_
      refine C.seq ?_
      refine C.cap 0 rfl (fun hcap => ?_)
      have hcp : 15 ≤ oc := by rw [← hlen]; exact hcap
      refine C.freeze 0 rfl [1] (by decide) (by decide) ?_
      refine C.regionM [Rd O (U8 (plainF l).1), Rd A (U8 l)] ⟨Has.r 0 rfl, Has.r 1 rfl, trivial⟩ ?_
      refine LM.q 0 rfl (by kernel_rfl) (Ev.pure rfl) rfl ⟨Has.r 0 rfl, Has.r 1 rfl, trivial⟩ ?_
      refine LM.q 1 rfl (by kernel_rfl) (Ev.idx1 (k := 0) rfl rfl rfl rfl rfl rfl rfl (by omega) (Src.r 0 rfl) (by rw [U8_len]; omega)) rfl ⟨Has.r 0 rfl, Has.r 1 rfl, trivial⟩ ?_
      refine LM.q 2 rfl (by kernel_rfl) (Ev.load rfl rfl rfl (Src.r 0 rfl) (U8_get (by omega))) rfl ⟨Has.r 0 rfl, Has.r 1 rfl, trivial⟩ ?_
      first | refine LM.q 3 rfl (by kernel_rfl) (Ev.byteInt rfl rfl rfl rfl) rfl ⟨Has.r 0 rfl, Has.r 1 rfl, trivial⟩ ?_ | refine LM.q 3 rfl (by kernel_rfl) (Ev.toInt rfl rfl rfl rfl (by omega) (by omega)) rfl ⟨Has.r 0 rfl, Has.r 1 rfl, trivial⟩ ?_
      refine LM.q 4 rfl (by kernel_rfl) (Ev.pure rfl) rfl ⟨Has.r 0 rfl, Has.r 1 rfl, trivial⟩ ?_
      refine LM.q 5 rfl (by kernel_rfl) (Ev.cast (u := .slice (subA O oc 1 1) (((plainF l).1.drop 1).take 2).length (oc - 1)) (Ev.sliceLH (l := 1) (h := 3) rfl rfl rfl rfl rfl rfl rfl rfl (by decide) (by omega)) (by rw [List.length_take, List.length_drop, Nat.min_eq_left (by omega)]; rfl)) rfl ⟨Has.r 0 rfl, Has.r 1 rfl, trivial⟩ ?_
      refine LM.q 7 rfl (by kernel_rfl) (Ev.pure rfl) rfl ⟨Has.r 0 rfl, Has.r 1 rfl, trivial⟩ ?_
      refine LM.q 8 rfl (by kernel_rfl) (Ev.idx1 (k := 3) rfl rfl rfl rfl rfl rfl rfl (by omega) (Src.r 0 rfl) (by rw [U8_len]; omega)) rfl ⟨Has.r 0 rfl, Has.r 1 rfl, trivial⟩ ?_
      refine LM.q 9 rfl (by kernel_rfl) (Ev.load rfl rfl rfl (Src.r 0 rfl) (U8_get (by omega))) rfl ⟨Has.r 0 rfl, Has.r 1 rfl, trivial⟩ ?_
      first | refine LM.q 10 rfl (by kernel_rfl) (Ev.byteInt rfl rfl rfl rfl) rfl ⟨Has.r 0 rfl, Has.r 1 rfl, trivial⟩ ?_ | refine LM.q 10 rfl (by kernel_rfl) (Ev.toInt rfl rfl rfl rfl (by omega) (by omega)) rfl ⟨Has.r 0 rfl, Has.r 1 rfl, trivial⟩ ?_
      refine LM.q 11 rfl (by kernel_rfl) (Ev.pure rfl) rfl ⟨Has.r 0 rfl, Has.r 1 rfl, trivial⟩ ?_
      refine LM.q 12 rfl (by kernel_rfl) (Ev.cast (u := .slice (subA O oc 4 1) (((plainF l).1.drop 4).take 4).length (oc - 4)) (Ev.sliceLH (l := 4) (h := 8) rfl rfl rfl rfl rfl rfl rfl rfl (by decide) (by omega)) (by rw [List.length_take, List.length_drop, Nat.min_eq_left (by omega)]; rfl)) rfl ⟨Has.r 0 rfl, Has.r 1 rfl, trivial⟩ ?_
      refine LM.q 14 rfl (by kernel_rfl) (Ev.pure rfl) rfl ⟨Has.r 0 rfl, Has.r 1 rfl, trivial⟩ ?_
      refine LM.q 15 rfl (by kernel_rfl) (Ev.idx1 (k := 8) rfl rfl rfl rfl rfl rfl rfl (by omega) (Src.r 0 rfl) (by rw [U8_len]; omega)) rfl ⟨Has.r 0 rfl, Has.r 1 rfl, trivial⟩ ?_
      refine LM.q 16 rfl (by kernel_rfl) (Ev.load rfl rfl rfl (Src.r 0 rfl) (U8_get (by omega))) rfl ⟨Has.r 0 rfl, Has.r 1 rfl, trivial⟩ ?_
      first | refine LM.q 17 rfl (by kernel_rfl) (Ev.byteInt rfl rfl rfl rfl) rfl ⟨Has.r 0 rfl, Has.r 1 rfl, trivial⟩ ?_ | refine LM.q 17 rfl (by kernel_rfl) (Ev.toInt rfl rfl rfl rfl (by omega) (by omega)) rfl ⟨Has.r 0 rfl, Has.r 1 rfl, trivial⟩ ?_
      refine LM.q 18 rfl (by kernel_rfl) (Ev.pure rfl) rfl ⟨Has.r 0 rfl, Has.r 1 rfl, trivial⟩ ?_
      refine LM.q 19 rfl (by kernel_rfl) (Ev.idx1 (k := 9) rfl rfl rfl rfl rfl rfl rfl (by omega) (Src.r 0 rfl) (by rw [U8_len]; omega)) rfl ⟨Has.r 0 rfl, Has.r 1 rfl, trivial⟩ ?_
      refine LM.q 20 rfl (by kernel_rfl) (Ev.load rfl rfl rfl (Src.r 0 rfl) (U8_get (by omega))) rfl ⟨Has.r 0 rfl, Has.r 1 rfl, trivial⟩ ?_
      first | refine LM.q 21 rfl (by kernel_rfl) (Ev.byteInt rfl rfl rfl rfl) rfl ⟨Has.r 0 rfl, Has.r 1 rfl, trivial⟩ ?_ | refine LM.q 21 rfl (by kernel_rfl) (Ev.toInt rfl rfl rfl rfl (by omega) (by omega)) rfl ⟨Has.r 0 rfl, Has.r 1 rfl, trivial⟩ ?_
      refine LM.q 22 rfl (by kernel_rfl) (Ev.pure rfl) rfl ⟨Has.r 0 rfl, Has.r 1 rfl, trivial⟩ ?_
      refine LM.q 23 rfl (by kernel_rfl) (Ev.idx1 (k := 10) rfl rfl rfl rfl rfl rfl rfl (by omega) (Src.r 0 rfl) (by rw [U8_len]; omega)) rfl ⟨Has.r 0 rfl, Has.r 1 rfl, trivial⟩ ?_
      refine LM.q 24 rfl (by kernel_rfl) (Ev.load rfl rfl rfl (Src.r 0 rfl) (U8_get (by omega))) rfl ⟨Has.r 0 rfl, Has.r 1 rfl, trivial⟩ ?_
      first | refine LM.q 25 rfl (by kernel_rfl) (Ev.byteInt rfl rfl rfl rfl) rfl ⟨Has.r 0 rfl, Has.r 1 rfl, trivial⟩ ?_ | refine LM.q 25 rfl (by kernel_rfl) (Ev.toInt rfl rfl rfl rfl (by omega) (by omega)) rfl ⟨Has.r 0 rfl, Has.r 1 rfl, trivial⟩ ?_
      refine LM.q 26 rfl (by kernel_rfl) (Ev.pure rfl) rfl ⟨Has.r 0 rfl, Has.r 1 rfl, trivial⟩ ?_
      refine LM.q 27 rfl (by kernel_rfl) (Ev.cast (u := .slice (subA O oc 11 1) (((plainF l).1.drop 11).take 2).length (oc - 11)) (Ev.sliceLH (l := 11) (h := 13) rfl rfl rfl rfl rfl rfl rfl rfl (by decide) (by omega)) (by rw [List.length_take, List.length_drop, Nat.min_eq_left (by omega)]; rfl)) rfl ⟨Has.r 0 rfl, Has.r 1 rfl, trivial⟩ ?_
      refine LM.q 29 rfl (by kernel_rfl) (Ev.pure rfl) rfl ⟨Has.r 0 rfl, Has.r 1 rfl, trivial⟩ ?_
      refine LM.q 30 rfl (by kernel_rfl) (Ev.cast (u := .slice (subA O oc 13 1) (((plainF l).1.drop 13).take 2).length (oc - 13)) (Ev.sliceLH (l := 13) (h := 15) rfl rfl rfl rfl rfl rfl rfl rfl (by decide) (by omega)) (by rw [List.length_take, List.length_drop, Nat.min_eq_left (by omega)]; rfl)) rfl ⟨Has.r 0 rfl, Has.r 1 rfl, trivial⟩ ?_
      refine LM.f 6 rfl (by kernel_rfl) ⟨Has.r 0 rfl, Has.r 1 rfl, trivial⟩ ?_
      refine L.call (js := []) (js' := [0]) (valueR_c (subA O oc 1 1) (oc - 1) (((plainF l).1.drop 1).take 2) (by rw [List.length_take]; omega)) rfl rfl rfl (by decide) ⟨(((Has.dropU (Has.r 0 rfl) oc 1 hcap).take 2).cast (U8_take _ _)), trivial⟩ rfl ?_
      rintro _ _ _ ⟨rfl, rfl, rfl⟩
      refine L.nil (QE.m (by kernel_rfl) ?_)
      refine LM.f 13 rfl (by kernel_rfl) ⟨Has.r 0 rfl, Has.r 1 rfl, trivial⟩ ?_
      refine L.call (js := []) (js' := [0]) (valueR_c (subA O oc 4 1) (oc - 4) (((plainF l).1.drop 4).take 4) (by rw [List.length_take]; omega)) rfl rfl rfl (by decide) ⟨(((Has.dropU (Has.r 0 rfl) oc 4 hcap).take 4).cast (U8_take _ _)), trivial⟩ rfl ?_
      rintro _ _ _ ⟨rfl, rfl, rfl⟩
      refine L.nil (QE.m (by kernel_rfl) ?_)
      refine LM.f 28 rfl (by kernel_rfl) ⟨Has.r 0 rfl, Has.r 1 rfl, trivial⟩ ?_
      refine L.call (js := []) (js' := [0]) (valueR_c (subA O oc 11 1) (oc - 11) (((plainF l).1.drop 11).take 2) (by rw [List.length_take]; omega)) rfl rfl rfl (by decide) ⟨(((Has.dropU (Has.r 0 rfl) oc 11 hcap).take 2).cast (U8_take _ _)), trivial⟩ rfl ?_
      rintro _ _ _ ⟨rfl, rfl, rfl⟩
      refine L.nil (QE.m (by kernel_rfl) ?_)
      refine LM.f 31 rfl (by kernel_rfl) ⟨Has.r 0 rfl, Has.r 1 rfl, trivial⟩ ?_
      refine L.call (js := []) (js' := [0]) (valueR_c (subA O oc 13 1) (oc - 13) (((plainF l).1.drop 13).take 2) (by rw [List.length_take]; omega)) rfl rfl rfl (by decide) ⟨(((Has.dropU (Has.r 0 rfl) oc 13 hcap).take 2).cast (U8_take _ _)), trivial⟩ rfl ?_
      rintro _ _ _ ⟨rfl, rfl, rfl⟩
      refine L.nil (QE.m (by kernel_rfl) ?_)
      refine LM.cut [] (by kernel_rfl) ⟨Has.r 0 rfl, Has.r 1 rfl, trivial⟩ ?_
      refine LM.f 32 rfl (by kernel_rfl) trivial ?_
      refine L.step (Ev.build rfl rfl rfl rfl rfl rfl rfl) rfl ?_
      refine L.nil (QE.m (by kernel_rfl) ?_)
      refine LM.f 33 rfl (by kernel_rfl) trivial ?_
      refine L.storeA (j := 0) rfl rfl rfl rfl rfl (Nat.zero_lt_succ _) rfl rfl ?_
      refine L.nil (QE.m (by kernel_rfl) ?_)
      refine LM.f 34 rfl (by kernel_rfl) trivial ?_
      refine L.step (Ev.pure rfl) rfl ?_
      refine L.nil (QE.m (by kernel_rfl) ?_)
      refine LM.nil (by kernel_rfl) trivial ?_
      refine QE.seq ?_
      refine C.ret ?_
      refine QE.ret (js := []) (hs := []) (vs := [_, _]) rfl ⟨⟨_, _, 0, _, rfl, rfl, Src.o 0 rfl, .inl ⟨rfl, by decide, _, rfl, rfl, rfl⟩⟩, rfl, trivial⟩ (by decide) ?_
      rw [hst, ← show (plainF l).1 = evenB l 15 from by rw [hp]]
      refine ⟨?_, rfl, rfl⟩
      show _ = Value.tuple #[.agg (List.toArray (st9 (decS (plainF l).1))), .bool true]
      rw [dec9 hlen]
      rfl

end Go.Proofs.Ytmbjknampholjaa
