/-
  The contracts of generation, state, blank.
-/
import Derived.Test.YtmbjknampholjaaSWJoB
import Derived.Test.YtmbjknampholjaaSPu
namespace Go.Proofs.Ytmbjknampholjaa
open Go.Sl

theorem genP_c (f : Fl) (a : Fa) (ok : f.Ok) (hh : a.hs.length = f.data.length) (s : Int) (hs : 0 ≤ s ∧ s < (f.data.length : Int)) (h8 : 8 ≤ f.size) (hcap : Caps f a) :
    Ctr X 75 [.agg (List.toArray [.int .i64 (f.size : Int), .slice a.D f.data.length a.cD, .slice a.W f.wear.length a.cW, .int .i64 f.limit, .slice a.E f.dead.length a.cE]), .int .i64 s] [Rd a.D (rowsV a.hs (B8 f.data)), KidsR a.hs (B8 f.data), Rd a.W (I64 f.wear), Rd a.E (Bs f.dead)] [] (fun v R' H' => v = .int .i64 (genF (secR f s)) ∧ R' = [] ∧ H' = []) := by
  obtain ⟨os1, os2, on1, on2, owl, odl, orows, ol1, ol2, owear⟩ := ok
  have hrow := orows s.toNat (by omega)
  have hcp := hcap s.toNat (by omega)
  refine Ctr.of (X := X) (fn := Try.f75) Try.func75 rfl (by kernel_rfl) rfl ?_
  intro β
  refine C.seq ?_
  refine C.region ?_
  refine L.boxA rfl rfl (fun A2 => ?_)
  refine L.step (Ev.pure rfl) rfl ?_
  refine L.nil ?_
  refine QE.seq ?_
  refine C.seq ?_
  refine C.freeze 0 rfl [] (by decide) (by decide) ?_
  refine C.region ?_
  refine L.alloc rfl rfl rfl (fun A5 => ?_)
  refine L.store (j := 0) rfl rfl rfl rfl rfl rfl rfl rfl ?_
  refine L.nil ?_
  refine QE.seq ?_
  refine C.seq ?_
  refine C.seq ?_
  refine C.region ?_
  refine L.step (Ev.fieldAddr rfl rfl rfl rfl rfl rfl (Src.r 0 rfl) (Nat.zero_lt_succ _) rfl) rfl ?_
  refine L.step (Ev.load rfl rfl rfl (Src.r 0 rfl) rfl) rfl ?_
  refine L.step (Ev.pure rfl) rfl ?_
  refine L.step (Ev.idx1 (k := s.toNat) rfl rfl rfl rfl rfl rfl (by omega) (by omega) (Src.r 1 rfl) (by rw [rowsV_len (by rw [B8_len]; exact hh), B8_len]; omega)) rfl ?_
  refine L.step (Ev.load rfl rfl rfl (Src.r 1 rfl) (rows8_get hh (by omega))) rfl ?_
  refine L.step (Ev.cast (u := .slice (a.hs.getD s.toNat (none, 0)).1 ((f.data.getD s.toNat []).take 8).length (a.hs.getD s.toNat (none, 0)).2) (Ev.sliceH (h := 8) rfl rfl rfl rfl rfl rfl (by omega)) (by rw [List.length_take, Nat.min_eq_left (by omega)])) rfl ?_
  refine L.step (Ev.pure rfl) rfl ?_
  refine L.call (js := [0]) (js' := []) (decode_c 84 #[ptrOf A5 0] (a.hs.getD s.toNat (none, 0)).1 ((f.data.getD s.toNat []).take 8) (a.hs.getD s.toNat (none, 0)).2 (Own 3 1 A5 1 1 [.int .i64 (-1)]) (fun p => codeTo ((f.data.getD s.toNat []).take 8) 4 = true ∧ p = Own 3 1 A5 1 1 [.int .i64 (valB (evenB ((f.data.getD s.toNat []).take 8) 4) : Int)]) (fun p => codeTo ((f.data.getD s.toNat []).take 8) 4 = false ∧ p = Own 3 1 A5 1 1 [.int .i64 (-1)]) (fun D => gen1_c D A5 _ _ _ (-1) (by rw [List.length_take]; omega) (by rw [List.length_take]; omega))) rfl rfl rfl (by decide) ⟨(((((Has.kid 2 rfl (by rw [B8_len]; exact hh) (s.toNat) (by rw [B8_len]; omega)).cast (B8_get _))).take 8).cast (U8_take _ _)), trivial⟩ rfl ?_
  rintro v _ _ ⟨p, rfl, rfl, hp⟩
  rw [codeTo_take (by decide), evenB_take (by decide)] at hp
  obtain ⟨n, rfl, rfl, hn⟩ : ∃ n : Int, p = Own 3 1 A5 1 1 [.int .i64 n] ∧ v = .bool (codeTo (f.data.getD s.toNat []) 4) ∧ (codeTo (f.data.getD s.toNat []) 4 = true → n = (valB (evenB (f.data.getD s.toNat []) 4) : Int)) := by
    rcases hp with ⟨⟨hk, rfl⟩, rfl⟩ | ⟨⟨hk, rfl⟩, rfl⟩
    · exact ⟨_, rfl, by rw [hk], fun _ => rfl⟩
    · exact ⟨_, rfl, by rw [hk], fun h => by rw [hk] at h; cases h⟩
  refine L.step (Ev.pure rfl) rfl ?_
  refine L.nil ?_
  refine QE.seq ?_
  refine C.condB 14 rfl (fun hc14 => ?_) (fun hc14 => ?_)
  · skip
    refine C.seq ?_
    refine C.region ?_
    refine L.step (Ev.pure rfl) rfl ?_
    refine L.nil ?_
    refine QE.seq ?_
    refine C.ret ?_
    refine QE.tR ?_
    refine QE.ret (js := []) (hs := []) (vs := [_]) rfl ⟨rfl, trivial⟩ (by decide) ?_
    refine ⟨?_, rfl, rfl⟩
    unfold genF secR
    rw [if_neg (by simpa using hc14)]
    rfl
  · skip
    refine C.skip ?_
    refine QE.seq ?_
    refine C.seq ?_
    refine C.region ?_
    refine L.step (Ev.load rfl rfl rfl (Src.o 0 rfl) rfl) rfl ?_
    refine L.step (Ev.pure rfl) rfl ?_
    refine L.nil ?_
    refine QE.seq ?_
    refine C.ret ?_
    refine QE.ret (js := []) (hs := []) (vs := [_]) rfl ⟨rfl, trivial⟩ (by decide) ?_
    refine ⟨?_, rfl, rfl⟩
    have hk : codeTo (f.data.getD s.toNat []) 4 = true := by simpa using hc14
    unfold genF secR
    rw [if_pos hk, hn hk]
    rfl

theorem count_c (A B : Option Addr) (c bc : Nat) (l : List UInt8) (x : UInt8) :
    Ctr X 86 [.slice A l.length c, .slice B 1 bc] [Rd A (U8 l), Rd B (U8 [x])] [] (fun v R' H' => v = .int .i64 ((l.count x : Nat) : Int) ∧ R' = [] ∧ H' = []) := by
  refine Ctr.of (X := X) (fn := Try.f86) Try.func86 rfl (by kernel_rfl) rfl ?_
  intro β
  refine C.seq ?_
  refine C.region ?_
  refine L.step (Ev.pure rfl) rfl ?_
  refine L.nil ?_
  refine QE.seq ?_
  refine C.seq ?_
  refine C.seq ?_
  refine C.region ?_
  refine L.step (Ev.pure rfl) rfl ?_
  refine L.step (Ev.pure rfl) rfl ?_
  refine L.step (Ev.pure rfl) rfl ?_
  refine L.nil ?_
  refine QE.seq ?_
  refine C.condB 9 rfl (fun hc9 => ?_) (fun hc9 => ?_)
  · skip
    replace hc9 := i_eq hc9
    omega
  · skip
    replace hc9 := i_ne hc9
    refine C.skip ?_
    refine QE.seq ?_
    refine C.seq ?_
    refine C.seq ?_
    refine C.region ?_
    refine L.step (Ev.pure rfl) rfl ?_
    refine L.step (Ev.pure rfl) rfl ?_
    refine L.step (Ev.pure rfl) rfl ?_
    refine L.nil ?_
    refine QE.seq ?_
    refine C.condB 15 rfl (fun hc15 => ?_) (fun hc15 => ?_)
    · skip
      replace hc15 := i_eq hc15
      refine C.seq ?_
      refine C.region ?_
      refine L.step (Ev.pure rfl) rfl ?_
      refine L.step (Ev.pure rfl) rfl ?_
      refine L.step (Ev.idx1 (k := 0) rfl rfl rfl rfl rfl rfl rfl (by decide) (Src.r 1 rfl) (by exact Nat.zero_lt_succ _)) rfl ?_
      refine L.step (Ev.load rfl rfl rfl (Src.r 1 rfl) (U8_get (by exact Nat.zero_lt_succ _))) rfl ?_
      refine L.step (Ev.count8 (fn := Try.f92) Try.func92 rfl rfl (by kernel_rfl) (by kernel_rfl) rfl (Src.r 0 rfl) rfl) rfl ?_
      refine L.step (Ev.pure rfl) rfl ?_
      refine L.nil ?_
      refine QE.seq ?_
      refine C.ret ?_
      refine QE.tR ?_
      refine QE.ret (js := []) (hs := []) (vs := [_]) rfl ⟨rfl, trivial⟩ (by decide) ?_
      exact ⟨rfl, rfl, rfl⟩
    · skip
      replace hc15 := i_ne hc15
      omega

theorem blankP_c (A : Option Addr) (c : Nat) (l : List UInt8) :
    Ctr X 76 [.slice A l.length c] [Rd A (U8 l)] [] (fun v R' H' => v = .bool (blankB l) ∧ R' = [] ∧ H' = []) := by
  refine Ctr.of (X := X) (fn := Try.f76) Try.func76 rfl (by kernel_rfl) rfl ?_
  intro β
  refine C.seq ?_
  refine C.region ?_
  refine L.step (Ev.pure rfl) rfl ?_
  refine L.nil ?_
  refine QE.seq ?_
  refine C.seq ?_
  refine C.region ?_
  refine L.step (Ev.pure rfl) rfl ?_
  refine L.lit rfl rfl rfl rfl rfl (by rfl) (by rfl) (by rfl) rfl rfl (fun A4 => ?_)
  refine L.freeze 0 rfl [] (by decide) (by decide) ?_
  refine L.call (js := []) (js' := []) (count_c A A4 c 1 l 255) rfl rfl rfl (by decide) ⟨(Has.r 1 rfl), (Has.r 0 rfl), trivial⟩ rfl ?_
  rintro _ _ _ ⟨rfl, rfl, rfl⟩
  refine L.step (Ev.pure rfl) rfl ?_
  refine L.step (Ev.pure rfl) rfl ?_
  refine L.step (Ev.pure rfl) rfl ?_
  refine L.step (Ev.pure rfl) rfl ?_
  refine L.nil ?_
  refine QE.seq ?_
  refine C.ret ?_
  refine QE.ret (js := []) (hs := []) (vs := [_]) rfl ⟨rfl, trivial⟩ (by decide) ?_
  refine ⟨congrArg Value.bool ?_, rfl, rfl⟩
  rw [← count_blank, Bool.eq_iff_iff, beq_iff_eq, beq_iff_eq]
  omega

theorem stP_c (A : Option Addr) (c : Nat) (l : List UInt8) (hc : l.length ≤ c) (hl : 30 ≤ l.length) :
    Ctr X 77 [.slice A l.length c] [Rd A (U8 l)] [] (fun v R' H' => v = .tuple #[.agg (List.toArray (st9 ((stateF l).getD (List.replicate 9 0)))), .bool (stateF l).isSome] ∧ R' = [] ∧ H' = []) := by
  refine Ctr.of (X := X) (fn := Try.f77) Try.func77 rfl (by kernel_rfl) rfl ?_
  intro β
  refine C.seq ?_
  refine C.region ?_
  refine L.alloc rfl rfl rfl (fun A2 => ?_)
  refine L.step (Ev.pure rfl) rfl ?_
  refine L.nil ?_
  refine QE.seq ?_
  refine C.seq ?_
  refine C.region ?_
  refine L.step (Ev.pure rfl) rfl ?_
  refine L.step (Ev.pure rfl) rfl ?_
  refine L.call (js := [0]) (js' := []) (decode_c 87 #[ptrOf A2 0] A l c (Own 29 9 A2 1 1 (I64 (List.replicate 9 0))) (fun p => codeTo l 15 = true ∧ p = Own 29 9 A2 1 1 (I64 (decS (evenB l 15)))) (fun p => codeTo l 15 = false ∧ ∃ xs : List Int, xs.length = 9 ∧ p = Own 29 9 A2 1 1 (I64 xs)) (fun D => st1_c D A2 A l c hc hl)) rfl rfl rfl (by decide) ⟨(Has.r 0 rfl), trivial⟩ rfl ?_
  rintro v _ _ ⟨p, rfl, rfl, hp⟩
  obtain ⟨ys, hyl, rfl, rfl, hy⟩ : ∃ ys : List Int, ys.length = 9 ∧ p = Own 29 9 A2 1 1 (I64 ys) ∧ v = .bool (codeTo l 15) ∧ (codeTo l 15 = true → ys = decS (evenB l 15)) := by
    rcases hp with ⟨⟨hk, rfl⟩, rfl⟩ | ⟨⟨hk, xs, hx, rfl⟩, rfl⟩
    · exact ⟨_, decS_len _, rfl, by rw [hk], fun _ => rfl⟩
    · exact ⟨xs, hx, rfl, by rw [hk], fun h => by rw [hk] at h; cases h⟩
  have hall : (I64 ys).all Value.oneCell' = true := List.all_eq_true.2 (I64_one _)
  refine L.step (Ev.pure rfl) rfl ?_
  refine L.nil ?_
  refine QE.seq ?_
  refine C.seq ?_
  refine C.seq ?_
  refine C.region ?_
  refine L.step (Ev.pure rfl) rfl ?_
  refine L.step (Ev.pure rfl) rfl ?_
  refine L.nil ?_
  refine QE.seq ?_
  refine C.condB 8 rfl (fun hc8 => ?_) (fun hc8 => ?_)
  · skip
    have hno : stateF l = none := by unfold stateF; rw [if_neg (by simpa using hc8)]
    refine C.seq ?_
    refine C.region ?_
    refine L.step (Ev.build rfl rfl rfl rfl rfl rfl rfl) rfl ?_
    refine L.storeA (j := 0) rfl rfl rfl rfl rfl (Nat.zero_lt_succ _) rfl (by rw [I64_len, hyl]; rfl) ?_
    refine L.step (Ev.pure rfl) rfl ?_
    refine L.nil ?_
    refine QE.seq ?_
    refine C.ret ?_
    refine QE.tR ?_
    refine QE.ret (js := []) (hs := []) (vs := [_, _]) rfl ⟨⟨_, _, 0, _, rfl, rfl, Src.o 0 rfl, .inl ⟨rfl, by decide, _, rfl, rfl, rfl⟩⟩, rfl, trivial⟩ (by decide) ?_
    rw [hno]
    exact ⟨rfl, rfl, rfl⟩
  · skip
    have hk : codeTo l 15 = true := by simpa using hc8
    have hyes : stateF l = some ys := by unfold stateF; rw [if_pos hk, hy hk]
    refine C.skip ?_
    refine QE.seq ?_
    refine C.seq ?_
    refine C.region ?_
    refine L.step (Ev.loadA rfl rfl rfl (Src.o 0 rfl) (vs := I64 ys) (by rw [List.drop_zero, List.take_of_length_le (by rw [I64_len, hyl]; decide)]) (by rw [I64_len, hyl]; rfl) (by decide)) rfl ?_
    refine L.storeA (j := 0) (vs := I64 ys) rfl rfl rfl hall (by rw [I64_len, hyl]; rfl) (by rw [I64_len, hyl]; decide) rfl (by rw [I64_len, hyl]; rfl) ?_
    refine L.step (Ev.pure rfl) rfl ?_
    refine L.nil ?_
    refine QE.seq ?_
    refine C.ret ?_
    refine QE.ret (js := []) (hs := []) (vs := [_, _]) rfl ⟨⟨_, _, 0, _, rfl, rfl, Src.o 0 rfl, .inl ⟨rfl, by decide, I64 ys, (by rw [List.drop_zero, List.take_zero, List.nil_append, List.take_append_of_le_length (by rw [I64_len, hyl]; decide), List.take_of_length_le (by rw [I64_len, hyl]; decide)]), (by rw [I64_len, hyl]; rfl), rfl⟩⟩, rfl, trivial⟩ (by decide) ?_
    rw [hyes, ← st9_eq (show ((some ys).getD (List.replicate 9 0)).length = 9 from hyl)]
    exact ⟨rfl, rfl, rfl⟩

end Go.Proofs.Ytmbjknampholjaa
