/-
  The links of code, one after the other.
-/
import Derived.Test.YtbkmahjhhncfcaaGreatUWLaD
import Derived.Test.YtbkmahjhhncfcaaGreatUSlL
import Derived.Test.YtbkmahjhhncfcaaGreatUSlS
namespace Go.Proofs.YtbkmahjhhncfcaaGreat
open Go.Sl

def encI (x : Nat × Ins) : List Value := [.int .i64 (x.1 : Int), .agg (List.toArray (in5 x.2))]
def RbA (PA WA : Option Addr) (ws : List Nat) (wc : Nat) : List Pr := [Rd PA [.slice WA ws.length wc], Rd WA (N32 ws)]
def StA (A6 : Option Addr) (s : List Int × Option Addr × Nat) : List Pr := [Own 55 1 A6 1 1 [.slice s.2.1 s.1.length s.2.2], Own 3 1 s.2.1 s.1.length s.2.2 (I64 s.1)]
def nxtA (s : List Int × Option Addr × Nat) (x : Nat × Ins) (s2 : List Int × Option Addr × Nat) : Prop := s2.1 = s.1 ++ [x.2.n]
def goodA (s : List Int × Option Addr × Nat) (_x : Nat × Ins) : Prop := s.1.length ≤ 100000
def RbB (PA WA A4 : Option Addr) (ws : List Nat) (wc : Nat) : List Pr := [Rd PA [.slice WA ws.length wc], Rd WA (N32 ws), Rd A4 [.slice WA ws.length wc]]
def StB (ws : List Nat) (A6 LB A9 A10 OA MA : Option Addr) (lc : Nat) (s : List Nat × List Bool) : List Pr := [Own 55 1 A6 1 1 [.slice LB (labs ws).length lc], Own 3 1 LB (labs ws).length lc (I64 (labs ws)), Own 123 1 A9 1 1 [.func (.func 67) #[] #[ptrOf A6 0]], Own 57 3 A10 1 1 [.slice OA ws.length ws.length, .slice MA ws.length ws.length, .slice LB (labs ws).length lc], Own 73 1 OA ws.length ws.length (N32 s.1), Own 4 1 MA ws.length ws.length (Bs s.2)]
def nxtB (ws : List Nat) (s : List Nat × List Bool) (x : Nat × Ins) (s2 : List Nat × List Bool) : Prop := s2 = (s.1.set x.1 (numW (ws.getD x.1 0) x.2.op (idxL (labs ws) x.2.n)), s.2.set x.1 true)
def goodB (ws : List Nat) (s : List Nat × List Bool) (x : Nat × Ins) : Prop := x.1 < ws.length ∧ lnk ws x.1 = true ∧ x.2 = insAt ws x.1 ∧ s.1.length = ws.length ∧ s.2.length = ws.length

theorem find_c (A6 LB : Option Addr) (lb : List Int) (lc : Nat) (n : Int) (hl : lb.length ≤ 1000000) (hs : lb.Pairwise (· < ·)) :
   Ctr X 67 [.int .i64 n, ptrOf A6 0] [] [Own 55 1 A6 1 1 [.slice LB lb.length lc], Own 3 1 LB lb.length lc (I64 lb)] (fun v R' H' => v = .int .u32 ((idxL lb n : Nat) : Int) ∧ R' = [] ∧ H' = [Own 55 1 A6 1 1 [.slice LB lb.length lc], Own 3 1 LB lb.length lc (I64 lb)]) := by
 refine Ctr.of (X := X) (fn := Tryz.f67) Tryz.func67 rfl (by kernel_rfl) rfl ?_
 intro β
 refine C.seq (C.region ?_); refine Lpu rfl rfl ?_; refine L.nil (QE.seq (C.seq (C.region ?_))); refine L.step (Ev.load rfl rfl rfl (Src.o 0 rfl) rfl) rfl ?_; refine Lpu rfl rfl ?_; refine L.call (js := [1]) (js' := [0]) (search_c LB lb lc n hl (sorted_le hs)) rfl rfl rfl (by decide) trivial rfl ?_
 rintro _ _ _ ⟨rfl, rfl, rfl⟩
 refine L.norm (H' := [_, _]) [0, 1] ⟨rfl, rfl, trivial⟩ (by decide) ?_; refine Lpu rfl rfl ?_; refine Lpu rfl rfl ?_; refine Lpu rfl rfl ?_; refine Lpu rfl rfl ?_; refine Lpu rfl rfl ?_; refine L.nil (QE.seq (C.seq (C.region ?_))); refine Lpu rfl rfl ?_; refine L.step (Ev.toU32 (q := idxL lb n) rfl rfl rfl rfl (by have := idxL_le lb n; show ((idxL lb n : Nat) : Int) % 4294967296 = _; omega)) rfl ?_; refine Lpu rfl rfl ?_; refine L.nil (QE.seq (C.ret ?_)); refine QE.ret (js := []) (hs := [1, 0]) (vs := [_]) rfl ⟨rfl, trivial⟩ (by decide) ?_
 exact ⟨rfl, rfl, rfl⟩

theorem links_c (WA : Option Addr) (n wc : Nat) :
   Ctr X 64 [.slice WA n wc] [] [] (fun v R' H' => ∃ PA : Option Addr, v = .func (.func 97) #[] #[ptrOf PA 0] ∧ R' = [Rd PA [.slice WA n wc]] ∧ H' = []) := by
 refine Ctr.of (X := X) (fn := Tryz.f64) Tryz.func64 rfl (by kernel_rfl) rfl ?_
 intro β
 refine C.seq (C.region ?_)
 refine L.box rfl rfl rfl (fun A1 => ?_)
 refine Lpu rfl rfl ?_; refine L.nil (QE.seq (C.seq (C.region ?_))); refine Lpu rfl rfl ?_; refine Lpu rfl rfl ?_; refine L.nil (QE.seq (C.ret ?_)); refine QE.freeze 0 rfl [] (by decide) (by decide) ?_; refine QE.ret (js := [0]) (hs := []) (vs := [_]) rfl ⟨rfl, trivial⟩ (by decide) ?_
 exact ⟨A1, rfl, rfl, rfl⟩

set_option maxHeartbeats 1000000 in
theorem iterA_c (l : Nat) (r : Loop) (PA WA : Option Addr) (ws : List Nat) (wc : Nat) (hw : W32 ws) (hl : ws.length ≤ 16384) (A6 : Option Addr) (hy : YieldR X l r encI (RbA PA WA ws wc) (StA A6) nxtA goodA) :
   Ctr X 97 [.func (.yield l) #[] #[], ptrOf PA 0] [Rd PA [.slice WA ws.length wc], Rd WA (N32 ws)] [LoopP l r, Own 55 1 A6 1 1 [.slice none ([] : List Int).length 0], Own 3 1 none ([] : List Int).length 0 (I64 ([] : List Int))] (fun _ R' H' => R' = [] ∧ ∃ (O : Option Addr) (c : Nat), H' = LoopP l r :: StA A6 (targN ws ws.length, O, c)) := by
 refine Ctr.of (X := X) (fn := Tryz.f97) Tryz.func97 rfl (by kernel_rfl) rfl ?_
 intro β
 refine C.seq (C.region ?_); refine L.step (Ev.load rfl rfl rfl (Src.r 0 rfl) rfl) rfl ?_; refine Lpu rfl rfl ?_; refine Lpu rfl rfl ?_; refine L.nil (QE.seq (C.block ?_)); refine C.loop (fun q : Nat × Option Addr × Nat => [(0, .func (.yield l) #[] #[]), (1, ptrOf PA 0), (6, .slice WA ws.length wc), (7, .int .i64 (ws.length : Int)), (8, .int .i64 (q.1 : Int))]) (fun q : Nat × Option Addr × Nat => [Rd PA [.slice WA ws.length wc], Rd WA (N32 ws)]) (fun q : Nat × Option Addr × Nat => [LoopP l r, Own 55 1 A6 1 1 [.slice q.2.1 (targN ws q.1).length q.2.2], Own 3 1 q.2.1 (targN ws q.1).length q.2.2 (I64 (targN ws q.1))]) (fun q : Nat × Option Addr × Nat => q.1 ≤ ws.length) (fun q : Nat × Option Addr × Nat => ws.length - q.1) (0, none, 0) (Nat.zero_le _) (by exact Le.mk' (rs := [0, 1]) (hs := [0, 1, 2]) ⟨rfl, rfl, rfl, rfl, rfl, trivial⟩ ⟨rfl, rfl, trivial⟩ ⟨rfl, rfl, rfl, trivial⟩ (by decide)) ?_
 rintro ⟨k, O, oc⟩ hk
 dsimp only at hk ⊢
 refine C.seq (C.region ?_); refine Lpu rfl rfl ?_; refine L.nil (QE.seq (C.seq ?_))
 refine C.condB 9 rfl (fun hc9 => ?_) (fun hc9 => ?_)
 ·
  replace hc9 := of_decide_eq_true hc9
  refine C.skip (QE.seq (C.seq (C.block (C.seq (C.region ?_))))); refine Lpu rfl rfl ?_; refine L.step (Ev.idx1 (k := k) rfl rfl rfl rfl rfl rfl rfl (by omega) (Src.r 1 rfl) (by rw [N32_len]; omega)) rfl ?_; refine L.step (Ev.load rfl rfl rfl (Src.r 1 rfl) (N32_get (by omega))) rfl ?_; refine Lpu rfl rfl ?_; refine Lpu rfl rfl ?_; refine L.nil (QE.seq (C.seq (C.region ?_))); refine Lpu rfl rfl ?_; refine Lpu rfl rfl ?_; refine L.step (Ev.mul rfl rfl (by omega) (by omega)) rfl ?_; refine L.call (js := []) (js' := [0, 1, 2]) (decode_c (ws.getD k 0) (4 * (k : Int)) (hw k) (by omega)) rfl rfl rfl (by decide) trivial rfl ?_
  rintro _ _ _ ⟨rfl, rfl, rfl⟩
  refine L.norm (H' := [_, _, _]) [0, 1, 2] ⟨rfl, rfl, rfl, trivial⟩ (by decide) ?_
  refine L.alloc rfl rfl rfl (fun A5 => ?_)
  refine L.storeA (j := 3) rfl rfl rfl rfl rfl (Nat.zero_lt_succ _) rfl rfl ?_; refine L.nil (QE.seq (C.seq ?_)); refine C.regionY ?_; refine LY.step (Ev.loadA (vs := in5 (insAt ws k)) rfl rfl rfl (Src.o 3 rfl) rfl rfl (by decide)) rfl ?_; refine LY.step (Ev.load rfl rfl rfl (Src.r 0 rfl) rfl) rfl ?_; refine LY.step (Ev.pure rfl) rfl ?_; refine LY.step (Ev.mul rfl rfl (by omega) (by omega)) rfl ?_; refine LY.call (js := []) (js' := [0, 1, 2, 3]) (linked_c (insAt ws k) (4 * (ws.length : Int))) rfl rfl rfl (by decide) trivial rfl ?_
  rintro _ _ _ ⟨rfl, rfl, rfl⟩
  refine LY.norm (H' := [_, _, _, _]) [0, 1, 2, 3] ⟨rfl, rfl, rfl, rfl, trivial⟩ (by decide) ?_; refine LY.step (Ev.pure rfl) rfl ?_
  refine LY.bool 22 rfl (fun hg22 => ?_) (fun hg22 => ?_)
  ·
   have hlk : lnk ws k = true := hg22
   refine LY.yes rfl ?_; refine LY.step (Ev.pure rfl) rfl ?_; refine LY.yes rfl ?_; refine LY.step (Ev.pure rfl) rfl ?_; refine LY.yes rfl ?_; refine LY.step (Ev.loadA (vs := in5 (insAt ws k)) rfl rfl rfl (Src.o 3 rfl) rfl rfl (by decide)) rfl ?_; refine LY.yes rfl ?_; refine LY.yieldR (js := [0, 1, 2]) (js' := [3]) hy (targN ws k, O, oc) (k, (insAt ws k)) (show (targN ws k).length ≤ 100000 by have := targN_len ws k; omega) rfl rfl rfl rfl (by decide) (Hq [0, 1] rfl) rfl ?_
   rintro ⟨s2, O2, c2⟩ hnx
   have hnx2 : s2 = targN ws k ++ [(insAt ws k).n] := hnx
   subst hnx2
   unfold StA
   dsimp only
   refine LY.yes rfl ?_; refine LY.step (Ev.pure rfl) rfl ?_; refine LY.step (Ev.pure rfl) rfl ?_; refine LY.nil ?_; refine QE.seq ?_
   refine C.cond rfl (fun h => by cases h) (fun _ => ?_)
   refine C.skip ?_; refine QE.blkN ?_; refine QE.seq (C.region ?_); refine L.step (Ev.add rfl rfl (by omega) (by omega)) rfl ?_; refine Lpu rfl rfl ?_; refine L.nil ?_
   refine QE.round (i := (k, O, oc)) ((k + 1, O2, c2)) (by dsimp only; omega) (by dsimp only; omega) (by exact Le.mk' (rs := [0, 1]) (hs := [0, 1, 2]) ⟨rfl, rfl, rfl, rfl, rfl, trivial⟩ ⟨rfl, rfl, trivial⟩ ⟨rfl, (congrArg some (by dsimp only; rw [targN_yes hlk])), (congrArg some (by dsimp only; rw [targN_yes hlk])), trivial⟩ (by decide))
  ·
   have hlk : lnk ws k = false := hg22
   refine LY.no rfl rfl rfl ?_; refine LY.no rfl rfl rfl ?_; refine LY.no rfl rfl rfl ?_; refine LY.no rfl rfl rfl ?_; refine LY.no rfl rfl rfl ?_; refine LY.step (Ev.pure rfl) rfl ?_; refine LY.nil ?_; refine QE.seq ?_
   refine C.cond rfl (fun h => by cases h) (fun _ => ?_)
   refine C.skip ?_; refine QE.blkN ?_; refine QE.seq (C.region ?_); refine L.step (Ev.add rfl rfl (by omega) (by omega)) rfl ?_; refine Lpu rfl rfl ?_; refine L.nil ?_
   refine QE.round (i := (k, O, oc)) ((k + 1, O, oc)) (by dsimp only; omega) (by dsimp only; omega) (by exact Le.mk' (rs := [0, 1]) (hs := [0, 1, 2]) ⟨rfl, rfl, rfl, rfl, rfl, trivial⟩ ⟨rfl, rfl, trivial⟩ ⟨rfl, (congrArg some (by dsimp only; rw [targN_no hlk])), (congrArg some (by dsimp only; rw [targN_no hlk])), trivial⟩ (by decide))
 ·
  replace hc9 := of_decide_eq_false hc9
  refine C.exit ?_; refine QE.tX ?_; refine QE.tX ?_; refine QE.blk ?_; refine QE.retN ?_; refine QE.ret (js := []) (hs := [0, 1, 2]) (vs := []) rfl trivial (by decide) ?_
  obtain rfl : k = ws.length := by omega
  exact ⟨rfl, O, oc, rfl⟩

set_option maxHeartbeats 1000000 in
theorem iterB_c (l : Nat) (r : Loop) (PA WA : Option Addr) (ws : List Nat) (wc : Nat) (hw : W32 ws) (hl : ws.length ≤ 16384) (A4 A6 LB A9 A10 OA MA : Option Addr) (lc : Nat) (hy : YieldR X l r encI (RbB PA WA A4 ws wc) (StB ws A6 LB A9 A10 OA MA lc) (nxtB ws) (goodB ws)) :
   Ctr X 97 [.func (.yield l) #[] #[], ptrOf PA 0] [Rd PA [.slice WA ws.length wc], Rd WA (N32 ws), Rd A4 [.slice WA ws.length wc]] [LoopP l r, Own 55 1 A6 1 1 [.slice LB (labs ws).length lc], Own 3 1 LB (labs ws).length lc (I64 (labs ws)), Own 123 1 A9 1 1 [.func (.func 67) #[] #[ptrOf A6 0]], Own 57 3 A10 1 1 [.slice OA ws.length ws.length, .slice MA ws.length ws.length, .slice LB (labs ws).length lc], Own 73 1 OA ws.length ws.length (N32 (liftN ws 0)), Own 4 1 MA ws.length ws.length (Bs (markN ws 0))] (fun _ R' H' => R' = [] ∧ H' = LoopP l r :: StB ws A6 LB A9 A10 OA MA lc (liftN ws ws.length, markN ws ws.length)) := by
 refine Ctr.of (X := X) (fn := Tryz.f97) Tryz.func97 rfl (by kernel_rfl) rfl ?_
 intro β
 refine C.seq (C.region ?_); refine L.step (Ev.load rfl rfl rfl (Src.r 0 rfl) rfl) rfl ?_; refine Lpu rfl rfl ?_; refine Lpu rfl rfl ?_; refine L.nil (QE.seq (C.block ?_)); refine C.loop (fun q : Nat × Unit => [(0, .func (.yield l) #[] #[]), (1, ptrOf PA 0), (6, .slice WA ws.length wc), (7, .int .i64 (ws.length : Int)), (8, .int .i64 (q.1 : Int))]) (fun q : Nat × Unit => [Rd PA [.slice WA ws.length wc], Rd WA (N32 ws), Rd A4 [.slice WA ws.length wc]]) (fun q : Nat × Unit => [LoopP l r, Own 55 1 A6 1 1 [.slice LB (labs ws).length lc], Own 3 1 LB (labs ws).length lc (I64 (labs ws)), Own 123 1 A9 1 1 [.func (.func 67) #[] #[ptrOf A6 0]], Own 57 3 A10 1 1 [.slice OA ws.length ws.length, .slice MA ws.length ws.length, .slice LB (labs ws).length lc], Own 73 1 OA ws.length ws.length (N32 (liftN ws q.1)), Own 4 1 MA ws.length ws.length (Bs (markN ws q.1))]) (fun q : Nat × Unit => q.1 ≤ ws.length) (fun q : Nat × Unit => ws.length - q.1) (0, ()) (Nat.zero_le _) (by exact Le.mk' (rs := [0, 1, 2]) (hs := [0, 1, 2, 3, 4, 5, 6]) ⟨rfl, rfl, rfl, rfl, rfl, trivial⟩ ⟨rfl, rfl, rfl, trivial⟩ ⟨rfl, rfl, rfl, rfl, rfl, rfl, rfl, trivial⟩ (by decide)) ?_
 rintro ⟨k, u⟩ hk
 dsimp only at hk ⊢
 refine C.seq (C.region ?_); refine Lpu rfl rfl ?_; refine L.nil (QE.seq (C.seq ?_))
 refine C.condB 9 rfl (fun hc9 => ?_) (fun hc9 => ?_)
 ·
  replace hc9 := of_decide_eq_true hc9
  refine C.skip (QE.seq (C.seq (C.block (C.seq (C.region ?_))))); refine Lpu rfl rfl ?_; refine L.step (Ev.idx1 (k := k) rfl rfl rfl rfl rfl rfl rfl (by omega) (Src.r 1 rfl) (by rw [N32_len]; omega)) rfl ?_; refine L.step (Ev.load rfl rfl rfl (Src.r 1 rfl) (N32_get (by omega))) rfl ?_; refine Lpu rfl rfl ?_; refine Lpu rfl rfl ?_; refine L.nil (QE.seq (C.seq (C.region ?_))); refine Lpu rfl rfl ?_; refine Lpu rfl rfl ?_; refine L.step (Ev.mul rfl rfl (by omega) (by omega)) rfl ?_; refine L.call (js := []) (js' := [0, 1, 2, 3, 4, 5, 6]) (decode_c (ws.getD k 0) (4 * (k : Int)) (hw k) (by omega)) rfl rfl rfl (by decide) trivial rfl ?_
  rintro _ _ _ ⟨rfl, rfl, rfl⟩
  refine L.norm (H' := [_, _, _, _, _, _, _]) [0, 1, 2, 3, 4, 5, 6] ⟨rfl, rfl, rfl, rfl, rfl, rfl, rfl, trivial⟩ (by decide) ?_
  refine L.alloc rfl rfl rfl (fun A5 => ?_)
  refine L.storeA (j := 7) rfl rfl rfl rfl rfl (Nat.zero_lt_succ _) rfl rfl ?_; refine L.nil (QE.seq (C.seq ?_)); refine C.regionY ?_; refine LY.step (Ev.loadA (vs := in5 (insAt ws k)) rfl rfl rfl (Src.o 7 rfl) rfl rfl (by decide)) rfl ?_; refine LY.step (Ev.load rfl rfl rfl (Src.r 0 rfl) rfl) rfl ?_; refine LY.step (Ev.pure rfl) rfl ?_; refine LY.step (Ev.mul rfl rfl (by omega) (by omega)) rfl ?_; refine LY.call (js := []) (js' := [0, 1, 2, 3, 4, 5, 6, 7]) (linked_c (insAt ws k) (4 * (ws.length : Int))) rfl rfl rfl (by decide) trivial rfl ?_
  rintro _ _ _ ⟨rfl, rfl, rfl⟩
  refine LY.norm (H' := [_, _, _, _, _, _, _, _]) [0, 1, 2, 3, 4, 5, 6, 7] ⟨rfl, rfl, rfl, rfl, rfl, rfl, rfl, rfl, trivial⟩ (by decide) ?_; refine LY.step (Ev.pure rfl) rfl ?_
  refine LY.bool 22 rfl (fun hg22 => ?_) (fun hg22 => ?_)
  ·
   have hlk : lnk ws k = true := hg22
   refine LY.yes rfl ?_; refine LY.step (Ev.pure rfl) rfl ?_; refine LY.yes rfl ?_; refine LY.step (Ev.pure rfl) rfl ?_; refine LY.yes rfl ?_; refine LY.step (Ev.loadA (vs := in5 (insAt ws k)) rfl rfl rfl (Src.o 7 rfl) rfl rfl (by decide)) rfl ?_; refine LY.yes rfl ?_; refine LY.yieldR (js := [0, 1, 2, 3, 4, 5, 6]) (js' := [7]) hy (liftN ws k, markN ws k) (k, (insAt ws k)) ⟨by dsimp only; omega, hlk, rfl, liftN_len (by omega), markN_len (by omega)⟩ rfl rfl rfl rfl (by decide) (Hq [0, 1, 2] rfl) rfl ?_
   rintro ⟨w2, m2⟩ hnx
   have hnx1 : w2 = liftN ws (k + 1) := (congrArg Prod.fst hnx).trans (by dsimp only; rw [← liftN_succ (by omega)]; unfold liftW; rw [if_pos hlk])
   have hnx2 : m2 = markN ws (k + 1) := (congrArg Prod.snd hnx).trans (markN_succ (by omega) hlk)
   subst hnx1 hnx2
   unfold StB
   dsimp only
   refine LY.yes rfl ?_; refine LY.step (Ev.pure rfl) rfl ?_; refine LY.step (Ev.pure rfl) rfl ?_; refine LY.nil ?_; refine QE.seq ?_
   refine C.cond rfl (fun h => by cases h) (fun _ => ?_)
   refine C.skip ?_; refine QE.blkN ?_; refine QE.seq (C.region ?_); refine L.step (Ev.add rfl rfl (by omega) (by omega)) rfl ?_; refine Lpu rfl rfl ?_; refine L.nil ?_
   refine QE.round (i := (k, u)) ((k + 1, u)) (by dsimp only; omega) (by dsimp only; omega) (by exact Le.mk' (rs := [0, 1, 2]) (hs := [0, 1, 2, 3, 4, 5, 6]) ⟨rfl, rfl, rfl, rfl, rfl, trivial⟩ ⟨rfl, rfl, rfl, trivial⟩ ⟨rfl, rfl, rfl, rfl, rfl, rfl, rfl, trivial⟩ (by decide))
  ·
   have hlk : lnk ws k = false := hg22
   refine LY.no rfl rfl rfl ?_; refine LY.no rfl rfl rfl ?_; refine LY.no rfl rfl rfl ?_; refine LY.no rfl rfl rfl ?_; refine LY.no rfl rfl rfl ?_; refine LY.step (Ev.pure rfl) rfl ?_; refine LY.nil ?_; refine QE.seq ?_
   refine C.cond rfl (fun h => by cases h) (fun _ => ?_)
   refine C.skip ?_; refine QE.blkN ?_; refine QE.seq (C.region ?_); refine L.step (Ev.add rfl rfl (by omega) (by omega)) rfl ?_; refine Lpu rfl rfl ?_; refine L.nil ?_
   refine QE.round (i := (k, u)) ((k + 1, u)) (by dsimp only; omega) (by dsimp only; omega) (by exact Le.mk' (rs := [0, 1, 2]) (hs := [0, 1, 2, 3, 4, 5, 6]) ⟨rfl, rfl, rfl, rfl, rfl, trivial⟩ ⟨rfl, rfl, rfl, trivial⟩ ⟨rfl, rfl, rfl, rfl, rfl, (congrArg some (by dsimp only; rw [liftN_skip (by omega) hlk])), (congrArg some (by dsimp only; rw [markN_skip (by omega) hlk])), trivial⟩ (by decide))
 ·
  replace hc9 := of_decide_eq_false hc9
  refine C.exit ?_; refine QE.tX ?_; refine QE.tX ?_; refine QE.blk ?_; refine QE.retN ?_; refine QE.ret (js := []) (hs := [0, 1, 2, 3, 4, 5, 6]) (vs := []) rfl trivial (by decide) ?_
  obtain rfl : k = ws.length := by omega
  exact ⟨rfl, rfl⟩

end Go.Proofs.YtbkmahjhhncfcaaGreat
