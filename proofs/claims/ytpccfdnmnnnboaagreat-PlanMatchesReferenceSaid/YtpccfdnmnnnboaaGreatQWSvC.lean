/-
  What changes between two lists of bytes, by an iterator of the program.
-/
import Derived.Test.YtpccfdnmnnnboaaGreatQSlT
import Derived.Test.YtpccfdnmnnnboaaGreatQSlR
import Derived.Test.YtpccfdnmnnnboaaGreatQPs
section
namespace Go.Proofs.YtpccfdnmnnnboaaGreat
open Go.Sl

def StR (A5 : Option Addr) (s : List (Nat × Nat) × Option Addr × Nat) : List Pr := [Own 104 1 A5 1 1 [.slice s.2.1 s.1.length s.2.2], Own 107 2 s.2.1 s.1.length s.2.2 (rangesV s.1)]
def encR (x : Nat × Nat) : List Value := [.agg (List.toArray [.int .i64 (x.1 : Int), .int .i64 (x.2 : Int)])]
def nxtR (s : List (Nat × Nat) × Option Addr × Nat) (x : Nat × Nat) (s2 : List (Nat × Nat) × Option Addr × Nat) : Prop := s2.1 = s.1 ++ [x]
def goodR (s : List (Nat × Nat) × Option Addr × Nat) (_x : Nat × Nat) : Prop := s.1.length ≤ 200000
theorem chg_stop {a b : List UInt8} {j : Nat} (h : a.length ≤ j ∨ (j < a.length ∧ a.getD j 0 = b.getD j 0)) (hj : j ≤ a.length := by omega) : chgN a b (min (j + 1) a.length) = chgN a b j := by
 rcases h with h | ⟨h, he⟩
 · rw [Nat.min_eq_right (by omega)]
   congr 1
   omega
 · rw [Nat.min_eq_left (by omega), chgN, if_pos he]
theorem chg_lt {s : List (Nat × Nat)} {k j : Nat} (h : ∀ x ∈ s, x.2 < k) (hkj : k ≤ j) : ∀ x ∈ s ++ [(k, j)], x.2 < j + 1 := by
 intro x hx
 rcases List.mem_append.1 hx with hx | hx
 · have := h x hx; omega
 · simp only [List.mem_singleton] at hx
   subst hx
   exact Nat.lt_succ_self _
theorem stepR_len (s : List (Nat × Nat)) (i : Nat) : (stepR s i).length ≤ s.length + 1 := by
 unfold stepR
 split
 · split <;> simp
 · simp
theorem chgN_len (a b : List UInt8) : ∀ k, (chgN a b k).length ≤ k
 | 0 => Nat.le_refl _
 | k + 1 => by
   rw [chgN]
   have := chgN_len a b k
   split
   · omega
   · have := stepR_len (chgN a b k) k; omega

set_option maxHeartbeats 1000000 in
theorem iter_c (l : Nat) (r : Loop) (PA PB : Option Addr) (SA SB : Option Addr) (a b : List UInt8) (ca cb : Nat) (hab : a.length = b.length) (hal : a.length ≤ 100000) (A5 : Option Addr) (hy : YieldOk X l r encR (StR A5) nxtR goodR) :
   Ctr X 135 [.func (.yield l) #[] #[], ptrOf PA 0, ptrOf PB 0] [Rd PA [.slice SA a.length ca], Rd PB [.slice SB b.length cb], Rd SA (U8 a), Rd SB (U8 b)] [LoopP l r, Own 104 1 A5 1 1 [.slice none ([] : List (Nat × Nat)).length 0], Own 107 2 none ([] : List (Nat × Nat)).length 0 (rangesV ([] : List (Nat × Nat)))] (fun _ R' H' => R' = [] ∧ ∃ (O : Option Addr) (c : Nat), H' = LoopP l r :: StR A5 (chgN a b a.length, O, c)) := by
 refine Ctr.of (X := X) (fn := Tryz.f135) Tryz.func135 rfl (by kernel_rfl) rfl ?_
 intro β
 refine C.seq (C.region ?_); refine Lpu rfl rfl ?_; refine L.nil (QE.seq (C.block ?_)); refine C.loop (fun q : Nat × List (Nat × Nat) × Option Addr × Nat => [(0, .func (.yield l) #[] #[]), (1, ptrOf PA 0), (2, ptrOf PB 0), (4, .int .i64 (q.1 : Int))]) (fun q : Nat × List (Nat × Nat) × Option Addr × Nat => [Rd PA [.slice SA a.length ca], Rd PB [.slice SB b.length cb], Rd SA (U8 a), Rd SB (U8 b)]) (fun q : Nat × List (Nat × Nat) × Option Addr × Nat => [LoopP l r, Own 104 1 A5 1 1 [.slice q.2.2.1 q.2.1.length q.2.2.2], Own 107 2 q.2.2.1 q.2.1.length q.2.2.2 (rangesV q.2.1)]) (fun q : Nat × List (Nat × Nat) × Option Addr × Nat => q.1 ≤ a.length + 1 ∧ q.2.1 = chgN a b (min q.1 a.length) ∧ ∀ x ∈ q.2.1, x.2 < q.1) (fun q : Nat × List (Nat × Nat) × Option Addr × Nat => a.length + 1 - q.1) (0, [], none, 0) ⟨Nat.zero_le _, by dsimp only; rw [Nat.zero_min]; rfl, fun x hx => by cases hx⟩ (by exact Le.mk' (rs := [0, 1, 2, 3]) (hs := [0, 1, 2]) ⟨rfl, rfl, rfl, rfl, trivial⟩ ⟨rfl, rfl, rfl, rfl, trivial⟩ ⟨rfl, rfl, rfl, trivial⟩ (by decide)) ?_
 rintro ⟨k, s, O, c⟩ ⟨hk, hs, hlt⟩
 dsimp only at hk hs hlt ⊢
 refine C.seq (C.seq (C.region ?_)); refine Lpu rfl rfl ?_; refine L.step (Ev.load rfl rfl rfl (Src.r 0 rfl) rfl) rfl ?_; refine Lpu rfl rfl ?_; refine Lpu rfl rfl ?_; refine L.nil (QE.seq ?_)
 refine C.condB 9 rfl (fun hc9 => ?_) (fun hc9 => ?_)
 ·
  replace hc9 := of_decide_eq_true hc9
  have hka : k < a.length := Int.ofNat_lt.1 hc9
  have hsk : chgN a b k = s := by rw [hs, Nat.min_eq_left (Nat.le_of_lt hka)]
  have hsl : s.length ≤ k := by rw [← hsk]; exact chgN_len a b k
  refine C.skip (QE.seq (C.seq (C.block (C.seq (C.region ?_))))); refine Lpu rfl rfl ?_; refine Lpu rfl rfl ?_; refine L.nil (QE.seq ?_); refine C.seqJ (fun j : Nat => [(0, .func (.yield l) #[] #[]), (1, ptrOf PA 0), (2, ptrOf PB 0), (5, .int .i64 (k : Int)), (4, .int .i64 (j : Int))]) (fun j : Nat => [Rd PA [.slice SA a.length ca], Rd PB [.slice SB b.length cb], Rd SA (U8 a), Rd SB (U8 b)]) (fun j : Nat => [LoopP l r, Own 104 1 A5 1 1 [.slice O s.length c], Own 107 2 O s.length c (rangesV s)]) (fun j : Nat => (k ≤ j ∧ j ≤ a.length ∧ chgN a b j = (if k < j then s ++ [(k, j)] else s)) ∧ chgN a b (min (j + 1) a.length) = chgN a b j) ?_ ?_
  ·
   refine C.block ?_; refine C.loop (fun j : Nat => [(0, .func (.yield l) #[] #[]), (1, ptrOf PA 0), (2, ptrOf PB 0), (5, .int .i64 (k : Int)), (4, .int .i64 (j : Int))]) (fun j : Nat => [Rd PA [.slice SA a.length ca], Rd PB [.slice SB b.length cb], Rd SA (U8 a), Rd SB (U8 b)]) (fun j : Nat => [LoopP l r, Own 104 1 A5 1 1 [.slice O s.length c], Own 107 2 O s.length c (rangesV s)]) (fun j : Nat => k ≤ j ∧ j ≤ a.length ∧ chgN a b j = (if k < j then s ++ [(k, j)] else s)) (fun j : Nat => a.length - j) k ⟨Nat.le_refl _, Nat.le_of_lt hka, by rw [if_neg (Nat.lt_irrefl _)]; exact hsk⟩ (by exact Le.mk' (rs := [0, 1, 2, 3]) (hs := [0, 1, 2]) ⟨rfl, rfl, rfl, rfl, rfl, trivial⟩ ⟨rfl, rfl, rfl, rfl, trivial⟩ ⟨rfl, rfl, rfl, trivial⟩ (by decide)) ?_
   rintro j hj
   have hkj := hj.1
   have hjl := hj.2.1
   refine C.seq (C.seq ?_); refine C.regionQ (by kernel_rfl) ?_; refine LQ.step (Ev.pure rfl) rfl ?_; refine LQ.step (Ev.load rfl rfl rfl (Src.r 0 rfl) rfl) rfl ?_; refine LQ.step (Ev.pure rfl) rfl ?_; refine LQ.step (Ev.pure rfl) rfl ?_; refine LQ.step (Ev.pure rfl) rfl ?_
   refine LQ.bool 17 rfl (fun hg17 => ?_) (fun hg17 => ?_)
   ·
    replace hg17 := of_decide_eq_true hg17
    have hja : j < a.length := Int.ofNat_lt.1 hg17
    refine LQ.yes rfl ?_; refine LQ.step (Ev.load rfl rfl rfl (Src.r 0 rfl) rfl) rfl ?_; refine LQ.yes rfl ?_; refine LQ.step (Ev.pure rfl) rfl ?_; refine LQ.yes rfl ?_; refine LQ.step (Ev.idx1 (k := j) rfl rfl rfl rfl rfl rfl rfl hja (Src.r 2 rfl) (by rw [U8_len]; omega)) rfl ?_; refine LQ.yes rfl ?_; refine LQ.step (Ev.load rfl rfl rfl (Src.r 2 rfl) (U8_get hja)) rfl ?_; refine LQ.yes rfl ?_; refine LQ.step (Ev.load rfl rfl rfl (Src.r 1 rfl) rfl) rfl ?_; refine LQ.yes rfl ?_; refine LQ.step (Ev.pure rfl) rfl ?_; refine LQ.yes rfl ?_; refine LQ.step (Ev.idx1 (k := j) rfl rfl rfl rfl rfl rfl rfl (by omega) (Src.r 3 rfl) (by rw [U8_len]; omega)) rfl ?_; refine LQ.yes rfl ?_; refine LQ.step (Ev.load rfl rfl rfl (Src.r 3 rfl) (U8_get (by omega))) rfl ?_; refine LQ.yes rfl ?_; refine LQ.step (Ev.pure rfl) rfl ?_; refine LQ.step (Ev.pure rfl) rfl ?_; refine LQ.nil ?_; refine QE.seq ?_
    refine C.condB 27 rfl (fun hc27 => ?_) (fun hc27 => ?_)
    ·
     replace hc27 := b_ne hc27
     refine C.skip (QE.seq (C.block (C.region ?_))); refine Lpu rfl rfl ?_; refine L.step (Ev.add rfl rfl (by omega) (by omega)) rfl ?_; refine Lpu rfl rfl ?_; refine L.nil ?_; refine QE.blkN ?_
     refine QE.round (j + 1) (by exact ⟨by omega, by omega, chgN_run hlt hkj hj.2.2 (fun e => hc27 (u8_eq.2 e))⟩) (by omega) (by exact Le.mk' (rs := [0, 1, 2, 3]) (hs := [0, 1, 2]) ⟨rfl, rfl, rfl, rfl, rfl, trivial⟩ ⟨rfl, rfl, rfl, rfl, trivial⟩ ⟨rfl, rfl, rfl, trivial⟩ (by decide))
    ·
     replace hc27 := b_eq hc27
     refine C.exit ?_; refine QE.tX ?_; refine QE.tX ?_; refine QE.blk ?_
     refine QE.join (j) (by exact ⟨hj, chg_stop (.inr ⟨hja, u8_eq.1 hc27⟩)⟩) (by exact Le.mk' (rs := [0, 1, 2, 3]) (hs := [0, 1, 2]) ⟨rfl, rfl, rfl, rfl, rfl, trivial⟩ ⟨rfl, rfl, rfl, rfl, trivial⟩ ⟨rfl, rfl, rfl, trivial⟩ (by decide))
   ·
    replace hg17 := of_decide_eq_false hg17
    refine LQ.no rfl rfl rfl ?_; refine LQ.no rfl rfl rfl ?_; refine LQ.no rfl rfl rfl ?_; refine LQ.no rfl rfl rfl ?_; refine LQ.no rfl rfl rfl ?_; refine LQ.no rfl rfl rfl ?_; refine LQ.no rfl rfl rfl ?_; refine LQ.no rfl rfl rfl ?_; refine LQ.no rfl rfl rfl ?_; refine LQ.step (Ev.pure rfl) rfl ?_; refine LQ.nil ?_; refine QE.seq ?_
    refine C.cond rfl (fun h => by cases h) (fun _ => ?_)
    refine C.exit ?_; refine QE.tX ?_; refine QE.tX ?_; refine QE.blk ?_
    refine QE.join (j) (by exact ⟨hj, chg_stop (.inl (by omega))⟩) (by exact Le.mk' (rs := [0, 1, 2, 3]) (hs := [0, 1, 2]) ⟨rfl, rfl, rfl, rfl, rfl, trivial⟩ ⟨rfl, rfl, rfl, rfl, trivial⟩ ⟨rfl, rfl, rfl, trivial⟩ (by decide))
  ·
   rintro j ⟨⟨hkj, hjl, hcj⟩, hstop⟩
   refine C.seq ?_; refine C.regionY ?_; refine LY.step (Ev.pure rfl) rfl ?_; refine LY.step (Ev.pure rfl) rfl ?_; refine LY.step (Ev.pure rfl) rfl ?_; refine LY.step (Ev.pure rfl) rfl ?_
   refine LY.bool 33 rfl (fun hg33 => ?_) (fun hg33 => ?_)
   ·
    replace hg33 := of_decide_eq_true hg33
    refine LY.yes rfl ?_; refine LY.step (Ev.pure rfl) rfl ?_; refine LY.yes rfl ?_; refine LY.step (Ev.pure rfl) rfl ?_; refine LY.yes rfl ?_; refine LY.step (Ev.pure rfl) rfl ?_; refine LY.yes rfl ?_; refine LY.step (Ev.build rfl rfl rfl rfl rfl rfl rfl) rfl ?_; refine LY.yes rfl ?_; refine LY.yield (js := [0, 1, 2]) (js' := []) hy (s, O, c) (k, j) (show s.length ≤ 200000 by omega) rfl rfl rfl rfl (by decide) rfl ?_
    rintro ⟨s2, O2, c2⟩ hnx
    have hnx2 : s2 = s ++ [(k, j)] := hnx
    subst hnx2
    refine LY.yes rfl ?_; refine LY.step (Ev.pure rfl) rfl ?_; refine LY.step (Ev.pure rfl) rfl ?_; refine LY.nil ?_; refine QE.seq ?_
    refine C.cond rfl (fun h => by cases h) (fun _ => ?_)
    refine C.skip ?_; refine QE.blkN ?_; refine QE.seq (C.region ?_); refine Lpu rfl rfl ?_; refine L.step (Ev.add rfl rfl (by omega) (by omega)) rfl ?_; refine Lpu rfl rfl ?_; refine L.nil ?_
    refine QE.round (i := (k, s, O, c)) ((j + 1, s ++ [(k, j)], O2, c2)) (by exact ⟨by dsimp only; omega, by dsimp only; rw [hstop, hcj, if_pos (by omega)], chg_lt hlt (by omega)⟩) (by dsimp only; omega) (by exact Le.mk' (rs := [0, 1, 2, 3]) (hs := [0, 1, 2]) ⟨rfl, rfl, rfl, rfl, trivial⟩ ⟨rfl, rfl, rfl, rfl, trivial⟩ ⟨rfl, rfl, rfl, trivial⟩ (by decide))
   ·
    replace hg33 := of_decide_eq_false hg33
    refine LY.no rfl rfl rfl ?_; refine LY.no rfl rfl rfl ?_; refine LY.no rfl rfl rfl ?_; refine LY.no rfl rfl rfl ?_; refine LY.no rfl rfl rfl ?_; refine LY.no rfl rfl rfl ?_; refine LY.step (Ev.pure rfl) rfl ?_; refine LY.nil ?_; refine QE.seq ?_
    refine C.cond rfl (fun h => by cases h) (fun _ => ?_)
    refine C.skip ?_; refine QE.blkN ?_; refine QE.seq (C.region ?_); refine Lpu rfl rfl ?_; refine L.step (Ev.add rfl rfl (by omega) (by omega)) rfl ?_; refine Lpu rfl rfl ?_; refine L.nil ?_
    refine QE.round (i := (k, s, O, c)) ((j + 1, s, O, c)) (by exact ⟨by dsimp only; omega, by dsimp only; rw [hstop, hcj, if_neg (by omega)], fun x hx => Nat.lt_of_lt_of_le (hlt x hx) (by dsimp only; omega)⟩) (by dsimp only; omega) (by exact Le.mk' (rs := [0, 1, 2, 3]) (hs := [0, 1, 2]) ⟨rfl, rfl, rfl, rfl, trivial⟩ ⟨rfl, rfl, rfl, rfl, trivial⟩ ⟨rfl, rfl, rfl, trivial⟩ (by decide))
 ·
  replace hc9 := of_decide_eq_false hc9
  refine C.exit ?_; refine QE.tX ?_; refine QE.tX ?_; refine QE.blk ?_; refine QE.retN ?_; refine QE.ret (js := []) (hs := [0, 1, 2]) (vs := []) rfl trivial (by decide) ?_
  obtain rfl : s = chgN a b a.length := by rw [hs]; congr 1; omega
  exact ⟨rfl, O, c, rfl⟩

theorem changes_c (SA SB : Option Addr) (n m : Nat) (ca cb : Nat) :
   Ctr X 95 [.slice SA n ca, .slice SB m cb] [] [] (fun v R' H' => ∃ PA PB : Option Addr, v = .func (.func 135) #[] #[ptrOf PA 0, ptrOf PB 0] ∧ R' = [Rd PA [.slice SA n ca], Rd PB [.slice SB m cb]] ∧ H' = []) := by
 refine Ctr.of (X := X) (fn := Tryz.f95) Tryz.func95 rfl (by kernel_rfl) rfl ?_
 intro β
 refine C.seq (C.region ?_)
 refine L.box rfl rfl rfl (fun A2 => ?_)
 refine L.box rfl rfl rfl (fun A3 => ?_)
 refine Lpu rfl rfl ?_; refine L.nil (QE.seq (C.seq (C.region ?_))); refine Lpu rfl rfl ?_; refine Lpu rfl rfl ?_; refine L.nil (QE.seq (C.ret ?_)); refine QE.freeze 0 rfl [1] (by decide) (by decide) ?_; refine QE.freeze 0 rfl [] (by decide) (by decide) ?_; refine QE.ret (js := [1, 0]) (hs := []) (vs := [_]) rfl ⟨rfl, trivial⟩ (by decide) ?_
 exact ⟨A2, A3, rfl, rfl, rfl⟩

set_option maxHeartbeats 1000000 in
theorem changed_c (SA SB : Option Addr) (a b : List UInt8) (ca cb : Nat) (hab : a.length = b.length) (hal : a.length ≤ 100000) :
   Ctr X 52 [.slice SA a.length ca, .slice SB b.length cb] [Rd SA (U8 a), Rd SB (U8 b)] [] (fun v R' H' => ∃ (O : Option Addr) (c : Nat), v = .slice O (chgN a b a.length).length c ∧ R' = [] ∧ H' = [Own 107 2 O (chgN a b a.length).length c (rangesV (chgN a b a.length))]) := by
 refine Ctr.ofM (X := X) (fn := Tryz.f52) Tryz.func52 rfl (by kernel_rfl) rfl ?_
 intro β
 refine C.seq (C.region ?_); refine Lpu rfl rfl ?_; refine L.nil (QE.seq (C.seq (C.region ?_)))
 refine L.alloc rfl rfl rfl (fun A5 => ?_)
 refine L.nil (QE.seq (C.seq (C.seq ?_))); refine C.own0 107 2 ?_; refine C.region ?_; refine Lpu rfl rfl ?_; refine Lpu rfl rfl ?_; refine L.callR (js := []) (js' := [0, 1]) (changes_c SA SB a.length b.length ca cb) rfl rfl rfl (by decide) trivial rfl ?_
 rintro _ _ _ ⟨PA, PB, rfl, rfl, rfl⟩
 refine L.nil (QE.seq (C.block ?_))
 refine C.rangeF (Rf := [Rd PA [.slice SA a.length ca], Rd PB [.slice SB b.length cb], Rd SA (U8 a), Rd SB (U8 b)]) (js := [0, 1]) (js' := []) (He := fun i : Option Addr × Nat => StR A5 (chgN a b a.length, i.1, i.2)) rfl rfl rfl (by decide) (Hq [0, 1, 2, 3] rfl) (fun l d fn tmps hfr => ?_) (fun d i => ?_)
 ·
  refine (iter_c l _ PA PB SA SB a b ca cb hab hal A5 ?_).mono ?_
  ·
   intro β2 w2 s x hg hs2
   obtain ⟨rs, O, c⟩ := s
   obtain ⟨p, q⟩ := x
   have hrl : rs.length ≤ 200000 := hg
   refine round_ok (He := StR A5) (good := nxtR (rs, O, c) (p, q)) hfr (by decide) rfl rfl rfl rfl rfl rfl rfl hs2 ?_
   refine L.alloc rfl rfl rfl (fun A6 => ?_)
   refine L.storeA (vs := [.int .i64 (p : Int), .int .i64 (q : Int)]) (j := 3) rfl rfl rfl rfl rfl (Nat.zero_lt_succ _) rfl rfl ?_; refine L.nil ?_
   refine fun a1 w1 hf1 hs1 => ⟨rfl, _, _, hf1, hs1, ?_⟩
   refine L.step (Ev.load rfl rfl rfl (Src.o 1 rfl) rfl) rfl ?_; refine L.step (Ev.loadA (vs := [.int .i64 (p : Int), .int .i64 (q : Int)]) rfl rfl rfl (Src.o 3 rfl) rfl rfl (by decide)) rfl ?_
   refine L.lit1A (cs := [.int .i64 (p : Int), .int .i64 (q : Int)]) rfl rfl rfl rfl (Nat.zero_lt_succ _) rfl rfl rfl (fun A13 => ?_)
   refine L.append (j := 2) rfl rfl rfl rfl (by decide) rfl rfl rfl rfl (Src.o 4 rfl) rfl (rangesV_one [(p, q)]) (by show rs.length + 1 ≤ _; omega) (by show (rs.length + 1) * 16 ≤ _; omega) rfl (fun A14 c14 => ?_)
   refine L.store (j := 1) rfl rfl rfl rfl rfl rfl rfl rfl ?_; refine L.nil ?_
   refine fun a2 w3 hf2 hs3 => ⟨rfl, (rs ++ [(p, q)], A14, c14), rfl, ?_⟩
   have h3 := hs3.sel (js := [0, 1, 2]) (by decide)
   have e1 : (rs ++ [(p, q)]).length = rs.length + 1 := by simp
   unfold StR
   dsimp only
   rw [e1, ← rangesV_snoc]
   exact h3
  · rintro v R' H' ⟨rfl, O, c, rfl⟩
    exact ⟨rfl, (O, c), rfl⟩
 ·
  obtain ⟨O, c⟩ := i
  dsimp only [StR]
  refine QE.blkN ?_; refine QE.seq (C.seq (C.region ?_)); refine L.step (Ev.load rfl rfl rfl (Src.o 1 rfl) rfl) rfl ?_; refine Lpu rfl rfl ?_; refine L.nil (QE.seq (C.ret ?_)); refine QE.retM (j := 0) (js := []) (hs := [2]) (vs := [_]) rfl rfl ⟨rfl, trivial⟩ (by decide) ?_
  exact ⟨O, c, rfl, rfl, rfl⟩

end Go.Proofs.YtpccfdnmnnnboaaGreat
end
/-
  Reading a record by its places, as the reference does, and restoring.
-/
section
namespace Go.Sl

/-! ### Restore -/
def ResBad (b rec : List UInt8) : Prop := parseS rec (b.length : Int) = none ∨ b.length < 1 ∨ 4096 < b.length
instance (b rec : List UInt8) : Decidable (ResBad b rec) := by unfold ResBad; infer_instance
theorem ResBad.no {b rec : List UInt8} {ps : List Pc} (h : parseS rec (b.length : Int) = some ps) (h1 : 1 ≤ b.length) (h2 : b.length ≤ 4096) : ¬ResBad b rec := by
 unfold ResBad
 rw [h]
 rintro (hx | hx)
 · cases hx
 · omega
end Go.Sl
end
/-
  The record of a change, of the program and of the reference.
-/
section
namespace Go.Proofs.YtpccfdnmnnnboaaGreat
open Go.Sl

set_option maxHeartbeats 1000000 in
theorem changed01_c (SA SB : Option Addr) (a b : List UInt8) (ca cb : Nat) (hab : a.length = b.length) (hal : a.length ≤ 100000) :
   Ctr X 78 [.slice SA a.length ca, .slice SB b.length cb] [Rd SA (U8 a), Rd SB (U8 b)] [] (fun v R' H' => ∃ (O : Option Addr) (c : Nat), v = .slice O (chgN a b a.length).length c ∧ R' = [] ∧ H' = [Own 107 2 O (chgN a b a.length).length c (rangesV (chgN a b a.length))]) := by
 refine Ctr.of (X := X) (fn := Tryz.f78) Tryz.func78 rfl (by kernel_rfl) rfl ?_
 intro β
 refine C.seq (C.region ?_); refine Lpu rfl rfl ?_; refine L.nil (QE.seq (C.seq (C.region ?_)))
 refine L.lit0A rfl rfl rfl rfl (fun A8 => ?_)
 refine Lpu rfl rfl ?_; refine L.nil (QE.seq (C.seq (C.seq (C.region ?_)))); refine Lpu rfl rfl ?_; refine L.nil (QE.seq (C.block ?_)); refine C.loop (fun q : Nat × Option Addr × Nat => [(0, .slice SA a.length ca), (1, .slice SB b.length cb), (5, .slice q.2.1 (chgN a b q.1).length q.2.2), (6, .int .i64 (q.1 : Int))]) (fun q : Nat × Option Addr × Nat => [Rd SA (U8 a), Rd SB (U8 b)]) (fun q : Nat × Option Addr × Nat => [Own 107 2 q.2.1 (chgN a b q.1).length q.2.2 (rangesV (chgN a b q.1))]) (fun q : Nat × Option Addr × Nat => q.1 ≤ a.length) (fun q : Nat × Option Addr × Nat => a.length - q.1) (0, A8, 0) (Nat.zero_le _) (by exact Le.mk' (rs := [0, 1]) (hs := [0]) ⟨rfl, rfl, rfl, rfl, trivial⟩ ⟨rfl, rfl, trivial⟩ ⟨rfl, trivial⟩ (by decide)) ?_
 rintro ⟨k, O, c⟩ hk
 dsimp only at hk ⊢
 refine C.seq (C.seq ?_)
 have hcl := chgN_len' a b k
 refine C.region ?_; refine Lpu rfl rfl ?_; refine Lpu rfl rfl ?_; refine Lpu rfl rfl ?_; refine Lpu rfl rfl ?_; refine L.nil (QE.seq ?_)
 refine C.condB 12 rfl (fun hc12 => ?_) (fun hc12 => ?_)
 ·
  replace hc12 := of_decide_eq_true hc12
  refine C.skip (QE.seq (C.seq (C.block (C.seq (C.seq ?_))))); refine C.regionQ (by kernel_rfl) ?_; refine LQ.step (Ev.pure rfl) rfl ?_; refine LQ.step (Ev.pure rfl) rfl ?_; refine LQ.step (Ev.idx1 (k := k) rfl rfl rfl rfl rfl rfl rfl (by omega) (Src.r 0 rfl) (by rw [U8_len]; omega)) rfl ?_; refine LQ.step (Ev.load rfl rfl rfl (Src.r 0 rfl) (U8_get (by omega))) rfl ?_; refine LQ.step (Ev.pure rfl) rfl ?_; refine LQ.step (Ev.pure rfl) rfl ?_; refine LQ.step (Ev.idx1 (k := k) rfl rfl rfl rfl rfl rfl rfl (by omega) (Src.r 1 rfl) (by rw [U8_len]; omega)) rfl ?_; refine LQ.step (Ev.load rfl rfl rfl (Src.r 1 rfl) (U8_get (by omega))) rfl ?_; refine LQ.step (Ev.pure rfl) rfl ?_; refine LQ.nil ?_; refine QE.seq ?_
  refine C.condB 23 rfl (fun hc23 => ?_) (fun hc23 => ?_)
  ·
   replace hc23 := i_eq hc23
   refine C.exit ?_; refine QE.tX ?_; refine QE.blk ?_; refine QE.seq (C.region ?_); refine Lpu rfl rfl ?_; refine L.step (Ev.add rfl rfl (by omega) (by omega)) rfl ?_; refine Lpu rfl rfl ?_; refine L.nil ?_
   have e1 : chgN a b (k + 1) = chgN a b k := by rw [chgN, if_pos (u8_eq.1 hc23)]
   refine QE.round (i := (k, O, c)) ((k + 1, O, c)) (by dsimp only; omega) (by dsimp only; omega) (by exact Le.mk' (rs := [0, 1]) (hs := [0]) ⟨rfl, rfl, (by dsimp only; rw [e1]; rfl), rfl, trivial⟩ ⟨rfl, rfl, trivial⟩ ⟨(by dsimp only; rw [e1]; rfl), trivial⟩ (by decide))
  ·
   replace hc23 := i_ne hc23
   refine C.skip (QE.seq (C.seq (C.region ?_))); refine Lpu rfl rfl ?_; refine Lpu rfl rfl ?_; refine Lpu rfl rfl ?_; refine L.nil (QE.seq (C.seq (C.region ?_))); refine Lpu rfl rfl ?_; refine Lpu rfl rfl ?_; refine Lpu rfl rfl ?_
   refine L.bool 28 rfl (fun hg28 => ?_) (fun hg28 => ?_)
   ·
    replace hg28 := of_decide_eq_true hg28
    refine L.yes rfl ?_; refine Lpu rfl rfl ?_; refine L.yes rfl ?_; refine Lpu rfl rfl ?_; refine L.yes rfl ?_; refine L.step (Ev.sub rfl rfl (by omega) (by omega)) rfl ?_; refine L.yes rfl ?_; refine L.step (Ev.idx (k := (chgN a b k).length - 1) (m := ((chgN a b k).length - 1) * 2) rfl rfl rfl rfl rfl (by omega) (by omega) (Src.o 0 rfl) (ranges_pos (k := (chgN a b k).length - 1) (by omega)) rfl) rfl ?_; refine L.yes rfl ?_; refine L.step (Ev.fieldAddr rfl rfl rfl rfl rfl rfl (Src.o 0 rfl) (ranges_pos (k := 0) (by omega)) rfl) rfl ?_; refine L.yes rfl ?_; refine L.step (Ev.load rfl rfl rfl (Src.o 0 rfl) (rangesV_get (chgN a b k) ((chgN a b k).length - 1) 1 (by omega) (by decide))) rfl ?_; refine L.yes rfl ?_; refine Lpu rfl rfl ?_; refine L.yes rfl ?_; refine Lpu rfl rfl ?_; refine Lpu rfl rfl ?_; refine L.nil (QE.seq ?_)
    refine C.condB 37 rfl (fun hc37 => ?_) (fun hc37 => ?_)
    ·
     replace hc37 := i_eq hc37
     refine C.region ?_; refine Lpu rfl rfl ?_; refine Lpu rfl rfl ?_; refine L.step (Ev.sub rfl rfl (by omega) (by omega)) rfl ?_; refine Lpu rfl rfl ?_; refine L.step (Ev.add rfl rfl (by omega) (by omega)) rfl ?_; refine L.step (Ev.idx (k := (chgN a b k).length - 1) (m := ((chgN a b k).length - 1) * 2) rfl rfl rfl rfl rfl (by omega) (by omega) (Src.o 0 rfl) (ranges_pos (k := (chgN a b k).length - 1) (by omega)) rfl) rfl ?_; refine L.step (Ev.fieldAddr rfl rfl rfl rfl rfl rfl (Src.o 0 rfl) (ranges_pos (k := 0) (by omega)) rfl) rfl ?_; refine L.store (j := 0) rfl rfl rfl rfl rfl rfl rfl (by exact rangesV_get (chgN a b k) ((chgN a b k).length - 1) 1 (by omega) (by decide)) ?_; refine L.nil ?_; refine QE.blkN ?_; refine QE.seq (C.region ?_); refine Lpu rfl rfl ?_; refine L.step (Ev.add rfl rfl (by omega) (by omega)) rfl ?_; refine Lpu rfl rfl ?_; refine L.nil ?_
     have e1 : chgN a b (k + 1) = (chgN a b k).set ((chgN a b k).length - 1) (((chgN a b k).getD ((chgN a b k).length - 1) (0, 0)).1, k + 1) := by rw [chgN, if_neg (fun e => hc23 (u8_eq.2 e)), stepR_put (by omega) (by exact Int.ofNat.inj hc37)]
     have e2 : (chgN a b (k + 1)).length = (chgN a b k).length := by rw [e1, List.length_set]
     refine QE.round (i := (k, O, c)) ((k + 1, O, c)) (by dsimp only; omega) (by dsimp only; omega) (by exact Le.mk' (rs := [0, 1]) (hs := [0]) ⟨rfl, rfl, (by dsimp only; rw [e2]; rfl), rfl, trivial⟩ ⟨rfl, rfl, trivial⟩ ⟨(congrArg some (own_eq e2.symm (by dsimp only; rw [e1]; exact rangesV_set2 _ _ (k + 1) (by omega)))), trivial⟩ (by decide))
    ·
     replace hc37 := i_ne hc37
     refine C.region ?_; refine Lpu rfl rfl ?_; refine Lpu rfl rfl ?_; refine Lpu rfl rfl ?_; refine L.step (Ev.add rfl rfl (by omega) (by omega)) rfl ?_; refine L.step (Ev.build rfl rfl rfl rfl rfl rfl rfl) rfl ?_
     refine L.lit1A (cs := [.int .i64 (k : Int), .int .i64 ((k : Int) + 1)]) rfl rfl rfl rfl (Nat.zero_lt_succ _) rfl rfl rfl (fun A50 => ?_)
     refine L.append (j := 0) rfl rfl rfl rfl (by decide) rfl rfl rfl rfl (Src.o 1 rfl) rfl (by exact rangesV_one [(k, k + 1)]) (by omega) (by show _ * 16 ≤ _; omega) rfl (fun A51 cc51 => ?_)
     refine Lpu rfl rfl ?_; refine L.nil ?_; refine QE.blkN ?_; refine QE.seq (C.region ?_); refine Lpu rfl rfl ?_; refine L.step (Ev.add rfl rfl (by omega) (by omega)) rfl ?_; refine Lpu rfl rfl ?_; refine L.nil ?_
     have hst : (chgN a b k).length = 0 ∨ ((chgN a b k).getD ((chgN a b k).length - 1) (0, 0)).2 ≠ k := .inr (fun e => hc37 (congrArg Int.ofNat e))
     have e1 : chgN a b (k + 1) = chgN a b k ++ [(k, k + 1)] := by rw [chgN, if_neg (fun e => hc23 (u8_eq.2 e)), stepR_app hst]
     have e2 : (chgN a b (k + 1)).length = (chgN a b k).length + 1 := by rw [e1]; simp
     refine QE.round (i := (k, O, c)) ((k + 1, A51, cc51)) (by dsimp only; omega) (by dsimp only; omega) (by exact Le.mk' (rs := [0, 1]) (hs := [0]) ⟨rfl, rfl, (by dsimp only; rw [e2]; rfl), rfl, trivial⟩ ⟨rfl, rfl, trivial⟩ ⟨(congrArg some (own_eq e2.symm (by dsimp only; rw [e1]; exact rangesV_snoc _ (k, k + 1)))), trivial⟩ (by decide))
   ·
    replace hg28 := of_decide_eq_false hg28
    refine L.no rfl rfl rfl ?_; refine L.no rfl rfl rfl ?_; refine L.no rfl rfl rfl ?_; refine L.no rfl rfl rfl ?_; refine L.no rfl rfl rfl ?_; refine L.no rfl rfl rfl ?_; refine L.no rfl rfl rfl ?_; refine L.no rfl rfl rfl ?_; refine Lpu rfl rfl ?_; refine L.nil (QE.seq ?_)
    refine C.cond rfl (fun h => by cases h) (fun _ => ?_)
    refine C.region ?_; refine Lpu rfl rfl ?_; refine Lpu rfl rfl ?_; refine Lpu rfl rfl ?_; refine L.step (Ev.add rfl rfl (by omega) (by omega)) rfl ?_; refine L.step (Ev.build rfl rfl rfl rfl rfl rfl rfl) rfl ?_
    refine L.lit1A (cs := [.int .i64 (k : Int), .int .i64 ((k : Int) + 1)]) rfl rfl rfl rfl (Nat.zero_lt_succ _) rfl rfl rfl (fun A50 => ?_)
    refine L.append (j := 0) rfl rfl rfl rfl (by decide) rfl rfl rfl rfl (Src.o 1 rfl) rfl (by exact rangesV_one [(k, k + 1)]) (by omega) (by show _ * 16 ≤ _; omega) rfl (fun A51 cc51 => ?_)
    refine Lpu rfl rfl ?_; refine L.nil ?_; refine QE.blkN ?_; refine QE.seq (C.region ?_); refine Lpu rfl rfl ?_; refine L.step (Ev.add rfl rfl (by omega) (by omega)) rfl ?_; refine Lpu rfl rfl ?_; refine L.nil ?_
    have hst : (chgN a b k).length = 0 ∨ ((chgN a b k).getD ((chgN a b k).length - 1) (0, 0)).2 ≠ k := .inl (by omega)
    have e1 : chgN a b (k + 1) = chgN a b k ++ [(k, k + 1)] := by rw [chgN, if_neg (fun e => hc23 (u8_eq.2 e)), stepR_app hst]
    have e2 : (chgN a b (k + 1)).length = (chgN a b k).length + 1 := by rw [e1]; simp
    refine QE.round (i := (k, O, c)) ((k + 1, A51, cc51)) (by dsimp only; omega) (by dsimp only; omega) (by exact Le.mk' (rs := [0, 1]) (hs := [0]) ⟨rfl, rfl, (by dsimp only; rw [e2]; rfl), rfl, trivial⟩ ⟨rfl, rfl, trivial⟩ ⟨(congrArg some (own_eq e2.symm (by dsimp only; rw [e1]; exact rangesV_snoc _ (k, k + 1)))), trivial⟩ (by decide))
 ·
  replace hc12 := of_decide_eq_false hc12
  refine C.exit ?_; refine QE.tX ?_; refine QE.tX ?_; refine QE.blk ?_; refine QE.seq (C.seq (C.region ?_)); refine Lpu rfl rfl ?_; refine Lpu rfl rfl ?_; refine L.nil (QE.seq (C.ret ?_)); refine QE.ret (js := []) (hs := [0]) (vs := [_]) rfl ⟨rfl, trivial⟩ (by decide) ?_
  obtain rfl : k = a.length := by omega
  exact ⟨O, c, rfl, rfl, rfl⟩

end Go.Proofs.YtpccfdnmnnnboaaGreat
end
