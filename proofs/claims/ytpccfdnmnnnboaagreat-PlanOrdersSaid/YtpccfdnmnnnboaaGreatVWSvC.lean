/-
  What changes between two lists of bytes, by an iterator of the program.
-/
import Derived.Test.YtpccfdnmnnnboaaGreatVSlT
import Derived.Test.YtpccfdnmnnnboaaGreatVSlR
import Derived.Test.YtpccfdnmnnnboaaGreatVPs
import Derived.Test.YtpccfdnmnnnboaaGreatVWPlE
import Derived.Test.YtpccfdnmnnnboaaGreatVSlY
import Derived.Test.YtpccfdnmnnnboaaGreatVSlN
section
namespace Go.Proofs.YtpccfdnmnnnboaaGreat
open Go.Sl

def StR (A5 : Option Addr) (s : List (Nat × Nat) × Option Addr × Nat) : List Pr := [Own 104 1 A5 1 1 [.slice s.2.1 s.1.length s.2.2], Own 107 2 s.2.1 s.1.length s.2.2 (rangesV s.1)]
def encR (x : Nat × Nat) : List Value := [.agg (List.toArray [.int .i64 (x.1 : Int), .int .i64 (x.2 : Int)])]
def nxtR (s : List (Nat × Nat) × Option Addr × Nat) (x : Nat × Nat) (s2 : List (Nat × Nat) × Option Addr × Nat) : Prop := s2.1 = s.1 ++ [x]
def goodR (s : List (Nat × Nat) × Option Addr × Nat) (_x : Nat × Nat) : Prop := s.1.length ≤ 200000
theorem chg_stop {a b : List UInt8} {j : Nat} (h : a.length ≤ j ∨ (j < a.length ∧ a.getD j 0 = b.getD j 0)) (hj : j ≤ a.length := by omega) : chgN a b (min (j + 1) a.length) = chgN a b j := by
 rcases h with h | ⟨h, he⟩
 · rw [Nat.min_eq_right (by omega)]
   congr 1
   omega
 · rw [Nat.min_eq_left (by omega), chgN, if_pos he]
theorem chg_lt {s : List (Nat × Nat)} {k j : Nat} (h : ∀ x ∈ s, x.2 < k) (hkj : k ≤ j) : ∀ x ∈ s ++ [(k, j)], x.2 < j + 1 := by
 intro x hx
 rcases List.mem_append.1 hx with hx | hx
 · have := h x hx; omega
 · simp only [List.mem_singleton] at hx
   subst hx
   exact Nat.lt_succ_self _
theorem stepR_len (s : List (Nat × Nat)) (i : Nat) : (stepR s i).length ≤ s.length + 1 := by
 unfold stepR
 split
 · split <;> simp
 · simp
theorem chgN_len (a b : List UInt8) : ∀ k, (chgN a b k).length ≤ k
 | 0 => Nat.le_refl _
 | k + 1 => by
   rw [chgN]
   have := chgN_len a b k
   split
   · omega
   · have := stepR_len (chgN a b k) k; omega

set_option maxHeartbeats 1000000 in
theorem iter_c (l : Nat) (r : Loop) (PA PB : Option Addr) (SA SB : Option Addr) (a b : List UInt8) (ca cb : Nat) (hab : a.length = b.length) (hal : a.length ≤ 100000) (A5 : Option Addr) (hy : YieldOk X l r encR (StR A5) nxtR goodR) :
   Ctr X 135 [.func (.yield l) #[] #[], ptrOf PA 0, ptrOf PB 0] [Rd PA [.slice SA a.length ca], Rd PB [.slice SB b.length cb], Rd SA (U8 a), Rd SB (U8 b)] [LoopP l r, Own 104 1 A5 1 1 [.slice none ([] : List (Nat × Nat)).length 0], Own 107 2 none ([] : List (Nat × Nat)).length 0 (rangesV ([] : List (Nat × Nat)))] (fun _ R' H' => R' = [] ∧ ∃ (O : Option Addr) (c : Nat), H' = LoopP l r :: StR A5 (chgN a b a.length, O, c)) := by
 refine Ctr.of (X := X) (fn := Tryz.f135) Tryz.func135 rfl (by kernel_rfl) rfl ?_
 intro β
 refine C.seq (C.region ?_); refine Lpu rfl rfl ?_; refine L.nil (QE.seq (C.block ?_)); refine C.loop (fun q : Nat × List (Nat × Nat) × Option Addr × Nat => [(0, .func (.yield l) #[] #[]), (1, ptrOf PA 0), (2, ptrOf PB 0), (4, .int .i64 (q.1 : Int))]) (fun q : Nat × List (Nat × Nat) × Option Addr × Nat => [Rd PA [.slice SA a.length ca], Rd PB [.slice SB b.length cb], Rd SA (U8 a), Rd SB (U8 b)]) (fun q : Nat × List (Nat × Nat) × Option Addr × Nat => [LoopP l r, Own 104 1 A5 1 1 [.slice q.2.2.1 q.2.1.length q.2.2.2], Own 107 2 q.2.2.1 q.2.1.length q.2.2.2 (rangesV q.2.1)]) (fun q : Nat × List (Nat × Nat) × Option Addr × Nat => q.1 ≤ a.length + 1 ∧ q.2.1 = chgN a b (min q.1 a.length) ∧ ∀ x ∈ q.2.1, x.2 < q.1) (fun q : Nat × List (Nat × Nat) × Option Addr × Nat => a.length + 1 - q.1) (0, [], none, 0) ⟨Nat.zero_le _, by dsimp only; rw [Nat.zero_min]; rfl, fun x hx => by cases hx⟩ (by exact Le.mk' (rs := [0, 1, 2, 3]) (hs := [0, 1, 2]) ⟨rfl, rfl, rfl, rfl, trivial⟩ ⟨rfl, rfl, rfl, rfl, trivial⟩ ⟨rfl, rfl, rfl, trivial⟩ (by decide)) ?_
 rintro ⟨k, s, O, c⟩ ⟨hk, hs, hlt⟩
 dsimp only at hk hs hlt ⊢
 refine C.seq (C.seq (C.region ?_)); refine Lpu rfl rfl ?_; refine L.step (Ev.load rfl rfl rfl (Src.r 0 rfl) rfl) rfl ?_; refine Lpu rfl rfl ?_; refine Lpu rfl rfl ?_; refine L.nil (QE.seq ?_)
 refine C.condB 9 rfl (fun hc9 => ?_) (fun hc9 => ?_)
 ·
  replace hc9 := of_decide_eq_true hc9
  have hka : k < a.length := Int.ofNat_lt.1 hc9
  have hsk : chgN a b k = s := by rw [hs, Nat.min_eq_left (Nat.le_of_lt hka)]
  have hsl : s.length ≤ k := by rw [← hsk]; exact chgN_len a b k
  refine C.skip (QE.seq (C.seq (C.block (C.seq (C.region ?_))))); refine Lpu rfl rfl ?_; refine Lpu rfl rfl ?_; refine L.nil (QE.seq ?_); refine C.seqJ (fun j : Nat => [(0, .func (.yield l) #[] #[]), (1, ptrOf PA 0), (2, ptrOf PB 0), (5, .int .i64 (k : Int)), (4, .int .i64 (j : Int))]) (fun j : Nat => [Rd PA [.slice SA a.length ca], Rd PB [.slice SB b.length cb], Rd SA (U8 a), Rd SB (U8 b)]) (fun j : Nat => [LoopP l r, Own 104 1 A5 1 1 [.slice O s.length c], Own 107 2 O s.length c (rangesV s)]) (fun j : Nat => (k ≤ j ∧ j ≤ a.length ∧ chgN a b j = (if k < j then s ++ [(k, j)] else s)) ∧ chgN a b (min (j + 1) a.length) = chgN a b j) ?_ ?_
  ·
   refine C.block ?_; refine C.loop (fun j : Nat => [(0, .func (.yield l) #[] #[]), (1, ptrOf PA 0), (2, ptrOf PB 0), (5, .int .i64 (k : Int)), (4, .int .i64 (j : Int))]) (fun j : Nat => [Rd PA [.slice SA a.length ca], Rd PB [.slice SB b.length cb], Rd SA (U8 a), Rd SB (U8 b)]) (fun j : Nat => [LoopP l r, Own 104 1 A5 1 1 [.slice O s.length c], Own 107 2 O s.length c (rangesV s)]) (fun j : Nat => k ≤ j ∧ j ≤ a.length ∧ chgN a b j = (if k < j then s ++ [(k, j)] else s)) (fun j : Nat => a.length - j) k ⟨Nat.le_refl _, Nat.le_of_lt hka, by rw [if_neg (Nat.lt_irrefl _)]; exact hsk⟩ (by exact Le.mk' (rs := [0, 1, 2, 3]) (hs := [0, 1, 2]) ⟨rfl, rfl, rfl, rfl, rfl, trivial⟩ ⟨rfl, rfl, rfl, rfl, trivial⟩ ⟨rfl, rfl, rfl, trivial⟩ (by decide)) ?_
   rintro j hj
   have hkj := hj.1
   have hjl := hj.2.1
   refine C.seq (C.seq ?_); refine C.regionQ (by kernel_rfl) ?_; refine LQ.step (Ev.pure rfl) rfl ?_; refine LQ.step (Ev.load rfl rfl rfl (Src.r 0 rfl) rfl) rfl ?_; refine LQ.step (Ev.pure rfl) rfl ?_; refine LQ.step (Ev.pure rfl) rfl ?_; refine LQ.step (Ev.pure rfl) rfl ?_
   refine LQ.bool 17 rfl (fun hg17 => ?_) (fun hg17 => ?_)
   ·
    replace hg17 := of_decide_eq_true hg17
    have hja : j < a.length := Int.ofNat_lt.1 hg17
    refine LQ.yes rfl ?_; refine LQ.step (Ev.load rfl rfl rfl (Src.r 0 rfl) rfl) rfl ?_; refine LQ.yes rfl ?_; refine LQ.step (Ev.pure rfl) rfl ?_; refine LQ.yes rfl ?_; refine LQ.step (Ev.idx1 (k := j) rfl rfl rfl rfl rfl rfl rfl hja (Src.r 2 rfl) (by rw [U8_len]; omega)) rfl ?_; refine LQ.yes rfl ?_; refine LQ.step (Ev.load rfl rfl rfl (Src.r 2 rfl) (U8_get hja)) rfl ?_; refine LQ.yes rfl ?_; refine LQ.step (Ev.load rfl rfl rfl (Src.r 1 rfl) rfl) rfl ?_; refine LQ.yes rfl ?_; refine LQ.step (Ev.pure rfl) rfl ?_; refine LQ.yes rfl ?_; refine LQ.step (Ev.idx1 (k := j) rfl rfl rfl rfl rfl rfl rfl (by omega) (Src.r 3 rfl) (by rw [U8_len]; omega)) rfl ?_; refine LQ.yes rfl ?_; refine LQ.step (Ev.load rfl rfl rfl (Src.r 3 rfl) (U8_get (by omega))) rfl ?_; refine LQ.yes rfl ?_; refine LQ.step (Ev.pure rfl) rfl ?_; refine LQ.step (Ev.pure rfl) rfl ?_; refine LQ.nil ?_; refine QE.seq ?_
    refine C.condB 27 rfl (fun hc27 => ?_) (fun hc27 => ?_)
    ·
     replace hc27 := b_ne hc27
     refine C.skip (QE.seq (C.block (C.region ?_))); refine Lpu rfl rfl ?_; refine L.step (Ev.add rfl rfl (by omega) (by omega)) rfl ?_; refine Lpu rfl rfl ?_; refine L.nil ?_; refine QE.blkN ?_
     refine QE.round (j + 1) (by exact ⟨by omega, by omega, chgN_run hlt hkj hj.2.2 (fun e => hc27 (u8_eq.2 e))⟩) (by omega) (by exact Le.mk' (rs := [0, 1, 2, 3]) (hs := [0, 1, 2]) ⟨rfl, rfl, rfl, rfl, rfl, trivial⟩ ⟨rfl, rfl, rfl, rfl, trivial⟩ ⟨rfl, rfl, rfl, trivial⟩ (by decide))
    ·
     replace hc27 := b_eq hc27
     refine C.exit ?_; refine QE.tX ?_; refine QE.tX ?_; refine QE.blk ?_
     refine QE.join (j) (by exact ⟨hj, chg_stop (.inr ⟨hja, u8_eq.1 hc27⟩)⟩) (by exact Le.mk' (rs := [0, 1, 2, 3]) (hs := [0, 1, 2]) ⟨rfl, rfl, rfl, rfl, rfl, trivial⟩ ⟨rfl, rfl, rfl, rfl, trivial⟩ ⟨rfl, rfl, rfl, trivial⟩ (by decide))
   ·
    replace hg17 := of_decide_eq_false hg17
    refine LQ.no rfl rfl rfl ?_; refine LQ.no rfl rfl rfl ?_; refine LQ.no rfl rfl rfl ?_; refine LQ.no rfl rfl rfl ?_; refine LQ.no rfl rfl rfl ?_; refine LQ.no rfl rfl rfl ?_; refine LQ.no rfl rfl rfl ?_; refine LQ.no rfl rfl rfl ?_; refine LQ.no rfl rfl rfl ?_; refine LQ.step (Ev.pure rfl) rfl ?_; refine LQ.nil ?_; refine QE.seq ?_
    refine C.cond rfl (fun h => by cases h) (fun _ => ?_)
    refine C.exit ?_; refine QE.tX ?_; refine QE.tX ?_; refine QE.blk ?_
    refine QE.join (j) (by exact ⟨hj, chg_stop (.inl (by omega))⟩) (by exact Le.mk' (rs := [0, 1, 2, 3]) (hs := [0, 1, 2]) ⟨rfl, rfl, rfl, rfl, rfl, trivial⟩ ⟨rfl, rfl, rfl, rfl, trivial⟩ ⟨rfl, rfl, rfl, trivial⟩ (by decide))
  ·
   rintro j ⟨⟨hkj, hjl, hcj⟩, hstop⟩
   refine C.seq ?_; refine C.regionY ?_; refine LY.step (Ev.pure rfl) rfl ?_; refine LY.step (Ev.pure rfl) rfl ?_; refine LY.step (Ev.pure rfl) rfl ?_; refine LY.step (Ev.pure rfl) rfl ?_
   refine LY.bool 33 rfl (fun hg33 => ?_) (fun hg33 => ?_)
   ·
    replace hg33 := of_decide_eq_true hg33
    refine LY.yes rfl ?_; refine LY.step (Ev.pure rfl) rfl ?_; refine LY.yes rfl ?_; refine LY.step (Ev.pure rfl) rfl ?_; refine LY.yes rfl ?_; refine LY.step (Ev.pure rfl) rfl ?_; refine LY.yes rfl ?_; refine LY.step (Ev.build rfl rfl rfl rfl rfl rfl rfl) rfl ?_; refine LY.yes rfl ?_; refine LY.yield (js := [0, 1, 2]) (js' := []) hy (s, O, c) (k, j) (show s.length ≤ 200000 by omega) rfl rfl rfl rfl (by decide) rfl ?_
    rintro ⟨s2, O2, c2⟩ hnx
    have hnx2 : s2 = s ++ [(k, j)] := hnx
    subst hnx2
    refine LY.yes rfl ?_; refine LY.step (Ev.pure rfl) rfl ?_; refine LY.step (Ev.pure rfl) rfl ?_; refine LY.nil ?_; refine QE.seq ?_
    refine C.cond rfl (fun h => by cases h) (fun _ => ?_)
    refine C.skip ?_; refine QE.blkN ?_; refine QE.seq (C.region ?_); refine Lpu rfl rfl ?_; refine L.step (Ev.add rfl rfl (by omega) (by omega)) rfl ?_; refine Lpu rfl rfl ?_; refine L.nil ?_
    refine QE.round (i := (k, s, O, c)) ((j + 1, s ++ [(k, j)], O2, c2)) (by exact ⟨by dsimp only; omega, by dsimp only; rw [hstop, hcj, if_pos (by omega)], chg_lt hlt (by omega)⟩) (by dsimp only; omega) (by exact Le.mk' (rs := [0, 1, 2, 3]) (hs := [0, 1, 2]) ⟨rfl, rfl, rfl, rfl, trivial⟩ ⟨rfl, rfl, rfl, rfl, trivial⟩ ⟨rfl, rfl, rfl, trivial⟩ (by decide))
   ·
    replace hg33 := of_decide_eq_false hg33
    refine LY.no rfl rfl rfl ?_; refine LY.no rfl rfl rfl ?_; refine LY.no rfl rfl rfl ?_; refine LY.no rfl rfl rfl ?_; refine LY.no rfl rfl rfl ?_; refine LY.no rfl rfl rfl ?_; refine LY.step (Ev.pure rfl) rfl ?_; refine LY.nil ?_; refine QE.seq ?_
    refine C.cond rfl (fun h => by cases h) (fun _ => ?_)
    refine C.skip ?_; refine QE.blkN ?_; refine QE.seq (C.region ?_); refine Lpu rfl rfl ?_; refine L.step (Ev.add rfl rfl (by omega) (by omega)) rfl ?_; refine Lpu rfl rfl ?_; refine L.nil ?_
    refine QE.round (i := (k, s, O, c)) ((j + 1, s, O, c)) (by exact ⟨by dsimp only; omega, by dsimp only; rw [hstop, hcj, if_neg (by omega)], fun x hx => Nat.lt_of_lt_of_le (hlt x hx) (by dsimp only; omega)⟩) (by dsimp only; omega) (by exact Le.mk' (rs := [0, 1, 2, 3]) (hs := [0, 1, 2]) ⟨rfl, rfl, rfl, rfl, trivial⟩ ⟨rfl, rfl, rfl, rfl, trivial⟩ ⟨rfl, rfl, rfl, trivial⟩ (by decide))
 ·
  replace hc9 := of_decide_eq_false hc9
  refine C.exit ?_; refine QE.tX ?_; refine QE.tX ?_; refine QE.blk ?_; refine QE.retN ?_; refine QE.ret (js := []) (hs := [0, 1, 2]) (vs := []) rfl trivial (by decide) ?_
  obtain rfl : s = chgN a b a.length := by rw [hs]; congr 1; omega
  exact ⟨rfl, O, c, rfl⟩

theorem changes_c (SA SB : Option Addr) (n m : Nat) (ca cb : Nat) :
   Ctr X 95 [.slice SA n ca, .slice SB m cb] [] [] (fun v R' H' => ∃ PA PB : Option Addr, v = .func (.func 135) #[] #[ptrOf PA 0, ptrOf PB 0] ∧ R' = [Rd PA [.slice SA n ca], Rd PB [.slice SB m cb]] ∧ H' = []) := by
 refine Ctr.of (X := X) (fn := Tryz.f95) Tryz.func95 rfl (by kernel_rfl) rfl ?_
 intro β
 refine C.seq (C.region ?_)
 refine L.box rfl rfl rfl (fun A2 => ?_)
 refine L.box rfl rfl rfl (fun A3 => ?_)
 refine Lpu rfl rfl ?_; refine L.nil (QE.seq (C.seq (C.region ?_))); refine Lpu rfl rfl ?_; refine Lpu rfl rfl ?_; refine L.nil (QE.seq (C.ret ?_)); refine QE.freeze 0 rfl [1] (by decide) (by decide) ?_; refine QE.freeze 0 rfl [] (by decide) (by decide) ?_; refine QE.ret (js := [1, 0]) (hs := []) (vs := [_]) rfl ⟨rfl, trivial⟩ (by decide) ?_
 exact ⟨A2, A3, rfl, rfl, rfl⟩

set_option maxHeartbeats 1000000 in
theorem changed_c (SA SB : Option Addr) (a b : List UInt8) (ca cb : Nat) (hab : a.length = b.length) (hal : a.length ≤ 100000) :
   Ctr X 52 [.slice SA a.length ca, .slice SB b.length cb] [Rd SA (U8 a), Rd SB (U8 b)] [] (fun v R' H' => ∃ (O : Option Addr) (c : Nat), v = .slice O (chgN a b a.length).length c ∧ R' = [] ∧ H' = [Own 107 2 O (chgN a b a.length).length c (rangesV (chgN a b a.length))]) := by
 refine Ctr.ofM (X := X) (fn := Tryz.f52) Tryz.func52 rfl (by kernel_rfl) rfl ?_
 intro β
 refine C.seq (C.region ?_); refine Lpu rfl rfl ?_; refine L.nil (QE.seq (C.seq (C.region ?_)))
 refine L.alloc rfl rfl rfl (fun A5 => ?_)
 refine L.nil (QE.seq (C.seq (C.seq ?_))); refine C.own0 107 2 ?_; refine C.region ?_; refine Lpu rfl rfl ?_; refine Lpu rfl rfl ?_; refine L.callR (js := []) (js' := [0, 1]) (changes_c SA SB a.length b.length ca cb) rfl rfl rfl (by decide) trivial rfl ?_
 rintro _ _ _ ⟨PA, PB, rfl, rfl, rfl⟩
 refine L.nil (QE.seq (C.block ?_))
 refine C.rangeF (Rf := [Rd PA [.slice SA a.length ca], Rd PB [.slice SB b.length cb], Rd SA (U8 a), Rd SB (U8 b)]) (js := [0, 1]) (js' := []) (He := fun i : Option Addr × Nat => StR A5 (chgN a b a.length, i.1, i.2)) rfl rfl rfl (by decide) (Hq [0, 1, 2, 3] rfl) (fun l d fn tmps hfr => ?_) (fun d i => ?_)
 ·
  refine (iter_c l _ PA PB SA SB a b ca cb hab hal A5 ?_).mono ?_
  ·
   intro β2 w2 s x hg hs2
   obtain ⟨rs, O, c⟩ := s
   obtain ⟨p, q⟩ := x
   have hrl : rs.length ≤ 200000 := hg
   refine round_ok (He := StR A5) (good := nxtR (rs, O, c) (p, q)) hfr (by decide) rfl rfl rfl rfl rfl rfl rfl hs2 ?_
   refine L.alloc rfl rfl rfl (fun A6 => ?_)
   refine L.storeA (vs := [.int .i64 (p : Int), .int .i64 (q : Int)]) (j := 3) rfl rfl rfl rfl rfl (Nat.zero_lt_succ _) rfl rfl ?_; refine L.nil ?_
   refine fun a1 w1 hf1 hs1 => ⟨rfl, _, _, hf1, hs1, ?_⟩
   refine L.step (Ev.load rfl rfl rfl (Src.o 1 rfl) rfl) rfl ?_; refine L.step (Ev.loadA (vs := [.int .i64 (p : Int), .int .i64 (q : Int)]) rfl rfl rfl (Src.o 3 rfl) rfl rfl (by decide)) rfl ?_
   refine L.lit1A (cs := [.int .i64 (p : Int), .int .i64 (q : Int)]) rfl rfl rfl rfl (Nat.zero_lt_succ _) rfl rfl rfl (fun A13 => ?_)
   refine L.append (j := 2) rfl rfl rfl rfl (by decide) rfl rfl rfl rfl (Src.o 4 rfl) rfl (rangesV_one [(p, q)]) (by show rs.length + 1 ≤ _; omega) (by show (rs.length + 1) * 16 ≤ _; omega) rfl (fun A14 c14 => ?_)
   refine L.store (j := 1) rfl rfl rfl rfl rfl rfl rfl rfl ?_; refine L.nil ?_
   refine fun a2 w3 hf2 hs3 => ⟨rfl, (rs ++ [(p, q)], A14, c14), rfl, ?_⟩
   have h3 := hs3.sel (js := [0, 1, 2]) (by decide)
   have e1 : (rs ++ [(p, q)]).length = rs.length + 1 := by simp
   unfold StR
   dsimp only
   rw [e1, ← rangesV_snoc]
   exact h3
  · rintro v R' H' ⟨rfl, O, c, rfl⟩
    exact ⟨rfl, (O, c), rfl⟩
 ·
  obtain ⟨O, c⟩ := i
  dsimp only [StR]
  refine QE.blkN ?_; refine QE.seq (C.seq (C.region ?_)); refine L.step (Ev.load rfl rfl rfl (Src.o 1 rfl) rfl) rfl ?_; refine Lpu rfl rfl ?_; refine L.nil (QE.seq (C.ret ?_)); refine QE.retM (j := 0) (js := []) (hs := [2]) (vs := [_]) rfl rfl ⟨rfl, trivial⟩ (by decide) ?_
  exact ⟨O, c, rfl, rfl, rfl⟩

end Go.Proofs.YtpccfdnmnnnboaaGreat
end
/-
  Reading a record by its places, as the reference does, and restoring.
-/
section
namespace Go.Sl

/-! ### Restore -/
def ResBad (b rec : List UInt8) : Prop := parseS rec (b.length : Int) = none ∨ b.length < 1 ∨ 4096 < b.length
instance (b rec : List UInt8) : Decidable (ResBad b rec) := by unfold ResBad; infer_instance
theorem ResBad.no {b rec : List UInt8} {ps : List Pc} (h : parseS rec (b.length : Int) = some ps) (h1 : 1 ≤ b.length) (h2 : b.length ≤ 4096) : ¬ResBad b rec := by
 unfold ResBad
 rw [h]
 rintro (hx | hx)
 · cases hx
 · omega
end Go.Sl
end
/-
  Contents of sectors, sizes of records, Apply of the reference.
-/
section
namespace Go.Proofs.YtpccfdnmnnnboaaGreat
open Go.Sl

theorem u64_mask (n : Nat) (h : n < 4294967296) : bop .and .u64 (n : Int) 4294967295 = (n : Int) := by
 have := bits_and_u64_nat n 4294967295 (by omega) (by decide)
 refine Eq.trans this ?_
 congr 1
 have h2 : (4294967295 : Nat) = 2 ^ 32 - 1 := by decide
 rw [h2, Nat.and_two_pow_sub_one_eq_mod]
 omega
theorem u64_hi (n : Nat) (h : n < 4294967296) : (n : Int).fdiv (2 ^ min (32 : Int).toNat IntKind.u64.bits) = 0 := by
 have : (2 : Int) ^ min (32 : Int).toNat IntKind.u64.bits = 4294967296 := by decide
 rw [this, Int.fdiv_eq_ediv_of_nonneg _ (by decide)]
 omega
theorem u64_wrap (n : Nat) (h : n < 4294967296) : IntKind.u64.wrap (n : Int) = (n : Int) := by rw [IntKind.wrap_u64]; omega
theorem u64_one (n : Nat) (h : n < 4294967296) : IntKind.u64.wrap (1 * (n : Int)) = (n : Int) := by rw [Int.one_mul]; exact u64_wrap n h
theorem u64_zero (n : Nat) : IntKind.u64.wrap (0 * (n : Int)) = 0 := by rw [Int.zero_mul]; decide
theorem sub_at {A : Option Addr} {g n p : Nat} (h : A = some ⟨g, 0, none⟩) (hp : p < n) : subA A n p 1 = some ⟨g, p, none⟩ := by
 subst h
 unfold subA
 rw [if_neg (by omega)]
 simp [Addr.add]
 exact fun h => h.symm
theorem rep_take {p k : Nat} {x : UInt8} {ys : List UInt8} (h : k ≤ p) : (U8 (List.replicate p x ++ ys)).take k = U8 (List.replicate k x) := by
 rw [U8_take, List.take_append_of_le_length (by simpa using h), List.take_replicate, Nat.min_eq_left h]
theorem rep_grow {p n : Nat} {x : UInt8} {ys : List UInt8} (_hy : ys.length = n - p) (_hp : p ≤ n) :
   (U8 (List.replicate p x ++ ys)).take p ++ U8 (List.replicate (min p (n - p)) x) ++ (U8 (List.replicate p x ++ ys)).drop (p + (U8 (List.replicate (min p (n - p)) x)).length) = U8 (List.replicate (p + min p (n - p)) x ++ ys.drop (min p (n - p))) := by
 rw [rep_take (Nat.le_refl p), U8_len, List.length_replicate]
 have : (U8 (List.replicate p x ++ ys)).drop (p + min p (n - p)) = U8 (ys.drop (min p (n - p))) := by
   unfold U8
   rw [← List.map_drop, List.drop_append, List.drop_of_length_le (by simp), List.nil_append]
   simp
 rw [this, U8_app, U8_app]
 congr 1
 rw [List.append_assoc, ← List.append_assoc, List.replicate_append_replicate]
theorem rep_first {n : Nat} (x : UInt8) (_h : 1 ≤ n) : (List.replicate n (Value.int .u8 0)).take 0 ++ U8 [x] ++ (List.replicate n (Value.int .u8 0)).drop (0 + (U8 [x]).length) = U8 (List.replicate 1 x ++ List.replicate (n - 1) 0) := by
 rw [← U8_app, List.take_zero, List.nil_append, List.drop_replicate]
 congr 1
 simp [U8]
theorem ct_u8 (b : List UInt8) (a S : Nat) : (U8 (List.replicate S 255)).take 0 ++ U8 ((b.drop (min a b.length)).take (min (b.length - min a b.length) S)) ++ (U8 (List.replicate S 255)).drop (0 + (U8 ((b.drop (min a b.length)).take (min (b.length - min a b.length) S))).length) = U8 (ctK b a S) := by
 rw [← ct_copy, ← U8_app, List.take_zero, List.nil_append, U8_drop, List.drop_replicate, U8_len, List.length_take, List.length_drop]
 congr 3
 omega
theorem changed_m (SA SB : Option Addr) (a b : List UInt8) (ca cb n m : Nat) (ha : a.length = n) (hb : b.length = m) (hab : a.length = b.length) (hal : a.length ≤ 100000) :
   Ctr X 52 [.slice SA n ca, .slice SB m cb] [Rd SA (U8 a), Rd SB (U8 b)] [] (fun v R' H' => ∃ (O : Option Addr) (c : Nat), v = .slice O (chgN a b a.length).length c ∧ R' = [] ∧ H' = [Own 107 2 O (chgN a b a.length).length c (rangesV (chgN a b a.length))]) := by
 subst ha hb
 exact changed_c SA SB a b ca cb hab hal

theorem mul64_c (n : Nat) (hn : n < 4294967296) :
   Ctr X 156 [.int .u64 1, .int .u64 (n : Int)] [] [] (fun v R' H' => v = .tuple #[.int .u64 0, .int .u64 (n : Int)] ∧ R' = [] ∧ H' = []) := by
 refine Ctr.of (X := X) (fn := Tryz.f156) Tryz.func156 rfl (by kernel_rfl) rfl ?_
 intro β
 refine C.seq (C.region ?_); refine Lpu rfl rfl ?_; refine Lpu rfl rfl ?_; refine L.nil (QE.seq (C.seq (C.region ?_))); refine Lpu rfl rfl ?_; refine L.step ((Ev.cast (u := .int .u64 (1)) (Ev.pure rfl) (congrArg (Value.int .u64) (by decide)))) rfl ?_; refine Lpu rfl rfl ?_; refine L.nil (QE.seq (C.seq (C.region ?_))); refine Lpu rfl rfl ?_; refine L.step ((Ev.cast (u := .int .u64 (0)) (Ev.shr rfl rfl (by decide)) (congrArg (Value.int .u64) (by decide)))) rfl ?_; refine Lpu rfl rfl ?_; refine L.nil (QE.seq (C.seq (C.region ?_))); refine Lpu rfl rfl ?_; refine L.step ((Ev.cast (u := .int .u64 (n)) (Ev.pure rfl) (congrArg (Value.int .u64) (u64_mask n hn)))) rfl ?_; refine Lpu rfl rfl ?_; refine L.nil (QE.seq (C.seq (C.region ?_))); refine Lpu rfl rfl ?_; refine L.step ((Ev.cast (u := .int .u64 (0)) (Ev.shr rfl rfl (by decide)) (congrArg (Value.int .u64) (u64_hi n hn)))) rfl ?_; refine Lpu rfl rfl ?_; refine L.nil (QE.seq (C.seq (C.region ?_))); refine Lpu rfl rfl ?_; refine Lpu rfl rfl ?_; refine L.step ((Ev.cast (u := .int .u64 (n)) (Ev.pure rfl) (congrArg (Value.int .u64) (u64_one n hn)))) rfl ?_; refine Lpu rfl rfl ?_; refine L.nil (QE.seq (C.seq (C.region ?_))); refine Lpu rfl rfl ?_; refine Lpu rfl rfl ?_; refine L.step ((Ev.cast (u := .int .u64 (0)) (Ev.pure rfl) (congrArg (Value.int .u64) (u64_zero n)))) rfl ?_; refine Lpu rfl rfl ?_; refine L.step ((Ev.cast (u := .int .u64 (0)) (Ev.shr rfl rfl (by decide)) (congrArg (Value.int .u64) (u64_hi n hn)))) rfl ?_; refine L.step ((Ev.cast (u := .int .u64 (0)) (Ev.pure rfl) (congrArg (Value.int .u64) (by decide)))) rfl ?_; refine Lpu rfl rfl ?_; refine L.nil (QE.seq (C.seq (C.region ?_))); refine Lpu rfl rfl ?_; refine L.step ((Ev.cast (u := .int .u64 (0)) (Ev.pure rfl) (congrArg (Value.int .u64) (by decide)))) rfl ?_; refine Lpu rfl rfl ?_; refine L.nil (QE.seq (C.seq (C.region ?_))); refine Lpu rfl rfl ?_; refine L.step ((Ev.cast (u := .int .u64 (0)) (Ev.shr rfl rfl (by decide)) (congrArg (Value.int .u64) (by decide)))) rfl ?_; refine Lpu rfl rfl ?_; refine L.nil (QE.seq (C.seq (C.region ?_))); refine Lpu rfl rfl ?_; refine Lpu rfl rfl ?_; refine Lpu rfl rfl ?_; refine L.step ((Ev.cast (u := .int .u64 (0)) (Ev.pure rfl) (congrArg (Value.int .u64) (by decide)))) rfl ?_; refine L.step ((Ev.cast (u := .int .u64 (0)) (Ev.pure rfl) (congrArg (Value.int .u64) (by decide)))) rfl ?_; refine Lpu rfl rfl ?_; refine L.nil (QE.seq (C.seq (C.region ?_))); refine Lpu rfl rfl ?_; refine Lpu rfl rfl ?_; refine L.step ((Ev.cast (u := .int .u64 (0)) (Ev.pure rfl) (congrArg (Value.int .u64) (by decide)))) rfl ?_; refine Lpu rfl rfl ?_; refine L.step ((Ev.cast (u := .int .u64 (0)) (Ev.pure rfl) (congrArg (Value.int .u64) (by decide)))) rfl ?_; refine Lpu rfl rfl ?_; refine L.step ((Ev.cast (u := .int .u64 (0)) (Ev.shr rfl rfl (by decide)) (congrArg (Value.int .u64) (by decide)))) rfl ?_; refine L.step ((Ev.cast (u := .int .u64 (0)) (Ev.pure rfl) (congrArg (Value.int .u64) (by decide)))) rfl ?_; refine Lpu rfl rfl ?_; refine L.nil (QE.seq (C.seq (C.region ?_))); refine Lpu rfl rfl ?_; refine Lpu rfl rfl ?_; refine L.step ((Ev.cast (u := .int .u64 (n)) (Ev.pure rfl) (congrArg (Value.int .u64) (u64_one n hn)))) rfl ?_; refine Lpu rfl rfl ?_; refine L.nil (QE.seq (C.ret ?_)); refine QE.ret (js := []) (hs := []) (vs := [_, _]) rfl ⟨rfl, rfl, trivial⟩ (by decide) ?_
 exact ⟨rfl, rfl, rfl⟩

theorem mul_c (n : Nat) (hn : n < 4294967296) :
   Ctr X 136 [.int .u64 1, .int .u64 (n : Int)] [] [] (fun v R' H' => v = .tuple #[.int .u64 0, .int .u64 (n : Int)] ∧ R' = [] ∧ H' = []) := by
 refine Ctr.of (X := X) (fn := Tryz.f136) Tryz.func136 rfl (by kernel_rfl) rfl ?_
 intro β
 refine C.seq (C.region ?_); refine Lpu rfl rfl ?_; refine Lpu rfl rfl ?_; refine L.nil (QE.seq (C.seq ?_))
 refine C.cond rfl (fun h => by cases h) (fun _ => ?_)
 refine C.skip (QE.seq (C.seq (C.region ?_))); refine Lpu rfl rfl ?_; refine Lpu rfl rfl ?_; refine L.call (js := []) (js' := []) (mul64_c n hn) rfl rfl rfl (by decide) trivial rfl ?_
 rintro _ _ _ ⟨rfl, rfl, rfl⟩
 refine Lpu rfl rfl ?_; refine Lpu rfl rfl ?_; refine Lpu rfl rfl ?_; refine Lpu rfl rfl ?_; refine Lpu rfl rfl ?_; refine L.nil (QE.seq (C.seq (C.region ?_))); refine Lpu rfl rfl ?_; refine Lpu rfl rfl ?_; refine Lpu rfl rfl ?_; refine Lpu rfl rfl ?_; refine L.nil (QE.seq (C.ret ?_)); refine QE.ret (js := []) (hs := []) (vs := [_, _]) rfl ⟨rfl, rfl, trivial⟩ (by decide) ?_
 exact ⟨rfl, rfl, rfl⟩

theorem repeatS_c (x : UInt8) (B : Option Addr) (bc n : Nat) (h1 : 1 ≤ n) (hn : n ≤ 4096) :
   Ctr X 96 [.slice B 1 bc, .int .i64 (n : Int)] [Rd B (U8 [x])] [] (fun v R' H' => ∃ A, v = .slice A n n ∧ R' = [] ∧ H' = [Own 5 1 A n n (U8 (List.replicate n x))]) := by
 refine Ctr.of (X := X) (fn := Tryz.f96) Tryz.func96 rfl (by kernel_rfl) rfl ?_
 intro β
 refine C.seq (C.region ?_); refine Lpu rfl rfl ?_; refine L.nil (QE.seq (C.seq (C.seq (C.region ?_)))); refine Lpu rfl rfl ?_; refine Lpu rfl rfl ?_; refine L.nil (QE.seq ?_)
 refine C.condB 10 rfl (fun hc10 => ?_) (fun hc10 => ?_)
 ·
  replace hc10 := of_decide_eq_true hc10
  omega
 ·
  replace hc10 := of_decide_eq_false hc10
  refine C.skip (QE.seq (C.seq (C.region ?_))); refine Lpu rfl rfl ?_; refine Lpu rfl rfl ?_; refine L.step ((Ev.cast (u := .int .u64 (1)) (Ev.pure rfl) (congrArg (Value.int .u64) (by decide)))) rfl ?_; refine Lpu rfl rfl ?_; refine L.step ((Ev.cast (u := .int .u64 (n)) (Ev.pure rfl) (congrArg (Value.int .u64) (u64_wrap n (by omega))))) rfl ?_; refine L.call (js := []) (js' := []) (mul_c n (by omega)) rfl rfl rfl (by decide) trivial rfl ?_
  rintro _ _ _ ⟨rfl, rfl, rfl⟩
  refine Lpu rfl rfl ?_; refine Lpu rfl rfl ?_; refine Lpu rfl rfl ?_; refine Lpu rfl rfl ?_; refine Lpu rfl rfl ?_; refine L.nil (QE.seq (C.seq (C.seq (C.region ?_)))); refine Lpu rfl rfl ?_; refine Lpu rfl rfl ?_; refine Lpu rfl rfl ?_
  refine L.bool 23 rfl (fun hg23 => ?_) (fun hg23 => ?_)
  ·
   replace hg23 := of_decide_eq_true hg23
   omega
  ·
   replace hg23 := of_decide_eq_false hg23
   refine L.yes rfl ?_; refine Lpu rfl rfl ?_; refine L.yes rfl ?_; refine Lpu rfl rfl ?_; refine Lpu rfl rfl ?_; refine L.nil (QE.seq ?_)
   refine C.condB 26 rfl (fun hc26 => ?_) (fun hc26 => ?_)
   ·
    replace hc26 := of_decide_eq_true hc26
    omega
   ·
    replace hc26 := of_decide_eq_false hc26
    refine C.skip (QE.seq (C.seq (C.region ?_))); refine Lpu rfl rfl ?_; refine L.step (Ev.toInt rfl rfl rfl rfl (by omega) (by omega)) rfl ?_
    refine L.make (m := n) rfl rfl rfl rfl rfl rfl rfl rfl rfl (by show 1 * _ ≤ _; omega) (by omega) rfl (fun A30 => ?_)
    refine Lpu rfl rfl ?_; refine L.nil (QE.seq (C.seq (C.region ?_))); refine Lpu rfl rfl ?_; refine Lpu rfl rfl ?_; refine L.copy (j := 0) (o := 0) rfl rfl rfl rfl rfl (fun g h _ => h) rfl rfl (Src.r 0 rfl) (by simp [U8]; omega) (U8_one _) (by rw [U8_len, List.length_replicate]; simp; omega) rfl ?_; refine Lpu rfl rfl ?_; refine L.nil (QE.seq (C.seq (C.block ?_))); refine C.loop (fun q : Nat × List UInt8 => [(7, .slice A30 n n), (8, .int .i64 (q.1 : Int))]) (fun q : Nat × List UInt8 => []) (fun q : Nat × List UInt8 => [Own 5 1 A30 n n (U8 (List.replicate q.1 x ++ q.2))]) (fun q : Nat × List UInt8 => 1 ≤ q.1 ∧ q.1 ≤ n ∧ q.2.length = n - q.1) (fun q : Nat × List UInt8 => n - q.1) (1, List.replicate (n - 1) 0) ⟨Nat.le_refl _, h1, by simp⟩ (by exact Le.mk' (rs := []) (hs := [0]) ⟨rfl, (by rfl), trivial⟩ trivial ⟨(congrArg some (own_eq rfl (rep_first x h1))), trivial⟩ (by decide)) ?_
    rintro ⟨p, ys⟩ ⟨hp1, hp2, hyl⟩
    dsimp only at hp1 hp2 hyl ⊢
    refine C.seq (C.seq (C.region ?_)); refine Lpu rfl rfl ?_; refine Lpu rfl rfl ?_; refine Lpu rfl rfl ?_; refine Lpu rfl rfl ?_; refine L.nil (QE.seq ?_)
    refine C.condB 37 rfl (fun hc37 => ?_) (fun hc37 => ?_)
    ·
     replace hc37 := of_decide_eq_true hc37
     refine C.skip (QE.seq (C.block ?_)); refine C.regionM [] trivial ?_; refine LM.q 0 rfl (by kernel_rfl) (Ev.pure rfl) rfl trivial ?_; refine LM.q 1 rfl (by kernel_rfl) (Ev.pure rfl) rfl trivial ?_; refine LM.q 2 rfl (by kernel_rfl) (Ev.pure rfl) rfl trivial ?_; refine LM.q 3 rfl (by kernel_rfl) (Ev.sliceL (l := p) rfl rfl rfl rfl rfl rfl (by omega)) rfl trivial ?_; refine LM.q 4 rfl (by kernel_rfl) (Ev.pure rfl) rfl trivial ?_; refine LM.f 5 rfl (by kernel_rfl) trivial ?_; refine Lpu rfl rfl ?_
     refine L.nil (QE.m (by kernel_rfl) ?_)
     refine LM.f 6 rfl (by kernel_rfl) trivial ?_; refine L.step (Ev.sliceH (h := p) rfl rfl rfl rfl rfl rfl (by omega)) rfl ?_
     refine L.nil (QE.m (by kernel_rfl) ?_)
     refine LM.f 7 rfl (by kernel_rfl) trivial ?_; refine L.copy (j := 0) (o := p) (xs := U8 (List.replicate p x ++ ys)) (ys := U8 (List.replicate (min p (n - p)) x)) (D := subA A30 n p 1) (dn := n - p) rfl rfl rfl rfl rfl (fun g h _ => sub_at (n := n) (p := p) h (by omega)) rfl rfl (Src.cast (Src.take (Src.o 0 (by rfl)) (min p (n - p))) (rep_take (p := p) (k := min p (n - p)) (ys := ys) (by omega))) (by rw [U8_len, List.length_replicate]) (U8_one _) (by rw [U8_len, U8_len, List.length_append, List.length_replicate, List.length_replicate, hyl]; omega) (by rfl) ?_
     refine L.nil (QE.m (by kernel_rfl) ?_)
     refine LM.f 8 rfl (by kernel_rfl) trivial ?_
     have e8 : (U8 (List.replicate (min p (n - p)) x)).length = min p (n - p) := by rw [U8_len, List.length_replicate]
     refine L.step (Ev.add rfl rfl (by omega) (by omega)) rfl ?_
     refine L.nil (QE.m (by kernel_rfl) ?_)
     refine LM.f 9 rfl (by kernel_rfl) trivial ?_; refine Lpu rfl rfl ?_
     refine L.nil (QE.m (by kernel_rfl) ?_)
     refine LM.nil (by kernel_rfl) trivial ?_; refine QE.blkN ?_
     refine QE.round (i := (p, ys)) ((p + min p (n - p), ys.drop (min p (n - p)))) (by exact ⟨by dsimp only; omega, by dsimp only; omega, by dsimp only; rw [List.length_drop]; omega⟩) (by dsimp only; omega) (by exact Le.mk' (rs := []) (hs := [0]) ⟨rfl, (by exact congrArg some (congrArg (Value.int .i64) (by rw [U8_len, List.length_replicate]; omega))), trivial⟩ trivial ⟨(congrArg some (own_eq rfl (rep_grow hyl hp2))), trivial⟩ (by decide))
    ·
     replace hc37 := of_decide_eq_false hc37
     refine C.exit ?_; refine QE.tX ?_; refine QE.tX ?_; refine QE.blk ?_; refine QE.seq (C.seq (C.region ?_)); refine Lpu rfl rfl ?_; refine Lpu rfl rfl ?_; refine L.nil (QE.seq (C.ret ?_))
     obtain rfl : p = n := by omega
     obtain rfl : ys = [] := List.eq_nil_of_length_eq_zero (by omega)
     refine QE.ret (js := []) (hs := [0]) (vs := [_]) rfl ⟨rfl, trivial⟩ (by decide) ?_
     exact ⟨A30, rfl, rfl, by rw [List.append_nil]; rfl⟩

theorem contents_c (BA : Option Addr) (b : List UInt8) (bc t S : Nat) (_hbl : b.length ≤ 1000000) (hts : t * S ≤ 1000000) (_ht : t ≤ 1000000) (hS1 : 1 ≤ S) (hS2 : S ≤ 4096) (hbc : b.length ≤ bc) :
   Ctr X 53 [.slice BA b.length bc, .int .i64 (t : Int), .int .i64 (S : Int)] [Rd BA (U8 b)] [] (fun v R' H' => ∃ A, v = .slice A S S ∧ R' = [] ∧ H' = [Own 5 1 A S S (U8 (ctF b t S))]) := by
 refine Ctr.of (X := X) (fn := Tryz.f53) Tryz.func53 rfl (by kernel_rfl) rfl ?_
 intro β
 have m1 : (t : Int) * (S : Int) = ((t * S : Nat) : Int) := (Int.natCast_mul t S).symm
 refine C.seq (C.region ?_); refine Lpu rfl rfl ?_; refine L.nil (QE.seq (C.seq (C.region ?_)))
 refine L.lit rfl rfl rfl rfl rfl (by rfl) (by rfl) (by rfl) rfl rfl (fun A8 => ?_)
 refine Lpu rfl rfl ?_; refine L.freeze 0 rfl [] (by decide) (by decide) ?_; refine L.call (js := []) (js' := []) (repeatS_c 255 _ _ S hS1 hS2) rfl rfl rfl (by decide) (Hq [0] rfl) rfl ?_
 rintro _ _ _ ⟨A10, rfl, rfl, rfl⟩
 refine Lpu rfl rfl ?_; refine L.nil (QE.seq (C.seq (C.region ?_))); refine Lpu rfl rfl ?_; refine Lpu rfl rfl ?_; refine Lpu rfl rfl ?_; refine Lpu rfl rfl ?_; refine L.step (Ev.cast (u := .int .i64 (((t * S : Nat)) : Int)) (Ev.mul rfl rfl (by rw [m1]; omega) (by rw [m1]; omega)) (congrArg (Value.int .i64) m1)) rfl ?_; refine Lpu rfl rfl ?_; refine Lpu rfl rfl ?_; refine L.step (Ev.cast (u := .int .i64 (((min (t * S) b.length) : Nat) : Int)) (Ev.cast (u := .int .i64 (min ((t * S : Nat) : Int) (b.length : Int))) (Ev.pure rfl) (congrArg (Value.int .i64) (by simp only [Bool.false_eq_true, if_false]; split <;> omega))) (congrArg (Value.int .i64) (by omega))) rfl ?_; refine L.step (Ev.sliceL (l := (min (t * S) b.length)) rfl rfl rfl rfl rfl rfl (by omega)) rfl ?_; refine L.copy (j := 0) (o := 0) (xs := U8 (List.replicate S 255)) (ys := U8 ((b.drop (min (t * S) b.length)).take (min (b.length - (min (t * S) b.length)) S))) (D := A10) (dn := S) rfl rfl rfl rfl rfl (fun g h _ => h) rfl rfl (Src.cast (Src.take (Src.sub (Src.r 1 rfl) bc (min (t * S) b.length) 1 (by rw [U8_len]; omega)) (min (b.length - (min (t * S) b.length)) S)) (by rw [Nat.mul_one, U8_drop, U8_take])) (by rw [U8_len, List.length_take, List.length_drop]; omega) (U8_one _) (by rw [U8_len, U8_len, List.length_take, List.length_drop, List.length_replicate]; omega) rfl ?_; refine L.nil (QE.seq (C.seq (C.region ?_))); refine Lpu rfl rfl ?_; refine Lpu rfl rfl ?_; refine L.nil (QE.seq (C.ret ?_)); refine QE.ret (js := []) (hs := [0]) (vs := [_]) rfl ⟨rfl, trivial⟩ (by decide) ?_
 exact ⟨A10, rfl, rfl, congrArg (fun z => [Own 5 1 A10 S S z]) (ct_u8 b (t * S) S)⟩

end Go.Proofs.YtpccfdnmnnnboaaGreat
end
