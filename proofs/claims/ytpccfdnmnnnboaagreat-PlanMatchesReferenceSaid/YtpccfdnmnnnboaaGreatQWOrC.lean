/-
  The reference: can, First, Stashes.
-/
import Derived.Test.YtpccfdnmnnnboaaGreatQWOrB
section
namespace Go.Proofs.YtpccfdnmnnnboaaGreat
open Go.Sl

set_option maxHeartbeats 1000000 in
theorem can_c (LA : Option Addr) (ls : List (List Int)) (lc : Nat) (hs : List Hd) (hh : hs.length = ls.length) (hll : ls.length ≤ 9223372036854775807) (hlr : ∀ i, (ls.getD i []).length ≤ 9223372036854775807) (dn sn : List Int) (DA SA : Option Addr) (dc sc t : Nat) (hdn : dn.length ≤ 1000000) (hsn : sn.length ≤ 1000000) (ht : t ≤ 1000000) :
   Ctr X 134 [.slice LA ls.length lc, .slice DA dn.length dc, .slice SA sn.length sc, .int .i64 (t : Int)] [Rd LA (rowsV hs (J8 ls)), KidsR hs (J8 ls), Rd DA (I64 dn), Rd SA (I64 sn)] [] (fun v R' H' => v = .bool (canB ls dn sn t) ∧ R' = [] ∧ H' = []) := by
 refine Ctr.of (X := X) (fn := Tryz.f134) Tryz.func134 rfl (by kernel_rfl) rfl ?_
 intro β
 refine C.seq (C.region ?_); refine Lpu rfl rfl ?_; refine L.nil (QE.seq (C.seq (C.seq (C.region ?_)))); refine Lpu rfl rfl ?_; refine L.nil (QE.seq (C.block ?_)); refine C.loop (fun u : Nat => [(0, .slice LA ls.length lc), (1, .slice DA dn.length dc), (2, .slice SA sn.length sc), (3, .int .i64 (t : Int)), (9, .int .i64 (u : Int))]) (fun u : Nat => [Rd LA (rowsV hs (J8 ls)), KidsR hs (J8 ls), Rd DA (I64 dn), Rd SA (I64 sn)]) (fun u : Nat => []) (fun u : Nat => u ≤ ls.length ∧ ∀ i, i < u → (decide (i = t) || !(ls.getD i []).contains (t : Int) || dn.contains (i : Int)) = true) (fun u : Nat => ls.length - u) 0 ⟨Nat.zero_le _, all_zero⟩ (by exact Le.mk' (rs := [0, 1, 2, 3]) (hs := []) ⟨rfl, rfl, rfl, rfl, rfl, trivial⟩ ⟨rfl, rfl, rfl, rfl, trivial⟩ trivial (by decide)) ?_
 rintro u ⟨hu, hu2⟩
 refine C.seq (C.seq (C.region ?_)); refine Lpu rfl rfl ?_; refine Lpu rfl rfl ?_; refine Lpu rfl rfl ?_; refine Lpu rfl rfl ?_; refine Lpu rfl rfl ?_
 refine L.bool 14 rfl (fun hg14 => ?_) (fun hg14 => ?_)
 ·
  replace hg14 := of_decide_eq_true hg14
  refine L.yes rfl ?_; refine Lpu rfl rfl ?_; refine L.yes rfl ?_; refine Lpu rfl rfl ?_; refine L.yes rfl ?_; refine L.call (js := []) (js' := []) (has_c SA sn sc (t : Int) (by omega)) rfl rfl rfl (by decide) (Hq [3] rfl) rfl ?_
  rintro _ _ _ ⟨rfl, rfl, rfl⟩
  refine L.yes rfl ?_; refine Lpu rfl rfl ?_; refine Lpu rfl rfl ?_; refine L.nil (QE.seq ?_)
  refine C.condB 19 rfl (fun hc19 => ?_) (fun hc19 => ?_)
  ·
   have hst : sn.contains (t : Int) = false := by simpa using hc19
   refine C.skip (QE.seq (C.seq (C.block (C.seq (C.region ?_))))); refine Lpu rfl rfl ?_; refine Lpu rfl rfl ?_; refine Lpu rfl rfl ?_; refine Lpu rfl rfl ?_
   refine L.bool 25 rfl (fun hg25 => ?_) (fun hg25 => ?_)
   ·
    replace hg25 := b_ne hg25
    have hne : decide (u = t) = false := decide_eq_false (by omega)
    refine L.yes rfl ?_; refine Lpu rfl rfl ?_; refine L.yes rfl ?_; refine Lpu rfl rfl ?_; refine L.yes rfl ?_; refine L.step (Ev.idx1 (k := u) rfl rfl rfl rfl rfl rfl rfl (by omega) (Src.r 0 rfl) (by rw [rowsV_len (by rw [J8_len]; exact hh), J8_len]; omega)) rfl ?_; refine L.yes rfl ?_; refine L.step (Ev.load rfl rfl rfl (Src.r 0 rfl) (rowsJ_get hh (by omega))) rfl ?_; refine L.yes rfl ?_; refine Lpu rfl rfl ?_; refine L.yes rfl ?_; refine L.call (js := []) (js' := []) (has_c (hs.getD u (none, 0)).1 (ls.getD u []) (hs.getD u (none, 0)).2 (t : Int) (hlr u)) rfl rfl rfl (by decide) ⟨((Has.kid 1 rfl (by rw [J8_len]; exact hh) (u) (by rw [J8_len]; omega)).cast (J8_get _)), trivial⟩ rfl ?_
    rintro _ _ _ ⟨rfl, rfl, rfl⟩
    refine Lpu rfl rfl ?_; refine Lpu rfl rfl ?_
    refine L.bool 33 rfl (fun hg33 => ?_) (fun hg33 => ?_)
    ·
     refine L.yes rfl ?_; refine Lpu rfl rfl ?_; refine L.yes rfl ?_; refine Lpu rfl rfl ?_; refine L.yes rfl ?_; refine L.call (js := []) (js' := []) (has_c DA dn dc (u : Int) (by omega)) rfl rfl rfl (by decide) (Hq [2] rfl) rfl ?_
     rintro _ _ _ ⟨rfl, rfl, rfl⟩
     refine L.yes rfl ?_; refine Lpu rfl rfl ?_; refine Lpu rfl rfl ?_; refine L.nil (QE.seq ?_)
     refine C.condB 38 rfl (fun hc38 => ?_) (fun hc38 => ?_)
     ·
      have hx : (decide (u = t) || !(ls.getD u []).contains (t : Int) || dn.contains (u : Int)) = false := by
        have h2 : dn.contains (u : Int) = false := by simpa using hc38
        rw [hne, hg33, h2]; rfl
      refine C.seq (C.region ?_); refine Lpu rfl rfl ?_; refine L.nil (QE.seq (C.ret (QE.bR (QE.tR (QE.tR (QE.bR (QE.tR ?_))))))); refine QE.ret (js := []) (hs := []) (vs := [_]) rfl ⟨rfl, trivial⟩ (by decide) ?_
      exact ⟨congrArg Value.bool ((canB_no hst (by omega) hx).symm), rfl, rfl⟩
     ·
      have hx : (decide (u = t) || !(ls.getD u []).contains (t : Int) || dn.contains (u : Int)) = true := by
        first
          | exact hx
          | (have h2 : dn.contains (u : Int) = true := by simpa using hc38
             rw [h2]; simp)
      refine C.skip ?_; refine QE.blkN ?_; refine QE.seq (C.region ?_); refine Lpu rfl rfl ?_; refine L.step (Ev.add rfl rfl (by omega) (by omega)) rfl ?_; refine Lpu rfl rfl ?_; refine L.nil ?_
      refine QE.round (u + 1) (by exact ⟨by omega, all_step hu2 hx⟩) (by omega) (by exact Le.mk' (rs := [0, 1, 2, 3]) (hs := []) ⟨rfl, rfl, rfl, rfl, rfl, trivial⟩ ⟨rfl, rfl, rfl, rfl, trivial⟩ trivial (by decide))
    ·
     have hx : (decide (u = t) || !(ls.getD u []).contains (t : Int) || dn.contains (u : Int)) = true := by rw [hg33]; simp
     refine L.no rfl rfl rfl ?_; refine L.no rfl rfl rfl ?_; refine L.no rfl rfl rfl ?_; refine L.no rfl rfl rfl ?_; refine Lpu rfl rfl ?_; refine L.nil (QE.seq ?_)
     refine C.cond rfl (fun h => by cases h) (fun _ => ?_)
     refine C.skip ?_; refine QE.blkN ?_; refine QE.seq (C.region ?_); refine Lpu rfl rfl ?_; refine L.step (Ev.add rfl rfl (by omega) (by omega)) rfl ?_; refine Lpu rfl rfl ?_; refine L.nil ?_
     refine QE.round (u + 1) (by exact ⟨by omega, all_step hu2 hx⟩) (by omega) (by exact Le.mk' (rs := [0, 1, 2, 3]) (hs := []) ⟨rfl, rfl, rfl, rfl, rfl, trivial⟩ ⟨rfl, rfl, rfl, rfl, trivial⟩ trivial (by decide))
   ·
    replace hg25 := b_eq hg25
    have hx : (decide (u = t) || !(ls.getD u []).contains (t : Int) || dn.contains (u : Int)) = true := by rw [decide_eq_true (show u = t by omega)]; rfl
    refine L.no rfl rfl rfl ?_; refine L.no rfl rfl rfl ?_; refine L.no rfl rfl rfl ?_; refine L.no rfl rfl rfl ?_; refine L.no rfl rfl rfl ?_; refine L.no rfl rfl rfl ?_; refine Lpu rfl rfl ?_; refine Lpu rfl rfl ?_; refine L.no rfl rfl rfl ?_; refine L.no rfl rfl rfl ?_; refine L.no rfl rfl rfl ?_; refine L.no rfl rfl rfl ?_; refine Lpu rfl rfl ?_; refine L.nil (QE.seq ?_)
    refine C.cond rfl (fun h => by cases h) (fun _ => ?_)
    refine C.skip ?_; refine QE.blkN ?_; refine QE.seq (C.region ?_); refine Lpu rfl rfl ?_; refine L.step (Ev.add rfl rfl (by omega) (by omega)) rfl ?_; refine Lpu rfl rfl ?_; refine L.nil ?_
    refine QE.round (u + 1) (by exact ⟨by omega, all_step hu2 hx⟩) (by omega) (by exact Le.mk' (rs := [0, 1, 2, 3]) (hs := []) ⟨rfl, rfl, rfl, rfl, rfl, trivial⟩ ⟨rfl, rfl, rfl, rfl, trivial⟩ trivial (by decide))
  ·
   have hst : sn.contains (t : Int) = true := by simpa using hc19
   refine C.exit ?_; refine QE.tX ?_; refine QE.tX ?_; refine QE.blk ?_; refine QE.seq (C.seq (C.region ?_)); refine Lpu rfl rfl ?_; refine L.nil (QE.seq (C.ret ?_)); refine QE.ret (js := []) (hs := []) (vs := [_]) rfl ⟨rfl, trivial⟩ (by decide) ?_
   exact ⟨congrArg Value.bool ((canB_st hst).symm), rfl, rfl⟩
 ·
  replace hg14 := of_decide_eq_false hg14
  refine L.no rfl rfl rfl ?_; refine L.no rfl rfl rfl ?_; refine L.no rfl rfl rfl ?_; refine L.no rfl rfl rfl ?_; refine Lpu rfl rfl ?_; refine L.nil (QE.seq ?_)
  refine C.cond rfl (fun h => by cases h) (fun _ => ?_)
  refine C.exit ?_; refine QE.tX ?_; refine QE.tX ?_; refine QE.blk ?_; refine QE.seq (C.seq (C.region ?_)); refine Lpu rfl rfl ?_; refine L.nil (QE.seq (C.ret ?_)); refine QE.ret (js := []) (hs := []) (vs := [_]) rfl ⟨rfl, trivial⟩ (by decide) ?_
  exact ⟨congrArg Value.bool ((canB_yes (fun i hi => hu2 i (by omega))).symm), rfl, rfl⟩

theorem has_n (A : Option Addr) (l : List Nat) (c : Nat) (n : Int) (hl : l.length ≤ 9223372036854775807) : Ctr X 23 [.slice A l.length c, .int .i64 n] [Rd A (I64 (NI l))] [] (fun v R' H' => v = .bool ((NI l).contains n) ∧ R' = [] ∧ H' = []) := by
 have := has_c A (NI l) c n (by rw [NI_len]; exact hl)
 rwa [NI_len] at this
theorem can_n (LA : Option Addr) (ls : List (List Int)) (lc : Nat) (hs : List Hd) (hh : hs.length = ls.length) (hll : ls.length ≤ 9223372036854775807) (hlr : ∀ i, (ls.getD i []).length ≤ 9223372036854775807) (dn : List Nat) (sn : List Int) (DA SA : Option Addr) (dc sc t : Nat) (hdn : dn.length ≤ 1000000) (hsn : sn.length ≤ 1000000) (ht : t ≤ 1000000) : Ctr X 134 [.slice LA ls.length lc, .slice DA dn.length dc, .slice SA sn.length sc, .int .i64 (t : Int)] [Rd LA (rowsV hs (J8 ls)), KidsR hs (J8 ls), Rd DA (I64 (NI dn)), Rd SA (I64 sn)] [] (fun v R' H' => v = .bool (canB ls (NI dn) sn t) ∧ R' = [] ∧ H' = []) := by
 have := can_c LA ls lc hs hh hll hlr (NI dn) sn DA SA dc sc t (by rw [NI_len]; exact hdn) hsn ht
 rwa [NI_len] at this

set_option maxHeartbeats 1000000 in
theorem first21_c (LA : Option Addr) (ls : List (List Int)) (lc : Nat) (hs : List Hd) (hh : hs.length = ls.length) (hll : ls.length ≤ 9223372036854775807) (hlr : ∀ i, (ls.getD i []).length ≤ 9223372036854775807) (hr : readB ls = true) (hn : ls.length ≤ 60) (sn : List Int) (SA : Option Addr) (sc : Nat) (hsn : sn.length ≤ 1000000) :
   Ctr X 94 [.slice LA ls.length lc, .slice SA sn.length sc] [Rd LA (rowsV hs (J8 ls)), KidsR hs (J8 ls), Rd SA (I64 sn)] [] (fun v R' H' => ∃ (A : Option Addr) (c : Nat), v = .slice A (frs ls.length (rdP ls) (fun t => sn.contains (t : Int)) ls.length).length c ∧ R' = [] ∧ H' = [Own 3 1 A (frs ls.length (rdP ls) (fun t => sn.contains (t : Int)) ls.length).length c (I64 (NI (frs ls.length (rdP ls) (fun t => sn.contains (t : Int)) ls.length)))]) := by
 refine Ctr.of (X := X) (fn := Tryz.f94) Tryz.func94 rfl (by kernel_rfl) rfl ?_
 intro β
 refine C.seq (C.region ?_); refine Lpu rfl rfl ?_; refine L.nil (QE.seq (C.seq (C.region ?_)))
 refine L.lit rfl rfl rfl rfl rfl (by rfl) (by rfl) (by rfl) rfl rfl (fun A8 => ?_)
 refine Lpu rfl rfl ?_; refine L.nil (QE.seq (C.seq (C.seq (C.region ?_)))); refine Lpu rfl rfl ?_; refine L.nil (QE.seq (C.block ?_)); refine C.loop (fun q : Nat × Option Addr × Nat => [(0, .slice LA ls.length lc), (1, .slice SA sn.length sc), (5, .slice q.2.1 (frs ls.length (rdP ls) (fun t => sn.contains (t : Int)) q.1).length q.2.2), (6, .int .i64 (q.1 : Int))]) (fun q : Nat × Option Addr × Nat => [Rd LA (rowsV hs (J8 ls)), KidsR hs (J8 ls), Rd SA (I64 sn)]) (fun q : Nat × Option Addr × Nat => [Own 3 1 q.2.1 (frs ls.length (rdP ls) (fun t => sn.contains (t : Int)) q.1).length q.2.2 (I64 (NI (frs ls.length (rdP ls) (fun t => sn.contains (t : Int)) q.1)))]) (fun q : Nat × Option Addr × Nat => q.1 ≤ ls.length) (fun q : Nat × Option Addr × Nat => ls.length - q.1) (0, A8, 0) (Nat.zero_le _) (by exact Le.mk' (rs := [0, 1, 2]) (hs := [0]) ⟨rfl, rfl, rfl, rfl, trivial⟩ ⟨rfl, rfl, rfl, trivial⟩ ⟨rfl, trivial⟩ (by decide)) ?_
 rintro ⟨k, A, c⟩ hk
 dsimp only at hk ⊢
 refine C.seq (C.seq (C.region ?_)); refine Lpu rfl rfl ?_; refine Lpu rfl rfl ?_; refine Lpu rfl rfl ?_; refine Lpu rfl rfl ?_; refine L.nil (QE.seq ?_)
 refine C.condB 12 rfl (fun hc12 => ?_) (fun hc12 => ?_)
 ·
  replace hc12 := of_decide_eq_true hc12
  refine C.skip (QE.seq (C.seq (C.block (C.seq ?_))))
  have hfl := frs_len (n := ls.length) (p := rdP ls) (st := fun t => sn.contains (t : Int)) k
  refine C.region ?_; refine Lpu rfl rfl ?_; refine L.nil (QE.seq (C.block ?_)); refine C.loop (fun t : Nat => [(0, .slice LA ls.length lc), (1, .slice SA sn.length sc), (5, .slice A (frs ls.length (rdP ls) (fun t => sn.contains (t : Int)) k).length c), (6, .int .i64 (k : Int)), (7, .int .i64 (t : Int))]) (fun t : Nat => [Rd LA (rowsV hs (J8 ls)), KidsR hs (J8 ls), Rd SA (I64 sn)]) (fun t : Nat => [Own 3 1 A (frs ls.length (rdP ls) (fun t => sn.contains (t : Int)) k).length c (I64 (NI (frs ls.length (rdP ls) (fun t => sn.contains (t : Int)) k)))]) (fun t : Nat => ∀ i, i < t → nxtB ls.length (rdP ls) (fun t => sn.contains (t : Int)) (frs ls.length (rdP ls) (fun t => sn.contains (t : Int)) k) i = false) (fun t : Nat => ls.length - t) 0 all_zero (by exact Le.mk' (rs := [0, 1, 2]) (hs := [0]) ⟨rfl, rfl, rfl, rfl, rfl, trivial⟩ ⟨rfl, rfl, rfl, trivial⟩ ⟨rfl, trivial⟩ (by decide)) ?_
  intro t hno
  refine C.seq (C.seq (C.region ?_)); refine Lpu rfl rfl ?_; refine Lpu rfl rfl ?_; refine Lpu rfl rfl ?_; refine Lpu rfl rfl ?_; refine L.nil (QE.seq ?_)
  refine C.condB 18 rfl (fun hc18 => ?_) (fun hc18 => ?_)
  ·
   replace hc18 := of_decide_eq_true hc18
   refine C.skip (QE.seq (C.seq (C.block (C.seq ?_))))
   have hnc := nxt_can (sn := sn) (out := (frs ls.length (rdP ls) (fun t => sn.contains (t : Int)) k)) hr (t := t) (by omega)
   refine C.region ?_; refine Lpu rfl rfl ?_; refine Lpu rfl rfl ?_; refine L.call (js := []) (js' := [0]) (has_n A (frs ls.length (rdP ls) (fun t => sn.contains (t : Int)) k) c (t : Int) (by omega)) rfl rfl rfl (by decide) ⟨(Has.o 0 rfl), trivial⟩ rfl ?_
   rintro _ _ _ ⟨rfl, rfl, rfl⟩
   refine Lpu rfl rfl ?_; refine Lpu rfl rfl ?_
   refine L.bool 25 rfl (fun hg25 => ?_) (fun hg25 => ?_)
   ·
    have hi : (NI (frs ls.length (rdP ls) (fun t => sn.contains (t : Int)) k)).contains (t : Int) = false := by simpa using hg25
    refine L.yes rfl ?_; refine Lpu rfl rfl ?_; refine L.yes rfl ?_; refine Lpu rfl rfl ?_; refine L.yes rfl ?_; refine Lpu rfl rfl ?_; refine L.yes rfl ?_; refine Lpu rfl rfl ?_; refine L.yes rfl ?_; refine L.call (js := []) (js' := [0]) (can_n LA ls lc hs hh hll hlr (frs ls.length (rdP ls) (fun t => sn.contains (t : Int)) k) sn A SA c sc t (by omega) hsn (by omega)) rfl rfl rfl (by decide) ⟨(Has.r 0 rfl), (Has.r 1 rfl), (Has.o 0 rfl), (Has.r 2 rfl), trivial⟩ rfl ?_
    rintro _ _ _ ⟨rfl, rfl, rfl⟩
    refine Lpu rfl rfl ?_; refine L.nil (QE.seq ?_)
    refine C.condB 31 rfl (fun hc31 => ?_) (fun hc31 => ?_)
    ·
     have hx : nxtB ls.length (rdP ls) (fun t => sn.contains (t : Int)) (frs ls.length (rdP ls) (fun t => sn.contains (t : Int)) k) t = true := by rw [hnc, hi, hc31]; rfl
     refine C.seq (C.region ?_); refine Lpu rfl rfl ?_; refine Lpu rfl rfl ?_
     refine L.lit rfl rfl rfl rfl rfl (by rfl) (by rfl) (by rfl) rfl rfl (fun A34 => ?_)
     refine L.append (j := 0) rfl rfl rfl rfl (by decide) rfl rfl rfl rfl (Src.o 1 rfl) rfl (allOne rfl) (by omega) (by show _ * 8 ≤ _; omega) rfl (fun A35 cc35 => ?_)
     refine Lpu rfl rfl ?_; refine L.nil (QE.seq ?_); refine C.exit ?_; refine QE.blkX rfl ?_; refine QE.tX ?_; refine QE.tX ?_; refine QE.blk ?_; refine QE.blkN ?_; refine QE.seq (C.region ?_); refine Lpu rfl rfl ?_; refine L.step (Ev.add rfl rfl (by omega) (by omega)) rfl ?_; refine Lpu rfl rfl ?_; refine L.nil ?_
     have he := frs_some hno (by omega) hx
     refine QE.round (i := (k, A, c)) ((k + 1, A35, cc35)) (by dsimp only; omega) (by dsimp only; omega) (by exact Le.mk' (rs := [0, 1, 2]) (hs := [0]) ⟨rfl, rfl, (by dsimp only; rw [he, List.length_append]; rfl), rfl, trivial⟩ ⟨rfl, rfl, rfl, trivial⟩ ⟨(congrArg some (own_eq (by dsimp only; rw [he, List.length_append]; rfl) (by dsimp only; rw [he, NI_app, ← I64_app]; rfl))), trivial⟩ (by decide))
    ·
     have hx : nxtB ls.length (rdP ls) (fun t => sn.contains (t : Int)) (frs ls.length (rdP ls) (fun t => sn.contains (t : Int)) k) t = false := by
       first
         | exact hx
         | (rw [hnc, hi, hc31]; rfl)
     refine C.skip ?_; refine QE.blkN ?_; refine QE.seq (C.region ?_); refine Lpu rfl rfl ?_; refine L.step (Ev.add rfl rfl (by omega) (by omega)) rfl ?_; refine Lpu rfl rfl ?_; refine L.nil ?_
     refine QE.round (t + 1) (by exact (all_step hno hx)) (by omega) (by exact Le.mk' (rs := [0, 1, 2]) (hs := [0]) ⟨rfl, rfl, rfl, rfl, rfl, trivial⟩ ⟨rfl, rfl, rfl, trivial⟩ ⟨rfl, trivial⟩ (by decide))
   ·
    have hx : nxtB ls.length (rdP ls) (fun t => sn.contains (t : Int)) (frs ls.length (rdP ls) (fun t => sn.contains (t : Int)) k) t = false := by
      have hi : (NI (frs ls.length (rdP ls) (fun t => sn.contains (t : Int)) k)).contains (t : Int) = true := by simpa using hg25
      rw [hnc, hi]; rfl
    refine L.no rfl rfl rfl ?_; refine L.no rfl rfl rfl ?_; refine L.no rfl rfl rfl ?_; refine L.no rfl rfl rfl ?_; refine L.no rfl rfl rfl ?_; refine Lpu rfl rfl ?_; refine L.nil (QE.seq ?_)
    refine C.cond rfl (fun h => by cases h) (fun _ => ?_)
    refine C.skip ?_; refine QE.blkN ?_; refine QE.seq (C.region ?_); refine Lpu rfl rfl ?_; refine L.step (Ev.add rfl rfl (by omega) (by omega)) rfl ?_; refine Lpu rfl rfl ?_; refine L.nil ?_
    refine QE.round (t + 1) (by exact (all_step hno hx)) (by omega) (by exact Le.mk' (rs := [0, 1, 2]) (hs := [0]) ⟨rfl, rfl, rfl, rfl, rfl, trivial⟩ ⟨rfl, rfl, rfl, trivial⟩ ⟨rfl, trivial⟩ (by decide))
  ·
   replace hc18 := of_decide_eq_false hc18
   refine C.exit ?_; refine QE.tX ?_; refine QE.tX ?_; refine QE.blk ?_; refine QE.blkN ?_; refine QE.seq (C.region ?_); refine Lpu rfl rfl ?_; refine L.step (Ev.add rfl rfl (by omega) (by omega)) rfl ?_; refine Lpu rfl rfl ?_; refine L.nil ?_
   have he := frs_none (fun i hi => hno i (by omega))
   refine QE.round (i := (k, A, c)) ((k + 1, A, c)) (by dsimp only; omega) (by dsimp only; omega) (by exact Le.mk' (rs := [0, 1, 2]) (hs := [0]) ⟨rfl, rfl, (by dsimp only; rw [he]; rfl), rfl, trivial⟩ ⟨rfl, rfl, rfl, trivial⟩ ⟨(congrArg some (by dsimp only; rw [he])), trivial⟩ (by decide))
 ·
  replace hc12 := of_decide_eq_false hc12
  refine C.exit ?_; refine QE.tX ?_; refine QE.tX ?_; refine QE.blk ?_; refine QE.seq (C.seq (C.region ?_)); refine Lpu rfl rfl ?_; refine Lpu rfl rfl ?_; refine L.nil (QE.seq (C.ret ?_)); refine QE.ret (js := []) (hs := [0]) (vs := [_]) rfl ⟨rfl, trivial⟩ (by decide) ?_
  obtain rfl : k = ls.length := by omega
  exact ⟨A, c, rfl, rfl, rfl⟩

theorem stash0_c (f n : Nat) :
   Ctr X 93 [.int .i64 (f : Int), .int .i64 (n : Int), .int .i64 ((0 : Nat) : Int)] [] [] (fun v R' H' => ∃ (Q : Option Addr) (qc : Nat) (qs : List Hd), v = .slice Q (stL 0 f n).length qc ∧ R' = [KidsR qs (J8 (NL (stL 0 f n)))] ∧ H' = [Own 34 1 Q (stL 0 f n).length qc (rowsV qs (J8 (NL (stL 0 f n))))] ∧ qs.length = (stL 0 f n).length) := by
 refine Ctr.of (X := X) (fn := Tryz.f93) Tryz.func93 rfl (by kernel_rfl) rfl ?_
 intro β
 refine C.seq (C.region ?_); refine Lpu rfl rfl ?_; refine L.nil (QE.seq (C.seq (C.seq (C.region ?_)))); refine Lpu rfl rfl ?_; refine Lpu rfl rfl ?_; refine L.nil (QE.seq ?_)
 refine C.condB 13 rfl (fun hc13 => ?_) (fun hc13 => ?_)
 ·
  replace hc13 := i_eq hc13
  refine C.seq (C.region ?_)
  refine L.lit rfl rfl rfl rfl rfl (by rfl) (by rfl) (by rfl) rfl rfl (fun A14 => ?_)
  refine L.lit rfl rfl rfl rfl rfl (by rfl) (by rfl) (by rfl) rfl rfl (fun A15 => ?_)
  refine Lpu rfl rfl ?_; refine L.nil (QE.seq (C.ret (QE.tR ?_))); refine QE.freeze 0 rfl [1] (by decide) (by decide) ?_; refine QE.more (r := KidsR [] []) (Has.kids0) ?_; refine QE.more (r := KidsR [(A14, 0)] (J8 (NL [[]]))) (Has.kidsSnoc (hs := []) (vss := []) 0 1 0 rfl rfl rfl) ?_; refine QE.ret (js := [0]) (hs := [0]) (vs := [_]) rfl ⟨rfl, trivial⟩ (by decide) ?_
  exact ⟨A15, 1, [(A14, 0)], rfl, rfl, rfl, rfl⟩
 ·
  replace hc13 := i_ne hc13
  exact (hc13 rfl).elim

set_option maxHeartbeats 1000000 in
theorem stashS_c (k : Nat) (hk : k ≤ 100) (ih : ∀ (f n : Nat), n ≤ 16 → Ctr X 93 [.int .i64 (f : Int), .int .i64 (n : Int), .int .i64 (k : Int)] [] [] (fun v R' H' => ∃ (Q : Option Addr) (qc : Nat) (qs : List Hd), v = .slice Q (stL k f n).length qc ∧ R' = [KidsR qs (J8 (NL (stL k f n)))] ∧ H' = [Own 34 1 Q (stL k f n).length qc (rowsV qs (J8 (NL (stL k f n))))] ∧ qs.length = (stL k f n).length)) (f n : Nat) (hn : n ≤ 16) :
   Ctr X 93 [.int .i64 (f : Int), .int .i64 (n : Int), .int .i64 ((k + 1 : Nat) : Int)] [] [] (fun v R' H' => ∃ (Q : Option Addr) (qc : Nat) (qs : List Hd), v = .slice Q (stL (k + 1) f n).length qc ∧ R' = [KidsR qs (J8 (NL (stL (k + 1) f n)))] ∧ H' = [Own 34 1 Q (stL (k + 1) f n).length qc (rowsV qs (J8 (NL (stL (k + 1) f n))))] ∧ qs.length = (stL (k + 1) f n).length) := by
 refine Ctr.of (X := X) (fn := Tryz.f93) Tryz.func93 rfl (by kernel_rfl) rfl ?_
 intro β
 refine C.seq (C.region ?_); refine Lpu rfl rfl ?_; refine L.nil (QE.seq (C.seq (C.seq (C.region ?_)))); refine Lpu rfl rfl ?_; refine Lpu rfl rfl ?_; refine L.nil (QE.seq ?_)
 refine C.condB 13 rfl (fun hc13 => ?_) (fun hc13 => ?_)
 ·
  replace hc13 := i_eq hc13
  omega
 ·
  replace hc13 := i_ne hc13
  refine C.skip (QE.seq (C.seq (C.region ?_)))
  refine L.lit rfl rfl rfl rfl rfl (by rfl) (by rfl) (by rfl) rfl rfl (fun A16 => ?_)
  refine Lpu rfl rfl ?_; refine L.nil (QE.seq (C.seq (C.seq (C.region ?_)))); refine Lpu rfl rfl ?_; refine Lpu rfl rfl ?_; refine L.nil (QE.seq (C.block ?_)); refine C.more (r := KidsR [] []) Has.kids0 ?_; refine C.loop (fun q : Nat × Option Addr × Nat × List Hd => [(0, .int .i64 (f : Int)), (1, .int .i64 (n : Int)), (2, .int .i64 ((k + 1 : Nat) : Int)), (7, .slice q.2.1 (stP k f n q.1).length q.2.2.1), (8, .int .i64 ((f + q.1 : Nat) : Int))]) (fun q : Nat × Option Addr × Nat × List Hd => [KidsR q.2.2.2 (J8 (NL (stP k f n q.1)))]) (fun q : Nat × Option Addr × Nat × List Hd => [Own 34 1 q.2.1 (stP k f n q.1).length q.2.2.1 (rowsV q.2.2.2 (J8 (NL (stP k f n q.1))))]) (fun q : Nat × Option Addr × Nat × List Hd => q.1 ≤ n - f ∧ q.2.2.2.length = (stP k f n q.1).length) (fun q : Nat × Option Addr × Nat × List Hd => n - f - q.1) (0, A16, 0, []) ⟨Nat.zero_le _, rfl⟩ (by exact Le.mk' (rs := [0]) (hs := [0]) ⟨rfl, rfl, rfl, rfl, rfl, trivial⟩ ⟨rfl, trivial⟩ ⟨rfl, trivial⟩ (by decide)) ?_
  rintro ⟨d, Q, qc, qs⟩ ⟨hd, hqs⟩
  dsimp only at hd hqs ⊢
  refine C.seq (C.seq (C.region ?_)); refine Lpu rfl rfl ?_; refine Lpu rfl rfl ?_; refine Lpu rfl rfl ?_; refine L.nil (QE.seq ?_)
  refine C.condB 20 rfl (fun hc20 => ?_) (fun hc20 => ?_)
  ·
   replace hc20 := of_decide_eq_true hc20
   refine C.skip (QE.seq (C.seq (C.block (C.seq ?_))))
   have hdn : d < n - f := by omega
   have hps := stP_len k f n d (by omega)
   have hp2 := two_pow_small (f := f) hn
   refine C.region ?_; refine Lpu rfl rfl ?_; refine L.step (Ev.cast (u := .int .i64 ((f + d + 1 : Nat) : Int)) (Ev.add rfl rfl (by omega) (by omega)) (congrArg (Value.int .i64) (by omega))) rfl ?_; refine Lpu rfl rfl ?_; refine Lpu rfl rfl ?_; refine L.step (Ev.cast (u := .int .i64 ((k : Nat) : Int)) (Ev.sub rfl rfl (by omega) (by omega)) (congrArg (Value.int .i64) (by omega))) rfl ?_; refine L.callR (js := []) (js' := [0]) (ih (f + d + 1) n hn) rfl rfl rfl (by decide) trivial rfl ?_
   rintro _ _ _ ⟨S, sc, ss, rfl, rfl, rfl, hss⟩
   refine Lpu rfl rfl ?_; refine L.nil (QE.seq (C.seq ?_)); refine C.freeze 0 rfl [1] (by decide) (by decide) ?_; refine C.region ?_; refine Lpu rfl rfl ?_; refine L.nil (QE.seq (C.block ?_))
   obtain ⟨Q0, hQ0⟩ : ∃ x, x = Q := ⟨_, rfl⟩
   obtain ⟨qc0, hqc0⟩ : ∃ x, x = qc := ⟨_, rfl⟩
   obtain ⟨qs0, hqs0⟩ : ∃ x, x = qs := ⟨_, rfl⟩
   refine C.loop (fun q : Nat × Option Addr × Nat × List Hd => [(0, .int .i64 (f : Int)), (1, .int .i64 (n : Int)), (2, .int .i64 ((k + 1 : Nat) : Int)), (8, .int .i64 ((f + d : Nat) : Int)), (9, .slice S (stL k (f + d + 1) n).length sc), (7, .slice q.2.1 (stQ k f n d q.1).length q.2.2.1), (10, .int .i64 (q.1 : Int))]) (fun q : Nat × Option Addr × Nat × List Hd => [Rd S (rowsV ss (J8 (NL (stL k (f + d + 1) n)))), KidsR ss (J8 (NL (stL k (f + d + 1) n))), KidsR q.2.2.2 (J8 (NL (stQ k f n d q.1)))]) (fun q : Nat × Option Addr × Nat × List Hd => [Own 34 1 q.2.1 (stQ k f n d q.1).length q.2.2.1 (rowsV q.2.2.2 (J8 (NL (stQ k f n d q.1))))]) (fun q : Nat × Option Addr × Nat × List Hd => q.1 ≤ (stL k (f + d + 1) n).length ∧ q.2.2.2.length = (stQ k f n d q.1).length) (fun q : Nat × Option Addr × Nat × List Hd => (stL k (f + d + 1) n).length - q.1) (0, Q, qc, qs) ⟨Nat.zero_le _, by dsimp only; rw [stQ_zero]; exact hqs⟩ (by exact Le.mk' (rs := [0, 1, 2]) (hs := [0]) ⟨rfl, rfl, rfl, rfl, rfl, (by dsimp only; rw [stQ_zero]; rfl), rfl, trivial⟩ ⟨rfl, rfl, (congrArg some (by dsimp only; rw [stQ_zero])), trivial⟩ ⟨(congrArg some (by dsimp only; rw [stQ_zero])), trivial⟩ (by decide)) ?_
   rintro ⟨i, Q, qc, qs⟩ ⟨hi, hqs⟩
   dsimp only at hi hqs ⊢
   refine C.seq (C.seq (C.region ?_)); refine Lpu rfl rfl ?_; refine Lpu rfl rfl ?_; refine Lpu rfl rfl ?_; refine Lpu rfl rfl ?_; refine L.nil (QE.seq ?_)
   refine C.condB 32 rfl (fun hc32 => ?_) (fun hc32 => ?_)
   ·
    replace hc32 := of_decide_eq_true hc32
    refine C.skip (QE.seq (C.seq (C.block (C.seq ?_))))
    have hsl := stL_len k (f + d + 1) n
    have hp3 := two_pow_small (f := f + d + 1) hn
    have hli := stL_get (k := k) (f := f + d + 1) (n := n) (i := i) (by omega)
    have hql := stQ_len (k := k) (i := i) (show d + 1 ≤ n - f by omega)
    refine C.region ?_; refine Lpu rfl rfl ?_
    refine L.lit rfl rfl rfl rfl rfl (by rfl) (by rfl) (by rfl) rfl rfl (fun A36 => ?_)
    refine Lpu rfl rfl ?_; refine Lpu rfl rfl ?_; refine L.step (Ev.idx1 (k := i) rfl rfl rfl rfl rfl rfl rfl (by omega) (Src.r 0 rfl) (by rw [rowsV_len (by rw [J8_len, NL_len]; exact hss), J8_len, NL_len]; omega)) rfl ?_; refine L.step (Ev.load rfl rfl rfl (Src.r 0 rfl) (rowsJ_get (by rw [NL_len]; exact hss) (by rw [NL_len]; omega))) rfl ?_
    refine L.append (j := 1) rfl rfl rfl rfl (by decide) rfl rfl rfl rfl ((Src.kid 1 rfl (by rw [J8_len, NL_len]; exact hss) (i) (by rw [J8_len, NL_len]; omega)).cast (J8_get _)) (by rw [I64_len]; exact (Nat.mul_one _).symm) (I64_one _) (by omega) (by show _ * 8 ≤ _; omega) rfl (fun A41 cc41 => ?_)
    refine Lpu rfl rfl ?_; refine L.nil (QE.seq ?_); refine C.freeze 1 rfl [0] (by decide) (by decide) ?_
    have he := stQ_succ (k := k) (f := f) (n := n) (d := d) (i := i) (by omega)
    have hlen : ((NL (stL k (f + d + 1) n)).getD i []).length = ((stL k (f + d + 1) n).getD i []).length := by rw [NL_get (by omega), NI_len]
    refine C.region ?_; refine Lpu rfl rfl ?_; refine Lpu rfl rfl ?_
    refine L.lit rfl rfl rfl rfl rfl (by rfl) (by rfl) (by rfl) rfl rfl (fun A44 => ?_)
    refine L.append (j := 0) rfl rfl rfl rfl (by decide) rfl rfl rfl rfl (Src.o 1 rfl) rfl (by intro v hv; simp at hv; subst hv; rfl) (by omega) (by show _ * 24 ≤ _; omega) rfl (fun A45 cc45 => ?_)
    refine Lpu rfl rfl ?_; refine L.nil ?_; refine QE.blkN ?_; refine QE.seq (C.region ?_); refine Lpu rfl rfl ?_; refine L.step (Ev.add rfl rfl (by omega) (by omega)) rfl ?_; refine Lpu rfl rfl ?_; refine L.nil ?_; refine QE.more (r := Rd A41 (I64 (NI ((f + d) :: ((stL k (f + d + 1) n).getD i []))))) ((Has.r 0 rfl).cast (by rw [show NI ((f + d) :: ((stL k (f + d + 1) n).getD i [])) = ((f + d : Nat) : Int) :: NI ((stL k (f + d + 1) n).getD i []) from rfl, ← NL_get (by omega)]; rfl)) ?_; refine QE.more (r := KidsR (qs ++ [(A41, cc41)]) (J8 (NL (stQ k f n d i)) ++ [I64 (NI ((f + d) :: ((stL k (f + d + 1) n).getD i [])))])) (Has.kidsSnoc 4 0 cc41 rfl rfl (by rw [J8_len, NL_len]; exact hqs)) ?_
    refine QE.round (i := (i, Q, qc, qs)) ((i + 1, A45, cc45, qs ++ [(A41, cc41)])) (by exact ⟨by dsimp only; omega, by dsimp only; rw [he, List.length_append, List.length_append, hqs]; rfl⟩) (by dsimp only; omega) (by exact Le.mk' (rs := [3, 4, 0]) (hs := [0]) ⟨rfl, rfl, rfl, rfl, rfl, (by dsimp only; rw [he, List.length_append]; rfl), rfl, trivial⟩ ⟨rfl, rfl, (congrArg some (by dsimp only; rw [he, NL_app, show NL [(f + d) :: ((stL k (f + d + 1) n).getD i [])] = [NI ((f + d) :: ((stL k (f + d + 1) n).getD i []))] from rfl, ← J8_snoc])), trivial⟩ ⟨(congrArg some (own_eq (by dsimp only; rw [he, List.length_append]; rfl) (by dsimp only; rw [he, NL_app, show NL [(f + d) :: ((stL k (f + d + 1) n).getD i [])] = [NI ((f + d) :: ((stL k (f + d + 1) n).getD i []))] from rfl, ← rowsJ_app (by rw [NL_len]; exact hqs), NI_len, List.length_cons, hlen, Nat.add_comm 1]))), trivial⟩ (by decide))
   ·
    replace hc32 := of_decide_eq_false hc32
    refine C.exit ?_; refine QE.tX ?_; refine QE.tX ?_; refine QE.blk ?_; refine QE.blkN ?_; refine QE.seq (C.region ?_); refine Lpu rfl rfl ?_; refine L.step (Ev.cast (u := .int .i64 ((f + (d + 1) : Nat) : Int)) (Ev.add rfl rfl (by omega) (by omega)) (congrArg (Value.int .i64) (by omega))) rfl ?_; refine Lpu rfl rfl ?_; refine L.nil ?_
    have he := stQ_all (k := k) (f := f) (n := n) (d := d) (i := i) (by omega)
    refine QE.round (i := (d, Q0, qc0, qs0)) ((d + 1, Q, qc, qs)) (by exact ⟨by dsimp only; omega, by dsimp only; rw [← he]; exact hqs⟩) (by dsimp only; omega) (by exact Le.mk' (rs := [2]) (hs := [0]) ⟨rfl, rfl, rfl, (by dsimp only; rw [← he]; rfl), rfl, trivial⟩ ⟨(congrArg some (by dsimp only; rw [he])), trivial⟩ ⟨(congrArg some (by dsimp only; rw [he])), trivial⟩ (by decide))
  ·
   replace hc20 := of_decide_eq_false hc20
   refine C.exit ?_; refine QE.tX ?_; refine QE.tX ?_; refine QE.blk ?_; refine QE.seq (C.seq (C.region ?_)); refine Lpu rfl rfl ?_; refine Lpu rfl rfl ?_; refine L.nil (QE.seq (C.ret ?_)); refine QE.ret (js := [0]) (hs := [0]) (vs := [_]) rfl ⟨rfl, trivial⟩ (by decide) ?_
   obtain rfl : d = n - f := by omega
   rw [stP_all] at *
   exact ⟨Q, qc, qs, rfl, rfl, rfl, hqs⟩

theorem stash_c : ∀ (k : Nat), k ≤ 100 → ∀ (f n : Nat), n ≤ 16 → Ctr X 93 [.int .i64 (f : Int), .int .i64 (n : Int), .int .i64 (k : Int)] [] [] (fun v R' H' => ∃ (Q : Option Addr) (qc : Nat) (qs : List Hd), v = .slice Q (stL k f n).length qc ∧ R' = [KidsR qs (J8 (NL (stL k f n)))] ∧ H' = [Own 34 1 Q (stL k f n).length qc (rowsV qs (J8 (NL (stL k f n))))] ∧ qs.length = (stL k f n).length)
 | 0, _, f, n, _ => stash0_c f n
 | k + 1, hk, f, n, hn => stashS_c k (by omega) (fun f n hn => stash_c k (by omega) f n hn) f n hn

end Go.Proofs.YtpccfdnmnnnboaaGreat
end
/-
  The search for a stash, as plain data.
-/
section
namespace Go.Sl

def fullB (n : Nat) (p : Nat → Nat → Bool) (st : Nat → Bool) : Bool := (frs n p st n).length == n
/-- The best stash of some sectors among the first sets. -/
def bst (n : Nat) (p : Nat → Nat → Bool) (k : Nat) : Nat → Option (List Nat)
 | 0 => none
 | s + 1 => if (mem s 64).length = k ∧ (∀ b, bst n p k s = some b → ¬cmpL (NI (mem s 64)) (NI b) > 0) ∧ fullB n p s.testBit = true then some (mem s 64) else bst n p k s
def srch (g : Nat → Option (List Nat)) : Nat → Option (List Nat)
 | 0 => none
 | k + 1 => match srch g k with
   | some x => some x
   | none => g k
theorem srch_none {g : Nat → Option (List Nat)} {k : Nat} (h : srch g k = none) (h2 : g k = none) : srch g (k + 1) = none := by rw [srch, h]; exact h2
theorem srch_keep {g : Nat → Option (List Nat)} {k : Nat} {x : List Nat} (h : srch g k = some x) : ∀ d, srch g (k + d) = some x
 | 0 => h
 | d + 1 => by rw [← Nat.add_assoc, srch, srch_keep h d]
theorem srch_found {g : Nat → Option (List Nat)} {k m : Nat} {x : List Nat} (h : srch g k = none) (h2 : g k = some x) (hk : k < m) : srch g m = some x := by
 have h3 : srch g (k + 1) = some x := by rw [srch, h]; exact h2
 have := srch_keep h3 (m - (k + 1))
 rwa [show k + 1 + (m - (k + 1)) = m from by omega] at this
/-- The order that belongs to a stash. -/
def sqO (n : Nat) (p : Nat → Nat → Bool) : Option (List Nat) → List Nat
 | none => []
 | some l => frs n p (fun t => l.contains t) n
section
variable {n k s : Nat} {p : Nat → Nat → Bool}
theorem mem_has {m t : Nat} (hm : m < 18446744073709551616) : (mem m 64).contains t = m.testBit t := by
 rw [Bool.eq_iff_iff, List.contains_iff_mem]
 simp only [mem, List.mem_filter, List.mem_range]
 refine ⟨fun h => h.2, fun h => ⟨?_, h⟩⟩
 rcases Nat.lt_or_ge t 64 with h1 | h1
 · exact h1
 · rw [Nat.testBit_lt_two_pow (by have := Nat.pow_le_pow_right (n := 2) (by decide) h1; omega)] at h
   cases h
theorem frs_congr {st st' : Nat → Bool} (h : ∀ t, st t = st' t) : ∀ k, frs n p st k = frs n p st' k := by
 have : st = st' := funext h
 subst this
 exact fun _ => rfl
theorem sqO_mem {m : Nat} (hm : m < 18446744073709551616) : sqO n p (some (mem m 64)) = frs n p m.testBit n := frs_congr (fun _ => mem_has hm) n
theorem bst_skip1 (h : ¬(mem s 64).length = k) : bst n p k (s + 1) = bst n p k s := by rw [bst, if_neg (fun q => h q.1)]
theorem bst_skip2 {b : List Nat} (h : bst n p k s = some b) (h2 : cmpL (NI (mem s 64)) (NI b) > 0) : bst n p k (s + 1) = bst n p k s := by rw [bst, if_neg (fun q => q.2.1 b h h2)]
theorem bst_skip3 (h : fullB n p s.testBit = false) : bst n p k (s + 1) = bst n p k s := by rw [bst, if_neg (fun q => by rw [h] at q; exact absurd q.2.2 (by decide))]
theorem bst_take (h1 : (mem s 64).length = k) (h2 : ∀ b, bst n p k s = some b → ¬cmpL (NI (mem s 64)) (NI b) > 0) (h3 : fullB n p s.testBit = true) : bst n p k (s + 1) = some (mem s 64) := by rw [bst, if_pos ⟨h1, h2, h3⟩]
theorem full_iff {st : Nat → Bool} : fullB n p st = true ↔ (frs n p st n).length = n := by unfold fullB; exact beq_iff_eq
theorem full_no {st : Nat → Bool} : fullB n p st = false ↔ (frs n p st n).length ≠ n := by unfold fullB; exact beq_eq_false_iff_ne
theorem mem_nil {m : Nat} (hm : m < 18446744073709551616) (h : (mem m 64).length = 0) : m = 0 := by
 apply Nat.eq_of_testBit_eq
 intro i
 rw [← mem_has hm, List.eq_nil_of_length_eq_zero h, Nat.zero_testBit]
 rfl
theorem bst_zero : ∀ d, d < 18446744073709551616 → bst n p 0 (1 + d) = bst n p 0 1
 | 0, _ => rfl
 | d + 1, hd => by
   rw [← Nat.add_assoc, bst_skip1 (fun h => by have := mem_nil (m := 1 + d) (by omega) h; omega)]
   exact bst_zero d (by omega)
theorem mem_z : mem 0 64 = [] := by
 unfold mem
 rw [List.filter_eq_nil_iff]
 intro i _
 rw [Nat.zero_testBit]
 decide
/-- A set without members that will do. -/
theorem bst_first (hs : s < 18446744073709551616) (h0 : (mem s 64).length = 0) (hf : fullB n p s.testBit = true) {m : Nat} (hm : 1 ≤ m) (hm2 : m ≤ 18446744073709551616) : bst n p 0 m = some (mem s 64) := by
 obtain rfl := mem_nil hs h0
 have := bst_zero (n := n) (p := p) (m - 1) (by omega)
 rw [show 1 + (m - 1) = m from by omega] at this
 rw [this]
 exact bst_take (by rw [mem_z]; rfl) (fun b h => by cases h) hf
end
def ordR (ls : List (List Int)) : Option (List Nat) := srch (fun k => bst ls.length (rdP ls) k (2 ^ ls.length)) (ls.length + 1)
def ordT (ls : List (List Int)) : Option (List Nat) := if readB ls = true ∧ ls.length ≤ 16 then ordR ls else none
def ordE (ls : List (List Int)) : Int := if readB ls = true then (if ls.length ≤ 16 then 0 else 2) else 1
def ordQ (ls : List (List Int)) : List Nat := sqO ls.length (rdP ls) (ordT ls)
def ordH (ls : List (List Int)) : List Nat := (ordT ls).getD []
section
variable {ls : List (List Int)}
theorem ordT_no (h : readB ls = false ∨ 16 < ls.length) : ordT ls = none := by
 unfold ordT
 rw [if_neg]
 rintro ⟨h1, h2⟩
 rcases h with h | h
 · rw [h] at h1; cases h1
 · omega
theorem ordT_ok (h : readB ls = true) (h2 : ls.length ≤ 16) : ordT ls = ordR ls := if_pos ⟨h, h2⟩
theorem ordQ_no (h : readB ls = false ∨ 16 < ls.length) : ordQ ls = [] := by unfold ordQ; rw [ordT_no h]; rfl
theorem ordH_no (h : readB ls = false ∨ 16 < ls.length) : ordH ls = [] := by unfold ordH; rw [ordT_no h]; rfl
theorem ordQ_ok (h : readB ls = true) (h2 : ls.length ≤ 16) : ordQ ls = sqO ls.length (rdP ls) (ordR ls) := by unfold ordQ; rw [ordT_ok h h2]
theorem ordH_ok (h : readB ls = true) (h2 : ls.length ≤ 16) : ordH ls = (ordR ls).getD [] := by unfold ordH; rw [ordT_ok h h2]
theorem ordE_1 (h : readB ls = false) : ordE ls = 1 := by unfold ordE; rw [if_neg (by rw [h]; decide)]
theorem ordE_2 (h : readB ls = true) (h2 : 16 < ls.length) : ordE ls = 2 := by unfold ordE; rw [if_pos h, if_neg (by omega)]
theorem ordE_0 (h : readB ls = true) (h2 : ls.length ≤ 16) : ordE ls = 0 := by unfold ordE; rw [if_pos h, if_pos h2]
end
theorem bst_len {n k s : Nat} {p : Nat → Nat → Bool} : ((bst n p k s).getD []).length ≤ 64 := by
 induction s with
 | zero => exact Nat.zero_le _
 | succ s ih =>
   rw [bst]
   split
   · exact mem_len s 64
   · exact ih
end Go.Sl
end
