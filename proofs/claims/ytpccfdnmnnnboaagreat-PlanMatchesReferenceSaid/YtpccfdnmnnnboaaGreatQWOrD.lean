/-
  The order of the program.
-/
import Derived.Test.YtpccfdnmnnnboaaGreatQWOrC
namespace Go.Proofs.YtpccfdnmnnnboaaGreat
open Go.Sl

theorem scmp_n (A : Option Addr) (a : List Nat) (c : Nat) (B : Option Addr) (b : List Nat) (d : Nat) (ha : a.length ≤ 9223372036854775807) (hb : b.length ≤ 64) : Ctr X 89 [.slice A a.length c, .slice B b.length d] [Rd A (I64 (NI a)), Rd B (I64 (NI b))] [] (fun v R' H' => v = .int .i64 (cmpL (NI a) (NI b)) ∧ R' = [] ∧ H' = []) := by
 have := scmp_c A (NI a) c B (NI b) d (by rw [NI_len]; exact ha) (by rw [NI_len]; omega)
 rwa [NI_len, NI_len] at this

set_option maxHeartbeats 2000000 in
theorem order_c (LA : Option Addr) (ls : List (List Int)) (lc : Nat) (hs : List Hd) (hh : hs.length = ls.length) (hll : ls.length ≤ 9223372036854775807) (hlr : ∀ i, (ls.getD i []).length ≤ 9223372036854775807) :
   Ctr X 46 [.slice LA ls.length lc] [Rd LA (rowsV hs (J8 ls)), KidsR hs (J8 ls)] [] (fun v R' H' => ∃ (A B : Option Addr) (c d : Nat), v = .tuple #[.slice A (ordQ ls).length c, .slice B (ordH ls).length d, .int .i64 (ordE ls)] ∧ R' = [Rd A (I64 (NI (ordQ ls))), Rd B (I64 (NI (ordH ls)))] ∧ H' = []) := by
 refine Ctr.of (X := X) (fn := Tryz.f46) Tryz.func46 rfl (by kernel_rfl) rfl ?_
 intro β
 refine C.seq (C.region ?_); refine Lpu rfl rfl ?_; refine Lpu rfl rfl ?_; refine Lpu rfl rfl ?_; refine L.nil (QE.seq ?_); refine C.scope ?_; refine C.seq (C.seq (C.region ?_)); refine Lpu rfl rfl ?_; refine L.call (js := []) (js' := []) (readings_c LA ls lc hs hh hll hlr) rfl rfl rfl (by decide) (Hq [0, 1] rfl) rfl ?_
 rintro _ _ _ ⟨rfl, rfl, rfl⟩
 refine Lpu rfl rfl ?_; refine L.nil (QE.seq ?_)
 refine C.condB 16 rfl (fun hc16 => ?_) (fun hc16 => ?_)
 ·
  have hrb : readB ls = false := by simpa using hc16
  refine C.seq (C.region ?_); refine Lpu rfl rfl ?_; refine Lpu rfl rfl ?_; refine Lpu rfl rfl ?_; refine L.nil (QE.seq (C.ret (QE.tR ?_))); refine QE.sR ?_; refine QE.more (r := Rd none (I64 (NI []))) (Has.nil) ?_; refine QE.more (r := Rd none (I64 (NI []))) (Has.nil) ?_; refine QE.ret (js := [1, 0]) (hs := []) (vs := [_, _, _]) rfl ⟨rfl, rfl, rfl, trivial⟩ (by decide) ?_
  refine ⟨none, none, 0, 0, ?_, ?_, rfl⟩
  · rw [ordQ_no (.inl hrb), ordH_no (.inl hrb), ordE_1 hrb]; rfl
  · rw [ordQ_no (.inl hrb), ordH_no (.inl hrb)]; rfl
 ·
  have hrb : readB ls = true := by simpa using hc16
  refine C.skip (QE.seq (C.seq (C.region ?_))); refine Lpu rfl rfl ?_; refine Lpu rfl rfl ?_; refine Lpu rfl rfl ?_; refine L.nil (QE.seq (C.seq (C.seq (C.region ?_)))); refine Lpu rfl rfl ?_; refine Lpu rfl rfl ?_; refine L.nil (QE.seq ?_)
  refine C.condB 20 rfl (fun hc20 => ?_) (fun hc20 => ?_)
  ·
   replace hc20 := of_decide_eq_true hc20
   refine C.seq (C.region ?_); refine Lpu rfl rfl ?_; refine Lpu rfl rfl ?_; refine Lpu rfl rfl ?_; refine L.nil (QE.seq (C.ret (QE.tR ?_))); refine QE.sR ?_; refine QE.more (r := Rd none (I64 (NI []))) (Has.nil) ?_; refine QE.more (r := Rd none (I64 (NI []))) (Has.nil) ?_; refine QE.ret (js := [1, 0]) (hs := []) (vs := [_, _, _]) rfl ⟨rfl, rfl, rfl, trivial⟩ (by decide) ?_
   have hbig : 16 < ls.length := by omega
   refine ⟨none, none, 0, 0, ?_, ?_, rfl⟩
   · rw [ordQ_no (.inr hbig), ordH_no (.inr hbig), ordE_2 hrb hbig]; rfl
   · rw [ordQ_no (.inr hbig), ordH_no (.inr hbig)]; rfl
  ·
   replace hc20 := of_decide_eq_false hc20
   refine C.skip (QE.seq (C.seq (C.region ?_))); refine Lpu rfl rfl ?_; refine L.call (js := []) (js' := []) (readers_c LA ls lc hs hh hll hlr hrb (by omega)) rfl rfl rfl (by decide) (Hq [0, 1] rfl) rfl ?_
   rintro _ _ _ ⟨Y, ms, rfl, rfl, rfl, hrd⟩
   refine Lpu rfl rfl ?_; refine L.nil (QE.seq (C.seq (C.region ?_))); refine Lpu rfl rfl ?_; refine Lpu rfl rfl ?_; refine L.nil (QE.seq (C.seq ?_)); refine C.label ?_; refine QE.seq ?_; refine C.seqJ (fun q : Option Addr × Nat × Option Addr × Nat => [(7, .slice q.1 (sqO ls.length (rdP ls) (ordR ls)).length q.2.1), (8, .slice q.2.2.1 ((ordR ls).getD []).length q.2.2.2)]) (fun q : Option Addr × Nat × Option Addr × Nat => [Rd q.1 (I64 (NI (sqO ls.length (rdP ls) (ordR ls)))), Rd q.2.2.1 (I64 (NI ((ordR ls).getD [])))]) (fun q : Option Addr × Nat × Option Addr × Nat => []) (fun q : Option Addr × Nat × Option Addr × Nat => True) ?_ ?_
   ·
    refine C.seq ?_; refine C.freeze 0 rfl [] (by decide) (by decide) ?_; refine C.region ?_; refine Lpu rfl rfl ?_; refine L.step (Ev.cast (u := .int .i64 ((ls.length + 1 : Nat) : Int)) (Ev.add rfl rfl (by omega) (by omega)) (congrArg (Value.int .i64) (by omega))) rfl ?_; refine Lpu rfl rfl ?_; refine L.nil (QE.seq (C.block ?_)); refine C.loop (fun k : Nat => [(0, .slice LA ls.length lc), (5, .int .i64 (ls.length : Int)), (6, .slice Y ls.length ls.length), (24, .int .i64 ((ls.length + 1 : Nat) : Int)), (25, .int .i64 (k : Int)), (7, .slice none 0 0), (8, .slice none 0 0)]) (fun k : Nat => [Rd LA (rowsV hs (J8 ls)), KidsR hs (J8 ls), Rd Y (U64L ms)]) (fun k : Nat => []) (fun k : Nat => k ≤ ls.length + 1 ∧ srch (fun k => bst ls.length (rdP ls) k (2 ^ ls.length)) k = none) (fun k : Nat => ls.length + 1 - k) 0 ⟨Nat.zero_le _, rfl⟩ (by exact Le.mk' (rs := [1, 2, 0]) (hs := []) ⟨rfl, rfl, rfl, rfl, rfl, rfl, rfl, trivial⟩ ⟨rfl, rfl, rfl, trivial⟩ trivial (by decide)) ?_
    rintro k ⟨hk, hsr⟩
    refine C.seq (C.region ?_); refine Lpu rfl rfl ?_; refine L.nil (QE.seq (C.seq ?_))
    refine C.condB 26 rfl (fun hc26 => ?_) (fun hc26 => ?_)
    ·
     replace hc26 := of_decide_eq_true hc26
     refine C.skip (QE.seq (C.seq (C.block (C.seq (C.region ?_))))); refine Lpu rfl rfl ?_; refine Lpu rfl rfl ?_; refine L.nil (QE.seq (C.seq (C.region ?_))); refine Lpu rfl rfl ?_; refine L.nil (QE.seq (C.seq (C.seq (C.region ?_)))); refine Lpu rfl rfl ?_; refine L.step (Ev.shlU (m := 1) (k := ls.length) rfl rfl (by omega) (pow_small (by omega))) rfl ?_; refine Lpu rfl rfl ?_; refine L.nil (QE.seq (C.block ?_)); refine C.more (r := Rd none (I64 (NI []))) Has.nil ?_; refine C.loop (fun q : Nat × Option Addr × Nat × Option Addr × Nat => [(0, .slice LA ls.length lc), (5, .int .i64 (ls.length : Int)), (6, .slice Y ls.length ls.length), (24, .int .i64 ((ls.length + 1 : Nat) : Int)), (25, .int .i64 (k : Int)), (9, .int .i64 (k : Int)), (7, .slice q.2.1 (sqO ls.length (rdP ls) (bst ls.length (rdP ls) k q.1)).length q.2.2.1), (8, .slice q.2.2.2.1 (((bst ls.length (rdP ls) k q.1)).getD []).length q.2.2.2.2), (10, .slice q.2.2.2.1 (((bst ls.length (rdP ls) k q.1)).getD []).length q.2.2.2.2), (29, .int .u64 (((1 * 2 ^ ls.length) : Nat) : Int)), (30, .int .u64 (q.1 : Int))]) (fun q : Nat × Option Addr × Nat × Option Addr × Nat => [Rd q.2.1 (I64 (NI (sqO ls.length (rdP ls) (bst ls.length (rdP ls) k q.1)))), Rd q.2.2.2.1 (I64 (NI (((bst ls.length (rdP ls) k q.1)).getD []))), Rd LA (rowsV hs (J8 ls)), KidsR hs (J8 ls), Rd Y (U64L ms)]) (fun q : Nat × Option Addr × Nat × Option Addr × Nat => []) (fun q : Nat × Option Addr × Nat × Option Addr × Nat => q.1 ≤ 2 ^ ls.length ∧ (k = 0 → (bst ls.length (rdP ls) k q.1) = none) ∧ ((bst ls.length (rdP ls) k q.1) = none → q.2.1 = none ∧ q.2.2.1 = 0 ∧ q.2.2.2.1 = none ∧ q.2.2.2.2 = 0) ∧ ((bst ls.length (rdP ls) k q.1) ≠ none → q.2.1.isSome = true)) (fun q : Nat × Option Addr × Nat × Option Addr × Nat => 2 ^ ls.length - q.1) (0, none, 0, none, 0) ⟨Nat.zero_le _, fun _ => rfl, fun _ => ⟨rfl, rfl, rfl, rfl⟩, fun h => absurd rfl h⟩ (by exact Le.mk' (rs := [0, 0, 1, 2, 3]) (hs := []) ⟨rfl, rfl, rfl, rfl, rfl, rfl, rfl, rfl, rfl, rfl, rfl, trivial⟩ ⟨rfl, rfl, rfl, rfl, rfl, trivial⟩ trivial (by decide)) ?_
     rintro ⟨s, A, c, B, d⟩ ⟨hs, hb1, hb2, hb3⟩
     dsimp only at hs hb1 hb2 hb3 ⊢
     refine C.seq (C.region ?_); refine Lpu rfl rfl ?_; refine L.nil (QE.seq (C.seq ?_))
     refine C.condB 31 rfl (fun hc31 => ?_) (fun hc31 => ?_)
     ·
      replace hc31 := of_decide_eq_true hc31
      refine C.skip (QE.seq (C.seq (C.block (C.seq ?_))))
      have hpw := pow_small (show ls.length < 64 by omega)
      have hs64 : s < 18446744073709551616 := by omega
      refine C.region ?_; refine Lpu rfl rfl ?_; refine Lpu rfl rfl ?_; refine L.nil (QE.seq (C.seq (C.region ?_))); refine Lpu rfl rfl ?_; refine L.call (js := []) (js' := []) (members_c s hs64) rfl rfl rfl (by decide) trivial rfl ?_
      rintro _ _ _ ⟨A34, c34, rfl, rfl, rfl⟩
      have hml := mem_len s 64
      refine Lpu rfl rfl ?_; refine L.nil (QE.seq (C.seq (C.seq (C.region ?_)))); refine Lpu rfl rfl ?_; refine Lpu rfl rfl ?_; refine Lpu rfl rfl ?_; refine Lpu rfl rfl ?_; refine L.nil (QE.seq ?_)
      refine C.condB 38 rfl (fun hc38 => ?_) (fun hc38 => ?_)
      ·
       replace hc38 := b_ne hc38
       refine C.exit ?_; refine QE.tX ?_; refine QE.blk ?_; refine QE.seq (C.region ?_); refine L.step (Ev.cast (u := .int .u64 ((s + 1 : Nat) : Int)) (Ev.pure rfl) (congrArg (Value.int .u64) (wrap_u64 (m := s + 1) (by omega)))) rfl ?_; refine Lpu rfl rfl ?_; refine L.nil ?_
       have he : (bst ls.length (rdP ls) k (s + 1)) = (bst ls.length (rdP ls) k s) := bst_skip1 (by omega)
       refine QE.round (i := (s, A, c, B, d)) ((s + 1, A, c, B, d)) (by dsimp only; rw [he]; exact ⟨by omega, hb1, hb2, hb3⟩) (by dsimp only; omega) (by exact Le.mk' (rs := [0, 1, 2, 3, 4]) (hs := []) ⟨rfl, rfl, rfl, rfl, rfl, rfl, (by dsimp only; rw [he]; rfl), (by dsimp only; rw [he]; rfl), (by dsimp only; rw [he]; rfl), rfl, rfl, trivial⟩ ⟨(congrArg some (by dsimp only; rw [he])), (congrArg some (by dsimp only; rw [he])), rfl, rfl, rfl, trivial⟩ trivial (by decide))
      ·
       replace hc38 := b_eq hc38
       refine C.skip (QE.seq (C.seq (C.seq ?_)))
       have hbl : (((bst ls.length (rdP ls) k s)).getD []).length ≤ 64 := bst_len
       refine C.region ?_; refine Lpu rfl rfl ?_; refine L.step (Ev.neS rfl rfl rfl rfl) rfl ?_; refine Lpu rfl rfl ?_
       refine L.bool 41 rfl (fun hg41 => ?_) (fun hg41 => ?_)
       ·
        obtain ⟨b0, hb0⟩ : ∃ x, (bst ls.length (rdP ls) k s) = some x := by
          cases hx : (bst ls.length (rdP ls) k s) with
          | some x => exact ⟨x, rfl⟩
          | none => rw [(hb2 hx).1] at hg41; cases hg41
        refine L.yes rfl ?_; refine Lpu rfl rfl ?_; refine L.yes rfl ?_; refine Lpu rfl rfl ?_; refine L.yes rfl ?_; refine L.call (js := []) (js' := [0]) (scmp_n A34 (mem s 64) c34 B (((bst ls.length (rdP ls) k s)).getD []) d (by omega) hbl) rfl rfl rfl (by decide) ⟨(Has.o 0 rfl), (Has.r 1 rfl), trivial⟩ rfl ?_
        rintro _ _ _ ⟨rfl, rfl, rfl⟩
        refine L.yes rfl ?_; refine Lpu rfl rfl ?_; refine Lpu rfl rfl ?_; refine L.nil (QE.seq ?_)
        refine C.condB 46 rfl (fun hc46 => ?_) (fun hc46 => ?_)
        ·
         replace hc46 := of_decide_eq_true hc46
         have hc46b : cmpL (NI (mem s 64)) (NI b0) > 0 := by rw [hb0] at hc46; exact hc46
         refine C.exit ?_; refine QE.tX ?_; refine QE.blk ?_; refine QE.seq (C.region ?_); refine L.step (Ev.cast (u := .int .u64 ((s + 1 : Nat) : Int)) (Ev.pure rfl) (congrArg (Value.int .u64) (wrap_u64 (m := s + 1) (by omega)))) rfl ?_; refine Lpu rfl rfl ?_; refine L.nil ?_
         have he : (bst ls.length (rdP ls) k (s + 1)) = (bst ls.length (rdP ls) k s) := bst_skip2 hb0 hc46b
         refine QE.round (i := (s, A, c, B, d)) ((s + 1, A, c, B, d)) (by dsimp only; rw [he]; exact ⟨by omega, hb1, hb2, hb3⟩) (by dsimp only; omega) (by exact Le.mk' (rs := [0, 1, 2, 3, 4]) (hs := []) ⟨rfl, rfl, rfl, rfl, rfl, rfl, (by dsimp only; rw [he]; rfl), (by dsimp only; rw [he]; rfl), (by dsimp only; rw [he]; rfl), rfl, rfl, trivial⟩ ⟨(congrArg some (by dsimp only; rw [he])), (congrArg some (by dsimp only; rw [he])), rfl, rfl, rfl, trivial⟩ trivial (by decide))
        ·
         replace hc46 := of_decide_eq_false hc46
         have hcm : ∀ b, (bst ls.length (rdP ls) k s) = some b → ¬cmpL (NI (mem s 64)) (NI b) > 0 := by
           first
             | exact hcm
             | (intro b hb
                rw [hb0] at hc46 hb
                injection hb with hb
                subst hb
                exact hc46)
         refine C.skip (QE.seq (C.seq (C.region ?_))); refine Lpu rfl rfl ?_; refine Lpu rfl rfl ?_; refine L.call (js := []) (js' := [0]) (first_c ls.length (rdP ls) ms Y ls.length s hrd (by omega) hs64) rfl rfl rfl (by decide) (Hq [4] rfl) rfl ?_
         rintro _ _ _ ⟨A49, c49, rfl, rfl, rfl⟩
         refine Lpu rfl rfl ?_; refine L.nil (QE.seq (C.seq (C.region ?_))); refine Lpu rfl rfl ?_; refine Lpu rfl rfl ?_; refine Lpu rfl rfl ?_; refine Lpu rfl rfl ?_; refine L.nil (QE.seq ?_)
         refine C.condB 53 rfl (fun hc53 => ?_) (fun hc53 => ?_)
         ·
          replace hc53 := i_eq hc53
          refine C.seq ?_
          refine C.someI 0 rfl (fun hA49 => ?_)
          refine C.freeze 0 rfl [1] (by decide) (by decide) ?_; refine C.freeze 0 rfl [] (by decide) (by decide) ?_
          have hful : fullB ls.length (rdP ls) s.testBit = true := full_iff.2 (by omega)
          refine C.region ?_; refine Lpu rfl rfl ?_; refine Lpu rfl rfl ?_; refine Lpu rfl rfl ?_; refine Lpu rfl rfl ?_; refine Lpu rfl rfl ?_; refine Lpu rfl rfl ?_; refine L.nil (QE.seq (C.seq (C.region ?_))); refine Lpu rfl rfl ?_; refine Lpu rfl rfl ?_; refine Lpu rfl rfl ?_
          refine L.bool 59 rfl (fun hg59 => ?_) (fun hg59 => ?_)
          ·
           replace hg59 := i_eq hg59
           refine L.no rfl rfl rfl ?_; refine L.no rfl rfl rfl ?_; refine Lpu rfl rfl ?_; refine L.nil (QE.seq ?_)
           refine C.cond rfl (fun _ => ?_) (fun h => by cases h)
           refine C.exit ?_; refine QE.blkX rfl ?_; refine QE.tX ?_; refine QE.tX ?_; refine QE.blkX rfl ?_; refine QE.tX ?_; refine QE.blkX rfl ?_; refine QE.tX ?_; refine QE.tX ?_; refine QE.blk ?_
           have hk0 : k = 0 := by omega
           subst hk0
           have he : ordR ls = some (mem s 64) := srch_found hsr (bst_first hs64 (by omega) hful Nat.one_le_two_pow (by have := Nat.pow_le_pow_right (n := 2) (by decide) (show ls.length ≤ 64 by omega); omega)) (by omega)
           have hsq : (sqO ls.length (rdP ls) (some (mem s 64))) = frs ls.length (rdP ls) s.testBit ls.length := sqO_mem hs64
           refine QE.join ((A49, c49, A34, c34)) (by exact trivial) (by exact Le.mk' (rs := [1, 0]) (hs := []) ⟨(by dsimp only; rw [he, hsq]; rfl), (by dsimp only; rw [he]; rfl), trivial⟩ ⟨(congrArg some (by dsimp only; rw [he, hsq])), (congrArg some (by dsimp only; rw [he]; rfl)), trivial⟩ trivial (by decide))
          ·
           replace hg59 := i_ne hg59
           refine L.yes rfl ?_; refine Lpu rfl rfl ?_; refine L.yes rfl ?_; refine Lpu rfl rfl ?_; refine Lpu rfl rfl ?_; refine L.nil (QE.seq ?_)
           refine C.condB 62 rfl (fun hc62 => ?_) (fun hc62 => ?_)
           ·
            replace hc62 := i_eq hc62
            refine C.exit ?_; refine QE.blkX rfl ?_; refine QE.tX ?_; refine QE.tX ?_; refine QE.blkX rfl ?_; refine QE.tX ?_; refine QE.blkX rfl ?_; refine QE.tX ?_; refine QE.tX ?_; refine QE.blk ?_
            have hk0 : k = 0 := by omega
            subst hk0
            have he : ordR ls = some (mem s 64) := srch_found hsr (bst_first hs64 (by omega) hful Nat.one_le_two_pow (by have := Nat.pow_le_pow_right (n := 2) (by decide) (show ls.length ≤ 64 by omega); omega)) (by omega)
            have hsq : (sqO ls.length (rdP ls) (some (mem s 64))) = frs ls.length (rdP ls) s.testBit ls.length := sqO_mem hs64
            refine QE.join ((A49, c49, A34, c34)) (by exact trivial) (by exact Le.mk' (rs := [1, 0]) (hs := []) ⟨(by dsimp only; rw [he, hsq]; rfl), (by dsimp only; rw [he]; rfl), trivial⟩ ⟨(congrArg some (by dsimp only; rw [he, hsq])), (congrArg some (by dsimp only; rw [he]; rfl)), trivial⟩ trivial (by decide))
           ·
            replace hc62 := i_ne hc62
            refine C.skip ?_; refine QE.blkN ?_; refine QE.seq (C.region ?_); refine L.step (Ev.cast (u := .int .u64 ((s + 1 : Nat) : Int)) (Ev.pure rfl) (congrArg (Value.int .u64) (wrap_u64 (m := s + 1) (by omega)))) rfl ?_; refine Lpu rfl rfl ?_; refine L.nil ?_
            have he : (bst ls.length (rdP ls) k (s + 1)) = some (mem s 64) := bst_take (by omega) hcm hful
            have hsq : (sqO ls.length (rdP ls) (some (mem s 64))) = frs ls.length (rdP ls) s.testBit ls.length := sqO_mem hs64
            refine QE.round (i := (s, A, c, B, d)) ((s + 1, A49, c49, A34, c34)) (by dsimp only; rw [he]; exact ⟨by omega, fun h => absurd h (by omega), (fun h => by cases h), fun _ => hA49 (by rw [I64_len, NI_len]; omega)⟩) (by dsimp only; omega) (by exact Le.mk' (rs := [1, 0, 4, 5, 6]) (hs := []) ⟨rfl, rfl, rfl, rfl, rfl, rfl, (by dsimp only; rw [he, hsq]; rfl), (by dsimp only; rw [he]; rfl), (by dsimp only; rw [he]; rfl), rfl, rfl, trivial⟩ ⟨(congrArg some (by dsimp only; rw [he, hsq])), (congrArg some (by dsimp only; rw [he]; rfl)), rfl, rfl, rfl, trivial⟩ trivial (by decide))
         ·
          replace hc53 := i_ne hc53
          refine C.skip ?_; refine QE.blkN ?_; refine QE.seq (C.region ?_); refine L.step (Ev.cast (u := .int .u64 ((s + 1 : Nat) : Int)) (Ev.pure rfl) (congrArg (Value.int .u64) (wrap_u64 (m := s + 1) (by omega)))) rfl ?_; refine Lpu rfl rfl ?_; refine L.nil ?_
          have he : (bst ls.length (rdP ls) k (s + 1)) = (bst ls.length (rdP ls) k s) := bst_skip3 (full_no.2 (by omega))
          refine QE.round (i := (s, A, c, B, d)) ((s + 1, A, c, B, d)) (by dsimp only; rw [he]; exact ⟨by omega, hb1, hb2, hb3⟩) (by dsimp only; omega) (by exact Le.mk' (rs := [0, 1, 2, 3, 4]) (hs := []) ⟨rfl, rfl, rfl, rfl, rfl, rfl, (by dsimp only; rw [he]; rfl), (by dsimp only; rw [he]; rfl), (by dsimp only; rw [he]; rfl), rfl, rfl, trivial⟩ ⟨(congrArg some (by dsimp only; rw [he])), (congrArg some (by dsimp only; rw [he])), rfl, rfl, rfl, trivial⟩ trivial (by decide))
       ·
        have hcm : ∀ b, (bst ls.length (rdP ls) k s) = some b → ¬cmpL (NI (mem s 64)) (NI b) > 0 := fun b hb => by
          rw [hb3 (by rw [hb]; exact fun h => by cases h)] at hg41
          cases hg41
        refine L.no rfl rfl rfl ?_; refine L.no rfl rfl rfl ?_; refine L.no rfl rfl rfl ?_; refine L.no rfl rfl rfl ?_; refine Lpu rfl rfl ?_; refine L.nil (QE.seq ?_)
        refine C.cond rfl (fun h => by cases h) (fun _ => ?_)
        refine C.skip (QE.seq (C.seq (C.region ?_))); refine Lpu rfl rfl ?_; refine Lpu rfl rfl ?_; refine L.call (js := []) (js' := [0]) (first_c ls.length (rdP ls) ms Y ls.length s hrd (by omega) hs64) rfl rfl rfl (by decide) (Hq [4] rfl) rfl ?_
        rintro _ _ _ ⟨A49, c49, rfl, rfl, rfl⟩
        refine Lpu rfl rfl ?_; refine L.nil (QE.seq (C.seq (C.region ?_))); refine Lpu rfl rfl ?_; refine Lpu rfl rfl ?_; refine Lpu rfl rfl ?_; refine Lpu rfl rfl ?_; refine L.nil (QE.seq ?_)
        refine C.condB 53 rfl (fun hc53 => ?_) (fun hc53 => ?_)
        ·
         replace hc53 := i_eq hc53
         refine C.seq ?_
         refine C.someI 0 rfl (fun hA49 => ?_)
         refine C.freeze 0 rfl [1] (by decide) (by decide) ?_; refine C.freeze 0 rfl [] (by decide) (by decide) ?_
         have hful : fullB ls.length (rdP ls) s.testBit = true := full_iff.2 (by omega)
         refine C.region ?_; refine Lpu rfl rfl ?_; refine Lpu rfl rfl ?_; refine Lpu rfl rfl ?_; refine Lpu rfl rfl ?_; refine Lpu rfl rfl ?_; refine Lpu rfl rfl ?_; refine L.nil (QE.seq (C.seq (C.region ?_))); refine Lpu rfl rfl ?_; refine Lpu rfl rfl ?_; refine Lpu rfl rfl ?_
         refine L.bool 59 rfl (fun hg59 => ?_) (fun hg59 => ?_)
         ·
          replace hg59 := i_eq hg59
          refine L.no rfl rfl rfl ?_; refine L.no rfl rfl rfl ?_; refine Lpu rfl rfl ?_; refine L.nil (QE.seq ?_)
          refine C.cond rfl (fun _ => ?_) (fun h => by cases h)
          refine C.exit ?_; refine QE.blkX rfl ?_; refine QE.tX ?_; refine QE.tX ?_; refine QE.blkX rfl ?_; refine QE.tX ?_; refine QE.blkX rfl ?_; refine QE.tX ?_; refine QE.tX ?_; refine QE.blk ?_
          have hk0 : k = 0 := by omega
          subst hk0
          have he : ordR ls = some (mem s 64) := srch_found hsr (bst_first hs64 (by omega) hful Nat.one_le_two_pow (by have := Nat.pow_le_pow_right (n := 2) (by decide) (show ls.length ≤ 64 by omega); omega)) (by omega)
          have hsq : (sqO ls.length (rdP ls) (some (mem s 64))) = frs ls.length (rdP ls) s.testBit ls.length := sqO_mem hs64
          refine QE.join ((A49, c49, A34, c34)) (by exact trivial) (by exact Le.mk' (rs := [1, 0]) (hs := []) ⟨(by dsimp only; rw [he, hsq]; rfl), (by dsimp only; rw [he]; rfl), trivial⟩ ⟨(congrArg some (by dsimp only; rw [he, hsq])), (congrArg some (by dsimp only; rw [he]; rfl)), trivial⟩ trivial (by decide))
         ·
          replace hg59 := i_ne hg59
          refine L.yes rfl ?_; refine Lpu rfl rfl ?_; refine L.yes rfl ?_; refine Lpu rfl rfl ?_; refine Lpu rfl rfl ?_; refine L.nil (QE.seq ?_)
          refine C.condB 62 rfl (fun hc62 => ?_) (fun hc62 => ?_)
          ·
           replace hc62 := i_eq hc62
           refine C.exit ?_; refine QE.blkX rfl ?_; refine QE.tX ?_; refine QE.tX ?_; refine QE.blkX rfl ?_; refine QE.tX ?_; refine QE.blkX rfl ?_; refine QE.tX ?_; refine QE.tX ?_; refine QE.blk ?_
           have hk0 : k = 0 := by omega
           subst hk0
           have he : ordR ls = some (mem s 64) := srch_found hsr (bst_first hs64 (by omega) hful Nat.one_le_two_pow (by have := Nat.pow_le_pow_right (n := 2) (by decide) (show ls.length ≤ 64 by omega); omega)) (by omega)
           have hsq : (sqO ls.length (rdP ls) (some (mem s 64))) = frs ls.length (rdP ls) s.testBit ls.length := sqO_mem hs64
           refine QE.join ((A49, c49, A34, c34)) (by exact trivial) (by exact Le.mk' (rs := [1, 0]) (hs := []) ⟨(by dsimp only; rw [he, hsq]; rfl), (by dsimp only; rw [he]; rfl), trivial⟩ ⟨(congrArg some (by dsimp only; rw [he, hsq])), (congrArg some (by dsimp only; rw [he]; rfl)), trivial⟩ trivial (by decide))
          ·
           replace hc62 := i_ne hc62
           refine C.skip ?_; refine QE.blkN ?_; refine QE.seq (C.region ?_); refine L.step (Ev.cast (u := .int .u64 ((s + 1 : Nat) : Int)) (Ev.pure rfl) (congrArg (Value.int .u64) (wrap_u64 (m := s + 1) (by omega)))) rfl ?_; refine Lpu rfl rfl ?_; refine L.nil ?_
           have he : (bst ls.length (rdP ls) k (s + 1)) = some (mem s 64) := bst_take (by omega) hcm hful
           have hsq : (sqO ls.length (rdP ls) (some (mem s 64))) = frs ls.length (rdP ls) s.testBit ls.length := sqO_mem hs64
           refine QE.round (i := (s, A, c, B, d)) ((s + 1, A49, c49, A34, c34)) (by dsimp only; rw [he]; exact ⟨by omega, fun h => absurd h (by omega), (fun h => by cases h), fun _ => hA49 (by rw [I64_len, NI_len]; omega)⟩) (by dsimp only; omega) (by exact Le.mk' (rs := [1, 0, 4, 5, 6]) (hs := []) ⟨rfl, rfl, rfl, rfl, rfl, rfl, (by dsimp only; rw [he, hsq]; rfl), (by dsimp only; rw [he]; rfl), (by dsimp only; rw [he]; rfl), rfl, rfl, trivial⟩ ⟨(congrArg some (by dsimp only; rw [he, hsq])), (congrArg some (by dsimp only; rw [he]; rfl)), rfl, rfl, rfl, trivial⟩ trivial (by decide))
        ·
         replace hc53 := i_ne hc53
         refine C.skip ?_; refine QE.blkN ?_; refine QE.seq (C.region ?_); refine L.step (Ev.cast (u := .int .u64 ((s + 1 : Nat) : Int)) (Ev.pure rfl) (congrArg (Value.int .u64) (wrap_u64 (m := s + 1) (by omega)))) rfl ?_; refine Lpu rfl rfl ?_; refine L.nil ?_
         have he : (bst ls.length (rdP ls) k (s + 1)) = (bst ls.length (rdP ls) k s) := bst_skip3 (full_no.2 (by omega))
         refine QE.round (i := (s, A, c, B, d)) ((s + 1, A, c, B, d)) (by dsimp only; rw [he]; exact ⟨by omega, hb1, hb2, hb3⟩) (by dsimp only; omega) (by exact Le.mk' (rs := [0, 1, 2, 3, 4]) (hs := []) ⟨rfl, rfl, rfl, rfl, rfl, rfl, (by dsimp only; rw [he]; rfl), (by dsimp only; rw [he]; rfl), (by dsimp only; rw [he]; rfl), rfl, rfl, trivial⟩ ⟨(congrArg some (by dsimp only; rw [he])), (congrArg some (by dsimp only; rw [he])), rfl, rfl, rfl, trivial⟩ trivial (by decide))
     ·
      replace hc31 := of_decide_eq_false hc31
      refine C.exit ?_; refine QE.tX ?_; refine QE.tX ?_; refine QE.blk ?_; refine QE.seq (C.seq (C.region ?_)); refine Lpu rfl rfl ?_; refine L.step (Ev.neS rfl rfl rfl rfl) rfl ?_; refine L.nil (QE.seq ?_)
      refine C.condB 65 rfl (fun hc65 => ?_) (fun hc65 => ?_)
      ·
       refine C.exit ?_; refine QE.blkX rfl ?_; refine QE.tX ?_; refine QE.tX ?_; refine QE.blk ?_
       obtain rfl : s = 2 ^ ls.length := by omega
       obtain ⟨x, hx⟩ : ∃ x, (bst ls.length (rdP ls) k (2 ^ ls.length)) = some x := by
         cases hx : (bst ls.length (rdP ls) k (2 ^ ls.length)) with
         | some x => exact ⟨x, rfl⟩
         | none => rw [(hb2 hx).1] at hc65; cases hc65
       have he : ordR ls = (bst ls.length (rdP ls) k (2 ^ ls.length)) := by rw [hx]; exact srch_found hsr hx (by omega)
       refine QE.join ((A, c, B, d)) (by exact trivial) (by exact Le.mk' (rs := [0, 1]) (hs := []) ⟨(by dsimp only; rw [he]; rfl), (by dsimp only; rw [he]; rfl), trivial⟩ ⟨(congrArg some (by dsimp only; rw [he])), (congrArg some (by dsimp only; rw [he])), trivial⟩ trivial (by decide))
      ·
       refine C.skip ?_; refine QE.blkN ?_; refine QE.seq (C.region ?_); refine L.step (Ev.cast (u := .int .i64 ((k + 1 : Nat) : Int)) (Ev.add rfl rfl (by omega) (by omega)) (congrArg (Value.int .i64) (by omega))) rfl ?_; refine Lpu rfl rfl ?_; refine L.nil ?_
       obtain rfl : s = 2 ^ ls.length := by omega
       have hbn : (bst ls.length (rdP ls) k (2 ^ ls.length)) = none := by
         cases hx : (bst ls.length (rdP ls) k (2 ^ ls.length)) with
         | none => rfl
         | some x => rw [hb3 (by rw [hx]; exact fun h => by cases h)] at hc65; cases hc65
       obtain ⟨rfl, rfl, rfl, rfl⟩ := hb2 hbn
       refine QE.round (k + 1) (by exact ⟨by omega, srch_none hsr hbn⟩) (by omega) (by exact Le.mk' (rs := [2, 3, 4]) (hs := []) ⟨rfl, rfl, rfl, rfl, rfl, (by rw [hbn]; rfl), (by rw [hbn]; rfl), trivial⟩ ⟨rfl, rfl, rfl, trivial⟩ trivial (by decide))
    ·
     replace hc26 := of_decide_eq_false hc26
     refine C.exit ?_; refine QE.tX ?_; refine QE.tX ?_; refine QE.blk ?_; refine QE.more (r := Rd none (I64 (NI []))) (Has.nil) ?_; refine QE.more (r := Rd none (I64 (NI []))) (Has.nil) ?_
     have he : ordR ls = none := by
       have : k = ls.length + 1 := by omega
       rw [this] at hsr
       exact hsr
     refine QE.join ((none, 0, none, 0)) (by exact trivial) (by exact Le.mk' (rs := [1, 0]) (hs := []) ⟨(by dsimp only; rw [he]; rfl), (by dsimp only; rw [he]; rfl), trivial⟩ ⟨(congrArg some (by dsimp only; rw [he]; rfl)), (congrArg some (by dsimp only; rw [he]; rfl)), trivial⟩ trivial (by decide))
   ·
    rintro ⟨A, c, B, d⟩ _
    dsimp only
    refine C.seq (C.region ?_); refine Lpu rfl rfl ?_; refine Lpu rfl rfl ?_; refine Lpu rfl rfl ?_; refine Lpu rfl rfl ?_; refine Lpu rfl rfl ?_; refine L.nil (QE.seq (C.ret ?_)); refine QE.sR ?_; refine QE.ret (js := [0, 1]) (hs := []) (vs := [_, _, _]) rfl ⟨rfl, rfl, rfl, trivial⟩ (by decide) ?_
    have h16 : ls.length ≤ 16 := by omega
    refine ⟨A, B, c, d, ?_, ?_, rfl⟩
    · rw [ordQ_ok hrb h16, ordH_ok hrb h16, ordE_0 hrb h16]; rfl
    · rw [ordQ_ok hrb h16, ordH_ok hrb h16]; rfl

end Go.Proofs.YtpccfdnmnnnboaaGreat
