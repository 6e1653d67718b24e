/-
  OrderRefuses.
-/
import Derived.Test.YtklbkaefjjonmaaUWOrM
namespace Go.Proofs.Ytklbkaefjjonmaa
open Go.Sl

theorem rightP_f (LA : Option Addr) (ls : List (List Int)) (lc : Nat) (hs : List Hd) (hh : hs.length = ls.length) (hll : ls.length ≤ 9223372036854775807) (hlr : ∀ i, (ls.getD i []).length ≤ 9223372036854775807) (seq st : List Int) (QA TA : Option Addr) (qc tc : Nat) (hq : seq.length ≤ 1000000) (ht : st.length ≤ 1000000) : Ctr X 20 [.slice LA ls.length lc, .slice QA seq.length qc, .slice TA st.length tc] [Rd LA (rowsV hs (J8 ls)), KidsR hs (J8 ls), Rd QA (I64 seq), Rd TA (I64 st)] [] (fun v R' H' => v = .bool (rightF ls seq st) ∧ R' = [] ∧ H' = []) := by
  rw [← right_eq]
  exact rightP_c LA ls lc hs hh hll hlr seq st QA TA qc tc hq ht
theorem Has.kidsE {R H : List Pr} (m : Nat) : Has R H (KidsR (List.replicate m (none, 0)) (J8 (List.replicate m []))) := by
  have e : J8 (List.replicate m []) = List.replicate m [] := by simp [J8, I64]
  rw [e]
  refine ⟨fun β w _ i h v hh hv => ?_, fun k ⟨i, h, v, hh, hv, hk⟩ => ?_⟩
  · obtain rfl := (List.mem_replicate.1 (List.mem_of_getElem? hv)).2
    intro j u hu
    simp at hu
  · obtain rfl := (List.mem_replicate.1 (List.mem_of_getElem? hv)).2
    exact absurd rfl hk.1
theorem many_read (m : Nat) : readB (List.replicate m []) = true := readB_yes (fun u hu => by
  rw [List.length_replicate] at hu
  rw [getD_rep _ _ _ _ hu]
  rfl)
theorem many_row (m i : Nat) : ((List.replicate m ([] : List Int)).getD i []).length ≤ 9223372036854775807 := by
  rcases Nat.lt_or_ge i m with h | h
  · rw [getD_rep _ _ _ _ h]; exact Nat.zero_le _
  · rw [getD_ge (by rw [List.length_replicate]; exact h)]; exact Nat.zero_le _
theorem ordered_m (m : Nat) (hm : m ≤ 1000000) (LA : Option Addr) (lc : Nat) :
    Ctr X 13 [.slice LA m lc] [Rd LA (rowsV (List.replicate m (none, 0)) (J8 (List.replicate m []))), KidsR (List.replicate m (none, 0)) (J8 (List.replicate m []))] []
      (fun v R' H' => ∃ (A B : Option Addr) (c d : Nat), v = .agg (List.toArray [.slice A (ordQ (List.replicate m [])).length c, .slice B (ordH (List.replicate m [])).length d, .int .i64 (ordE (List.replicate m []))]) ∧ R' = [Rd A (I64 (NI (ordQ (List.replicate m [])))), Rd B (I64 (NI (ordH (List.replicate m []))))] ∧ H' = []) := by
  have := ordered_c LA (List.replicate m []) lc (List.replicate m (none, 0)) (by simp) (by rw [List.length_replicate]; omega) (many_row m)
  rwa [List.length_replicate] at this
theorem many_E (x : Nat) : (x % 4 < 2 ∧ ordE (List.replicate (15 + x % 4) []) = 0) ∨ (¬x % 4 < 2 ∧ ordE (List.replicate (15 + x % 4) []) = 2) := by
  rcases Nat.lt_or_ge (x % 4) 2 with h | h
  · exact .inl ⟨h, ordE_0 (many_read _) (by rw [List.length_replicate]; omega)⟩
  · exact .inr ⟨by omega, ordE_2 (many_read _) (by rw [List.length_replicate]; omega)⟩

set_option maxHeartbeats 1000000 in
theorem oRefuses_c (LA : Option Addr) (ls : List (List Int)) (lc : Nat) (hs : List Hd) (hh : hs.length = ls.length) (hll : ls.length ≤ 9223372036854775807) (hlr : ∀ i, (ls.getD i []).length ≤ 9223372036854775807) (q : List Int) (QA : Option Addr) (qc : Nat) (hql : q.length ≤ 9223372036854775807) (x : UInt8) :
    Ctr X 9 [.slice LA ls.length lc, .slice QA q.length qc, .int .u8 (x.toNat : Int)] [Rd LA (rowsV hs (J8 ls)), KidsR hs (J8 ls), Rd QA (I64 q)] [] (fun v R' H' => v = .bool true ∧ R' = [] ∧ H' = []) := by
  refine Ctr.of (X := X) (fn := Try.f9) Try.func9 rfl (by kernel_rfl) rfl ?_
  intro β
  refine C.seq ?_
  refine C.region ?_
  refine L.step (Ev.pure rfl) rfl ?_
  refine L.nil ?_
  refine QE.seq ?_
  refine C.seq ?_
  refine C.region ?_
  refine L.call (js := []) (js' := []) (sanity18_c) rfl rfl rfl (by decide) trivial rfl ?_
  rintro _ _ _ ⟨rfl, rfl, rfl⟩
  refine L.step (Ev.pure rfl) rfl ?_
  refine L.nil ?_
  refine QE.seq ?_
  refine C.seq ?_
  refine C.seq ?_
  refine C.region ?_
  refine L.step (Ev.pure rfl) rfl ?_
  refine L.step (Ev.pure rfl) rfl ?_
  refine L.step (Ev.pure rfl) rfl ?_
  refine L.step (Ev.pure rfl) rfl ?_
  refine L.bool 14 rfl (fun hg14 => ?_) (fun hg14 => ?_)
  · skip
    replace hg14 := of_decide_eq_true hg14
    refine L.no rfl rfl rfl ?_
    refine L.no rfl rfl rfl ?_
    refine L.no rfl rfl rfl ?_
    refine L.step (Ev.pure rfl) rfl ?_
    refine L.nil ?_
    refine QE.seq ?_
    refine C.cond rfl (fun _ => ?_) (fun h => by cases h)
    refine C.seq ?_
    refine C.region ?_
    refine L.step (Ev.pure rfl) rfl ?_
    refine L.step (Ev.pure rfl) rfl ?_
    refine L.nil ?_
    refine QE.seq ?_
    refine C.ret ?_
    refine QE.tR ?_
    refine QE.ret (js := []) (hs := []) (vs := [_]) rfl ⟨rfl, trivial⟩ (by decide) ?_
    exact ⟨rfl, rfl, rfl⟩
  · skip
    replace hg14 := of_decide_eq_false hg14
    refine L.yes rfl ?_
    refine L.step (Ev.pure rfl) rfl ?_
    refine L.yes rfl ?_
    refine L.step (Ev.pure rfl) rfl ?_
    refine L.yes rfl ?_
    refine L.step (Ev.pure rfl) rfl ?_
    refine L.step (Ev.pure rfl) rfl ?_
    refine L.nil ?_
    refine QE.seq ?_
    refine C.condB 18 rfl (fun hc18 => ?_) (fun hc18 => ?_)
    · skip
      replace hc18 := of_decide_eq_true hc18
      refine C.seq ?_
      refine C.region ?_
      refine L.step (Ev.pure rfl) rfl ?_
      refine L.step (Ev.pure rfl) rfl ?_
      refine L.nil ?_
      refine QE.seq ?_
      refine C.ret ?_
      refine QE.tR ?_
      refine QE.ret (js := []) (hs := []) (vs := [_]) rfl ⟨rfl, trivial⟩ (by decide) ?_
      exact ⟨rfl, rfl, rfl⟩
    · skip
      replace hc18 := of_decide_eq_false hc18
      refine C.skip ?_
      refine QE.seq ?_
      refine C.seq ?_
      refine C.seq ?_
      refine C.region ?_
      refine L.step (Ev.pure rfl) rfl ?_
      refine L.nil ?_
      refine QE.seq ?_
      refine C.block ?_
      refine C.loop (fun k : Nat => [(0, .slice LA ls.length lc), (1, .slice QA q.length qc), (2, .int .u8 (x.toNat : Int)), (7, .bool true), (8, .int .i64 (k : Int))]) (fun k : Nat => [Rd LA (rowsV hs (J8 ls)), KidsR hs (J8 ls), Rd QA (I64 q)]) (fun k : Nat => []) (fun k : Nat => k ≤ ls.length) (fun k : Nat => ls.length - k) 0 (Nat.zero_le _) (by exact Le.mk' (rs := [0, 1, 2]) (hs := []) ⟨rfl, rfl, rfl, rfl, rfl, trivial⟩ ⟨rfl, rfl, rfl, trivial⟩ trivial (by decide)) ?_
      intro k hk
      refine C.seq ?_
      refine C.seq ?_
      refine C.region ?_
      refine L.step (Ev.pure rfl) rfl ?_
      refine L.step (Ev.pure rfl) rfl ?_
      refine L.step (Ev.pure rfl) rfl ?_
      refine L.step (Ev.pure rfl) rfl ?_
      refine L.nil ?_
      refine QE.seq ?_
      refine C.condB 23 rfl (fun hc23 => ?_) (fun hc23 => ?_)
      · skip
        replace hc23 := of_decide_eq_true hc23
        refine C.skip ?_
        refine QE.seq ?_
        refine C.seq ?_
        refine C.block ?_
        refine C.seq ?_
        have hrl := hlr k
        refine C.region ?_
        refine L.step (Ev.pure rfl) rfl ?_
        refine L.step (Ev.pure rfl) rfl ?_
        refine L.step (Ev.idx1 (k := k) rfl rfl rfl rfl rfl rfl rfl (by omega) (Src.r 0 rfl) (by rw [rowsV_len (by rw [J8_len]; exact hh), J8_len]; omega)) rfl ?_
        refine L.step (Ev.load rfl rfl rfl (Src.r 0 rfl) (rowsJ_get hh (by omega))) rfl ?_
        refine L.step (Ev.pure rfl) rfl ?_
        refine L.step (Ev.pure rfl) rfl ?_
        refine L.nil ?_
        refine QE.seq ?_
        refine C.condB 31 rfl (fun hc31 => ?_) (fun hc31 => ?_)
        · skip
          replace hc31 := of_decide_eq_true hc31
          refine C.seq ?_
          refine C.region ?_
          refine L.step (Ev.pure rfl) rfl ?_
          refine L.step (Ev.pure rfl) rfl ?_
          refine L.nil ?_
          refine QE.seq ?_
          refine C.ret ?_
          refine QE.bR ?_
          refine QE.tR ?_
          refine QE.tR ?_
          refine QE.bR ?_
          refine QE.tR ?_
          refine QE.ret (js := []) (hs := []) (vs := [_]) rfl ⟨rfl, trivial⟩ (by decide) ?_
          exact ⟨rfl, rfl, rfl⟩
        · skip
          replace hc31 := of_decide_eq_false hc31
          refine C.skip ?_
          refine QE.blkN ?_
          refine QE.seq ?_
          refine C.region ?_
          refine L.step (Ev.pure rfl) rfl ?_
          refine L.step (Ev.add rfl rfl (by omega) (by omega)) rfl ?_
          refine L.step (Ev.pure rfl) rfl ?_
          refine L.nil ?_
          refine QE.round (k + 1) (by omega) (by omega) (by exact Le.mk' (rs := [0, 1, 2]) (hs := []) ⟨rfl, rfl, rfl, rfl, rfl, trivial⟩ ⟨rfl, rfl, rfl, trivial⟩ trivial (by decide))
      · skip
        replace hc23 := of_decide_eq_false hc23
        refine C.exit ?_
        refine QE.tX ?_
        refine QE.tX ?_
        refine QE.blk ?_
        refine QE.seq ?_
        refine C.seq ?_
        refine C.seq ?_
        have hn6 : ls.length ≤ 6 := by omega
        have hsm := ord_small hn6
        refine C.region ?_
        refine L.step (Ev.pure rfl) rfl ?_
        refine L.callR (js := []) (js' := []) (ordered_c LA ls lc hs hh hll hlr) rfl rfl rfl (by decide) ⟨(Has.r 0 rfl), (Has.r 1 rfl), trivial⟩ rfl ?_
        rintro _ _ _ ⟨A34, B34, c34, e34, rfl, rfl, rfl⟩
        refine L.step (Ev.pure rfl) rfl ?_
        refine L.callR (js := []) (js' := []) (order21_c LA ls lc hs hh hll hlr) rfl rfl rfl (by decide) ⟨(Has.r 2 rfl), (Has.r 3 rfl), trivial⟩ rfl ?_
        rintro _ _ _ ⟨A36, B36, c36, e36, rfl, rfl, rfl⟩
        refine L.call (js := []) (js' := []) (Ctr.tb true (same18_c A34 B34 A36 B36 c34 e34 c36 e36 (ordQ ls) (ordH ls) (refQ ls) (refH ls) (ordE ls) (refE ls) (by omega) (by omega) (by omega) (by omega)) (decide_eq_true (ord_ref hn6))) rfl rfl rfl (by decide) ⟨(Has.r 2 rfl), (Has.r 3 rfl), (Has.r 0 rfl), (Has.r 1 rfl), trivial⟩ rfl ?_
        rintro _ _ _ ⟨rfl, rfl, rfl⟩
        refine L.step (Ev.pure rfl) rfl ?_
        refine L.step (Ev.pure rfl) rfl ?_
        refine L.yes rfl ?_
        refine L.step (Ev.pure rfl) rfl ?_
        refine L.yes rfl ?_
        refine L.step (Ev.pure rfl) rfl ?_
        refine L.yes rfl ?_
        refine L.call (js := []) (js' := []) (rightP_f LA ls lc hs hh hll hlr q [] QA none qc 0 (by omega) (by first | omega | decide)) rfl rfl rfl (by decide) ⟨(Has.r 4 rfl), (Has.r 5 rfl), (Has.r 6 rfl), Has.nil, trivial⟩ rfl ?_
        rintro _ _ _ ⟨rfl, rfl, rfl⟩
        refine L.yes rfl ?_
        refine L.step (Ev.pure rfl) rfl ?_
        refine L.yes rfl ?_
        refine L.step (Ev.pure rfl) rfl ?_
        refine L.yes rfl ?_
        refine L.call (js := []) (js' := []) (rightF_c LA ls lc hs hh hll hlr q [] QA none qc 0 (by omega) (by first | omega | decide)) rfl rfl rfl (by decide) ⟨(Has.r 4 rfl), (Has.r 5 rfl), (Has.r 6 rfl), Has.nil, trivial⟩ rfl ?_
        rintro _ _ _ ⟨rfl, rfl, rfl⟩
        refine L.yes rfl ?_
        refine L.step (Ev.neBool rfl rfl rfl rfl) rfl ?_
        refine L.step (Ev.pure rfl) rfl ?_
        refine L.step (Ev.pure rfl) rfl ?_
        refine L.bool 48 rfl (fun hg48 => ?_) (fun hg48 => ?_)
        · skip
          simp at hg48
        · skip
          refine L.yes rfl ?_
          refine L.step (Ev.pure rfl) rfl ?_
          refine L.yes rfl ?_
          refine L.step (Ev.pure rfl) rfl ?_
          refine L.yes rfl ?_
          refine L.step (Ev.pure rfl) rfl ?_
          refine L.yes rfl ?_
          refine L.call (js := []) (js' := []) (rightP_f LA ls lc hs hh hll hlr q q QA QA qc qc (by omega) (by first | omega | decide)) rfl rfl rfl (by decide) ⟨(Has.r 4 rfl), (Has.r 5 rfl), (Has.r 6 rfl), (Has.r 6 rfl), trivial⟩ rfl ?_
          rintro _ _ _ ⟨rfl, rfl, rfl⟩
          refine L.yes rfl ?_
          refine L.step (Ev.pure rfl) rfl ?_
          refine L.yes rfl ?_
          refine L.step (Ev.pure rfl) rfl ?_
          refine L.yes rfl ?_
          refine L.step (Ev.pure rfl) rfl ?_
          refine L.yes rfl ?_
          refine L.call (js := []) (js' := []) (rightF_c LA ls lc hs hh hll hlr q q QA QA qc qc (by omega) (by first | omega | decide)) rfl rfl rfl (by decide) ⟨(Has.r 4 rfl), (Has.r 5 rfl), (Has.r 6 rfl), (Has.r 6 rfl), trivial⟩ rfl ?_
          rintro _ _ _ ⟨rfl, rfl, rfl⟩
          refine L.yes rfl ?_
          refine L.step (Ev.neBool rfl rfl rfl rfl) rfl ?_
          refine L.step (Ev.pure rfl) rfl ?_
          refine L.nil ?_
          refine QE.seq ?_
          refine C.condB 58 rfl (fun hc58 => ?_) (fun hc58 => ?_)
          · skip
            simp at hc58
          · skip
            refine C.skip ?_
            refine QE.seq ?_
            refine C.seq ?_
            refine C.region ?_
            refine L.step (Ev.pure rfl) rfl ?_
            first | refine L.step (Ev.byteInt rfl rfl rfl rfl) rfl ?_ | refine L.step (Ev.toInt rfl rfl rfl rfl (by omega) (by omega)) rfl ?_
            refine L.step (Ev.rem rfl rfl (by omega) (by omega)) rfl ?_
            refine L.step (Ev.cast (u := .int .i64 (((15 + x.toNat % 4) : Nat) : Int)) (Ev.add rfl rfl (by omega) (by omega)) (congrArg (Value.int .i64) (by omega))) rfl ?_
            refine L.make (m := (15 + x.toNat % 4)) rfl rfl rfl rfl rfl rfl rfl rfl rfl (by show 24 * _ ≤ _; omega) (by omega) rfl (fun A63 => ?_)
            refine L.freeze 0 rfl [] (by decide) (by decide) ?_
            refine L.more (r := Rd A63 (rowsV (List.replicate (15 + x.toNat % 4) (none, 0)) (J8 (List.replicate (15 + x.toNat % 4) [] : List (List Int))))) ((Has.r 0 rfl).cast (rows0 _)) ?_
            refine L.more (r := KidsR (List.replicate (15 + x.toNat % 4) (none, 0)) (J8 (List.replicate (15 + x.toNat % 4) [] : List (List Int)))) (Has.kidsE _) ?_
            refine L.callR (js := []) (js' := []) (ordered_m (15 + x.toNat % 4) (by omega) A63 (15 + x.toNat % 4)) rfl rfl rfl (by decide) ⟨(Has.r 1 rfl), (Has.r 0 rfl), trivial⟩ rfl ?_
            rintro _ _ _ ⟨A64, B64, c64, e64, rfl, rfl, rfl⟩
            refine L.alloc rfl rfl rfl (fun A9 => ?_)
            refine L.storeA (j := 0) rfl rfl rfl rfl rfl (Nat.zero_lt_succ _) rfl rfl ?_
            refine L.nil ?_
            refine QE.seq ?_
            refine C.seq ?_
            have hmE := many_E x.toNat
            generalize ordE (List.replicate (15 + x.toNat % 4) [] : List (List Int)) = E at hmE ⊢
            generalize ordQ (List.replicate (15 + x.toNat % 4) [] : List (List Int)) = Q
            generalize ordH (List.replicate (15 + x.toNat % 4) [] : List (List Int)) = W
            refine C.region ?_
            refine L.step (Ev.fieldAddr rfl rfl rfl rfl rfl rfl (Src.o 0 rfl) (Nat.zero_lt_succ _) rfl) rfl ?_
            refine L.step (Ev.load rfl rfl rfl (Src.o 0 rfl) rfl) rfl ?_
            refine L.step (Ev.pure rfl) rfl ?_
            refine L.step (Ev.pure rfl) rfl ?_
            refine L.step (Ev.rem rfl rfl (by omega) (by omega)) rfl ?_
            refine L.step (Ev.pure rfl) rfl ?_
            refine L.step (Ev.eqBool rfl rfl rfl rfl) rfl ?_
            refine L.step (Ev.pure rfl) rfl ?_
            refine L.bool 72 rfl (fun hg72 => ?_) (fun hg72 => ?_)
            · skip
              refine L.yes rfl ?_
              refine L.step (Ev.fieldAddr rfl rfl rfl rfl rfl rfl (Src.o 0 rfl) (Nat.zero_lt_succ _) rfl) rfl ?_
              refine L.yes rfl ?_
              refine L.step (Ev.load rfl rfl rfl (Src.o 0 rfl) rfl) rfl ?_
              refine L.yes rfl ?_
              refine L.step (Ev.pure rfl) rfl ?_
              refine L.yes rfl ?_
              refine L.step (Ev.pure rfl) rfl ?_
              refine L.bool 76 rfl (fun hg76 => ?_) (fun hg76 => ?_)
              · skip
                replace hg76 := i_eq hg76
                refine L.no rfl rfl rfl ?_
                refine L.no rfl rfl rfl ?_
                refine L.no rfl rfl rfl ?_
                refine L.yes rfl ?_
                refine L.step (Ev.pure rfl) rfl ?_
                refine L.step (Ev.pure rfl) rfl ?_
                refine L.step (Ev.pure rfl) rfl ?_
                refine L.yes rfl ?_
                refine L.step (Ev.pure rfl) rfl ?_
                refine L.step (Ev.pure rfl) rfl ?_
                refine L.step (Ev.pure rfl) rfl ?_
                refine L.nil ?_
                refine QE.seq ?_
                refine C.ret ?_
                refine QE.ret (js := []) (hs := []) (vs := [_]) rfl ⟨rfl, trivial⟩ (by decide) ?_
                exact ⟨rfl, rfl, rfl⟩
              · skip
                replace hg76 := i_ne hg76
                refine L.yes rfl ?_
                refine L.step (Ev.fieldAddr rfl rfl rfl rfl rfl rfl (Src.o 0 rfl) (Nat.zero_lt_succ _) rfl) rfl ?_
                refine L.yes rfl ?_
                refine L.step (Ev.load rfl rfl rfl (Src.o 0 rfl) rfl) rfl ?_
                refine L.yes rfl ?_
                refine L.step (Ev.pure rfl) rfl ?_
                refine L.yes rfl ?_
                refine L.step (Ev.pure rfl) rfl ?_
                refine L.step (Ev.pure rfl) rfl ?_
                refine L.step (Ev.pure rfl) rfl ?_
                refine L.bool 82 rfl (fun hg82 => ?_) (fun hg82 => ?_)
                · skip
                  replace hg82 := i_eq hg82
                  refine L.yes rfl ?_
                  refine L.step (Ev.pure rfl) rfl ?_
                  refine L.step (Ev.pure rfl) rfl ?_
                  refine L.step (Ev.pure rfl) rfl ?_
                  refine L.nil ?_
                  refine QE.seq ?_
                  refine C.ret ?_
                  refine QE.ret (js := []) (hs := []) (vs := [_]) rfl ⟨rfl, trivial⟩ (by decide) ?_
                  exact ⟨rfl, rfl, rfl⟩
                · skip
                  replace hg82 := i_ne hg82
                  omega
            · skip
              rcases hmE with ⟨h1, rfl⟩ | ⟨h1, rfl⟩
              · rw [decide_eq_true (by omega)] at hg72; cases hg72
              · rw [decide_eq_false (by omega)] at hg72; cases hg72

end Go.Proofs.Ytklbkaefjjonmaa
