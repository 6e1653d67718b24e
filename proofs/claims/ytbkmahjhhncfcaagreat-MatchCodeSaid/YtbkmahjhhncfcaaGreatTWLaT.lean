/-
  The contract of the reference's Form.
-/
import Derived.Test.YtbkmahjhhncfcaaGreatTWLaR
import Derived.Test.YtbkmahjhhncfcaaGreatTWLaK
namespace Go.Proofs.YtbkmahjhhncfcaaGreat
open Go.Sl

set_option maxHeartbeats 2000000 in
theorem form3_c (WA MA LA : Option Addr) (wc mc lc : Nat) (x : Lf) (hxw : x.ws.length ≤ 1000000) (_hxm : x.ms.length ≤ 1000000) (hxl : x.ls.length ≤ 1000000) (hx32 : W32 x.ws) (hml : x.ms.length = x.ws.length) (hasc : ascL x.ls) :
   Ctr X 21 [.agg (List.toArray [.slice WA x.ws.length wc, .slice MA x.ms.length mc, .slice LA x.ls.length lc])] [Rd WA (N32 x.ws), Rd MA (Bs x.ms), Rd LA (I64 x.ls)] [] (fun v R' H' => ∃ (A : Option Addr) (c : Nat), v = .slice A (formF x).length c ∧ R' = [] ∧ H' = [Own 5 1 A (formF x).length c (U8 (formF x))]) := by
 refine Ctr.of (X := X) (fn := Tryz.f21) Tryz.func21 rfl (by kernel_rfl) rfl ?_
 intro β
 refine C.seq (C.region ?_)
 refine L.boxA rfl rfl (fun A1 => ?_)
 refine Lpu rfl rfl ?_; refine L.nil (QE.seq (C.seq ?_)); refine C.freeze 0 rfl [] (by decide) (by decide) ?_; refine C.join (fun q : Option Addr × Nat => [(1, ptrOf A1 0), (3, .slice q.1 (formH x).length q.2)]) (fun q : Option Addr × Nat => [Rd A1 [.slice WA x.ws.length wc, .slice MA x.ms.length mc, .slice LA x.ls.length lc], Rd WA (N32 x.ws), Rd MA (Bs x.ms), Rd LA (I64 x.ls)]) (fun q : Option Addr × Nat => [Own 5 1 q.1 (formH x).length q.2 (U8 (formH x))]) (fun q : Option Addr × Nat => True) ?_ ?_
 ·
  refine C.regionM [Rd A1 [.slice WA x.ws.length wc, .slice MA x.ms.length mc, .slice LA x.ls.length lc]] (Hq [0] rfl) ?_; refine LM.q 0 rfl (by kernel_rfl) (Ev.fieldAddr rfl rfl rfl rfl rfl rfl (Src.r 0 rfl) (Nat.zero_lt_succ _) rfl) rfl (Hq [0] rfl) ?_; refine LM.q 1 rfl (by kernel_rfl) (Ev.load rfl rfl rfl (Src.r 0 rfl) rfl) rfl (Hq [0] rfl) ?_; refine LM.q 2 rfl (by kernel_rfl) (Ev.pure rfl) rfl (Hq [0] rfl) ?_; refine LM.q 4 rfl (by kernel_rfl) (Ev.fieldAddr rfl rfl rfl rfl rfl rfl (Src.r 0 rfl) (Nat.zero_lt_succ _) rfl) rfl (Hq [0] rfl) ?_; refine LM.q 5 rfl (by kernel_rfl) (Ev.load rfl rfl rfl (Src.r 0 rfl) rfl) rfl (Hq [0] rfl) ?_; refine LM.q 6 rfl (by kernel_rfl) (Ev.pure rfl) rfl (Hq [0] rfl) ?_; refine LM.f 3 rfl (by kernel_rfl) (Hq [0] rfl) ?_; refine L.call (js := []) (js' := []) (twoR_c x.ws.length (by omega)) rfl rfl rfl (by decide) trivial rfl ?_
  rintro _ _ _ ⟨TA, rfl, rfl, rfl⟩
  refine L.nm (by kernel_rfl) ?_; refine LM.f 7 rfl (by kernel_rfl) (Hq [0] rfl) ?_; refine L.call (js := []) (js' := [0]) (twoR_c x.ls.length (by omega)) rfl rfl rfl (by decide) trivial rfl ?_
  rintro _ _ _ ⟨UA, rfl, rfl, rfl⟩
  refine L.nm (by kernel_rfl) ?_; refine LM.f 8 rfl (by kernel_rfl) (Hq [0] rfl) ?_
  refine L.append (j := 1) rfl rfl rfl rfl (by decide) rfl rfl rfl rfl (Src.o 0 rfl) rfl (U8_one _) (by omega) (by show _ * 1 ≤ _; omega) rfl (fun A17 cc17 => ?_)
  refine L.norm (H' := [_, _]) [1, 0] ⟨rfl, rfl, trivial⟩ (by decide) ?_; refine L.nm (by kernel_rfl) ?_
  rotate_left
  all_goals (
    refine LM.cut [] (by kernel_rfl) (Hq [0] rfl) ?_; refine LM.f 9 rfl (by kernel_rfl) trivial ?_; refine Lpu rfl rfl ?_
    refine L.nil (QE.m (by kernel_rfl) ?_)
    refine LM.nil (by kernel_rfl) trivial ?_
    refine QE.joined ((A17, cc17)) (by exact trivial) (by exact Le.mk' (rs := [0, 1, 2, 3]) (hs := [0]) ⟨rfl, rfl, trivial⟩ ⟨rfl, rfl, rfl, rfl, trivial⟩ ⟨rfl, trivial⟩ (by decide)))
 ·
  rintro ⟨O, oc⟩ _
  dsimp only
  refine QE.seq (C.seq (C.region ?_)); refine Lpu rfl rfl ?_; refine L.nil (QE.seq (C.seq (C.seq (C.region ?_)))); refine Lpu rfl rfl ?_; refine L.nil (QE.seq (C.block ?_)); refine C.loop (fun q : Nat × Option Addr × Nat => [(1, ptrOf A1 0), (3, .slice q.2.1 (formH x ++ labsB x.ls q.1).length q.2.2), (4, .int .i64 (prevL x.ls q.1)), (5, .int .i64 (q.1 : Int))]) (fun q : Nat × Option Addr × Nat => [Rd A1 [.slice WA x.ws.length wc, .slice MA x.ms.length mc, .slice LA x.ls.length lc], Rd WA (N32 x.ws), Rd MA (Bs x.ms), Rd LA (I64 x.ls)]) (fun q : Nat × Option Addr × Nat => [Own 5 1 q.2.1 (formH x ++ labsB x.ls q.1).length q.2.2 (U8 (formH x ++ labsB x.ls q.1))]) (fun q : Nat × Option Addr × Nat => q.1 ≤ x.ls.length) (fun q : Nat × Option Addr × Nat => x.ls.length - q.1) (0, O, oc) (Nat.zero_le _) (by exact Le.mk' (rs := [0, 1, 2, 3]) (hs := [0]) ⟨rfl, (by dsimp only; rw [show labsB x.ls 0 = [] from rfl, List.append_nil]; rfl), rfl, rfl, trivial⟩ ⟨rfl, rfl, rfl, rfl, trivial⟩ ⟨(congrArg some (by dsimp only; rw [show labsB x.ls 0 = [] from rfl, List.append_nil])), trivial⟩ (by decide)) ?_
  rintro ⟨i, O, oc⟩ hi
  dsimp only at hi ⊢
  have hol : (formH x ++ labsB x.ls i).length = 4 + 2 * i := by rw [List.length_append, formH_len, labsB_len]
  refine C.seq (C.seq (C.region ?_)); refine Lpu rfl rfl ?_; refine L.step (Ev.fieldAddr rfl rfl rfl rfl rfl rfl (Src.r 0 rfl) (Nat.zero_lt_succ _) rfl) rfl ?_; refine L.step (Ev.load rfl rfl rfl (Src.r 0 rfl) rfl) rfl ?_; refine Lpu rfl rfl ?_; refine Lpu rfl rfl ?_; refine L.nil (QE.seq ?_)
  refine C.condB 22 rfl (fun hc22 => ?_) (fun hc22 => ?_)
  ·
   replace hc22 := of_decide_eq_true hc22
   have ha := hasc i (by omega)
   refine C.skip (QE.seq (C.seq (C.block (C.seq (C.region ?_))))); refine Lpu rfl rfl ?_; refine L.step (Ev.fieldAddr rfl rfl rfl rfl rfl rfl (Src.r 0 rfl) (Nat.zero_lt_succ _) rfl) rfl ?_; refine L.step (Ev.load rfl rfl rfl (Src.r 0 rfl) rfl) rfl ?_; refine Lpu rfl rfl ?_; refine L.step (Ev.idx1 (k := i) rfl rfl rfl rfl rfl rfl rfl (by omega) (Src.r 3 rfl) (by rw [I64_len]; omega)) rfl ?_; refine L.step (Ev.load rfl rfl rfl (Src.r 3 rfl) (I64_get (by omega))) rfl ?_; refine Lpu rfl rfl ?_; refine L.step (Ev.sub rfl rfl (by omega) (by omega)) rfl ?_; refine L.step (Ev.cast (u := .int .i64 ((difL x.ls i : Nat) : Int)) (Ev.quo rfl rfl (by omega) (by omega) (by omega)) (congrArg (Value.int .i64) (by unfold difL; omega))) rfl ?_; refine L.call (js := []) (js' := [0]) (twoR_c (difL x.ls i) (by unfold difL; omega)) rfl rfl rfl (by decide) trivial rfl ?_
   rintro _ _ _ ⟨TA, rfl, rfl, rfl⟩
   refine L.norm (H' := [_, _]) [0, 1] ⟨rfl, rfl, trivial⟩ (by decide) ?_
   refine L.append (j := 1) rfl rfl rfl rfl (by decide) rfl rfl rfl rfl (Src.o 0 rfl) rfl (U8_one _) (by omega) (by show _ * 1 ≤ _; omega) rfl (fun A35 cc35 => ?_)
   refine Lpu rfl rfl ?_; refine L.nil (QE.seq (C.region ?_)); refine L.step (Ev.fieldAddr rfl rfl rfl rfl rfl rfl (Src.r 0 rfl) (Nat.zero_lt_succ _) rfl) rfl ?_; refine L.step (Ev.load rfl rfl rfl (Src.r 0 rfl) rfl) rfl ?_; refine Lpu rfl rfl ?_; refine L.step (Ev.idx1 (k := i) rfl rfl rfl rfl rfl rfl rfl (by omega) (Src.r 3 rfl) (by rw [I64_len]; omega)) rfl ?_; refine L.step (Ev.load rfl rfl rfl (Src.r 3 rfl) (I64_get (by omega))) rfl ?_; refine Lpu rfl rfl ?_; refine L.nil ?_; refine QE.blkN ?_; refine QE.seq (C.region ?_); refine Lpu rfl rfl ?_; refine L.step (Ev.add rfl rfl (by omega) (by omega)) rfl ?_; refine Lpu rfl rfl ?_; refine L.nil ?_
   have he : (formH x ++ labsB x.ls (i + 1)) = (formH x ++ labsB x.ls i) ++ twoB (difL x.ls i) := by rw [labsB_succ, List.append_assoc]
   have hel : (formH x ++ labsB x.ls (i + 1)).length = (formH x ++ labsB x.ls i).length + 2 := by rw [he, List.length_append, twoB_len]
   refine QE.round (i := (i, O, oc)) ((i + 1, A35, cc35)) (by dsimp only; omega) (by dsimp only; omega) (by exact Le.mk' (rs := [0, 1, 2, 3]) (hs := [1]) ⟨rfl, (by dsimp only; rw [hel]; rfl), (by dsimp only; unfold prevL; rw [if_neg (Nat.succ_ne_zero _)]; rfl), rfl, trivial⟩ ⟨rfl, rfl, rfl, rfl, trivial⟩ ⟨(congrArg some (own_eq2 hel.symm (by dsimp only; rw [he]; simp only [← U8_app]))), trivial⟩ (by decide))
  ·
   replace hc22 := of_decide_eq_false hc22
   refine C.exit ?_; refine QE.tX ?_; refine QE.tX ?_; refine QE.blk ?_; refine QE.seq (C.seq (C.seq (C.region ?_))); refine Lpu rfl rfl ?_; refine L.nil (QE.seq (C.block ?_))
   obtain rfl : i = x.ls.length := by omega
   refine C.loop (fun q : Nat × Option Addr × Nat => [(1, ptrOf A1 0), (3, .slice q.2.1 ((formH x ++ labsB x.ls x.ls.length) ++ marksN x.ms q.1).length q.2.2), (6, .int .i64 ((8 * q.1 : Nat) : Int))]) (fun q : Nat × Option Addr × Nat => [Rd A1 [.slice WA x.ws.length wc, .slice MA x.ms.length mc, .slice LA x.ls.length lc], Rd WA (N32 x.ws), Rd MA (Bs x.ms), Rd LA (I64 x.ls)]) (fun q : Nat × Option Addr × Nat => [Own 5 1 q.2.1 ((formH x ++ labsB x.ls x.ls.length) ++ marksN x.ms q.1).length q.2.2 (U8 ((formH x ++ labsB x.ls x.ls.length) ++ marksN x.ms q.1))]) (fun q : Nat × Option Addr × Nat => q.1 ≤ (x.ws.length + 7) / 8) (fun q : Nat × Option Addr × Nat => (x.ws.length + 7) / 8 - q.1) (0, O, oc) (Nat.zero_le _) (by exact Le.mk' (rs := [0, 1, 2, 3]) (hs := [0]) ⟨rfl, (by dsimp only; rw [show marksN x.ms 0 = [] from rfl, List.append_nil]; rfl), rfl, trivial⟩ ⟨rfl, rfl, rfl, rfl, trivial⟩ ⟨(congrArg some (by dsimp only; rw [show marksN x.ms 0 = [] from rfl, List.append_nil])), trivial⟩ (by decide)) ?_
   rintro ⟨j, O, oc⟩ hj
   dsimp only at hj ⊢
   have hol : ((formH x ++ labsB x.ls x.ls.length) ++ marksN x.ms j).length = 4 + 2 * x.ls.length + j := by rw [List.length_append, List.length_append, formH_len, labsB_len, marksN_len]
   refine C.seq (C.seq (C.region ?_)); refine Lpu rfl rfl ?_; refine L.step (Ev.fieldAddr rfl rfl rfl rfl rfl rfl (Src.r 0 rfl) (Nat.zero_lt_succ _) rfl) rfl ?_; refine L.step (Ev.load rfl rfl rfl (Src.r 0 rfl) rfl) rfl ?_; refine Lpu rfl rfl ?_; refine Lpu rfl rfl ?_; refine L.nil (QE.seq ?_)
   refine C.condB 45 rfl (fun hc45 => ?_) (fun hc45 => ?_)
   ·
    replace hc45 := of_decide_eq_true hc45
    refine C.skip (QE.seq (C.seq (C.block (C.seq (C.region ?_))))); refine Lpu rfl rfl ?_; refine L.nil (QE.seq (C.seq (C.seq (C.region ?_)))); refine Lpu rfl rfl ?_; refine L.nil (QE.seq (C.block ?_)); refine C.loop (fun k : Nat => [(1, ptrOf A1 0), (3, .slice O ((formH x ++ labsB x.ls x.ls.length) ++ marksN x.ms j).length oc), (6, .int .i64 ((8 * j : Nat) : Int)), (7, .int .i64 ((bitsN x.ms j k : Nat) : Int)), (8, .int .i64 (k : Int))]) (fun k : Nat => [Rd A1 [.slice WA x.ws.length wc, .slice MA x.ms.length mc, .slice LA x.ls.length lc], Rd WA (N32 x.ws), Rd MA (Bs x.ms), Rd LA (I64 x.ls)]) (fun k : Nat => [Own 5 1 O ((formH x ++ labsB x.ls x.ls.length) ++ marksN x.ms j).length oc (U8 ((formH x ++ labsB x.ls x.ls.length) ++ marksN x.ms j))]) (fun k : Nat => k ≤ 8) (fun k : Nat => 8 - k) 0 (Nat.zero_le _) (by exact Le.mk' (rs := [0, 1, 2, 3]) (hs := [0]) ⟨rfl, rfl, rfl, rfl, rfl, trivial⟩ ⟨rfl, rfl, rfl, rfl, trivial⟩ ⟨rfl, trivial⟩ (by decide)) ?_
    intro k hk
    refine C.seq (C.seq (C.region ?_)); refine Lpu rfl rfl ?_; refine Lpu rfl rfl ?_; refine Lpu rfl rfl ?_
    refine L.bool 50 rfl (fun hg50 => ?_) (fun hg50 => ?_)
    ·
     replace hg50 := of_decide_eq_true hg50
     refine L.yes rfl ?_; refine Lpu rfl rfl ?_; refine L.yes rfl ?_; refine Lpu rfl rfl ?_; refine L.yes rfl ?_; refine L.step (Ev.cast (u := .int .i64 ((8 * j + k : Nat) : Int)) (Ev.add rfl rfl (by omega) (by omega)) (congrArg (Value.int .i64) (by omega))) rfl ?_; refine L.yes rfl ?_; refine L.step (Ev.fieldAddr rfl rfl rfl rfl rfl rfl (Src.r 0 rfl) (Nat.zero_lt_succ _) rfl) rfl ?_; refine L.yes rfl ?_; refine L.step (Ev.load rfl rfl rfl (Src.r 0 rfl) rfl) rfl ?_; refine L.yes rfl ?_; refine Lpu rfl rfl ?_; refine L.yes rfl ?_; refine Lpu rfl rfl ?_; refine Lpu rfl rfl ?_; refine L.nil (QE.seq ?_)
     refine C.condB 58 rfl (fun hc58 => ?_) (fun hc58 => ?_)
     ·
      replace hc58 := of_decide_eq_true hc58
      have hp2 : 1 * 2 ^ k ≤ 128 := by
        have : (2 : Nat) ^ k ≤ 2 ^ 7 := Nat.pow_le_pow_right (by decide) (by omega)
        omega
      have hbl := bitsN_lt x.ms j k
      refine C.skip (QE.seq (C.seq (C.block (C.seq (C.region ?_))))); refine L.step (Ev.fieldAddr rfl rfl rfl rfl rfl rfl (Src.r 0 rfl) (Nat.zero_lt_succ _) rfl) rfl ?_; refine L.step (Ev.load rfl rfl rfl (Src.r 0 rfl) rfl) rfl ?_; refine Lpu rfl rfl ?_; refine Lpu rfl rfl ?_; refine L.step (Ev.cast (u := .int .i64 ((8 * j + k : Nat) : Int)) (Ev.add rfl rfl (by omega) (by omega)) (congrArg (Value.int .i64) (by omega))) rfl ?_; refine L.step (Ev.idx1 (k := 8 * j + k) rfl rfl rfl rfl rfl rfl rfl (by omega) (Src.r 2 rfl) (by rw [Bs_len]; omega)) rfl ?_; refine L.step (Ev.load rfl rfl rfl (Src.r 2 rfl) (Bs_get (by omega))) rfl ?_; refine L.nil (QE.seq ?_)
      refine C.condB 67 rfl (fun hc67 => ?_) (fun hc67 => ?_)
      ·
       refine C.region ?_; refine Lpu rfl rfl ?_; refine Lpu rfl rfl ?_; refine L.step (Ev.cast (u := .int .i64 ((2 ^ k : Nat) : Int)) (Ev.shlI (m := 1) (k := k) rfl rfl (by omega) (by omega)) (congrArg (Value.int .i64) (by rw [Nat.one_mul]))) rfl ?_; refine L.step (Ev.cast (u := .int .i64 ((bitsN x.ms j (k + 1) : Nat) : Int)) (Ev.add rfl rfl (by omega) (by omega)) (congrArg (Value.int .i64) (by rw [← bitsN_yes hc67]; omega))) rfl ?_; refine Lpu rfl rfl ?_; refine L.nil ?_; refine QE.blkN ?_; refine QE.seq (C.region ?_); refine Lpu rfl rfl ?_; refine L.step (Ev.add rfl rfl (by omega) (by omega)) rfl ?_; refine Lpu rfl rfl ?_; refine L.nil ?_
       refine QE.round (k + 1) (by omega) (by omega) (by exact Le.mk' (rs := [0, 1, 2, 3]) (hs := [0]) ⟨rfl, rfl, rfl, rfl, rfl, trivial⟩ ⟨rfl, rfl, rfl, rfl, trivial⟩ ⟨rfl, trivial⟩ (by decide))
      ·
       refine C.skip ?_; refine QE.blkN ?_; refine QE.seq (C.region ?_); refine Lpu rfl rfl ?_; refine L.step (Ev.add rfl rfl (by omega) (by omega)) rfl ?_; refine Lpu rfl rfl ?_; refine L.nil ?_
       refine QE.round (k + 1) (by omega) (by omega) (by exact Le.mk' (rs := [0, 1, 2, 3]) (hs := [0]) ⟨rfl, rfl, rfl, (by rw [bitsN_no hc67]; rfl), rfl, trivial⟩ ⟨rfl, rfl, rfl, rfl, trivial⟩ ⟨rfl, trivial⟩ (by decide))
     ·
      replace hc58 := of_decide_eq_false hc58
      refine C.exit ?_; refine QE.tX ?_; refine QE.tX ?_; refine QE.blk ?_; refine QE.seq ?_
      have hbl := bitsN_lt x.ms j k
      have hp2 : (2 : Nat) ^ k ≤ 256 := by
        have : (2 : Nat) ^ k ≤ 2 ^ 8 := Nat.pow_le_pow_right (by decide) hk
        omega
      refine C.region ?_; refine Lpu rfl rfl ?_; refine Lpu rfl rfl ?_; refine L.step (Ev.toU8 (q := bitsN x.ms j k) rfl rfl rfl rfl (by omega)) rfl ?_
      refine L.lit rfl rfl rfl rfl rfl (by rfl) (by rfl) (by rfl) rfl rfl (fun A75 => ?_)
      refine L.append (j := 0) rfl rfl rfl rfl (by decide) rfl rfl rfl rfl (Src.o 1 rfl) rfl (allOne rfl) (by omega) (by show _ * 1 ≤ _; omega) rfl (fun A76 cc76 => ?_)
      refine Lpu rfl rfl ?_; refine L.nil ?_; refine QE.blkN ?_; refine QE.seq (C.region ?_); refine Lpu rfl rfl ?_; refine L.step (Ev.cast (u := .int .i64 ((8 * (j + 1) : Nat) : Int)) (Ev.add rfl rfl (by omega) (by omega)) (congrArg (Value.int .i64) (by omega))) rfl ?_; refine Lpu rfl rfl ?_; refine L.nil ?_
      have he : ((formH x ++ labsB x.ls x.ls.length) ++ marksN x.ms (j + 1)) = ((formH x ++ labsB x.ls x.ls.length) ++ marksN x.ms j) ++ [markB x.ms j] := by rw [marksN_succ]; simp only [List.append_assoc]
      have hel : ((formH x ++ labsB x.ls x.ls.length) ++ marksN x.ms (j + 1)).length = ((formH x ++ labsB x.ls x.ls.length) ++ marksN x.ms j).length + 1 := by rw [he, List.length_append]; rfl
      have e3 : bitsN x.ms j k = (markB x.ms j).toNat := by
        rw [markB_nat]
        by_cases e8 : k = 8
        · rw [e8]
        · exact (bitsN_end (by omega) (by omega)).symm
      refine QE.round (i := (j, O, oc)) ((j + 1, A76, cc76)) (by dsimp only; omega) (by dsimp only; omega) (by exact Le.mk' (rs := [0, 1, 2, 3]) (hs := [0]) ⟨rfl, (by dsimp only; rw [hel]; rfl), rfl, trivial⟩ ⟨rfl, rfl, rfl, rfl, trivial⟩ ⟨(congrArg some (own_eq2 hel.symm (by dsimp only; rw [he, e3]; simp only [← U8_app]; rfl))), trivial⟩ (by decide))
    ·
     replace hg50 := of_decide_eq_false hg50
     refine L.no rfl rfl rfl ?_; refine L.no rfl rfl rfl ?_; refine L.no rfl rfl rfl ?_; refine L.no rfl rfl rfl ?_; refine L.no rfl rfl rfl ?_; refine L.no rfl rfl rfl ?_; refine L.no rfl rfl rfl ?_; refine Lpu rfl rfl ?_; refine L.nil (QE.seq ?_)
     refine C.cond rfl (fun h => by cases h) (fun _ => ?_)
     refine C.exit ?_; refine QE.tX ?_; refine QE.tX ?_; refine QE.blk ?_; refine QE.seq ?_
     have hbl := bitsN_lt x.ms j k
     have hp2 : (2 : Nat) ^ k ≤ 256 := by
       have : (2 : Nat) ^ k ≤ 2 ^ 8 := Nat.pow_le_pow_right (by decide) hk
       omega
     refine C.region ?_; refine Lpu rfl rfl ?_; refine Lpu rfl rfl ?_; refine L.step (Ev.toU8 (q := bitsN x.ms j k) rfl rfl rfl rfl (by omega)) rfl ?_
     refine L.lit rfl rfl rfl rfl rfl (by rfl) (by rfl) (by rfl) rfl rfl (fun A75 => ?_)
     refine L.append (j := 0) rfl rfl rfl rfl (by decide) rfl rfl rfl rfl (Src.o 1 rfl) rfl (allOne rfl) (by omega) (by show _ * 1 ≤ _; omega) rfl (fun A76 cc76 => ?_)
     refine Lpu rfl rfl ?_; refine L.nil ?_; refine QE.blkN ?_; refine QE.seq (C.region ?_); refine Lpu rfl rfl ?_; refine L.step (Ev.cast (u := .int .i64 ((8 * (j + 1) : Nat) : Int)) (Ev.add rfl rfl (by omega) (by omega)) (congrArg (Value.int .i64) (by omega))) rfl ?_; refine Lpu rfl rfl ?_; refine L.nil ?_
     have he : ((formH x ++ labsB x.ls x.ls.length) ++ marksN x.ms (j + 1)) = ((formH x ++ labsB x.ls x.ls.length) ++ marksN x.ms j) ++ [markB x.ms j] := by rw [marksN_succ]; simp only [List.append_assoc]
     have hel : ((formH x ++ labsB x.ls x.ls.length) ++ marksN x.ms (j + 1)).length = ((formH x ++ labsB x.ls x.ls.length) ++ marksN x.ms j).length + 1 := by rw [he, List.length_append]; rfl
     have e3 : bitsN x.ms j k = (markB x.ms j).toNat := by
       rw [markB_nat]
       by_cases e8 : k = 8
       · rw [e8]
       · exact (bitsN_end (by omega) (by omega)).symm
     refine QE.round (i := (j, O, oc)) ((j + 1, A76, cc76)) (by dsimp only; omega) (by dsimp only; omega) (by exact Le.mk' (rs := [0, 1, 2, 3]) (hs := [0]) ⟨rfl, (by dsimp only; rw [hel]; rfl), rfl, trivial⟩ ⟨rfl, rfl, rfl, rfl, trivial⟩ ⟨(congrArg some (own_eq2 hel.symm (by dsimp only; rw [he, e3]; simp only [← U8_app]; rfl))), trivial⟩ (by decide))
   ·
    replace hc45 := of_decide_eq_false hc45
    refine C.exit ?_; refine QE.tX ?_; refine QE.tX ?_; refine QE.blk ?_; refine QE.seq (C.seq ?_)
    have hbw := bytesF_len x.ws
    obtain rfl : j = (x.ws.length + 7) / 8 := by omega
    refine C.region ?_; refine Lpu rfl rfl ?_; refine L.step (Ev.fieldAddr rfl rfl rfl rfl rfl rfl (Src.r 0 rfl) (Nat.zero_lt_succ _) rfl) rfl ?_; refine L.step (Ev.load rfl rfl rfl (Src.r 0 rfl) rfl) rfl ?_; refine L.call (js := []) (js' := [0]) (bytes2_c WA x.ws wc hxw hx32) rfl rfl rfl (by decide) (Hq [1] rfl) rfl ?_
    rintro _ _ _ ⟨YA, yc, rfl, rfl, rfl⟩
    refine L.norm (H' := [_, _]) [0, 1] ⟨rfl, rfl, trivial⟩ (by decide) ?_
    refine L.append (j := 1) rfl rfl rfl rfl (by decide) rfl rfl rfl rfl (Src.o 0 rfl) ((U8_len _).trans (Nat.mul_one _).symm) (U8_one _) (by omega) (by show _ * 1 ≤ _; omega) rfl (fun A81 cc81 => ?_)
    refine Lpu rfl rfl ?_; refine L.nil (QE.seq (C.ret ?_)); refine QE.ret (js := []) (hs := [1]) (vs := [_]) rfl ⟨rfl, trivial⟩ (by decide) ?_
    refine ⟨A81, cc81, ?_, rfl, ?_⟩
    · rw [show (formF x).length = _ from List.length_append]; unfold marksB; rw [hml]; rfl
    · refine congrArg (fun z => [z]) (own_eq2 ?_ ?_)
      · rw [show (formF x).length = _ from List.length_append]; unfold marksB; rw [hml]
      · unfold formF marksB
        rw [hml]
        simp only [← U8_app]

end Go.Proofs.YtbkmahjhhncfcaaGreat
