/-
  The contract of the program's Form.
-/
import Derived.Test.YtbkmahjhhncfcaaGreatQLag
namespace Go.Proofs.YtbkmahjhhncfcaaGreat
open Go.Sl

set_option maxHeartbeats 2000000 in
theorem form_c (WA MA LA : Option Addr) (wc mc lc : Nat) (x : Lf) (hxw : x.ws.length ≤ 1000000) (hxm : x.ms.length ≤ 1000000) (hxl : x.ls.length ≤ 1000000) (hx32 : W32 x.ws) (hmc : x.ms.length ≤ mc) (hasc : ascL x.ls) :
   Ctr X 35 [.agg (List.toArray [.slice WA x.ws.length wc, .slice MA x.ms.length mc, .slice LA x.ls.length lc])] [Rd WA (N32 x.ws), Rd MA (Bs x.ms), Rd LA (I64 x.ls)] [] (fun v R' H' => ∃ (A : Option Addr) (c : Nat), v = .slice A (formF x).length c ∧ R' = [] ∧ H' = [Own 5 1 A (formF x).length c (U8 (formF x))]) := by
 refine Ctr.ofM (X := X) (fn := Tryz.f35) Tryz.func35 rfl (by kernel_rfl) rfl ?_
 intro β
 refine C.seq (C.region ?_)
 refine L.boxA rfl rfl (fun A1 => ?_)
 refine Lpu rfl rfl ?_; refine L.nil (QE.seq (C.seq ?_)); refine C.freeze 0 rfl [] (by decide) (by decide) ?_; refine C.join (fun q : Option Addr × Option Addr × Nat => [(1, ptrOf A1 0), (3, ptrOf q.1 0)]) (fun q : Option Addr × Option Addr × Nat => [Rd A1 [.slice WA x.ws.length wc, .slice MA x.ms.length mc, .slice LA x.ls.length lc], Rd WA (N32 x.ws), Rd MA (Bs x.ms), Rd LA (I64 x.ls)]) (fun q : Option Addr × Option Addr × Nat => [Own 22 1 q.1 1 1 [.slice q.2.1 (formH x).length q.2.2], Own 5 1 q.2.1 (formH x).length q.2.2 (U8 (formH x))]) (fun q : Option Addr × Option Addr × Nat => True) ?_ ?_
 ·
  refine C.regionM [Rd A1 [.slice WA x.ws.length wc, .slice MA x.ms.length mc, .slice LA x.ls.length lc]] (Hq [0] rfl) ?_; refine LM.q 0 rfl (by kernel_rfl) (Ev.fieldAddr rfl rfl rfl rfl rfl rfl (Src.r 0 rfl) (Nat.zero_lt_succ _) rfl) rfl (Hq [0] rfl) ?_; refine LM.q 1 rfl (by kernel_rfl) (Ev.load rfl rfl rfl (Src.r 0 rfl) rfl) rfl (Hq [0] rfl) ?_; refine LM.q 2 rfl (by kernel_rfl) (Ev.pure rfl) rfl (Hq [0] rfl) ?_; refine LM.q 4 rfl (by kernel_rfl) (Ev.fieldAddr rfl rfl rfl rfl rfl rfl (Src.r 0 rfl) (Nat.zero_lt_succ _) rfl) rfl (Hq [0] rfl) ?_; refine LM.q 5 rfl (by kernel_rfl) (Ev.load rfl rfl rfl (Src.r 0 rfl) rfl) rfl (Hq [0] rfl) ?_; refine LM.q 6 rfl (by kernel_rfl) (Ev.pure rfl) rfl (Hq [0] rfl) ?_; refine LM.a2 3 9 (by kernel_rfl) (Hq [0] rfl) rfl rfl ?_ ?_; refine L.call (js := []) (js' := []) (two_c x.ws.length (by omega)) rfl rfl rfl (by decide) trivial rfl ?_
  rintro _ _ _ ⟨TA, rfl, rfl, rfl⟩
  refine L.nm (by kernel_rfl) ?_; refine LM.a2 7 9 (by kernel_rfl) (Hq [0] rfl) rfl rfl ?_ ?_; refine L.call (js := []) (js' := [0]) (two_c x.ls.length (by omega)) rfl rfl rfl (by decide) trivial rfl ?_
  rintro _ _ _ ⟨UA, rfl, rfl, rfl⟩
  refine L.nm (by kernel_rfl) ?_; refine LM.a2 8 9 (by kernel_rfl) (Hq [0] rfl) rfl rfl ?_ ?_
  refine L.append (j := 1) rfl rfl rfl rfl (by decide) rfl rfl rfl rfl (Src.o 0 rfl) rfl (U8_one _) (by omega) (by show _ * 1 ≤ _; omega) rfl (fun A19 cc19 => ?_)
  refine L.nm (by kernel_rfl) ?_; refine LM.f 9 rfl (by kernel_rfl) (Hq [0] rfl) ?_
  refine L.alloc rfl rfl rfl (fun A3 => ?_)
  refine L.norm (H' := [_, _, _]) [2, 1, 0] ⟨rfl, rfl, rfl, trivial⟩ (by decide) ?_; refine L.nm (by kernel_rfl) ?_
  rotate_left
  refine L.alloc rfl rfl rfl (fun A3 => ?_)
  refine L.nm (by kernel_rfl) ?_; refine LM.f 8 rfl (by kernel_rfl) (Hq [0] rfl) ?_
  refine L.append (j := 1) rfl rfl rfl rfl (by decide) rfl rfl rfl rfl (Src.o 0 rfl) rfl (U8_one _) (by omega) (by show _ * 1 ≤ _; omega) rfl (fun A19 cc19 => ?_)
  refine L.norm (H' := [_, _, _]) [2, 1, 0] ⟨rfl, rfl, rfl, trivial⟩ (by decide) ?_; refine L.nm (by kernel_rfl) ?_
  rotate_left
  refine L.alloc rfl rfl rfl (fun A3 => ?_)
  refine L.nm (by kernel_rfl) ?_; refine LM.f 7 rfl (by kernel_rfl) (Hq [0] rfl) ?_; refine L.call (js := []) (js' := [0, 1]) (two_c x.ls.length (by omega)) rfl rfl rfl (by decide) trivial rfl ?_
  rintro _ _ _ ⟨UA, rfl, rfl, rfl⟩
  refine L.nm (by kernel_rfl) ?_; refine LM.f 8 rfl (by kernel_rfl) (Hq [0] rfl) ?_
  refine L.append (j := 1) rfl rfl rfl rfl (by decide) rfl rfl rfl rfl (Src.o 0 rfl) rfl (U8_one _) (by omega) (by show _ * 1 ≤ _; omega) rfl (fun A19 cc19 => ?_)
  refine L.norm (H' := [_, _, _]) [2, 1, 0] ⟨rfl, rfl, rfl, trivial⟩ (by decide) ?_; refine L.nm (by kernel_rfl) ?_
  rotate_left
  refine L.alloc rfl rfl rfl (fun A3 => ?_)
  refine L.nm (by kernel_rfl) ?_; refine LM.f 3 rfl (by kernel_rfl) (Hq [0] rfl) ?_; refine L.call (js := []) (js' := [0]) (two_c x.ws.length (by omega)) rfl rfl rfl (by decide) trivial rfl ?_
  rintro _ _ _ ⟨TA, rfl, rfl, rfl⟩
  refine L.nm (by kernel_rfl) ?_; refine LM.f 7 rfl (by kernel_rfl) (Hq [0] rfl) ?_; refine L.call (js := []) (js' := [0, 1]) (two_c x.ls.length (by omega)) rfl rfl rfl (by decide) trivial rfl ?_
  rintro _ _ _ ⟨UA, rfl, rfl, rfl⟩
  refine L.nm (by kernel_rfl) ?_; refine LM.f 8 rfl (by kernel_rfl) (Hq [0] rfl) ?_
  refine L.append (j := 1) rfl rfl rfl rfl (by decide) rfl rfl rfl rfl (Src.o 0 rfl) rfl (U8_one _) (by omega) (by show _ * 1 ≤ _; omega) rfl (fun A19 cc19 => ?_)
  refine L.norm (H' := [_, _, _]) [2, 1, 0] ⟨rfl, rfl, rfl, trivial⟩ (by decide) ?_; refine L.nm (by kernel_rfl) ?_
  rotate_left
  all_goals (
    refine LM.cut [] (by kernel_rfl) (Hq [0] rfl) ?_; refine LM.f 10 rfl (by kernel_rfl) trivial ?_; refine L.store (j := 0) rfl rfl rfl rfl rfl rfl rfl rfl ?_
    refine L.nil (QE.m (by kernel_rfl) ?_)
    refine LM.nil (by kernel_rfl) trivial ?_
    refine QE.joined ((A3, A19, cc19)) (by exact trivial) (by exact Le.mk' (rs := [0, 1, 2, 3]) (hs := [0, 1]) ⟨rfl, rfl, trivial⟩ ⟨rfl, rfl, rfl, rfl, trivial⟩ ⟨rfl, rfl, trivial⟩ (by decide)))
 ·
  rintro ⟨A3, O, oc⟩ _
  dsimp only
  refine QE.seq (C.seq (C.region ?_)); refine Lpu rfl rfl ?_; refine L.nil (QE.seq (C.seq (C.seq (C.region ?_)))); refine L.step (Ev.fieldAddr rfl rfl rfl rfl rfl rfl (Src.r 0 rfl) (Nat.zero_lt_succ _) rfl) rfl ?_; refine L.step (Ev.load rfl rfl rfl (Src.r 0 rfl) rfl) rfl ?_; refine Lpu rfl rfl ?_; refine Lpu rfl rfl ?_; refine L.nil (QE.seq (C.block ?_)); refine C.loop (fun q : Nat × Option Addr × Nat => [(1, ptrOf A1 0), (3, ptrOf A3 0), (21, .slice LA x.ls.length lc), (22, .int .i64 (x.ls.length : Int)), (23, .int .i64 (q.1 : Int)), (4, .int .i64 (prevL x.ls q.1))]) (fun q : Nat × Option Addr × Nat => [Rd A1 [.slice WA x.ws.length wc, .slice MA x.ms.length mc, .slice LA x.ls.length lc], Rd WA (N32 x.ws), Rd MA (Bs x.ms), Rd LA (I64 x.ls)]) (fun q : Nat × Option Addr × Nat => [Own 22 1 A3 1 1 [.slice q.2.1 (formH x ++ labsB x.ls q.1).length q.2.2], Own 5 1 q.2.1 (formH x ++ labsB x.ls q.1).length q.2.2 (U8 (formH x ++ labsB x.ls q.1))]) (fun q : Nat × Option Addr × Nat => q.1 ≤ x.ls.length) (fun q : Nat × Option Addr × Nat => x.ls.length - q.1) (0, O, oc) (Nat.zero_le _) (by exact Le.mk' (rs := [0, 1, 2, 3]) (hs := [0, 1]) ⟨rfl, rfl, rfl, rfl, rfl, rfl, trivial⟩ ⟨rfl, rfl, rfl, rfl, trivial⟩ ⟨(congrArg some (by dsimp only; rw [show labsB x.ls 0 = [] from rfl, List.append_nil])), (congrArg some (by dsimp only; rw [show labsB x.ls 0 = [] from rfl, List.append_nil])), trivial⟩ (by decide)) ?_
  rintro ⟨i, O, oc⟩ hi
  dsimp only at hi ⊢
  have hol : (formH x ++ labsB x.ls i).length = 4 + 2 * i := by rw [List.length_append, formH_len, labsB_len]
  refine C.seq (C.region ?_); refine Lpu rfl rfl ?_; refine L.nil (QE.seq (C.seq ?_))
  refine C.condB 24 rfl (fun hc24 => ?_) (fun hc24 => ?_)
  ·
   replace hc24 := of_decide_eq_true hc24
   have ha := hasc i (by omega)
   refine C.skip (QE.seq (C.seq (C.block (C.seq (C.region ?_))))); refine L.step (Ev.idx1 (k := i) rfl rfl rfl rfl rfl rfl rfl (by omega) (Src.r 3 rfl) (by rw [I64_len]; omega)) rfl ?_; refine L.step (Ev.load rfl rfl rfl (Src.r 3 rfl) (I64_get (by omega))) rfl ?_; refine Lpu rfl rfl ?_; refine L.nil (QE.seq (C.seq ?_)); refine C.regionM [Rd A3 [.slice O (formH x ++ labsB x.ls i).length oc]] ⟨Has.o 0 rfl, trivial⟩ ?_; refine LM.q 0 rfl (by kernel_rfl) (Ev.load rfl rfl rfl (Src.r 0 rfl) rfl) rfl ⟨Has.o 0 rfl, trivial⟩ ?_; refine LM.q 1 rfl (by kernel_rfl) (Ev.pure rfl) rfl ⟨Has.o 0 rfl, trivial⟩ ?_; refine LM.f 2 rfl (by kernel_rfl) ⟨Has.o 0 rfl, trivial⟩ ?_; refine Lpu rfl rfl ?_
   refine L.nil (QE.m (by kernel_rfl) ?_)
   refine LM.f 3 rfl (by kernel_rfl) ⟨Has.o 0 rfl, trivial⟩ ?_; refine L.step (Ev.sub rfl rfl (by omega) (by omega)) rfl ?_
   refine L.nil (QE.m (by kernel_rfl) ?_)
   refine LM.f 4 rfl (by kernel_rfl) ⟨Has.o 0 rfl, trivial⟩ ?_; refine L.step (Ev.cast (u := .int .i64 ((difL x.ls i : Nat) : Int)) (Ev.quo rfl rfl (by omega) (by omega) (by omega)) (congrArg (Value.int .i64) (by unfold difL; omega))) rfl ?_
   refine L.nil (QE.m (by kernel_rfl) ?_)
   refine LM.f 5 rfl (by kernel_rfl) ⟨Has.o 0 rfl, trivial⟩ ?_; refine L.call (js := []) (js' := [0, 1]) (two_c (difL x.ls i) (by unfold difL; omega)) rfl rfl rfl (by decide) trivial rfl ?_
   rintro _ _ _ ⟨TA, rfl, rfl, rfl⟩
   refine L.norm (H' := [_, _, _]) [0, 1, 2] ⟨rfl, rfl, rfl, trivial⟩ (by decide) ?_
   refine L.nil (QE.m (by kernel_rfl) ?_)
   refine LM.cut [] (by kernel_rfl) ⟨Has.o 1 rfl, trivial⟩ ?_; refine LM.f 6 rfl (by kernel_rfl) trivial ?_
   refine L.append (j := 2) rfl rfl rfl rfl (by decide) rfl rfl rfl rfl (Src.o 0 rfl) rfl (U8_one _) (by omega) (by show _ * 1 ≤ _; omega) rfl (fun A33 cc33 => ?_)
   refine L.nil (QE.m (by kernel_rfl) ?_)
   refine LM.f 7 rfl (by kernel_rfl) trivial ?_
   first | refine L.store (j := 0) rfl rfl rfl rfl rfl rfl rfl rfl ?_ | refine L.store (j := 1) rfl rfl rfl rfl rfl rfl rfl rfl ?_ | refine L.store (j := 2) rfl rfl rfl rfl rfl rfl rfl rfl ?_ | refine L.store (j := 3) rfl rfl rfl rfl rfl rfl rfl rfl ?_ | refine L.store (j := 4) rfl rfl rfl rfl rfl rfl rfl rfl ?_ | refine L.store (j := 5) rfl rfl rfl rfl rfl rfl rfl rfl ?_
   refine L.nil (QE.m (by kernel_rfl) ?_)
   refine LM.nil (by kernel_rfl) trivial ?_; refine QE.seq (C.region ?_); refine Lpu rfl rfl ?_; refine Lpu rfl rfl ?_; refine L.nil ?_; refine QE.blkN ?_; refine QE.seq (C.region ?_); refine L.step (Ev.add rfl rfl (by omega) (by omega)) rfl ?_; refine Lpu rfl rfl ?_; refine L.nil ?_
   have he : (formH x ++ labsB x.ls (i + 1)) = (formH x ++ labsB x.ls i) ++ twoB (difL x.ls i) := by rw [labsB_succ, List.append_assoc]
   have hel : (formH x ++ labsB x.ls (i + 1)).length = (formH x ++ labsB x.ls i).length + 2 := by rw [he, List.length_append, twoB_len]
   refine QE.round (i := (i, O, oc)) ((i + 1, A33, cc33)) (by dsimp only; omega) (by dsimp only; omega) (by exact Le.mk' (rs := [0, 1, 2, 3]) (hs := [1, 2]) ⟨rfl, rfl, rfl, rfl, rfl, (by dsimp only; unfold prevL; rw [if_neg (Nat.succ_ne_zero _)]; rfl), trivial⟩ ⟨rfl, rfl, rfl, rfl, trivial⟩ ⟨(congrArg some (own_eq2 rfl (by dsimp only; rw [hel]; rfl))), (congrArg some (own_eq2 hel.symm (by dsimp only; rw [he]; simp only [← U8_app]))), trivial⟩ (by decide))
  ·
   replace hc24 := of_decide_eq_false hc24
   refine C.exit ?_; refine QE.tX ?_; refine QE.tX ?_; refine QE.blk ?_; refine QE.seq (C.seq (C.seq ?_))
   obtain rfl : i = x.ls.length := by omega
   refine C.region ?_; refine L.step (Ev.fieldAddr rfl rfl rfl rfl rfl rfl (Src.r 0 rfl) (Nat.zero_lt_succ _) rfl) rfl ?_; refine L.step (Ev.load rfl rfl rfl (Src.r 0 rfl) rfl) rfl ?_; refine L.callR (js := []) (js' := [0, 1]) (chunk_c MA x.ms.length mc) rfl rfl rfl (by decide) trivial rfl ?_
   rintro _ _ _ ⟨SA, NA, rfl, rfl, rfl⟩
   refine L.norm (H' := [_, _]) [0, 1] ⟨rfl, rfl, trivial⟩ (by decide) ?_; refine L.nil (QE.seq (C.block ?_))
   refine C.rangeF (Rf := [Rd SA [.slice MA x.ms.length mc], Rd NA [.int .i64 8], Rd MA (Bs x.ms)]) (js := [0, 1]) (js' := []) (He := fun i : Option Addr × Nat => StC A3 (((formH x ++ labsB x.ls x.ls.length) ++ marksB x.ms), i.1, i.2)) rfl rfl rfl (by decide) (Hq [0, 1, 4] rfl) (fun l d fn tmps hfr => ?_) (fun d i => ?_)
   ·
    refine (chunkI_c l _ SA NA MA x.ms mc hmc hxm A3 (formH x ++ labsB x.ls x.ls.length) O oc (by rw [List.length_append, formH_len, labsB_len]; omega) ?_).mono ?_
    ·
     refine YieldR.gen (fun r hr => ?_)
     intro β2 w2 s j hg hs2
     obtain ⟨ls, O, c⟩ := s
     obtain ⟨hj, hlc⟩ := hg
     dsimp only at hlc
     have hcl := chkL_le x.ms.length j
     unfold StC at hs2
     dsimp only at hs2
     refine roundR (bl := 0) (ps := [39]) (vs := [.slice (subA MA (8 * j + (chkL x.ms.length j)) (8 * j) 1) (chkL x.ms.length j) (chkL x.ms.length j)]) (He := StC A3) (good := nxtC x.ms (ls, O, c) j) (by rw [hr]; exact ((hfr).put (Nat.le_of_ble_eq_true rfl) (.slice (subA MA (8 * j + (chkL x.ms.length j)) (8 * j) 1) (chkL x.ms.length j) (chkL x.ms.length j)))) (congrArg Loop.params hr) rfl (congrArg Loop.state hr) (congrArg Loop.pending hr) (congrArg Loop.assign hr) (congrArg Loop.body hr) (by kernel_rfl) (by kernel_rfl) hs2 ?_; refine Rn.region ?_; refine Lpu rfl rfl ?_; refine L.nil ?_
     refine fun a1 w1 hf1 hs1 => ⟨rfl, _, _, hf1, hs1, ?_⟩
     refine Rn.block ?_; refine Rn.seq ?_; refine Rn.more (r := Rd (subA MA (8 * j + (chkL x.ms.length j)) (8 * j) 1) (Bs ((x.ms.drop (8 * j)).take (chkL x.ms.length j)))) ((Has.part (Has.r 2 rfl) (8 * j + (chkL x.ms.length j)) (8 * j) (chkL x.ms.length j) (Nat.le_refl _)).cast (by simp [Bs, List.map_drop, List.map_take])) ?_; refine Rn.region ?_; refine Lpu rfl rfl ?_; refine L.nil ?_; refine QE.seqR ?_; refine Rn.seq ?_; refine Rn.seq ?_; refine Rn.region ?_; refine Lpu rfl rfl ?_; refine Lpu rfl rfl ?_; refine Lpu rfl rfl ?_; refine L.nil ?_; refine QE.seqR ?_; refine Rn.block ?_; refine Rn.loop (fun k : Nat => [(40, .slice (subA MA (8 * j + (chkL x.ms.length j)) (8 * j) 1) (chkL x.ms.length j) (chkL x.ms.length j)), (41, .int .i64 ((chkL x.ms.length j) : Int)), (3, ptrOf A3 0), (42, .int .i64 (k : Int)), (8, .int .u8 ((bitsN x.ms j k : Nat) : Int))]) (fun k : Nat => [Rd SA [.slice MA x.ms.length mc], Rd NA [.int .i64 8], Rd MA (Bs x.ms), Rd (subA MA (8 * j + (chkL x.ms.length j)) (8 * j) 1) (Bs ((x.ms.drop (8 * j)).take (chkL x.ms.length j)))]) (fun k : Nat => [LoopP l { r with state := .busy }, Own 22 1 A3 1 1 [.slice O ls.length c], Own 5 1 O ls.length c (U8 ls)]) (fun k : Nat => k ≤ (chkL x.ms.length j)) (fun k : Nat => (chkL x.ms.length j) - k) 0 (Nat.zero_le _) (by exact Le.mk' (rs := [1, 2, 3, 0]) (hs := [0, 1, 2]) ⟨rfl, rfl, rfl, rfl, rfl, trivial⟩ ⟨rfl, rfl, rfl, rfl, trivial⟩ ⟨rfl, rfl, rfl, trivial⟩ (by decide)) ?_
     intro k hk
     refine Rn.seq ?_; refine Rn.region ?_; refine Lpu rfl rfl ?_; refine L.nil ?_; refine QE.seqR ?_; refine Rn.seq ?_
     refine Rn.condB 43 rfl (fun hc43 => ?_) (fun hc43 => ?_)
     ·
      replace hc43 := of_decide_eq_true hc43
      have hp2 : 1 * 2 ^ k < 256 := by
        have : (2 : Nat) ^ k ≤ 2 ^ 7 := Nat.pow_le_pow_right (by decide) (by omega)
        omega
      refine Rn.skip ?_; refine QE.seqR ?_; refine Rn.seq ?_; refine Rn.block ?_; refine Rn.seq ?_; refine Rn.region ?_; refine Lpu rfl rfl ?_; refine L.step (Ev.idx1 (k := k) rfl rfl rfl rfl rfl rfl rfl (by omega) (Src.r 3 rfl) (by rw [Bs_len, List.length_take, List.length_drop]; omega)) rfl ?_; refine L.step (Ev.cast (u := .bool (x.ms.getD (8 * j + k) false)) (Ev.load rfl rfl rfl (Src.r 3 rfl) (Bs_get (by rw [List.length_take, List.length_drop]; omega))) (congrArg Value.bool (by rw [getD_take _ _ _ (by omega), getD_drop]))) rfl ?_; refine Lpu rfl rfl ?_; refine Lpu rfl rfl ?_; refine L.nil ?_; refine QE.seqR ?_; refine Rn.seq ?_; refine Rn.region ?_; refine Lpu rfl rfl ?_; refine L.nil ?_; refine QE.seqR ?_
      refine Rn.condB 47 rfl (fun hc47 => ?_) (fun hc47 => ?_)
      ·
       refine Rn.region ?_; refine Lpu rfl rfl ?_; refine Lpu rfl rfl ?_; refine L.step (Ev.shl8W (m := 1) (k := k) rfl rfl (by omega) hp2) rfl ?_; refine L.step (Ev.bit8 k (q := bitsN x.ms j (k + 1)) rfl rfl rfl (bitsN_lt _ _ _) (by omega) (bitsN_yes hc47)) rfl ?_; refine Lpu rfl rfl ?_; refine L.nil ?_; refine QE.blkN ?_; refine QE.seqR ?_; refine Rn.region ?_; refine L.step (Ev.add rfl rfl (by omega) (by omega)) rfl ?_; refine Lpu rfl rfl ?_; refine L.nil ?_
       refine QE.round (k + 1) (by omega) (by omega) (by exact Le.mk' (rs := [0, 1, 2, 3]) (hs := [0, 1, 2]) ⟨rfl, rfl, rfl, rfl, rfl, trivial⟩ ⟨rfl, rfl, rfl, rfl, trivial⟩ ⟨rfl, rfl, rfl, trivial⟩ (by decide))
      ·
       refine Rn.skip ?_; refine QE.blkN ?_; refine QE.seqR ?_; refine Rn.region ?_; refine L.step (Ev.add rfl rfl (by omega) (by omega)) rfl ?_; refine Lpu rfl rfl ?_; refine L.nil ?_
       refine QE.round (k + 1) (by omega) (by omega) (by exact Le.mk' (rs := [0, 1, 2, 3]) (hs := [0, 1, 2]) ⟨rfl, rfl, rfl, rfl, (by rw [bitsN_no hc47]; rfl), trivial⟩ ⟨rfl, rfl, rfl, rfl, trivial⟩ ⟨rfl, rfl, rfl, trivial⟩ (by decide))
     ·
      replace hc43 := of_decide_eq_false hc43
      refine Rn.exit ?_; refine QE.tX ?_; refine QE.tX ?_; refine QE.blk ?_; refine QE.seqR ?_; refine Rn.region ?_
      first | refine L.step (Ev.load rfl rfl rfl (Src.o 0 rfl) rfl) rfl ?_ | refine L.step (Ev.load rfl rfl rfl (Src.o 1 rfl) rfl) rfl ?_ | refine L.step (Ev.load rfl rfl rfl (Src.o 2 rfl) rfl) rfl ?_ | refine L.step (Ev.load rfl rfl rfl (Src.o 3 rfl) rfl) rfl ?_ | refine L.step (Ev.load rfl rfl rfl (Src.o 4 rfl) rfl) rfl ?_ | refine L.step (Ev.load rfl rfl rfl (Src.o 5 rfl) rfl) rfl ?_ | refine L.step (Ev.load rfl rfl rfl (Src.r 0 rfl) rfl) rfl ?_ | refine L.step (Ev.load rfl rfl rfl (Src.r 1 rfl) rfl) rfl ?_ | refine L.step (Ev.load rfl rfl rfl (Src.r 2 rfl) rfl) rfl ?_ | refine L.step (Ev.load rfl rfl rfl (Src.r 3 rfl) rfl) rfl ?_ | refine L.step (Ev.load rfl rfl rfl (Src.r 4 rfl) rfl) rfl ?_ | refine L.step (Ev.load rfl rfl rfl (Src.r 5 rfl) rfl) rfl ?_
      refine Lpu rfl rfl ?_
      refine L.lit rfl rfl rfl rfl rfl (by rfl) (by rfl) (by rfl) rfl rfl (fun A55 => ?_)
      refine L.append (j := 2) rfl rfl rfl rfl (by decide) rfl rfl rfl rfl (Src.o 3 rfl) rfl (allOne rfl) (by omega) (by show _ * 1 ≤ _; omega) rfl (fun A56 cc56 => ?_)
      first | refine L.store (j := 0) rfl rfl rfl rfl rfl rfl rfl rfl ?_ | refine L.store (j := 1) rfl rfl rfl rfl rfl rfl rfl rfl ?_ | refine L.store (j := 2) rfl rfl rfl rfl rfl rfl rfl rfl ?_ | refine L.store (j := 3) rfl rfl rfl rfl rfl rfl rfl rfl ?_ | refine L.store (j := 4) rfl rfl rfl rfl rfl rfl rfl rfl ?_ | refine L.store (j := 5) rfl rfl rfl rfl rfl rfl rfl rfl ?_
      refine L.nil ?_; refine QE.blkN ?_
      refine fun a2 w3 hf2 hs3 => ⟨rfl, (ls ++ [markB x.ms j], A56, cc56), rfl, ?_⟩
      have h3 := hs3.sel (js := [0, 1, 2]) (by decide)
      have e1 : (ls ++ [markB x.ms j]).length = ls.length + 1 := by simp
      have e2 : k = chkL x.ms.length j := by omega
      have e3 : bitsN x.ms j k = (markB x.ms j).toNat := by
        rw [markB_nat]
        unfold chkL at e2
        split at e2
        · exact (bitsN_end (by omega) (by omega)).symm
        · rw [e2]
      rw [e3] at h3
      unfold StC
      dsimp only
      rw [e1, ← U8_app]
      exact h3.selR [0, 1, 2]
    ·
     rintro v R' H' ⟨rfl, O, c, rfl⟩
     exact ⟨rfl, (O, c), rfl⟩
   ·
    obtain ⟨O, oc⟩ := i
    dsimp only [StC]
    refine QE.blkN ?_; refine QE.seq (C.seq ?_)
    have hbw := bytesF_len x.ws
    have hf2 : ((formH x ++ labsB x.ls x.ls.length) ++ marksB x.ms).length ≤ 4000000 := by unfold marksB; rw [List.length_append, List.length_append, formH_len, labsB_len, marksN_len]; omega
    refine C.regionM [Rd A1 [.slice WA x.ws.length wc, .slice MA x.ms.length mc, .slice LA x.ls.length lc], Rd A3 [.slice O ((formH x ++ labsB x.ls x.ls.length) ++ marksB x.ms).length oc]] ⟨Has.r 2 rfl, Has.o 1 rfl, trivial⟩ ?_
    first | refine LM.q 0 rfl (by kernel_rfl) (Ev.load rfl rfl rfl (Src.r 0 rfl) rfl) rfl ⟨Has.r 2 rfl, Has.o 1 rfl, trivial⟩ ?_ | refine LM.q 0 rfl (by kernel_rfl) (Ev.load rfl rfl rfl (Src.r 1 rfl) rfl) rfl ⟨Has.r 2 rfl, Has.o 1 rfl, trivial⟩ ?_
    refine LM.f 1 rfl (by kernel_rfl) ⟨Has.r 2 rfl, Has.o 1 rfl, trivial⟩ ?_; refine L.step (Ev.fieldAddr rfl rfl rfl rfl rfl rfl (Src.r 2 rfl) (Nat.zero_lt_succ _) rfl) rfl ?_
    refine L.nil (QE.m (by kernel_rfl) ?_)
    refine LM.f 2 rfl (by kernel_rfl) ⟨Has.r 2 rfl, Has.o 1 rfl, trivial⟩ ?_; refine L.step (Ev.load rfl rfl rfl (Src.r 2 rfl) rfl) rfl ?_
    refine L.nil (QE.m (by kernel_rfl) ?_)
    refine LM.f 3 rfl (by kernel_rfl) ⟨Has.r 2 rfl, Has.o 1 rfl, trivial⟩ ?_; refine L.call (js := []) (js' := [0, 1, 2]) (bytes_c WA x.ws wc hxw hx32) rfl rfl rfl (by decide) (Hq [3] rfl) rfl ?_
    rintro _ _ _ ⟨YA, yc, rfl, rfl, rfl⟩
    refine L.norm (H' := [_, _, _, _]) [0, 1, 2, 3] ⟨rfl, rfl, rfl, rfl, trivial⟩ (by decide) ?_
    refine L.nil (QE.m (by kernel_rfl) ?_)
    refine LM.cut [] (by kernel_rfl) ⟨Has.r 2 rfl, Has.o 2 rfl, trivial⟩ ?_; refine LM.f 4 rfl (by kernel_rfl) trivial ?_
    refine L.append (j := 3) rfl rfl rfl rfl (by decide) rfl rfl rfl rfl (Src.o 0 rfl) ((U8_len _).trans (Nat.mul_one _).symm) (U8_one _) (by omega) (by show _ * 1 ≤ _; omega) rfl (fun A61 cc61 => ?_)
    refine L.nil (QE.m (by kernel_rfl) ?_)
    refine LM.f 5 rfl (by kernel_rfl) trivial ?_; refine Lpu rfl rfl ?_
    refine L.nil (QE.m (by kernel_rfl) ?_)
    refine LM.nil (by kernel_rfl) trivial ?_; refine QE.seq (C.ret ?_); refine QE.retM (j := 1) (js := []) (hs := [3]) (vs := [_]) rfl rfl ⟨rfl, trivial⟩ (by decide) ?_
    refine ⟨A61, cc61, ?_, rfl, ?_⟩
    · rw [show (formF x).length = _ from List.length_append]; rfl
    · refine congrArg (fun z => [z]) (own_eq2 ?_ ?_)
      · rw [show (formF x).length = _ from List.length_append]
      · unfold formF
        simp only [← U8_app]

end Go.Proofs.YtbkmahjhhncfcaaGreat
