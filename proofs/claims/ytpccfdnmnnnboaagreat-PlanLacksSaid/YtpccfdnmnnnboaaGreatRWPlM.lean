/-
  What is lacking, of the program.
-/
import Derived.Test.YtpccfdnmnnnboaaGreatRWPlK
namespace Go.Proofs.YtpccfdnmnnnboaaGreat
open Go.Sl

theorem lkS_len (l : List (Int × Int)) (w b : Int) : (lkS l w b).length ≤ l.length + 1 := by
 unfold lkS
 split
 · rw [List.length_append]
   exact Nat.le_refl _
 · omega
section
variable {lim : Int} {wear : List Int} {dead : List Bool} {ns nu nS : Nat} {j0 j1 s0 s1 : Int} {stage undo st : List Int}
theorem least_eq : minL (leftI lim wear dead) (st.take (min nS st.length)) (minL (leftI lim wear dead) (undo.take (min nu undo.length)) (minL (leftI lim wear dead) [s0, s1] (minL (leftI lim wear dead) [j0, j1] (minL (leftI lim wear dead) (NI (List.range ns)) (maxL (leftI lim wear dead) stage 0))))) = (leastI lim wear dead ns j0 j1 s0 s1 stage undo st nu nS) := by
 unfold leastI allL
 rw [minL_app, minL_app, minL_app]
 rfl
theorem all_in {i : Nat} (hns : ns ≤ wear.length) (hj0 : 0 ≤ j0 ∧ j0 < (wear.length : Int)) (hj1 : 0 ≤ j1 ∧ j1 < (wear.length : Int)) (hs0 : 0 ≤ s0 ∧ s0 < (wear.length : Int)) (hs1 : 0 ≤ s1 ∧ s1 < (wear.length : Int)) (hun : ∀ i, i < undo.length → 0 ≤ undo.getD i 0 ∧ undo.getD i 0 < (wear.length : Int)) (hst : ∀ i, i < st.length → 0 ≤ st.getD i 0 ∧ st.getD i 0 < (wear.length : Int)) (hi : i < (allL ns j0 j1 s0 s1 undo st nu nS).length) : 0 ≤ (allL ns j0 j1 s0 s1 undo st nu nS).getD i 0 ∧ (allL ns j0 j1 s0 s1 undo st nu nS).getD i 0 < (wear.length : Int) := by
 have hm : (allL ns j0 j1 s0 s1 undo st nu nS).getD i 0 ∈ allL ns j0 j1 s0 s1 undo st nu nS := by
   rw [List.getD_eq_getElem?_getD, List.getElem?_eq_getElem hi]
   exact List.getElem_mem hi
 generalize (allL ns j0 j1 s0 s1 undo st nu nS).getD i 0 = x at hm
 unfold allL at hm
 have mem : ∀ (l : List Int), (∀ i, i < l.length → 0 ≤ l.getD i 0 ∧ l.getD i 0 < (wear.length : Int)) → x ∈ l → 0 ≤ x ∧ x < (wear.length : Int) := fun l h hx => by
   obtain ⟨k, hk, rfl⟩ := List.getElem_of_mem hx
   have := h k hk
   rwa [List.getD_eq_getElem?_getD, List.getElem?_eq_getElem hk] at this
 rcases List.mem_append.1 hm with hm | hm
 · rcases List.mem_append.1 hm with hm | hm
   · rcases List.mem_append.1 hm with hm | hm
     · obtain ⟨t, ht, rfl⟩ := List.mem_map.1 hm
       have := List.mem_range.1 ht
       omega
     · simp only [List.mem_cons, List.not_mem_nil, or_false] at hm
       rcases hm with rfl | rfl | rfl | rfl <;> assumption
   · exact mem undo hun (List.mem_of_mem_take hm)
 · exact mem st hst (List.mem_of_mem_take hm)
theorem least_bd (hgb : ∀ x : Int, 0 ≤ x → x < (wear.length : Int) → -1000000 ≤ leftI lim wear dead x ∧ leftI lim wear dead x ≤ 1000000) (hns : ns ≤ wear.length) (hj0 : 0 ≤ j0 ∧ j0 < (wear.length : Int)) (hj1 : 0 ≤ j1 ∧ j1 < (wear.length : Int)) (hs0 : 0 ≤ s0 ∧ s0 < (wear.length : Int)) (hs1 : 0 ≤ s1 ∧ s1 < (wear.length : Int)) (hsg : ∀ i, i < stage.length → 0 ≤ stage.getD i 0 ∧ stage.getD i 0 < (wear.length : Int)) (hun : ∀ i, i < undo.length → 0 ≤ undo.getD i 0 ∧ undo.getD i 0 < (wear.length : Int)) (hst : ∀ i, i < st.length → 0 ≤ st.getD i 0 ∧ st.getD i 0 < (wear.length : Int)) : -1000000 ≤ (leastI lim wear dead ns j0 j1 s0 s1 stage undo st nu nS) ∧ (leastI lim wear dead ns j0 j1 s0 s1 stage undo st nu nS) ≤ 1000000 := by
 have mem : ∀ (l : List Int), (∀ i, i < l.length → 0 ≤ l.getD i 0 ∧ l.getD i 0 < (wear.length : Int)) → ∀ x ∈ l, 0 ≤ x ∧ x < (wear.length : Int) := fun l h x hx => by
   obtain ⟨k, hk, rfl⟩ := List.getElem_of_mem hx
   have := h k hk
   rwa [List.getD_eq_getElem?_getD, List.getElem?_eq_getElem hk] at this
 refine minL_bd (fun x hx => ?_) (maxL_bd (fun x hx => ?_) ⟨by omega, by omega⟩)
 · have := mem _ (fun i hi => all_in hns hj0 hj1 hs0 hs1 hun hst hi) x hx
   exact hgb x this.1 this.2
 · have := mem stage hsg x hx
   exact hgb x this.1 this.2
theorem all_len : (allL ns j0 j1 s0 s1 undo st nu nS).length = (NI (List.range ns)).length + 4 + min nu undo.length + min nS st.length := by
 unfold allL
 simp only [List.length_append, List.length_take]
 show _ + 4 + _ + _ = _
 omega
theorem all_rd : I64 (NI (List.range ns)) ++ [.int .i64 j0, .int .i64 j1, .int .i64 s0, .int .i64 s1] ++ I64 (undo.take (min nu undo.length)) ++ I64 (st.take (min nS st.length)) = I64 (allL ns j0 j1 s0 s1 undo st nu nS) := by
 unfold allL
 rw [← I64_app, ← I64_app, ← I64_app]
 rfl
end
set_option maxHeartbeats 3000000 in
theorem lacks_c (fs : Int) (dv : Value) (WA EA : Option Addr) (wear : List Int) (dead : List Bool) (lim : Int) (wc ec : Nat) (ns nu nS : Nat) (nr ne no j0 j1 s0 s1 : Int) (stage undo st : List Int) (GA UA LA : Option Addr) (gc uc lc : Nat) (ram : Int) (hlim : 0 ≤ lim ∧ lim ≤ 1000000) (hwe : ∀ i, 0 ≤ wear.getD i 0 ∧ wear.getD i 0 ≤ 1000000) (hde : dead.length = wear.length) (hwl : wear.length ≤ 1000000) (hns : ns ≤ wear.length) (hj0 : 0 ≤ j0 ∧ j0 < (wear.length : Int)) (hj1 : 0 ≤ j1 ∧ j1 < (wear.length : Int)) (hs0 : 0 ≤ s0 ∧ s0 < (wear.length : Int)) (hs1 : 0 ≤ s1 ∧ s1 < (wear.length : Int)) (hsg : ∀ i, i < stage.length → 0 ≤ stage.getD i 0 ∧ stage.getD i 0 < (wear.length : Int)) (hun : ∀ i, i < undo.length → 0 ≤ undo.getD i 0 ∧ undo.getD i 0 < (wear.length : Int)) (hst : ∀ i, i < st.length → 0 ≤ st.getD i 0 ∧ st.getD i 0 < (wear.length : Int)) (hl3 : stage.length ≤ 1000 ∧ undo.length ≤ 1000 ∧ st.length ≤ 1000) (hcc : undo.length ≤ uc ∧ st.length ≤ lc) (hnn : nS ≤ 1000 ∧ nu ≤ 1000 ∧ 0 ≤ nr ∧ nr ≤ 1000000 ∧ 0 ≤ ne ∧ ne ≤ 1000000 ∧ -1000000 ≤ ram ∧ ram ≤ 1000000) :
   Ctr X 34 [.agg (List.toArray [.int .i64 ((nS : Nat) : Int), .int .i64 ((nu : Nat) : Int), .int .i64 nr, .int .i64 ne, .int .i64 no]), .agg (List.toArray [.int .i64 fs, dv, .slice WA wear.length wc, .int .i64 lim, .slice EA dead.length ec]), .agg (List.toArray [.int .i64 ((ns : Nat) : Int), .int .i64 j0, .int .i64 j1, .int .i64 s0, .int .i64 s1, .slice GA stage.length gc, .slice UA undo.length uc, .slice LA st.length lc]), .int .i64 ram] [Rd WA (I64 wear), Rd EA (Bs dead), Rd GA (I64 stage), Rd UA (I64 undo), Rd LA (I64 st)] [] (fun v R' H' => ∃ (L : Option Addr) (c : Nat), v = .slice L (lkN ((nS : Int) - (st.length : Int)) ((nu : Int) - (undo.length : Int)) (nr - ram) (ne - (leastI lim wear dead ns j0 j1 s0 s1 stage undo st nu nS)) 4).length c ∧ R' = [] ∧ H' = [Own 87 2 L (lkN ((nS : Int) - (st.length : Int)) ((nu : Int) - (undo.length : Int)) (nr - ram) (ne - (leastI lim wear dead ns j0 j1 s0 s1 stage undo st nu nS)) 4).length c (lkV (lkN ((nS : Int) - (st.length : Int)) ((nu : Int) - (undo.length : Int)) (nr - ram) (ne - (leastI lim wear dead ns j0 j1 s0 s1 stage undo st nu nS)) 4))]) := by
 refine Ctr.of (X := X) (fn := Tryz.f34) Tryz.func34 rfl (by kernel_rfl) rfl ?_
 intro β
 have hgb : ∀ x : Int, 0 ≤ x → x < (wear.length : Int) → -1000000 ≤ leftI lim wear dead x ∧ leftI lim wear dead x ≤ 1000000 := fun x _ _ => by
   have := hwe x.toNat
   unfold leftI
   split <;> omega
 refine C.seq (C.region ?_)
 refine L.boxA rfl rfl (fun A4 => ?_)
 refine L.boxA rfl rfl (fun A5 => ?_)
 refine L.boxA rfl rfl (fun A6 => ?_)
 refine Lpu rfl rfl ?_; refine L.nil (QE.seq (C.seq ?_)); refine C.freeze 0 rfl [1, 2] (by decide) (by decide) ?_; refine C.norm (H' := [_, _]) [0, 1] ⟨rfl, rfl, trivial⟩ (by decide) ?_; refine C.freeze 0 rfl [1] (by decide) (by decide) ?_; refine C.norm (H' := [_]) [0] ⟨rfl, trivial⟩ (by decide) ?_; refine C.freeze 0 rfl [] (by decide) (by decide) ?_; refine C.region ?_; refine Lpu rfl rfl ?_
 refine L.alloc rfl rfl rfl (fun A9 => ?_)
 refine L.store (j := 0) rfl rfl rfl rfl rfl rfl rfl rfl ?_; refine L.nil (QE.seq (C.seq ?_)); refine C.freeze 0 rfl [] (by decide) (by decide) ?_; refine C.region ?_
 refine L.alloc rfl rfl rfl (fun A10 => ?_)
 refine L.store (j := 0) rfl rfl rfl rfl rfl rfl rfl rfl ?_; refine L.nil (QE.seq (C.seq (C.seq (C.region ?_)))); refine L.step (Ev.fieldAddr rfl rfl rfl rfl rfl rfl (Src.r 1 rfl) (Nat.zero_lt_succ _) rfl) rfl ?_; refine L.step (Ev.load rfl rfl rfl (Src.r 1 rfl) rfl) rfl ?_; refine Lpu rfl rfl ?_; refine Lpu rfl rfl ?_; refine L.nil (QE.seq (C.block ?_)); refine C.loop (fun i : Nat => [(3, .int .i64 ram), (4, ptrOf A4 0), (5, ptrOf A5 0), (6, ptrOf A6 0), (9, ptrOf A9 0), (10, ptrOf A10 0), (19, .slice GA stage.length gc), (20, .int .i64 (stage.length : Int)), (21, .int .i64 (i : Int))]) (fun i : Nat => [Rd A9 [.func (.func 79) #[] #[ptrOf A5 0]], Rd A6 [.int .i64 ((ns : Nat) : Int), .int .i64 j0, .int .i64 j1, .int .i64 s0, .int .i64 s1, .slice GA stage.length gc, .slice UA undo.length uc, .slice LA st.length lc], Rd A5 [.int .i64 fs, dv, .slice WA wear.length wc, .int .i64 lim, .slice EA dead.length ec], Rd A4 [.int .i64 ((nS : Nat) : Int), .int .i64 ((nu : Nat) : Int), .int .i64 nr, .int .i64 ne, .int .i64 no], Rd WA (I64 wear), Rd EA (Bs dead), Rd GA (I64 stage), Rd UA (I64 undo), Rd LA (I64 st)]) (fun i : Nat => [Own 3 1 A10 1 1 [.int .i64 (maxL (leftI lim wear dead) (stage.take i) 0)]]) (fun i : Nat => i ≤ stage.length) (fun i : Nat => stage.length - i) 0 (Nat.zero_le _) (by exact Le.mk' (rs := [0, 1, 2, 3, 4, 5, 6, 7, 8]) (hs := [0]) ⟨rfl, rfl, rfl, rfl, rfl, rfl, rfl, rfl, rfl, trivial⟩ ⟨rfl, rfl, rfl, rfl, rfl, rfl, rfl, rfl, rfl, trivial⟩ ⟨rfl, trivial⟩ (by decide)) ?_
 intro i hi
 refine C.seq (C.region ?_); refine Lpu rfl rfl ?_; refine L.nil (QE.seq (C.seq ?_))
 refine C.condB 22 rfl (fun hc22 => ?_) (fun hc22 => ?_)
 ·
  replace hc22 := of_decide_eq_true hc22
  refine C.skip (QE.seq (C.seq (C.block (C.seq (C.region ?_))))); refine L.step (Ev.idx1 (k := i) rfl rfl rfl rfl rfl rfl rfl (by omega) (Src.r 6 rfl) (by rw [I64_len]; omega)) rfl ?_; refine L.step (Ev.load rfl rfl rfl (Src.r 6 rfl) (I64_get (by omega))) rfl ?_; refine Lpu rfl rfl ?_; refine L.nil (QE.seq ?_); refine C.regionM [Rd A9 [.func (.func 79) #[] #[ptrOf A5 0]], Rd A6 [.int .i64 ((ns : Nat) : Int), .int .i64 j0, .int .i64 j1, .int .i64 s0, .int .i64 s1, .slice GA stage.length gc, .slice UA undo.length uc, .slice LA st.length lc], Rd A5 [.int .i64 fs, dv, .slice WA wear.length wc, .int .i64 lim, .slice EA dead.length ec], Rd A4 [.int .i64 ((nS : Nat) : Int), .int .i64 ((nu : Nat) : Int), .int .i64 nr, .int .i64 ne, .int .i64 no], Rd WA (I64 wear), Rd EA (Bs dead), Rd GA (I64 stage), Rd UA (I64 undo), Rd LA (I64 st), Rd A10 [.int .i64 (maxL (leftI lim wear dead) (stage.take i) 0)]] ⟨Has.r 0 rfl, Has.r 1 rfl, Has.r 2 rfl, Has.r 3 rfl, Has.r 4 rfl, Has.r 5 rfl, Has.r 6 rfl, Has.r 7 rfl, Has.r 8 rfl, Has.o 0 rfl, trivial⟩ ?_
  first | refine LM.q 0 rfl (by kernel_rfl) (Ev.load rfl rfl rfl (Src.r 0 rfl) rfl) rfl ⟨Has.r 0 rfl, Has.r 1 rfl, Has.r 2 rfl, Has.r 3 rfl, Has.r 4 rfl, Has.r 5 rfl, Has.r 6 rfl, Has.r 7 rfl, Has.r 8 rfl, Has.o 0 rfl, trivial⟩ ?_ | refine LM.q 0 rfl (by kernel_rfl) (Ev.load rfl rfl rfl (Src.r 1 rfl) rfl) rfl ⟨Has.r 0 rfl, Has.r 1 rfl, Has.r 2 rfl, Has.r 3 rfl, Has.r 4 rfl, Has.r 5 rfl, Has.r 6 rfl, Has.r 7 rfl, Has.r 8 rfl, Has.o 0 rfl, trivial⟩ ?_ | refine LM.q 0 rfl (by kernel_rfl) (Ev.load rfl rfl rfl (Src.r 2 rfl) rfl) rfl ⟨Has.r 0 rfl, Has.r 1 rfl, Has.r 2 rfl, Has.r 3 rfl, Has.r 4 rfl, Has.r 5 rfl, Has.r 6 rfl, Has.r 7 rfl, Has.r 8 rfl, Has.o 0 rfl, trivial⟩ ?_ | refine LM.q 0 rfl (by kernel_rfl) (Ev.load rfl rfl rfl (Src.r 3 rfl) rfl) rfl ⟨Has.r 0 rfl, Has.r 1 rfl, Has.r 2 rfl, Has.r 3 rfl, Has.r 4 rfl, Has.r 5 rfl, Has.r 6 rfl, Has.r 7 rfl, Has.r 8 rfl, Has.o 0 rfl, trivial⟩ ?_ | refine LM.q 0 rfl (by kernel_rfl) (Ev.load rfl rfl rfl (Src.r 4 rfl) rfl) rfl ⟨Has.r 0 rfl, Has.r 1 rfl, Has.r 2 rfl, Has.r 3 rfl, Has.r 4 rfl, Has.r 5 rfl, Has.r 6 rfl, Has.r 7 rfl, Has.r 8 rfl, Has.o 0 rfl, trivial⟩ ?_ | refine LM.q 0 rfl (by kernel_rfl) (Ev.load rfl rfl rfl (Src.r 5 rfl) rfl) rfl ⟨Has.r 0 rfl, Has.r 1 rfl, Has.r 2 rfl, Has.r 3 rfl, Has.r 4 rfl, Has.r 5 rfl, Has.r 6 rfl, Has.r 7 rfl, Has.r 8 rfl, Has.o 0 rfl, trivial⟩ ?_ | refine LM.q 0 rfl (by kernel_rfl) (Ev.load rfl rfl rfl (Src.r 6 rfl) rfl) rfl ⟨Has.r 0 rfl, Has.r 1 rfl, Has.r 2 rfl, Has.r 3 rfl, Has.r 4 rfl, Has.r 5 rfl, Has.r 6 rfl, Has.r 7 rfl, Has.r 8 rfl, Has.o 0 rfl, trivial⟩ ?_ | refine LM.q 0 rfl (by kernel_rfl) (Ev.load rfl rfl rfl (Src.r 7 rfl) rfl) rfl ⟨Has.r 0 rfl, Has.r 1 rfl, Has.r 2 rfl, Has.r 3 rfl, Has.r 4 rfl, Has.r 5 rfl, Has.r 6 rfl, Has.r 7 rfl, Has.r 8 rfl, Has.o 0 rfl, trivial⟩ ?_ | refine LM.q 0 rfl (by kernel_rfl) (Ev.load rfl rfl rfl (Src.r 8 rfl) rfl) rfl ⟨Has.r 0 rfl, Has.r 1 rfl, Has.r 2 rfl, Has.r 3 rfl, Has.r 4 rfl, Has.r 5 rfl, Has.r 6 rfl, Has.r 7 rfl, Has.r 8 rfl, Has.o 0 rfl, trivial⟩ ?_ | refine LM.q 0 rfl (by kernel_rfl) (Ev.load rfl rfl rfl (Src.r 9 rfl) rfl) rfl ⟨Has.r 0 rfl, Has.r 1 rfl, Has.r 2 rfl, Has.r 3 rfl, Has.r 4 rfl, Has.r 5 rfl, Has.r 6 rfl, Has.r 7 rfl, Has.r 8 rfl, Has.o 0 rfl, trivial⟩ ?_
  refine LM.q 1 rfl (by kernel_rfl) (Ev.load rfl rfl rfl (Src.r 0 rfl) rfl) rfl ⟨Has.r 0 rfl, Has.r 1 rfl, Has.r 2 rfl, Has.r 3 rfl, Has.r 4 rfl, Has.r 5 rfl, Has.r 6 rfl, Has.r 7 rfl, Has.r 8 rfl, Has.o 0 rfl, trivial⟩ ?_; refine LM.f 2 rfl (by kernel_rfl) ⟨Has.r 0 rfl, Has.r 1 rfl, Has.r 2 rfl, Has.r 3 rfl, Has.r 4 rfl, Has.r 5 rfl, Has.r 6 rfl, Has.r 7 rfl, Has.r 8 rfl, Has.o 0 rfl, trivial⟩ ?_; refine Lpu rfl rfl ?_
  refine L.nil (QE.m (by kernel_rfl) ?_)
  refine LM.f 3 rfl (by kernel_rfl) ⟨Has.r 0 rfl, Has.r 1 rfl, Has.r 2 rfl, Has.r 3 rfl, Has.r 4 rfl, Has.r 5 rfl, Has.r 6 rfl, Has.r 7 rfl, Has.r 8 rfl, Has.o 0 rfl, trivial⟩ ?_; refine L.callv (js := []) (js' := [0]) (left1_c fs dv WA EA wear dead lim wc ec A5 (stage.getD i 0) (hsg i (by omega)) hlim hwe hde hwl) rfl rfl rfl rfl rfl (by decide) (Hq [2, 4, 5] rfl) rfl ?_
  rintro _ _ _ ⟨rfl, rfl, rfl⟩
  refine L.norm (H' := [_]) [0] ⟨rfl, trivial⟩ (by decide) ?_
  refine L.nil (QE.m (by kernel_rfl) ?_)
  refine LM.cut [] (by kernel_rfl) ⟨Has.r 0 rfl, Has.r 1 rfl, Has.r 2 rfl, Has.r 3 rfl, Has.r 4 rfl, Has.r 5 rfl, Has.r 6 rfl, Has.r 7 rfl, Has.r 8 rfl, Has.o 0 rfl, trivial⟩ ?_; refine LM.f 4 rfl (by kernel_rfl) trivial ?_; refine L.step (Ev.cast (u := .int .i64 (max (maxL (leftI lim wear dead) (stage.take i) 0) (leftI lim wear dead (stage.getD i 0)))) (Ev.pure rfl) (congrArg (Value.int .i64) (by simp only [if_true]; split <;> omega))) rfl ?_
  refine L.nil (QE.m (by kernel_rfl) ?_)
  refine LM.f 5 rfl (by kernel_rfl) trivial ?_
  first | refine L.store (j := 0) rfl rfl rfl rfl rfl rfl rfl rfl ?_ | refine L.store (j := 1) rfl rfl rfl rfl rfl rfl rfl rfl ?_ | refine L.store (j := 2) rfl rfl rfl rfl rfl rfl rfl rfl ?_ | refine L.store (j := 3) rfl rfl rfl rfl rfl rfl rfl rfl ?_ | refine L.store (j := 4) rfl rfl rfl rfl rfl rfl rfl rfl ?_ | refine L.store (j := 5) rfl rfl rfl rfl rfl rfl rfl rfl ?_
  refine L.nil (QE.m (by kernel_rfl) ?_)
  refine LM.nil (by kernel_rfl) trivial ?_; refine QE.blkN ?_; refine QE.seq (C.region ?_); refine L.step (Ev.add rfl rfl (by omega) (by omega)) rfl ?_; refine Lpu rfl rfl ?_; refine L.nil ?_
  refine QE.round (i + 1) (by omega) (by omega) (by exact Le.mk' (rs := [0, 1, 2, 3, 4, 5, 6, 7, 8]) (hs := [0]) ⟨rfl, rfl, rfl, rfl, rfl, rfl, rfl, rfl, rfl, trivial⟩ ⟨rfl, rfl, rfl, rfl, rfl, rfl, rfl, rfl, rfl, trivial⟩ ⟨(congrArg some (own_eq rfl (by rw [maxL_succ (by omega)]; rfl))), trivial⟩ (by decide))
 ·
  replace hc22 := of_decide_eq_false hc22
  refine C.exit ?_; refine QE.tX ?_; refine QE.tX ?_; refine QE.blk ?_; refine QE.seq (C.seq (C.region ?_)); refine Lpu rfl rfl ?_; refine Lpu rfl rfl ?_; refine L.nil (QE.seq (C.seq (C.seq (C.region ?_)))); refine L.step (Ev.fieldAddr rfl rfl rfl rfl rfl rfl (Src.r 1 rfl) (Nat.zero_lt_succ _) rfl) rfl ?_; refine L.step (Ev.load rfl rfl rfl (Src.r 1 rfl) rfl) rfl ?_; refine Lpu rfl rfl ?_; refine L.nil (QE.seq (C.block ?_))
  obtain rfl : i = stage.length := by omega
  rw [List.take_length]
  refine C.loop (fun i : Nat => [(3, .int .i64 ram), (4, ptrOf A4 0), (5, ptrOf A5 0), (6, ptrOf A6 0), (9, ptrOf A9 0), (10, ptrOf A10 0), (13, .func (.func 80) #[] #[ptrOf A10 0, ptrOf A9 0]), (33, .int .i64 ((ns : Nat) : Int)), (34, .int .i64 (i : Int))]) (fun i : Nat => [Rd A9 [.func (.func 79) #[] #[ptrOf A5 0]], Rd A6 [.int .i64 ((ns : Nat) : Int), .int .i64 j0, .int .i64 j1, .int .i64 s0, .int .i64 s1, .slice GA stage.length gc, .slice UA undo.length uc, .slice LA st.length lc], Rd A5 [.int .i64 fs, dv, .slice WA wear.length wc, .int .i64 lim, .slice EA dead.length ec], Rd A4 [.int .i64 ((nS : Nat) : Int), .int .i64 ((nu : Nat) : Int), .int .i64 nr, .int .i64 ne, .int .i64 no], Rd WA (I64 wear), Rd EA (Bs dead), Rd GA (I64 stage), Rd UA (I64 undo), Rd LA (I64 st)]) (fun i : Nat => [Own 3 1 A10 1 1 [.int .i64 (minL (leftI lim wear dead) (NI (List.range i)) (maxL (leftI lim wear dead) stage 0))]]) (fun i : Nat => i ≤ ns) (fun i : Nat => ns - i) 0 (Nat.zero_le _) (by exact Le.mk' (rs := [0, 1, 2, 3, 4, 5, 6, 7, 8]) (hs := [0]) ⟨rfl, rfl, rfl, rfl, rfl, rfl, rfl, rfl, rfl, trivial⟩ ⟨rfl, rfl, rfl, rfl, rfl, rfl, rfl, rfl, rfl, trivial⟩ ⟨rfl, trivial⟩ (by decide)) ?_
  intro i hi
  refine C.seq (C.region ?_); refine Lpu rfl rfl ?_; refine L.nil (QE.seq (C.seq ?_))
  refine C.condB 35 rfl (fun hc35 => ?_) (fun hc35 => ?_)
  ·
   replace hc35 := of_decide_eq_true hc35
   refine C.skip (QE.seq (C.seq (C.block (C.seq (C.region ?_))))); refine Lpu rfl rfl ?_; refine Lpu rfl rfl ?_; refine L.nil (QE.seq (C.region ?_)); refine Lpu rfl rfl ?_; refine Lpu rfl rfl ?_
   refine L.lit rfl rfl rfl rfl rfl (by rfl) (by rfl) (by rfl) rfl rfl (fun A39 => ?_)
   refine L.freeze 1 rfl [0] (by decide) (by decide) ?_; refine L.norm (H' := [_]) [0] ⟨rfl, trivial⟩ (by decide) ?_
   refine L.callv (js := [0]) (js' := []) (use_c fs dv WA EA wear dead lim wc ec A5 A10 A9 A39 [((i : Nat) : Int)] 1 1 rfl (minL (leftI lim wear dead) (NI (List.range i)) (maxL (leftI lim wear dead) stage 0)) (one_in (by omega)) (by first | (simp only [List.length_take]; omega) | (simp; done)) hlim hwe hde hwl) rfl rfl rfl rfl rfl (by decide) (Hq [3, 5, 6, 1, 0] rfl) rfl ?_
   rintro _ _ _ ⟨rfl, rfl, rfl⟩
   refine L.norm (H' := [_]) [0] ⟨rfl, trivial⟩ (by decide) ?_; refine L.nil ?_; refine QE.blkN ?_; refine QE.seq (C.region ?_); refine L.step (Ev.add rfl rfl (by omega) (by omega)) rfl ?_; refine Lpu rfl rfl ?_; refine L.nil ?_
   refine QE.round (i + 1) (by omega) (by omega) (by exact Le.mk' (rs := [1, 2, 3, 4, 5, 6, 7, 8, 9]) (hs := [0]) ⟨rfl, rfl, rfl, rfl, rfl, rfl, rfl, rfl, rfl, trivial⟩ ⟨rfl, rfl, rfl, rfl, rfl, rfl, rfl, rfl, rfl, trivial⟩ ⟨(congrArg some (own_eq rfl (by rw [min_range]))), trivial⟩ (by decide))
  ·
   replace hc35 := of_decide_eq_false hc35
   refine C.exit ?_; refine QE.tX ?_; refine QE.tX ?_; refine QE.blk ?_; refine QE.seq (C.seq ?_)
   obtain rfl : ns = i := by omega
   refine C.region ?_; refine Lpu rfl rfl ?_; refine L.step (Ev.fieldAddr rfl rfl rfl rfl rfl rfl (Src.r 1 rfl) (Nat.zero_lt_succ _) rfl) rfl ?_; refine L.step (Ev.sliceArr rfl rfl rfl rfl (Src.r 1 rfl) (Nat.le_of_ble_eq_true rfl)) rfl ?_
   refine L.callv (js := [0]) (js' := []) (use_c fs dv WA EA wear dead lim wc ec A5 A10 A9 (A6.map (·.add 1)) [j0, j1] 2 2 rfl (minL (leftI lim wear dead) (NI (List.range ns)) (maxL (leftI lim wear dead) stage 0)) (two_in hj0 hj1) (by first | (simp only [List.length_take]; omega) | (simp; done)) hlim hwe hde hwl) rfl rfl rfl rfl rfl (by decide) ⟨(Has.r 2 rfl), (Has.r 4 rfl), (Has.r 5 rfl), (Has.r 0 rfl), ((Has.at (xs := [.int .i64 ((ns : Nat) : Int), .int .i64 j0, .int .i64 j1, .int .i64 s0, .int .i64 s1, .slice GA stage.length gc, .slice UA undo.length uc, .slice LA st.length lc]) (Has.r 1 rfl) 1 2).cast rfl), trivial⟩ rfl ?_
   rintro _ _ _ ⟨rfl, rfl, rfl⟩
   refine L.norm (H' := [_]) [0] ⟨rfl, trivial⟩ (by decide) ?_; refine L.nil (QE.seq (C.seq (C.region ?_))); refine Lpu rfl rfl ?_; refine L.step (Ev.fieldAddr rfl rfl rfl rfl rfl rfl (Src.r 1 rfl) (Nat.zero_lt_succ _) rfl) rfl ?_; refine L.step (Ev.sliceArr rfl rfl rfl rfl (Src.r 1 rfl) (Nat.le_of_ble_eq_true rfl)) rfl ?_
   refine L.callv (js := [0]) (js' := []) (use_c fs dv WA EA wear dead lim wc ec A5 A10 A9 (A6.map (·.add 3)) [s0, s1] 2 2 rfl (minL (leftI lim wear dead) [j0, j1] (minL (leftI lim wear dead) (NI (List.range ns)) (maxL (leftI lim wear dead) stage 0))) (two_in hs0 hs1) (by first | (simp only [List.length_take]; omega) | (simp; done)) hlim hwe hde hwl) rfl rfl rfl rfl rfl (by decide) ⟨(Has.r 2 rfl), (Has.r 4 rfl), (Has.r 5 rfl), (Has.r 0 rfl), ((Has.at (xs := [.int .i64 ((ns : Nat) : Int), .int .i64 j0, .int .i64 j1, .int .i64 s0, .int .i64 s1, .slice GA stage.length gc, .slice UA undo.length uc, .slice LA st.length lc]) (Has.r 1 rfl) 3 2).cast rfl), trivial⟩ rfl ?_
   rintro _ _ _ ⟨rfl, rfl, rfl⟩
   refine L.norm (H' := [_]) [0] ⟨rfl, trivial⟩ (by decide) ?_; refine L.nil (QE.seq (C.seq (C.region ?_))); refine Lpu rfl rfl ?_; refine L.step (Ev.fieldAddr rfl rfl rfl rfl rfl rfl (Src.r 1 rfl) (Nat.zero_lt_succ _) rfl) rfl ?_; refine L.step (Ev.load rfl rfl rfl (Src.r 1 rfl) rfl) rfl ?_; refine L.step (Ev.fieldAddr rfl rfl rfl rfl rfl rfl (Src.r 3 rfl) (Nat.zero_lt_succ _) rfl) rfl ?_; refine L.step (Ev.load rfl rfl rfl (Src.r 3 rfl) rfl) rfl ?_; refine L.step (Ev.fieldAddr rfl rfl rfl rfl rfl rfl (Src.r 1 rfl) (Nat.zero_lt_succ _) rfl) rfl ?_; refine L.step (Ev.load rfl rfl rfl (Src.r 1 rfl) rfl) rfl ?_; refine Lpu rfl rfl ?_; refine L.step (Ev.cast (u := .int .i64 (((min nu undo.length) : Nat) : Int)) (Ev.cast (u := .int .i64 (min ((nu : Nat) : Int) (undo.length : Int))) (Ev.pure rfl) (congrArg (Value.int .i64) (by simp only [Bool.false_eq_true, if_false]; split <;> omega))) (congrArg (Value.int .i64) (by omega))) rfl ?_; refine L.step (Ev.sliceH (h := min nu undo.length) rfl rfl rfl rfl rfl rfl (by omega)) rfl ?_
   refine L.callv (js := [0]) (js' := []) (use_c fs dv WA EA wear dead lim wc ec A5 A10 A9 UA (undo.take (min nu undo.length)) uc (min nu undo.length) (by rw [List.length_take]; omega) (minL (leftI lim wear dead) [s0, s1] (minL (leftI lim wear dead) [j0, j1] (minL (leftI lim wear dead) (NI (List.range ns)) (maxL (leftI lim wear dead) stage 0)))) (take_in hun) (by first | (simp only [List.length_take]; omega) | (simp; done)) hlim hwe hde hwl) rfl rfl rfl rfl rfl (by decide) ⟨(Has.r 2 rfl), (Has.r 4 rfl), (Has.r 5 rfl), (Has.r 0 rfl), ((Has.take (Has.r 7 rfl) (min nu undo.length)).cast (I64_take _ _)), trivial⟩ rfl ?_
   rintro _ _ _ ⟨rfl, rfl, rfl⟩
   refine L.norm (H' := [_]) [0] ⟨rfl, trivial⟩ (by decide) ?_; refine L.nil (QE.seq (C.seq (C.region ?_))); refine Lpu rfl rfl ?_; refine L.step (Ev.fieldAddr rfl rfl rfl rfl rfl rfl (Src.r 1 rfl) (Nat.zero_lt_succ _) rfl) rfl ?_; refine L.step (Ev.load rfl rfl rfl (Src.r 1 rfl) rfl) rfl ?_; refine L.step (Ev.fieldAddr rfl rfl rfl rfl rfl rfl (Src.r 3 rfl) (Nat.zero_lt_succ _) rfl) rfl ?_; refine L.step (Ev.load rfl rfl rfl (Src.r 3 rfl) rfl) rfl ?_; refine L.step (Ev.fieldAddr rfl rfl rfl rfl rfl rfl (Src.r 1 rfl) (Nat.zero_lt_succ _) rfl) rfl ?_; refine L.step (Ev.load rfl rfl rfl (Src.r 1 rfl) rfl) rfl ?_; refine Lpu rfl rfl ?_; refine L.step (Ev.cast (u := .int .i64 (((min nS st.length) : Nat) : Int)) (Ev.cast (u := .int .i64 (min ((nS : Nat) : Int) (st.length : Int))) (Ev.pure rfl) (congrArg (Value.int .i64) (by simp only [Bool.false_eq_true, if_false]; split <;> omega))) (congrArg (Value.int .i64) (by omega))) rfl ?_; refine L.step (Ev.sliceH (h := min nS st.length) rfl rfl rfl rfl rfl rfl (by omega)) rfl ?_
   refine L.callv (js := [0]) (js' := []) (use_c fs dv WA EA wear dead lim wc ec A5 A10 A9 LA (st.take (min nS st.length)) lc (min nS st.length) (by rw [List.length_take]; omega) (minL (leftI lim wear dead) (undo.take (min nu undo.length)) (minL (leftI lim wear dead) [s0, s1] (minL (leftI lim wear dead) [j0, j1] (minL (leftI lim wear dead) (NI (List.range ns)) (maxL (leftI lim wear dead) stage 0))))) (take_in hst) (by first | (simp only [List.length_take]; omega) | (simp; done)) hlim hwe hde hwl) rfl rfl rfl rfl rfl (by decide) ⟨(Has.r 2 rfl), (Has.r 4 rfl), (Has.r 5 rfl), (Has.r 0 rfl), ((Has.take (Has.r 8 rfl) (min nS st.length)).cast (I64_take _ _)), trivial⟩ rfl ?_
   rintro _ _ _ ⟨rfl, rfl, rfl⟩
   refine L.norm (H' := [_]) [0] ⟨rfl, trivial⟩ (by decide) ?_; refine L.nil (QE.seq (C.seq (C.region ?_)))
   refine L.alloc rfl rfl rfl (fun A15 => ?_)
   refine L.nil (QE.seq (C.seq (C.region ?_))); refine Lpu rfl rfl ?_; refine Lpu rfl rfl ?_; refine L.nil (QE.seq (C.seq ?_))
   have hk0 : ([] : List (Int × Int)).length = 0 := rfl
   have hk1 := lkS_len [] 1 ((nS : Int) - (st.length : Int))
   have hk2 := lkS_len (lkS [] 1 ((nS : Int) - (st.length : Int))) 2 ((nu : Int) - (undo.length : Int))
   have hk3 := lkS_len (lkS (lkS [] 1 ((nS : Int) - (st.length : Int))) 2 ((nu : Int) - (undo.length : Int))) 3 (nr - ram)
   refine C.own0 87 2 ?_; refine C.region ?_; refine Lpu rfl rfl ?_; refine L.step (Ev.fieldAddr rfl rfl rfl rfl rfl rfl (Src.r 3 rfl) (Nat.zero_lt_succ _) rfl) rfl ?_; refine L.step (Ev.load rfl rfl rfl (Src.r 3 rfl) rfl) rfl ?_; refine L.step (Ev.fieldAddr rfl rfl rfl rfl rfl rfl (Src.r 1 rfl) (Nat.zero_lt_succ _) rfl) rfl ?_; refine L.step (Ev.load rfl rfl rfl (Src.r 1 rfl) rfl) rfl ?_; refine Lpu rfl rfl ?_; refine L.step (Ev.sub rfl rfl (by omega) (by omega)) rfl ?_
   refine L.callv (js := [1, 2]) (js' := [0]) (lack_c A15 none [] 0 1 ((nS : Int) - (st.length : Int)) (by first | exact Nat.zero_le _ | omega)) rfl rfl rfl rfl rfl (by decide) trivial rfl ?_
   rintro _ _ _ ⟨rfl, rfl, L80, l80, rfl⟩
   refine L.norm (H' := [_, _, _]) [0, 1, 2] ⟨rfl, rfl, rfl, trivial⟩ (by decide) ?_; refine L.nil (QE.seq (C.seq (C.region ?_))); refine Lpu rfl rfl ?_; refine L.step (Ev.fieldAddr rfl rfl rfl rfl rfl rfl (Src.r 3 rfl) (Nat.zero_lt_succ _) rfl) rfl ?_; refine L.step (Ev.load rfl rfl rfl (Src.r 3 rfl) rfl) rfl ?_; refine L.step (Ev.fieldAddr rfl rfl rfl rfl rfl rfl (Src.r 1 rfl) (Nat.zero_lt_succ _) rfl) rfl ?_; refine L.step (Ev.load rfl rfl rfl (Src.r 1 rfl) rfl) rfl ?_; refine Lpu rfl rfl ?_; refine L.step (Ev.sub rfl rfl (by omega) (by omega)) rfl ?_
   refine L.callv (js := [0, 1]) (js' := [2]) (lack_c A15 L80 (lkS [] 1 ((nS : Int) - (st.length : Int))) l80 2 ((nu : Int) - (undo.length : Int)) (by first | exact Nat.zero_le _ | omega)) rfl rfl rfl rfl rfl (by decide) trivial rfl ?_
   rintro _ _ _ ⟨rfl, rfl, L88, l88, rfl⟩
   refine L.norm (H' := [_, _, _]) [0, 1, 2] ⟨rfl, rfl, rfl, trivial⟩ (by decide) ?_; refine L.nil (QE.seq (C.seq (C.region ?_))); refine Lpu rfl rfl ?_; refine L.step (Ev.fieldAddr rfl rfl rfl rfl rfl rfl (Src.r 3 rfl) (Nat.zero_lt_succ _) rfl) rfl ?_; refine L.step (Ev.load rfl rfl rfl (Src.r 3 rfl) rfl) rfl ?_; refine Lpu rfl rfl ?_; refine L.step (Ev.sub rfl rfl (by omega) (by omega)) rfl ?_
   refine L.callv (js := [0, 1]) (js' := [2]) (lack_c A15 L88 (lkS (lkS [] 1 ((nS : Int) - (st.length : Int))) 2 ((nu : Int) - (undo.length : Int))) l88 3 (nr - ram) (by first | exact Nat.zero_le _ | omega)) rfl rfl rfl rfl rfl (by decide) trivial rfl ?_
   rintro _ _ _ ⟨rfl, rfl, L94, l94, rfl⟩
   refine L.norm (H' := [_, _, _]) [0, 1, 2] ⟨rfl, rfl, rfl, trivial⟩ (by decide) ?_; refine L.nil (QE.seq (C.seq ?_))
   have hle : (minL (leftI lim wear dead) (st.take (min nS st.length)) (minL (leftI lim wear dead) (undo.take (min nu undo.length)) (minL (leftI lim wear dead) [s0, s1] (minL (leftI lim wear dead) [j0, j1] (minL (leftI lim wear dead) (NI (List.range ns)) (maxL (leftI lim wear dead) stage 0)))))) = (leastI lim wear dead ns j0 j1 s0 s1 stage undo st nu nS) := least_eq
   have hlb : -1000000 ≤ (leastI lim wear dead ns j0 j1 s0 s1 stage undo st nu nS) ∧ (leastI lim wear dead ns j0 j1 s0 s1 stage undo st nu nS) ≤ 1000000 := least_bd hgb (by omega) (by omega) (by omega) (by omega) (by omega) hsg hun hst
   rw [hle]
   refine C.region ?_; refine Lpu rfl rfl ?_; refine L.step (Ev.fieldAddr rfl rfl rfl rfl rfl rfl (Src.r 3 rfl) (Nat.zero_lt_succ _) rfl) rfl ?_; refine L.step (Ev.load rfl rfl rfl (Src.r 3 rfl) rfl) rfl ?_; refine L.step (Ev.load rfl rfl rfl (Src.o 2 rfl) (rfl)) rfl ?_; refine L.step (Ev.sub rfl rfl (by omega) (by omega)) rfl ?_
   refine L.callv (js := [0, 1]) (js' := [2]) (lack_c A15 L94 (lkS (lkS (lkS [] 1 ((nS : Int) - (st.length : Int))) 2 ((nu : Int) - (undo.length : Int))) 3 (nr - ram)) l94 4 (ne - (leastI lim wear dead ns j0 j1 s0 s1 stage undo st nu nS)) (by first | exact Nat.zero_le _ | omega)) rfl rfl rfl rfl rfl (by decide) trivial rfl ?_
   rintro _ _ _ ⟨rfl, rfl, L100, l100, rfl⟩
   refine L.norm (H' := [_, _, _]) [0, 1, 2] ⟨rfl, rfl, rfl, trivial⟩ (by decide) ?_; refine L.nil (QE.seq (C.seq (C.region ?_))); refine L.step (Ev.load rfl rfl rfl (Src.o 0 rfl) (rfl)) rfl ?_; refine Lpu rfl rfl ?_; refine L.nil (QE.seq (C.ret ?_)); refine QE.ret (js := []) (hs := [1]) (vs := [_]) rfl ⟨rfl, trivial⟩ (by decide) ?_
   exact ⟨L100, l100, rfl, rfl, rfl⟩

end Go.Proofs.YtpccfdnmnnnboaaGreat
