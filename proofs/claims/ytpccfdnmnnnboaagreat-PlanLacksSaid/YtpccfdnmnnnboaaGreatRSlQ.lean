/-
  The small separation logic: append of made elements to nil, a slice that keeps nothing, two inner slices.
-/
import Derived.Test.YtpccfdnmnnnboaaGreatROj
import Derived.Test.YtpccfdnmnnnboaaGreatRSlM
import Derived.Test.YtpccfdnmnnnboaaGreatRWPlG
import Derived.Test.YtpccfdnmnnnboaaGreatRTf
section
namespace Go.Sl

theorem run_append_nilZ {P : Program} (w : World) (t tn ty e : TypeId) (i : TypeInfo) (z : Value) (k kn : IntKind) (ht : P.underlying t = some (.slice e)) (htn : P.underlying tn = some (.int kn)) (hi : P.info? e = some i) (hz : i.zero = some z)
   (q : Nat) (h0 : 0 < q) (hs : 0 < i.size) (h63 : ((q : Nat) : Int) ≤ 9223372036854775807) (h48 : q * i.bytes ≤ 281474976710656) (hfit : Builtin.nextslicecap q 0 * i.bytes ≤ 281474976710656) :
   (Builtin.append_ #[t, tn] ty #[.slice none 0 0, .int k q]).run P w =
     .ok (.slice (some ⟨w.heap.size, 0, none⟩) q (grownCap w q 0 e))
       (w.drew.alloc (.cells (Builtin.zeroCells z.cells q ++ Builtin.zeroCells z.cells (grownCap w q 0 e - q)) e)) := by
 have hn : ¬ (q ≤ 0) := by omega
 have hw : IntKind.i64.wrap (q : Int) = q := by rw [IntKind.wrap_i64]; omega
 have h63' : ¬ (9223372036854775807 < (q : Int)) := by omega
 have h48' : ¬ (281474976710656 < Builtin.nextslicecap q 0 * i.bytes) := by omega
 have h48i : ¬ (281474976710656 < (q : Int) * (i.bytes : Int)) := by
   rw [← Int.natCast_mul]
   omega
 have hneg : ¬ ((q : Int) < 0) := by omega
 have hns : ¬ (q * i.size = 0) := Nat.mul_ne_zero (by omega) (by omega)
 have hq0 : ¬ q = 0 := by omega
 simp [Builtin.append_, run_underlying ht, run_underlying htn, sizeOf, typeInfo, zeroValue, hi, hz, asInt, asIntOf, hw, hneg, hns, h63', h48', h48i, Question.forced, run_firstCells_none, newRow, grownCap, hq0]

section
variable {X : Cx} {β : Base} {n : Nat} {ds : List Deferred} {ops : Array Oper} {Q : Exit → Act → World → Prop} {rest : List Oper} {Γ : Env} {R H : List Pr}

/-- append(nil, make([]T, q)...) -/
theorem L.nilZ {d t tn e ty q : Nat} {pos : String} {af : Array Edge} {x y : Operand} {i ei it : Ti} {kn kq : IntKind} {z : Value} (ht : tlook t X.tab = some i) (hdesc : i.desc = .slice e) (he : tlook e X.tab = some ei) (hsz : ei.size = 1) (hz : ei.zero = z) (hzc : z.cells = #[z])
   (htn : tlook tn X.tab = some it) (hit : it.desc = .int kn) (hx : ev Γ x = some (.slice none 0 0)) (hy : ev Γ y = some (.int kq (q : Int))) (hq : 0 < q)
   (hml : q ≤ 9223372036854775807) (hb : q * ei.bytes ≤ 140737488355328) (hd : Nat.blt d n = true)
   (k : ∀ A' c', L X β n ds ops Q rest ((d, .slice A' q c') :: Γ) R (H ++ [Own e 1 A' q c' (List.replicate q z)])) :
   L X β n ds ops Q (⟨some d, .call ⟨.builtin .append, #[x, y], #[t, tn]⟩, ty, pos, af, none⟩ :: rest) Γ R H := by
 intro a w hf hsat
 refine wpList_plain rfl fun K hK => ?_
 obtain ⟨e1, _⟩ := X.ok _ _ ht
 rw [hdesc] at e1
 obtain ⟨e2, _⟩ := X.ok _ _ htn
 rw [hit] at e2
 obtain ⟨_, jf, hjf, g1, g2, g3⟩ := X.ok _ _ he
 have hfit : Builtin.nextslicecap q 0 * jf.bytes ≤ 281474976710656 := by
   have h1 := nextslicecap_le (need := q) (old := 0) (by omega)
   have h2 := Nat.mul_le_mul_right jf.bytes h1
   rw [g2] at h2 ⊢
   have h3 : 2 * q * ei.bytes = 2 * (q * ei.bytes) := Nat.mul_assoc _ _ _
   omega
 have hqb : q * jf.bytes ≤ 281474976710656 := by rw [g2]; omega
 have hrun := run_append_nilZ (P := X.P) w t tn ty e jf ei.zero kq kn e1 e2 hjf g3 q hq (by rw [g1, hsz]; decide) (by omega) hqb hfit
 have hrun' : (execOp a.eval ⟨some d, .call ⟨.builtin .append, #[x, y], #[t, tn]⟩, ty, pos, af, none⟩).run X.P w = .ok (.value (.slice (some ⟨w.heap.size, 0, none⟩) q (grownCap w q 0 e))) (w.drew.alloc (.cells (Builtin.zeroCells ei.zero.cells q ++ Builtin.zeroCells ei.zero.cells (grownCap w q 0 e - q)) e)) := by
   simp only [execOp, resolve, invoke, builtin, Sem.run_bind, Sem.run_pure, Result.andThen_ok, List.map_toArray, List.map_cons, List.map_nil, hf.eval hx, hf.eval hy, hrun]
 unfold Oper.wp
 rw [hrun']
 have hge := grownCap_ge w q 0 e
 have hle := grownCap_le_maxLen w q 0 e (by unfold maxLen; omega)
 have hz1 : ∀ r, (Builtin.zeroCells ei.zero.cells r).size = r := fun r => by rw [size_zeroCells, hz, hzc]; simp
 refine hK _ _ (k (some ⟨w.heap.size, 0, none⟩) _ _ _ (hf.put (by simpa [Nat.blt_eq] using hd) _) (hsat.snoc ((Stp.drew w _).trans (Stp.alloc _ _ _)) (fun _ h _ => h) _ ?_ ?_))
 · refine ⟨by rw [List.length_replicate, Nat.mul_one], .inr ⟨w.heap.size, _, _, rfl, Nat.zero_le _, heap_alloc_new w.drew _, hge, hle, ?_, ?_⟩⟩
   · rw [Array.size_append, hz1, hz1]
     omega
   · rw [Array.toList_append, hz, zeroCells_list hzc]
     have h1 : (List.replicate q z).length = q * 1 := by rw [List.length_replicate, Nat.mul_one]
     rw [← h1, List.take_left]
 · intro k hk
   have := own_fp hk
   subst this
   exact ⟨by simp, Nat.le_refl _⟩
theorem Own.empty {w : World} {e m c : Nat} {A : Option Addr} {xs : List Value} (h : (Own e 1 A m c xs).p w) : (Own e 1 A 0 c []).p w := by
 refine ⟨rfl, ?_⟩
 rcases h.2 with ⟨hv, h0⟩ | ⟨g, cap, cur, hv, hb, hh, h3, h4, h5, h6⟩
 · injection hv with h7 h8 h9
   subst h7 h9
   exact .inl ⟨rfl, rfl⟩
 · injection hv with h7 h8 h9
   subst h7 h9
   exact .inr ⟨g, c, cur, rfl, hb, hh, Nat.zero_le _, h4, h5, by simp⟩
theorem L.empty {e m c : Nat} {A : Option Addr} {xs : List Value} {H' : List Pr} (h : L X β n ds ops Q rest Γ R (Own e 1 A 0 c [] :: H')) : L X β n ds ops Q rest Γ R (Own e 1 A m c xs :: H') :=
 fun a w hf hs => h a w hf (hs.repl (fun h => Own.empty h) (fun _ hk => hk))
theorem Has.kids2 {A B : Option Addr} {xs ys : List Value} (c d : Nat) (h1 : Has R H (Rd A xs)) (h2 : Has R H (Rd B ys)) : Has R H (KidsR [(A, c), (B, d)] [xs, ys]) := by
 have key : ∀ (i : Nat) (h : Hd) (v : List Value), [(A, c), (B, d)][i]? = some h → [xs, ys][i]? = some v → Has R H (Rd h.1 v) := by
   intro i h v hh hv
   match i, hh, hv with
   | 0, hh, hv =>
     obtain rfl : (A, c) = h := by simpa using hh
     obtain rfl : xs = v := by simpa using hv
     exact h1
   | 1, hh, hv =>
     obtain rfl : (B, d) = h := by simpa using hh
     obtain rfl : ys = v := by simpa using hv
     exact h2
   | i + 2, hh, hv => simp at hh
 exact ⟨fun β w hs i h v hh hv => (key i h v hh hv).1 β w hs, fun k ⟨i, h, v, hh, hv, hk⟩ => (key i h v hh hv).2 k hk⟩
/-- a[:], a an array that a pointer leads to -/
theorem Ev.sliceArr {t e m k : Nat} {x : Operand} {i ei : Ti} {A : Option Addr} {xs : List Value} (ht : tlook t X.tab = some i) (hd : i.desc = .array m e) (he : tlook e X.tab = some ei) (hx : ev Γ x = some (ptrOf A k)) (hs : Src R H A xs) (h0 : k < xs.length) :
   Ev X β Γ R H (.slice t x none none none) (.slice (A.map (·.add k)) m m) := by
 intro ρ w hρ hw o ho
 have e1 := (X.ok _ _ ht).und
 rw [hd] at e1
 have hS := run_sizeOf' (P := X.P) w (X.ok _ _ he)
 obtain ⟨a, rfl, _⟩ := hs β w hw k xs[k] (by simp [h0])
 have hz : (a.add k).add 0 = a.add k := by simp [Addr.add]
 simp [execOp, ho, hρ _ _ hx, ptrOf, Instr.sliceAt, Instr.sureAddr, Instr.sliceBounds, run_underlying e1, hS, hz]
theorem Has.at {A : Option Addr} {xs : List Value} (h : Has R H (Rd A xs)) (k m : Nat) : Has R H (Rd (A.map (·.add k)) ((xs.drop k).take m)) := by
 have h1 := h.sub (xs.length + k + 1) k 1 m (by omega)
 unfold subA at h1
 rw [if_neg (by omega), Nat.mul_one] at h1
 exact h1
end
end Go.Sl
end
/-
  Contents that a plan gives, of the program and of the reference.
-/
section
namespace Go.Proofs.YtpccfdnmnnnboaaGreat
open Go.Sl

theorem flat_succ (ls : List (List Int)) {i : Nat} (h : i < ls.length) : (ls.take (i + 1)).flatten = (ls.take i).flatten ++ ls.getD i [] := by
 rw [take_snoc' ls [] i h, List.flatten_append]
 simp
theorem flat_le (ls : List (List Int)) (i : Nat) : (ls.take i).flatten.length ≤ ls.flatten.length := by
 have := congrArg List.length (congrArg List.flatten (List.take_append_drop i ls))
 rw [List.flatten_append, List.length_append] at this
 omega
theorem idxJ_lt2 {st : List Int} {t : Int} (h : 0 ≤ idxJ st t) : idxJ st t < (st.length : Int) := by
 have hm : t ∈ st := Classical.byContradiction fun g => by
   have := idxJ_neg.2 g
   omega
 obtain ⟨k, h1, h2, _⟩ := idxJ_mem hm
 omega
theorem sec_ok {data : List (List UInt8)} {fs : Int} {n t : Nat} {st lst : List Int} (_hsl : st.length ≤ lst.length) (hs1 : ∀ t, t < n → secB data fs (t : Int) = true) (hs2 : ∀ i, i < st.length → secB data fs (lst.getD i 0) = true) (ht : t < n) : secB data fs (secT st lst st.length t) = true := by
 rw [secT_idx]
 split
 · rename_i h
   have := idxJ_lt2 h
   exact hs2 _ (by omega)
 · exact hs1 t ht

theorem grow0_c (m : Nat) (hm : m ≤ 1000000) :
   Ctr X 97 [.slice none 0 0, .int .i64 (m : Int)] [] [] (fun v R' H' => ∃ (A : Option Addr) (c : Nat), v = .slice A 0 c ∧ R' = [] ∧ H' = [Own 3 1 A 0 c []]) := by
 refine Ctr.of (X := X) (fn := Tryz.f97) Tryz.func97 rfl (by kernel_rfl) rfl ?_
 intro β
 refine C.seq (C.region ?_); refine Lpu rfl rfl ?_; refine L.nil (QE.seq (C.seq (C.seq (C.region ?_)))); refine Lpu rfl rfl ?_; refine Lpu rfl rfl ?_; refine L.nil (QE.seq ?_)
 refine C.condB 6 rfl (fun hc6 => ?_) (fun hc6 => ?_)
 · skip
   replace hc6 := of_decide_eq_true hc6
   omega
 · skip
   replace hc6 := of_decide_eq_false hc6
   refine C.skip (QE.seq (C.seq (C.seq (C.region ?_)))); refine Lpu rfl rfl ?_; refine Lpu rfl rfl ?_; refine L.step (Ev.capS rfl rfl rfl) rfl ?_; refine Lpu rfl rfl ?_; refine Lpu rfl rfl ?_; refine L.step (Ev.sub rfl rfl (by omega) (by omega)) rfl ?_; refine L.step (Ev.cast (u := .int .i64 ((m : Nat) : Int)) (Ev.sub rfl rfl (by omega) (by omega)) (congrArg (Value.int .i64) (by omega))) rfl ?_; refine Lpu rfl rfl ?_; refine L.nil (QE.seq (C.seq (C.region ?_))); refine Lpu rfl rfl ?_; refine Lpu rfl rfl ?_; refine L.nil (QE.seq ?_)
   refine C.condB 16 rfl (fun hc16 => ?_) (fun hc16 => ?_)
   · skip
     replace hc16 := of_decide_eq_true hc16
     refine C.region ?_; refine Lpu rfl rfl ?_; refine Lpu rfl rfl ?_; refine L.step (Ev.capS rfl rfl rfl) rfl ?_; refine L.step (Ev.sliceH (h := 0) rfl rfl rfl rfl rfl rfl (Nat.le_refl _)) rfl ?_; refine Lpu rfl rfl ?_
     refine L.nilZ rfl rfl rfl rfl rfl rfl rfl rfl rfl rfl (by omega) (by omega) (by show _ * 8 ≤ _; omega) rfl (fun A22 c22 => ?_)
     refine Lpu rfl rfl ?_; refine Lpu rfl rfl ?_; refine L.step (Ev.sliceH (h := 0) rfl rfl rfl rfl rfl rfl (Nat.zero_le _)) rfl ?_; refine L.empty ?_; refine Lpu rfl rfl ?_; refine L.nil (QE.seq (C.seq (C.region ?_))); refine Lpu rfl rfl ?_; refine Lpu rfl rfl ?_; refine L.nil (QE.seq (C.ret ?_)); refine QE.ret (js := []) (hs := [0]) (vs := [_]) rfl ⟨rfl, trivial⟩ (by decide) ?_
     exact ⟨A22, c22, rfl, rfl, rfl⟩
   · skip
     replace hc16 := of_decide_eq_false hc16
     refine C.skip (QE.seq (C.seq (C.region ?_))); refine Lpu rfl rfl ?_; refine Lpu rfl rfl ?_; refine L.nil (QE.seq (C.ret ?_)); refine QE.nil_own 3 1 ?_; refine QE.ret (js := []) (hs := [0]) (vs := [_]) rfl ⟨rfl, trivial⟩ (by decide) ?_
     exact ⟨none, 0, rfl, rfl, rfl⟩

theorem concat_c (LA : Option Addr) (ls : List (List Int)) (lc : Nat) (hs : List Hd) (hh : hs.length = ls.length) (hll : ls.length ≤ 9223372036854775807) (_hlr : ∀ i, (ls.getD i []).length ≤ 9223372036854775807) (hsum : ls.flatten.length ≤ 1000000) :
   Ctr X 54 [.slice LA ls.length lc] [Rd LA (rowsV hs (J8 ls)), KidsR hs (J8 ls)] [] (fun v R' H' => ∃ (A : Option Addr) (c : Nat), v = .slice A ls.flatten.length c ∧ R' = [] ∧ H' = [Own 3 1 A ls.flatten.length c (I64 ls.flatten)]) := by
 refine Ctr.of (X := X) (fn := Tryz.f54) Tryz.func54 rfl (by kernel_rfl) rfl ?_
 intro β
 refine C.seq (C.region ?_); refine Lpu rfl rfl ?_; refine L.nil (QE.seq (C.seq (C.region ?_))); refine Lpu rfl rfl ?_; refine L.nil (QE.seq (C.seq (C.seq (C.region ?_)))); refine Lpu rfl rfl ?_; refine Lpu rfl rfl ?_; refine Lpu rfl rfl ?_; refine L.nil (QE.seq (C.block ?_)); refine C.loop (fun i : Nat => [(0, .slice LA ls.length lc), (9, .slice LA ls.length lc), (10, .int .i64 (ls.length : Int)), (11, .int .i64 (i : Int)), (3, .int .i64 (((ls.take i).flatten.length : Nat) : Int))]) (fun i : Nat => [Rd LA (rowsV hs (J8 ls)), KidsR hs (J8 ls)]) (fun i : Nat => []) (fun i : Nat => i ≤ ls.length) (fun i : Nat => ls.length - i) 0 (Nat.zero_le _) (by exact Le.mk' (rs := [0, 1]) (hs := []) ⟨rfl, rfl, rfl, rfl, rfl, trivial⟩ ⟨rfl, rfl, trivial⟩ trivial (by decide)) ?_
 intro i hi
 refine C.seq (C.region ?_); refine Lpu rfl rfl ?_; refine L.nil (QE.seq (C.seq ?_))
 refine C.condB 12 rfl (fun hc12 => ?_) (fun hc12 => ?_)
 · skip
   replace hc12 := of_decide_eq_true hc12
   refine C.skip (QE.seq (C.seq (C.block (C.seq (C.region ?_))))); refine L.step (Ev.idx1 (k := i) rfl rfl rfl rfl rfl rfl rfl (by omega) (Src.r 0 rfl) (by rw [rowsV_len (by rw [J8_len]; exact hh), J8_len]; omega)) rfl ?_; refine L.step (Ev.load rfl rfl rfl (Src.r 0 rfl) (rowsJ_get hh (by omega))) rfl ?_; refine Lpu rfl rfl ?_; refine L.nil (QE.seq (C.seq ?_))
   have hf1 := flat_succ ls (i := i) (by omega)
   have hf2 := congrArg List.length hf1
   rw [List.length_append] at hf2
   have hf3 := flat_le ls (i + 1)
   refine C.region ?_; refine Lpu rfl rfl ?_; refine Lpu rfl rfl ?_; refine Lpu rfl rfl ?_; refine L.step (Ev.add rfl rfl (by omega) (by omega)) rfl ?_; refine Lpu rfl rfl ?_; refine L.nil (QE.seq (C.seq (C.region ?_))); refine Lpu rfl rfl ?_; refine Lpu rfl rfl ?_; refine L.nil (QE.seq ?_)
   refine C.condB 20 rfl (fun hc20 => ?_) (fun hc20 => ?_)
   · skip
     replace hc20 := of_decide_eq_true hc20
     omega
   · skip
     replace hc20 := of_decide_eq_false hc20
     refine C.skip ?_; refine QE.blkN ?_; refine QE.seq (C.region ?_); refine L.step (Ev.add rfl rfl (by omega) (by omega)) rfl ?_; refine Lpu rfl rfl ?_; refine L.nil ?_
     refine QE.round (i + 1) (by omega) (by omega) (by exact Le.mk' (rs := [0, 1]) (hs := []) ⟨rfl, rfl, rfl, rfl, (congrArg some (congrArg (Value.int .i64) (by omega))), trivial⟩ ⟨rfl, rfl, trivial⟩ trivial (by decide))
 · skip
   replace hc12 := of_decide_eq_false hc12
   refine C.exit ?_; refine QE.tX ?_; refine QE.tX ?_; refine QE.blk ?_; refine QE.seq (C.seq ?_)
   obtain rfl : i = ls.length := by omega
   rw [List.take_length]
   refine C.region ?_; refine Lpu rfl rfl ?_; refine L.call (js := []) (js' := []) (grow0_c ls.flatten.length hsum) rfl rfl rfl (by decide) trivial rfl ?_
   rintro _ _ _ ⟨GA, gc, rfl, rfl, rfl⟩
   refine L.norm (H' := [_]) [0] ⟨rfl, trivial⟩ (by decide) ?_; refine Lpu rfl rfl ?_; refine L.nil (QE.seq (C.seq (C.seq (C.region ?_)))); refine Lpu rfl rfl ?_; refine Lpu rfl rfl ?_; refine Lpu rfl rfl ?_; refine L.nil (QE.seq (C.block ?_)); refine C.loop (fun q : Nat × Option Addr × Nat => [(25, .slice LA ls.length lc), (26, .int .i64 (ls.length : Int)), (27, .int .i64 (q.1 : Int)), (6, .slice q.2.1 (ls.take q.1).flatten.length q.2.2)]) (fun q : Nat × Option Addr × Nat => [Rd LA (rowsV hs (J8 ls)), KidsR hs (J8 ls)]) (fun q : Nat × Option Addr × Nat => [Own 3 1 q.2.1 (ls.take q.1).flatten.length q.2.2 (I64 (ls.take q.1).flatten)]) (fun q : Nat × Option Addr × Nat => q.1 ≤ ls.length) (fun q : Nat × Option Addr × Nat => ls.length - q.1) (0, GA, gc) (Nat.zero_le _) (by exact Le.mk' (rs := [0, 1]) (hs := [0]) ⟨rfl, rfl, rfl, rfl, trivial⟩ ⟨rfl, rfl, trivial⟩ ⟨rfl, trivial⟩ (by decide)) ?_
   rintro ⟨i, A, c⟩ hi
   dsimp only at hi ⊢
   refine C.seq (C.region ?_); refine Lpu rfl rfl ?_; refine L.nil (QE.seq (C.seq ?_))
   refine C.condB 28 rfl (fun hc28 => ?_) (fun hc28 => ?_)
   · skip
     replace hc28 := of_decide_eq_true hc28
     refine C.skip (QE.seq (C.seq (C.block (C.seq (C.region ?_))))); refine L.step (Ev.idx1 (k := i) rfl rfl rfl rfl rfl rfl rfl (by omega) (Src.r 0 rfl) (by rw [rowsV_len (by rw [J8_len]; exact hh), J8_len]; omega)) rfl ?_; refine L.step (Ev.load rfl rfl rfl (Src.r 0 rfl) (rowsJ_get hh (by omega))) rfl ?_; refine Lpu rfl rfl ?_; refine L.nil (QE.seq ?_)
     have hf1 := flat_succ ls (i := i) (by omega)
     have hf2 := congrArg List.length hf1
     rw [List.length_append] at hf2
     have hf3 := flat_le ls (i + 1)
     refine C.region ?_; refine Lpu rfl rfl ?_; refine Lpu rfl rfl ?_
     refine L.append (j := 0) rfl rfl rfl rfl (by decide) rfl rfl rfl rfl (Src.cast (Src.kid 1 rfl (by rw [J8_len]; exact hh) i (by rw [J8_len]; omega)) (J8_get _)) ((I64_len _).trans (Nat.mul_one _).symm) (I64_one _) (by omega) (by show _ * 8 ≤ _; omega) rfl (fun A33 cc33 => ?_)
     refine Lpu rfl rfl ?_; refine L.nil ?_; refine QE.blkN ?_; refine QE.seq (C.region ?_); refine L.step (Ev.add rfl rfl (by omega) (by omega)) rfl ?_; refine Lpu rfl rfl ?_; refine L.nil ?_
     refine QE.round (i := (i, A, c)) ((i + 1, A33, cc33)) (by dsimp only; omega) (by dsimp only; omega) (by exact Le.mk' (rs := [0, 1]) (hs := [0]) ⟨rfl, rfl, rfl, (by dsimp only; rw [hf2]; rfl), trivial⟩ ⟨rfl, rfl, trivial⟩ ⟨(congrArg some (own_eq hf2.symm (by dsimp only; rw [hf1, ← I64_app]))), trivial⟩ (by decide))
   · skip
     replace hc28 := of_decide_eq_false hc28
     refine C.exit ?_; refine QE.tX ?_; refine QE.tX ?_; refine QE.blk ?_; refine QE.seq (C.seq (C.region ?_)); refine Lpu rfl rfl ?_; refine Lpu rfl rfl ?_; refine L.nil (QE.seq (C.ret ?_)); refine QE.ret (js := []) (hs := [0]) (vs := [_]) rfl ⟨rfl, trivial⟩ (by decide) ?_
     obtain rfl : i = ls.length := by omega
     rw [List.take_length]
     exact ⟨A, c, rfl, rfl, rfl⟩

end Go.Proofs.YtpccfdnmnnnboaaGreat
end
