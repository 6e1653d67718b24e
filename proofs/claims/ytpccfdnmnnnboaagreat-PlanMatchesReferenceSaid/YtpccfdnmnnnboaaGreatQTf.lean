/-
  What a plan reads in a flash with its stash, as plain data.
-/
import Derived.Test.YtpccfdnmnnnboaaGreatQPs
import Derived.Test.YtpccfdnmnnnboaaGreatQOj
import Derived.Test.YtpccfdnmnnnboaaGreatQSlS
section
namespace Go.Sl

def secB (data : List (List UInt8)) (fs i : Int) : Bool := decide (0 ≤ i) && decide (i < (data.length : Int)) && decide (((data.getD i.toNat []).length : Int) = fs)
def fitB (data : List (List UInt8)) (fs ls sz : Int) (n : Nat) (st lst : List Int) : Bool :=
 decide (fs = sz) && decide (ls = (n : Int)) && decide (st.length ≤ lst.length) && ((List.range n).all fun t => secB data fs (t : Int)) && ((List.range st.length).all fun i => secB data fs (lst.getD i 0))
section
variable {data : List (List UInt8)} {fs ls sz i : Int} {n t k : Nat} {st lst : List Int}
theorem secB_no1 (h : i < 0) : secB data fs i = false := by unfold secB; rw [decide_eq_false (by omega)]; rfl
theorem secB_no2 (h : (data.length : Int) ≤ i) : secB data fs i = false := by unfold secB; rw [decide_eq_false (show ¬ i < (data.length : Int) by omega)]; simp
theorem secB_no3 (h : ((data.getD i.toNat []).length : Int) ≠ fs) : secB data fs i = false := by unfold secB; rw [decide_eq_false h]; simp
theorem secB_yes (h1 : 0 ≤ i) (h2 : i < (data.length : Int)) (h3 : ((data.getD i.toNat []).length : Int) = fs) : secB data fs i = true := by unfold secB; rw [decide_eq_true h1, decide_eq_true h2, decide_eq_true h3]; rfl
theorem secB_iff : secB data fs i = true ↔ 0 ≤ i ∧ i < (data.length : Int) ∧ ((data.getD i.toNat []).length : Int) = fs := by
 unfold secB
 simp only [Bool.and_eq_true, decide_eq_true_eq, and_assoc]
theorem fit_iff : fitB data fs ls sz n st lst = true ↔ fs = sz ∧ ls = (n : Int) ∧ st.length ≤ lst.length ∧ (∀ t, t < n → secB data fs (t : Int) = true) ∧ ∀ i, i < st.length → secB data fs (lst.getD i 0) = true := by
 unfold fitB
 simp only [Bool.and_eq_true, decide_eq_true_eq, List.all_eq_true, List.mem_range, and_assoc]
theorem fit_no (h : ¬(fs = sz ∧ ls = (n : Int) ∧ st.length ≤ lst.length ∧ (∀ t, t < n → secB data fs (t : Int) = true) ∧ ∀ i, i < st.length → secB data fs (lst.getD i 0) = true)) : fitB data fs ls sz n st lst = false := by
 cases hb : fitB data fs ls sz n st lst with
 | false => rfl
 | true => exact absurd (fit_iff.1 hb) h
/-- The sector where a sector of the image is read. -/
def secT (st lst : List Int) (k t : Nat) : Int := if (st.take k).contains (t : Int) = true then lst.getD (st.idxOf (t : Int)) 0 else (t : Int)
def secL (st lst : List Int) (n k : Nat) : List Int := (List.range n).map (secT st lst k)
theorem secL_len (st lst : List Int) (n k : Nat) : (secL st lst n k).length = n := by simp [secL]
theorem secL_get (h : t < n) : (secL st lst n k).getD t 0 = secT st lst k t := map_range_getD h _
theorem secL_zero : secL st lst n 0 = NI (List.range n) := by
 unfold secL NI
 refine List.map_congr_left fun t _ => ?_
 unfold secT
 rw [List.take_zero, if_neg (by simp)]
theorem idxOf_at {l : List Int} (hn : l.Nodup) (h : k < l.length) : l.idxOf (l.getD k 0) = k := by
 have hm : l.getD k 0 ∈ l := by
   rw [List.getD_eq_getElem?_getD, List.getElem?_eq_getElem h]
   exact List.getElem_mem h
 have h1 := List.idxOf_lt_length_iff.2 hm
 have h2 : l.getD (l.idxOf (l.getD k 0)) 0 = l.getD k 0 := by
   rw [List.getD_eq_getElem?_getD, List.getElem?_eq_getElem h1]
   simp
 rcases Nat.lt_trichotomy (l.idxOf (l.getD k 0)) k with g | g | g
 · exact absurd h2 (nodupI_ne hn _ _ g h)
 · exact g
 · exact absurd h2.symm (nodupI_ne hn _ _ g h1)
theorem secL_succ (hn : st.Nodup) (hk : k < st.length) (ht : st.getD k 0 = (t : Int)) : (secL st lst n k).set t (lst.getD k 0) = secL st lst n (k + 1) := by
 refine ext_getD (d := 0) (by rw [List.length_set, secL_len, secL_len]) (fun u hu => ?_)
 rw [List.length_set, secL_len] at hu
 rw [secL_get hu]
 have htk : st.take (k + 1) = st.take k ++ [(t : Int)] := by rw [take_snoc' st 0 k hk, ht]
 by_cases e : t = u
 · subst e
   rw [getD_set_eq (by rw [secL_len]; exact hu)]
   unfold secT
   rw [htk, if_pos (by simp), ← ht, idxOf_at hn hk]
 · rw [getD_set_ne e, secL_get hu]
   unfold secT
   rw [htk]
   have : (st.take k ++ [(t : Int)]).contains (u : Int) = (st.take k).contains (u : Int) := by
     rw [Bool.eq_iff_iff, List.contains_iff_mem, List.contains_iff_mem, List.mem_append, List.mem_singleton]
     constructor
     · rintro (h | h)
       · exact h
       · omega
     · exact .inl
   rw [this]
/-- The bytes of the input. -/
def inB (data : List (List UInt8)) (st lst : List Int) (S i : Nat) : UInt8 := (data.getD (secT st lst st.length (i / S)).toNat []).getD (i % S) 0
def inL (data : List (List UInt8)) (st lst : List Int) (S k : Nat) : List UInt8 := (List.range k).map (inB data st lst S)
theorem inL_len (data : List (List UInt8)) (st lst : List Int) (S k : Nat) : (inL data st lst S k).length = k := by simp [inL]
theorem inL_succ (data : List (List UInt8)) (st lst : List Int) (S k : Nat) : inL data st lst S (k + 1) = inL data st lst S k ++ [inB data st lst S k] := by simp [inL, List.range_succ]
theorem secT_idx : secT st lst st.length t = if 0 ≤ idxJ st (t : Int) then lst.getD (idxJ st (t : Int)).toNat 0 else (t : Int) := by
 unfold secT idxJ
 rw [List.take_length]
 by_cases h : st.contains (t : Int) = true
 · rw [if_pos h, if_pos h, if_pos (by omega), Int.toNat_natCast]
 · rw [if_neg h, if_neg h, if_neg (by omega)]
/-- Sectors one behind the other. -/
def catL (data : List (List UInt8)) (secs : List Int) (k : Nat) : List UInt8 := (secs.take k).flatMap fun i => data.getD i.toNat []
theorem catL_succ {secs : List Int} (h : k < secs.length) : catL data secs (k + 1) = catL data secs k ++ data.getD (secs.getD k 0).toNat [] := by
 unfold catL
 rw [take_snoc' secs 0 k h, List.flatMap_append]
 simp
theorem catL_len {secs : List Int} {S : Nat} (h : ∀ i, i < secs.length → (data.getD (secs.getD i 0).toNat []).length = S) : ∀ k, k ≤ secs.length → (catL data secs k).length = k * S
 | 0, _ => by simp [catL]
 | k + 1, hk => by rw [catL_succ hk, List.length_append, catL_len h k (by omega), h k hk, Nat.succ_mul]
theorem catL_get {secs : List Int} {S : Nat} (hS : 1 ≤ S) (h : ∀ i, i < secs.length → (data.getD (secs.getD i 0).toNat []).length = S) : ∀ k, k ≤ secs.length → ∀ i, i < k * S → (catL data secs k).getD i 0 = (data.getD (secs.getD (i / S) 0).toNat []).getD (i % S) 0
 | 0, _, i, hi => by omega
 | k + 1, hk, i, hi => by
   have hl := catL_len h k (by omega)
   rw [catL_succ hk]
   rw [Nat.succ_mul] at hi
   by_cases q : i < k * S
   · rw [List.getD_eq_getElem?_getD, List.getElem?_append_left (by omega), ← List.getD_eq_getElem?_getD, catL_get hS h k (by omega) i q]
   · have e1 : i / S = k := (in_sector hS).2 (by omega)
     have e2 : i % S = i - k * S := by
       have := Nat.div_add_mod i S
       rw [e1, Nat.mul_comm] at this
       omega
     rw [List.getD_eq_getElem?_getD, List.getElem?_append_right (by omega), hl, e1, e2, ← List.getD_eq_getElem?_getD]
theorem in_cat {S m : Nat} (hS : 1 ≤ S) (h : ∀ i, i < n → (data.getD (secT st lst st.length i).toNat []).length = S) (hm : m ≤ n * S) : (catL data (secL st lst n st.length) n).take m = inL data st lst S m := by
 have hh : ∀ i, i < (secL st lst n st.length).length → (data.getD ((secL st lst n st.length).getD i 0).toNat []).length = S := fun i hi => by
   rw [secL_len] at hi
   rw [secL_get hi]
   exact h i hi
 have hl := catL_len hh n (by rw [secL_len]; exact Nat.le_refl _)
 refine ext_getD (d := 0) (by rw [List.length_take, hl, inL_len]; omega) (fun i hi => ?_)
 rw [List.length_take, hl] at hi
 have hin : i / S < n := by
   rw [Nat.div_lt_iff_lt_mul (by omega)]
   omega
 rw [List.getD_eq_getElem?_getD, List.getElem?_take_of_lt (by omega), ← List.getD_eq_getElem?_getD, catL_get hS hh n (by rw [secL_len]; exact Nat.le_refl _) i (by omega), secL_get hin]
 exact (map_range_getD (g := inB data st lst S) (by omega) 0).symm
end
/-- The stash of a valid plan. -/
theorem st_fine {chg : List Nat} {st : List Int} (h : stB (NI chg) st = true) : st.Nodup ∧ ∀ i, i < st.length → ∃ t : Nat, st.getD i 0 = (t : Int) ∧ t ∈ chg := by
 have hall := List.all_eq_true.1 h
 have key : ∀ i, i < st.length → (∃ t : Nat, st.getD i 0 = (t : Int) ∧ t ∈ chg) ∧ (0 < i → st.getD (i - 1) 0 < st.getD i 0) := by
   intro i hi
   have h1 := hall i (List.mem_range.2 hi)
   unfold stT at h1
   rw [Bool.and_eq_true, List.contains_iff_mem] at h1
   obtain ⟨t, ht, e⟩ := List.mem_map.1 h1.1
   refine ⟨⟨t, e.symm, ht⟩, fun h0 => ?_⟩
   have h2 := h1.2
   rw [decide_eq_true h0, Bool.true_and, Bool.not_eq_true'] at h2
   have := of_decide_eq_false h2
   omega
 have mono : ∀ d i, i + d + 1 < st.length → st.getD i 0 < st.getD (i + d + 1) 0 := by
   intro d
   induction d with
   | zero =>
     intro i hi
     have := (key (i + 1) hi).2 (by omega)
     simpa using this
   | succ d ih =>
     intro i hi
     have h1 := ih i (by omega)
     have h2 := (key (i + (d + 1) + 1) hi).2 (by omega)
     rw [show i + (d + 1) + 1 - 1 = i + d + 1 by omega] at h2
     omega
 refine ⟨?_, fun i hi => (key i hi).1⟩
 show List.Pairwise (· ≠ ·) st
 rw [List.pairwise_iff_getElem]
 intro i j hi hj hij e
 have := mono (j - i - 1) i (by omega)
 rw [show i + (j - i - 1) + 1 = j by omega, List.getD_eq_getElem?_getD, List.getD_eq_getElem?_getD, List.getElem?_eq_getElem hi, List.getElem?_eq_getElem hj] at this
 simp [e] at this
/-! ### Numbers one after the other -/
def rngL (n i : Nat) : List Int := (List.range n).map fun (t : Nat) => if t < i then (t : Int) else 0
theorem rngL_len (n i : Nat) : (rngL n i).length = n := by simp [rngL]
theorem rngL_zero (n : Nat) : rngL n 0 = List.replicate n 0 := by
 refine ext_getD (d := 0) (by simp [rngL]) (fun i hi => ?_)
 rw [rngL_len] at hi
 unfold rngL
 rw [map_range_getD hi, getD_rep _ _ _ _ hi]
 simp
theorem rngL_set {n i : Nat} (_h : i < n) : (rngL n i).set i (i : Int) = rngL n (i + 1) := by
 refine ext_getD (d := 0) (by rw [List.length_set, rngL_len, rngL_len]) (fun u hu => ?_)
 rw [List.length_set, rngL_len] at hu
 by_cases e : i = u
 · subst e
   rw [getD_set_eq (by rw [rngL_len]; exact hu)]
   unfold rngL
   rw [map_range_getD hu, if_pos (Nat.lt_succ_self _)]
 · rw [getD_set_ne e]
   unfold rngL
   rw [map_range_getD hu, map_range_getD hu]
   by_cases q : u < i
   · rw [if_pos q, if_pos (by omega)]
   · rw [if_neg q, if_neg (by omega)]
theorem rngL_all (n : Nat) : rngL n n = NI (List.range n) := by
 unfold rngL NI
 refine List.map_congr_left fun t ht => ?_
 rw [if_pos (List.mem_range.1 ht)]
/-- The sectors that must be there. -/
def mustL (n : Nat) (lst : List Int) (m : Nat) : List Int := NI (List.range n) ++ lst.take m
theorem must_len {n m : Nat} {lst : List Int} (h : m ≤ lst.length) : (mustL n lst m).length = n + m := by
 unfold mustL
 rw [List.length_append, NI_len, List.length_range, List.length_take]
 omega
theorem must_lo {n m t : Nat} {lst : List Int} (h : t < n) : (mustL n lst m).getD t 0 = (t : Int) := by
 unfold mustL
 rw [List.getD_eq_getElem?_getD, List.getElem?_append_left (by rw [NI_len, List.length_range]; exact h)]
 simp [NI, h]
theorem must_hi {n m i : Nat} {lst : List Int} (h : i < m) : (mustL n lst m).getD (n + i) 0 = lst.getD i 0 := by
 unfold mustL
 rw [List.getD_eq_getElem?_getD, List.getElem?_append_right (by rw [NI_len, List.length_range]; omega), NI_len, List.length_range, List.getElem?_take_of_lt (by omega), show n + i - n = i by omega, ← List.getD_eq_getElem?_getD]
/-! ### Contents of a sector -/
def cntE (lf : Bool) (sz n inn out : Int) (ops : List Po) (seq st : List Int) (data : List (List UInt8)) (fs ls : Int) (lst : List Int) (k : Int) : Int :=
 if vldB lf sz n inn out ops seq st = false then 190 else if k < 0 ∨ (seq.length : Int) ≤ k then 1 else if fitB data fs ls sz n.toNat st lst = false then 220 else 0
def cntL (sz inn : Int) (ops : List Po) (seq st : List Int) (data : List (List UInt8)) (lst : List Int) (k : Int) : List UInt8 :=
 ctF (runB (inL data st lst sz.toNat inn.toNat) (symL ops)) (seq.getD k.toNat 0).toNat sz.toNat
def cntV (lf : Bool) (sz n inn out : Int) (ops : List Po) (seq st : List Int) (data : List (List UInt8)) (fs ls : Int) (lst : List Int) (k : Int) : List UInt8 :=
 if cntE lf sz n inn out ops seq st data fs ls lst k = 0 then cntL sz inn ops seq st data lst k else []
section
variable {lf : Bool} {sz n inn out : Int} {ops : List Po} {seq st : List Int} {data : List (List UInt8)} {fs ls : Int} {lst : List Int} {k : Int}
theorem cntE_1 (h : vldB lf sz n inn out ops seq st = false) : cntE lf sz n inn out ops seq st data fs ls lst k = 190 := by unfold cntE; rw [if_pos h]
theorem cntE_2 (h : vldB lf sz n inn out ops seq st = true) (h2 : k < 0 ∨ (seq.length : Int) ≤ k) : cntE lf sz n inn out ops seq st data fs ls lst k = 1 := by unfold cntE; rw [if_neg (by rw [h]; decide), if_pos h2]
theorem cntE_3 (h : vldB lf sz n inn out ops seq st = true) (h2 : ¬(k < 0 ∨ (seq.length : Int) ≤ k)) (h3 : fitB data fs ls sz n.toNat st lst = false) : cntE lf sz n inn out ops seq st data fs ls lst k = 220 := by unfold cntE; rw [if_neg (by rw [h]; decide), if_neg h2, if_pos h3]
theorem cntE_0 (h : vldB lf sz n inn out ops seq st = true) (h2 : ¬(k < 0 ∨ (seq.length : Int) ≤ k)) (h3 : fitB data fs ls sz n.toNat st lst = true) : cntE lf sz n inn out ops seq st data fs ls lst k = 0 := by unfold cntE; rw [if_neg (by rw [h]; decide), if_neg h2, if_neg (by rw [h3]; decide)]
theorem cntV_no (h : cntE lf sz n inn out ops seq st data fs ls lst k ≠ 0) : cntV lf sz n inn out ops seq st data fs ls lst k = [] := by unfold cntV; rw [if_neg h]
theorem cntV_ok (h : cntE lf sz n inn out ops seq st data fs ls lst k = 0) : cntV lf sz n inn out ops seq st data fs ls lst k = cntL sz inn ops seq st data lst k := by unfold cntV; rw [if_pos h]
end
end Go.Sl
end
/-
  The small separation logic: append of made elements to nil, a slice that keeps nothing, two inner slices.
-/
section
namespace Go.Sl

theorem run_append_nilZ {P : Program} (w : World) (t tn ty e : TypeId) (i : TypeInfo) (z : Value) (k kn : IntKind) (ht : P.underlying t = some (.slice e)) (htn : P.underlying tn = some (.int kn)) (hi : P.info? e = some i) (hz : i.zero = some z)
   (q : Nat) (h0 : 0 < q) (hs : 0 < i.size) (h63 : ((q : Nat) : Int) ≤ 9223372036854775807) (h48 : q * i.bytes ≤ 281474976710656) (hfit : Builtin.nextslicecap q 0 * i.bytes ≤ 281474976710656) :
   (Builtin.append_ #[t, tn] ty #[.slice none 0 0, .int k q]).run P w =
     .ok (.slice (some ⟨w.heap.size, 0, none⟩) q (grownCap w q 0 e))
       (w.drew.alloc (.cells (Builtin.zeroCells z.cells q ++ Builtin.zeroCells z.cells (grownCap w q 0 e - q)) e)) := by
 have hn : ¬ (q ≤ 0) := by omega
 have hw : IntKind.i64.wrap (q : Int) = q := by rw [IntKind.wrap_i64]; omega
 have h63' : ¬ (9223372036854775807 < (q : Int)) := by omega
 have h48' : ¬ (281474976710656 < Builtin.nextslicecap q 0 * i.bytes) := by omega
 have h48i : ¬ (281474976710656 < (q : Int) * (i.bytes : Int)) := by
   rw [← Int.natCast_mul]
   omega
 have hneg : ¬ ((q : Int) < 0) := by omega
 have hns : ¬ (q * i.size = 0) := Nat.mul_ne_zero (by omega) (by omega)
 have hq0 : ¬ q = 0 := by omega
 simp [Builtin.append_, run_underlying ht, run_underlying htn, sizeOf, typeInfo, zeroValue, hi, hz, asInt, asIntOf, hw, hneg, hns, h63', h48', h48i, Question.forced, run_firstCells_none, newRow, grownCap, hq0]

section
variable {X : Cx} {β : Base} {n : Nat} {ds : List Deferred} {ops : Array Oper} {Q : Exit → Act → World → Prop} {rest : List Oper} {Γ : Env} {R H : List Pr}

/-- append(nil, make([]T, q)...) -/
theorem L.nilZ {d t tn e ty q : Nat} {pos : String} {af : Array Edge} {x y : Operand} {i ei it : Ti} {kn kq : IntKind} {z : Value} (ht : tlook t X.tab = some i) (hdesc : i.desc = .slice e) (he : tlook e X.tab = some ei) (hsz : ei.size = 1) (hz : ei.zero = z) (hzc : z.cells = #[z])
   (htn : tlook tn X.tab = some it) (hit : it.desc = .int kn) (hx : ev Γ x = some (.slice none 0 0)) (hy : ev Γ y = some (.int kq (q : Int))) (hq : 0 < q)
   (hml : q ≤ 9223372036854775807) (hb : q * ei.bytes ≤ 140737488355328) (hd : Nat.blt d n = true)
   (k : ∀ A' c', L X β n ds ops Q rest ((d, .slice A' q c') :: Γ) R (H ++ [Own e 1 A' q c' (List.replicate q z)])) :
   L X β n ds ops Q (⟨some d, .call ⟨.builtin .append, #[x, y], #[t, tn]⟩, ty, pos, af, none⟩ :: rest) Γ R H := by
 intro a w hf hsat
 refine wpList_plain rfl fun K hK => ?_
 obtain ⟨e1, _⟩ := X.ok _ _ ht
 rw [hdesc] at e1
 obtain ⟨e2, _⟩ := X.ok _ _ htn
 rw [hit] at e2
 obtain ⟨_, jf, hjf, g1, g2, g3⟩ := X.ok _ _ he
 have hfit : Builtin.nextslicecap q 0 * jf.bytes ≤ 281474976710656 := by
   have h1 := nextslicecap_le (need := q) (old := 0) (by omega)
   have h2 := Nat.mul_le_mul_right jf.bytes h1
   rw [g2] at h2 ⊢
   have h3 : 2 * q * ei.bytes = 2 * (q * ei.bytes) := Nat.mul_assoc _ _ _
   omega
 have hqb : q * jf.bytes ≤ 281474976710656 := by rw [g2]; omega
 have hrun := run_append_nilZ (P := X.P) w t tn ty e jf ei.zero kq kn e1 e2 hjf g3 q hq (by rw [g1, hsz]; decide) (by omega) hqb hfit
 have hrun' : (execOp a.eval ⟨some d, .call ⟨.builtin .append, #[x, y], #[t, tn]⟩, ty, pos, af, none⟩).run X.P w = .ok (.value (.slice (some ⟨w.heap.size, 0, none⟩) q (grownCap w q 0 e))) (w.drew.alloc (.cells (Builtin.zeroCells ei.zero.cells q ++ Builtin.zeroCells ei.zero.cells (grownCap w q 0 e - q)) e)) := by
   simp only [execOp, resolve, invoke, builtin, Sem.run_bind, Sem.run_pure, Result.andThen_ok, List.map_toArray, List.map_cons, List.map_nil, hf.eval hx, hf.eval hy, hrun]
 unfold Oper.wp
 rw [hrun']
 have hge := grownCap_ge w q 0 e
 have hle := grownCap_le_maxLen w q 0 e (by unfold maxLen; omega)
 have hz1 : ∀ r, (Builtin.zeroCells ei.zero.cells r).size = r := fun r => by rw [size_zeroCells, hz, hzc]; simp
 refine hK _ _ (k (some ⟨w.heap.size, 0, none⟩) _ _ _ (hf.put (by simpa [Nat.blt_eq] using hd) _) (hsat.snoc ((Stp.drew w _).trans (Stp.alloc _ _ _)) (fun _ h _ => h) _ ?_ ?_))
 · refine ⟨by rw [List.length_replicate, Nat.mul_one], .inr ⟨w.heap.size, _, _, rfl, Nat.zero_le _, heap_alloc_new w.drew _, hge, hle, ?_, ?_⟩⟩
   · rw [Array.size_append, hz1, hz1]
     omega
   · rw [Array.toList_append, hz, zeroCells_list hzc]
     have h1 : (List.replicate q z).length = q * 1 := by rw [List.length_replicate, Nat.mul_one]
     rw [← h1, List.take_left]
 · intro k hk
   have := own_fp hk
   subst this
   exact ⟨by simp, Nat.le_refl _⟩
theorem Own.empty {w : World} {e m c : Nat} {A : Option Addr} {xs : List Value} (h : (Own e 1 A m c xs).p w) : (Own e 1 A 0 c []).p w := by
 refine ⟨rfl, ?_⟩
 rcases h.2 with ⟨hv, h0⟩ | ⟨g, cap, cur, hv, hb, hh, h3, h4, h5, h6⟩
 · injection hv with h7 h8 h9
   subst h7 h9
   exact .inl ⟨rfl, rfl⟩
 · injection hv with h7 h8 h9
   subst h7 h9
   exact .inr ⟨g, c, cur, rfl, hb, hh, Nat.zero_le _, h4, h5, by simp⟩
theorem L.empty {e m c : Nat} {A : Option Addr} {xs : List Value} {H' : List Pr} (h : L X β n ds ops Q rest Γ R (Own e 1 A 0 c [] :: H')) : L X β n ds ops Q rest Γ R (Own e 1 A m c xs :: H') :=
 fun a w hf hs => h a w hf (hs.repl (fun h => Own.empty h) (fun _ hk => hk))
theorem Has.kids2 {A B : Option Addr} {xs ys : List Value} (c d : Nat) (h1 : Has R H (Rd A xs)) (h2 : Has R H (Rd B ys)) : Has R H (KidsR [(A, c), (B, d)] [xs, ys]) := by
 have key : ∀ (i : Nat) (h : Hd) (v : List Value), [(A, c), (B, d)][i]? = some h → [xs, ys][i]? = some v → Has R H (Rd h.1 v) := by
   intro i h v hh hv
   match i, hh, hv with
   | 0, hh, hv =>
     obtain rfl : (A, c) = h := by simpa using hh
     obtain rfl : xs = v := by simpa using hv
     exact h1
   | 1, hh, hv =>
     obtain rfl : (B, d) = h := by simpa using hh
     obtain rfl : ys = v := by simpa using hv
     exact h2
   | i + 2, hh, hv => simp at hh
 exact ⟨fun β w hs i h v hh hv => (key i h v hh hv).1 β w hs, fun k ⟨i, h, v, hh, hv, hk⟩ => (key i h v hh hv).2 k hk⟩
theorem Has.at {A : Option Addr} {xs : List Value} (h : Has R H (Rd A xs)) (k m : Nat) : Has R H (Rd (A.map (·.add k)) ((xs.drop k).take m)) := by
 have h1 := h.sub (xs.length + k + 1) k 1 m (by omega)
 unfold subA at h1
 rw [if_neg (by omega), Nat.mul_one] at h1
 exact h1
end
end Go.Sl
end
