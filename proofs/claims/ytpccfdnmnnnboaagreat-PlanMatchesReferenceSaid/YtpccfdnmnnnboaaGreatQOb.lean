/-
  Sets as numbers, and the first order, as plain data.
-/
import Derived.Test.YtpccfdnmnnnboaaGreatQSlV
namespace Go.Sl

def U64L (l : List Nat) : List Value := l.map fun (m : Nat) => .int .u64 (m : Int)
theorem U64L_len (l : List Nat) : (U64L l).length = l.length := by simp [U64L]
theorem U64L_get {l : List Nat} {k : Nat} (h : k < l.length) : (U64L l)[k]? = some (.int .u64 ((l.getD k 0 : Nat) : Int)) := by simp [U64L, h]
theorem U64L_set (l : List Nat) (k m : Nat) : (U64L l).set k (.int .u64 (m : Int)) = U64L (l.set k m) := by simp [U64L, List.map_set]
theorem U64L_rep (n : Nat) : List.replicate n (Value.int .u64 0) = U64L (List.replicate n 0) := by simp [U64L]
theorem mask_lt {m n : Nat} (hn : n ≤ 64) (h : ∀ i, n ≤ i → m.testBit i = false) : m < 18446744073709551616 := by
 have : m < 2 ^ 64 := Nat.lt_pow_two_of_testBit m (fun i hi => h i (by omega))
 simpa using this
theorem or_bit (m t i : Nat) : (m ||| 1 * 2 ^ t).testBit i = (m.testBit i || decide (t = i)) := by
 rw [Nat.one_mul, Nat.testBit_or, Nat.testBit_two_pow]
/-- Numbers as numbers. -/
def NI (l : List Nat) : List Int := l.map fun (t : Nat) => (t : Int)
theorem NI_len (l : List Nat) : (NI l).length = l.length := by simp [NI]
theorem NI_app (a b : List Nat) : NI (a ++ b) = NI a ++ NI b := by simp [NI]
theorem NI_has (l : List Nat) (t : Nat) : (NI l).contains (t : Int) = l.contains t := by
 rw [Bool.eq_iff_iff, List.contains_iff_mem, List.contains_iff_mem]
 simp only [NI, List.mem_map]
 constructor
 · rintro ⟨a, h, e⟩
   obtain rfl : a = t := by omega
   exact h
 · exact fun h => ⟨t, h, rfl⟩
/-- Which sectors may come next. -/
def nxtB (n : Nat) (p : Nat → Nat → Bool) (st : Nat → Bool) (out : List Nat) (t : Nat) : Bool := !out.contains t && (st t || (List.range n).all fun u => !p u t || out.contains u)
def frs (n : Nat) (p : Nat → Nat → Bool) (st : Nat → Bool) : Nat → List Nat
 | 0 => []
 | k + 1 => match (List.range n).find? (nxtB n p st (frs n p st k)) with
   | none => frs n p st k
   | some t => frs n p st k ++ [t]
section
variable {n : Nat} {p : Nat → Nat → Bool} {st : Nat → Bool}
theorem frs_none {k : Nat} (h : ∀ t, t < n → nxtB n p st (frs n p st k) t = false) : frs n p st (k + 1) = frs n p st k := by
 have e : (List.range n).find? (nxtB n p st (frs n p st k)) = none := by
   rw [List.find?_eq_none]
   intro t ht
   rw [h t (List.mem_range.1 ht)]
   decide
 rw [frs, e]
theorem find_first' {q : Nat → Bool} {n t : Nat} (h1 : ∀ i, i < t → q i = false) (ht : t < n) (h2 : q t = true) : (List.range n).find? q = some t := by
 rw [List.find?_range_eq_some]
 exact ⟨h2, List.mem_range.2 ht, fun j hj => by rw [h1 j hj]; rfl⟩
theorem frs_some {k t : Nat} (h1 : ∀ i, i < t → nxtB n p st (frs n p st k) i = false) (ht : t < n) (h2 : nxtB n p st (frs n p st k) t = true) : frs n p st (k + 1) = frs n p st k ++ [t] := by
 rw [frs, find_first' h1 ht h2]
theorem frs_len (k : Nat) : (frs n p st k).length ≤ k := by
 induction k with
 | zero => exact Nat.le_refl _
 | succ k ih =>
   rw [frs]
   split
   · omega
   · rw [List.length_append]
     simp
     exact ih
theorem frs_mem (k : Nat) : ∀ t ∈ frs n p st k, t < n := by
 induction k with
 | zero => intro t h; cases h
 | succ k ih =>
   intro t ht
   rw [frs] at ht
   split at ht
   · exact ih t ht
   · rename_i s hs
     rcases List.mem_append.1 ht with h | h
     · exact ih t h
     · obtain rfl := List.mem_singleton.1 h
       exact List.mem_range.1 (List.mem_of_find?_eq_some hs)
end
/-- What the masks of the readers say. -/
def RdIs (n : Nat) (p : Nat → Nat → Bool) (ms : List Nat) : Prop := ms.length = n ∧ ∀ t, t < n → ∀ u, (ms.getD t 0).testBit u = (decide (u < n) && p u t)
theorem sub_all {n r d : Nat} {p : Nat → Bool} {out : List Nat} (hr : ∀ u, r.testBit u = (decide (u < n) && p u)) (hd : ∀ u, d.testBit u = out.contains u) {c : Nat} (hc : ∀ i, c.testBit i = (r.testBit i && !d.testBit i)) :
   (c = 0) ↔ ((List.range n).all fun u => !p u || out.contains u) = true := by
 simp only [List.all_eq_true, List.mem_range]
 constructor
 · intro h u hu
   have := hc u
   rw [h, Nat.zero_testBit, hr, hd, decide_eq_true hu] at this
   revert this
   cases p u <;> cases out.contains u <;> simp
 · intro h
   apply Nat.eq_of_testBit_eq
   intro i
   rw [Nat.zero_testBit, hc, hr, hd]
   by_cases hi : i < n
   · have := h i hi
     rw [decide_eq_true hi]
     revert this
     cases p i <;> cases out.contains i <;> simp
   · rw [decide_eq_false hi]
     rfl
/-- The members of a set. -/
def mem (m t : Nat) : List Nat := (List.range t).filter m.testBit
theorem mem_yes {m t : Nat} (h : m.testBit t = true) : mem m (t + 1) = mem m t ++ [t] := by simp [mem, List.range_succ, List.filter_append, h]
theorem mem_no {m t : Nat} (h : m.testBit t = false) : mem m (t + 1) = mem m t := by simp [mem, List.range_succ, List.filter_append, h]
theorem mem_len (m t : Nat) : (mem m t).length ≤ t := by
 have := List.length_filter_le m.testBit (List.range t)
 rwa [List.length_range] at this
theorem mem_end {m t : Nat} (h : ∀ i, t ≤ i → m.testBit i = false) : ∀ d, mem m (t + d) = mem m t
 | 0 => rfl
 | d + 1 => by rw [← Nat.add_assoc, mem_no (h _ (Nat.le_add_right _ _)), mem_end h d]

/-! ### The readers -/
def RdI (n u j : Nat) (ls : List (List Int)) (ms : List Nat) : Prop :=
 ms.length = n ∧ ∀ t, t < n → ∀ i, (ms.getD t 0).testBit i = ((decide (i < u) && (ls.getD i []).contains (t : Int)) || (decide (i = u) && ((ls.getD u []).take j).contains (t : Int)))
section
variable {n u j : Nat} {ls : List (List Int)} {ms : List Nat}
theorem RdI.start (n : Nat) (ls : List (List Int)) : RdI n 0 0 ls (List.replicate n 0) := by
 refine ⟨List.length_replicate, fun t ht i => ?_⟩
 rw [getD_rep _ _ _ _ ht, Nat.zero_testBit]
 simp
theorem take_has (l : List Int) (j : Nat) (x : Int) (hj : j < l.length) : (l.take (j + 1)).contains x = ((l.take j).contains x || decide (l.getD j 0 = x)) := by
 rw [take_snoc' l 0 j hj, Bool.eq_iff_iff, Bool.or_eq_true, decide_eq_true_eq, List.contains_iff_mem, List.contains_iff_mem, List.mem_append, List.mem_singleton]
 exact or_congr Iff.rfl eq_comm
theorem RdI.next (h : RdI n u j ls ms) (hj : j < (ls.getD u []).length) (h0 : 0 ≤ (ls.getD u []).getD j 0) (h1 : (ls.getD u []).getD j 0 < (n : Int)) :
   RdI n u (j + 1) ls (ms.set ((ls.getD u []).getD j 0).toNat (ms.getD ((ls.getD u []).getD j 0).toNat 0 ||| 1 * 2 ^ u)) := by
 refine ⟨by rw [List.length_set]; exact h.1, fun t ht i => ?_⟩
 rw [take_has _ _ _ hj]
 by_cases e : ((ls.getD u []).getD j 0).toNat = t
 · have e2 : (ls.getD u []).getD j 0 = (t : Int) := by omega
   rw [e, getD_set_eq (by rw [h.1]; exact ht), or_bit, h.2 t ht, e2, decide_eq_true rfl]
   by_cases hi : i = u
   · subst hi
     simp
   · have hi' : ¬u = i := fun x => hi x.symm
     simp [hi, hi']
 · have e2 : ¬(ls.getD u []).getD j 0 = (t : Int) := by omega
   rw [getD_set_ne e, h.2 t ht, decide_eq_false e2, Bool.or_false]
theorem RdI.row (h : RdI n u j ls ms) (hj : (ls.getD u []).length ≤ j) : RdI n (u + 1) 0 ls ms := by
 refine ⟨h.1, fun t ht i => ?_⟩
 rw [h.2 t ht, List.take_of_length_le hj, List.take_zero]
 by_cases h1 : i < u
 · have h2 : i < u + 1 := by omega
   have h3 : ¬i = u := by omega
   simp [h1, h2, h3]
 · by_cases h3 : i = u
   · subst h3
     simp
   · have h2 : ¬i < u + 1 := by omega
     simp [h1, h2, h3]
theorem RdI.done (h : RdI n n 0 ls ms) : RdIs n (fun u t => (ls.getD u []).contains (t : Int)) ms := by
 refine ⟨h.1, fun t ht i => ?_⟩
 rw [h.2 t ht, List.take_zero]
 simp
theorem RdI.lt (h : RdI n u j ls ms) (hu : u < 64) {t : Nat} (ht : t < n) : ms.getD t 0 < 18446744073709551616 := by
 refine mask_lt (n := 64) (Nat.le_refl _) (fun i hi => ?_)
 rw [h.2 t ht, decide_eq_false (by omega), decide_eq_false (by omega)]
 rfl
theorem RdIs.lt {p : Nat → Nat → Bool} (h : RdIs n p ms) (hn : n ≤ 64) {t : Nat} (ht : t < n) : ms.getD t 0 < 18446744073709551616 := by
 refine mask_lt hn (fun i hi => ?_)
 rw [h.2 t ht, decide_eq_false (by omega)]
 rfl
theorem pow_small {u : Nat} (h : u < 64) : 1 * 2 ^ u < 18446744073709551616 := by
 have := Nat.pow_lt_pow_right (a := 2) (by decide) h
 omega
theorem shr_big {m t : Nat} (hm : m < 18446744073709551616) (ht : 64 ≤ t) : m >>> t = 0 := by
 rw [Nat.shiftRight_eq_div_pow]
 have := Nat.pow_le_pow_right (n := 2) (by decide) ht
 exact Nat.div_eq_of_lt (by omega)
end
/-! ### The first order, step by step -/
section
variable {n k t d S : Nat} {p : Nat → Nat → Bool} {st : Nat → Bool} {out : List Nat}
theorem nxt_in (h : out.contains t = true) : nxtB n p st out t = false := by unfold nxtB; rw [h]; rfl
theorem nxt_st (h : out.contains t = false) (h2 : st t = true) : nxtB n p st out t = true := by unfold nxtB; rw [h, h2]; rfl
theorem nxt_rd (h : out.contains t = false) (h2 : st t = false) : nxtB n p st out t = (List.range n).all fun u => !p u t || out.contains u := by unfold nxtB; rw [h, h2]; rfl
theorem done_step (h : ∀ u, d.testBit u = out.contains u) : ∀ u, (d ||| 1 * 2 ^ t).testBit u = (out ++ [t]).contains u := by
 intro u
 rw [or_bit, h, Bool.eq_iff_iff, Bool.or_eq_true, decide_eq_true_eq, List.contains_iff_mem, List.contains_iff_mem, List.mem_append, List.mem_singleton]
 exact or_congr Iff.rfl eq_comm
theorem done_lt (h : ∀ u, d.testBit u = out.contains u) (hm : ∀ x ∈ out, x < n) (hn : n ≤ 64) : d < 18446744073709551616 := by
 refine mask_lt hn (fun i hi => ?_)
 rw [h]
 cases hc : out.contains i with
 | false => rfl
 | true => have := hm i (List.contains_iff_mem.1 hc); omega
end
def canB (ls : List (List Int)) (dn sn : List Int) (t : Nat) : Bool := sn.contains (t : Int) || (List.range ls.length).all fun u => decide (u = t) || !(ls.getD u []).contains (t : Int) || dn.contains (u : Int)
theorem canB_no {ls : List (List Int)} {dn sn : List Int} {t u : Nat} (hs : sn.contains (t : Int) = false) (hu : u < ls.length) (h : (decide (u = t) || !(ls.getD u []).contains (t : Int) || dn.contains (u : Int)) = false) : canB ls dn sn t = false := by
 unfold canB
 rw [hs, Bool.false_or]
 cases hc : ((List.range ls.length).all fun u => decide (u = t) || !(ls.getD u []).contains (t : Int) || dn.contains (u : Int)) with
 | false => rfl
 | true =>
   have := List.all_eq_true.1 hc u (List.mem_range.2 hu)
   rw [h] at this
   cases this
theorem canB_yes {ls : List (List Int)} {dn sn : List Int} {t : Nat} (h : ∀ u, u < ls.length → (decide (u = t) || !(ls.getD u []).contains (t : Int) || dn.contains (u : Int)) = true) : canB ls dn sn t = true := by
 unfold canB
 rw [List.all_eq_true.2 (fun u hu => h u (List.mem_range.1 hu)), Bool.or_true]
theorem canB_st {ls : List (List Int)} {dn sn : List Int} {t : Nat} (h : sn.contains (t : Int) = true) : canB ls dn sn t = true := by
 unfold canB
 rw [h, Bool.true_or]
/-- Who reads whom, out of lists. -/
def rdP (ls : List (List Int)) (u t : Nat) : Bool := (ls.getD u []).contains (t : Int)
theorem rdP_self {ls : List (List Int)} (h : readB ls = true) {t : Nat} (ht : t < ls.length) : rdP ls t t = false := by
 unfold rdP
 refine has_no (fun i hi => ?_)
 have := rdRow_get (readB_get h ht) hi
 unfold NotRd at this
 omega
theorem nxt_can {ls : List (List Int)} (h : readB ls = true) {sn : List Int} {out : List Nat} {t : Nat} (ht : t < ls.length) :
   nxtB ls.length (rdP ls) (fun t => sn.contains (t : Int)) out t = (!(NI out).contains (t : Int) && canB ls (NI out) sn t) := by
 unfold nxtB canB
 rw [NI_has]
 congr 2
 rw [Bool.eq_iff_iff, List.all_eq_true, List.all_eq_true]
 refine forall_congr' fun u => forall_congr' fun hu => ?_
 rw [NI_has]
 by_cases e : u = t
 · subst e
   rw [rdP_self h ht]
   simp
 · simp [e, rdP]
end Go.Sl
