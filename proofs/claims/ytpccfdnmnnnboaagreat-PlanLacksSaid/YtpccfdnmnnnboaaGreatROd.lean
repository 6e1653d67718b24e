/-
  The search for a stash, as plain data.
-/
import Derived.Test.YtpccfdnmnnnboaaGreatROb
namespace Go.Sl

def fullB (n : Nat) (p : Nat → Nat → Bool) (st : Nat → Bool) : Bool := (frs n p st n).length == n
/-- The best stash of some sectors among the first sets. -/
def bst (n : Nat) (p : Nat → Nat → Bool) (k : Nat) : Nat → Option (List Nat)
 | 0 => none
 | s + 1 => if (mem s 64).length = k ∧ (∀ b, bst n p k s = some b → ¬cmpL (NI (mem s 64)) (NI b) > 0) ∧ fullB n p s.testBit = true then some (mem s 64) else bst n p k s
def srch (g : Nat → Option (List Nat)) : Nat → Option (List Nat)
 | 0 => none
 | k + 1 => match srch g k with
   | some x => some x
   | none => g k
theorem srch_none {g : Nat → Option (List Nat)} {k : Nat} (h : srch g k = none) (h2 : g k = none) : srch g (k + 1) = none := by rw [srch, h]; exact h2
theorem srch_keep {g : Nat → Option (List Nat)} {k : Nat} {x : List Nat} (h : srch g k = some x) : ∀ d, srch g (k + d) = some x
 | 0 => h
 | d + 1 => by rw [← Nat.add_assoc, srch, srch_keep h d]
theorem srch_found {g : Nat → Option (List Nat)} {k m : Nat} {x : List Nat} (h : srch g k = none) (h2 : g k = some x) (hk : k < m) : srch g m = some x := by
 have h3 : srch g (k + 1) = some x := by rw [srch, h]; exact h2
 have := srch_keep h3 (m - (k + 1))
 rwa [show k + 1 + (m - (k + 1)) = m from by omega] at this
/-- The order that belongs to a stash. -/
def sqO (n : Nat) (p : Nat → Nat → Bool) : Option (List Nat) → List Nat
 | none => []
 | some l => frs n p (fun t => l.contains t) n
section
variable {n k s : Nat} {p : Nat → Nat → Bool}
theorem mem_has {m t : Nat} (hm : m < 18446744073709551616) : (mem m 64).contains t = m.testBit t := by
 rw [Bool.eq_iff_iff, List.contains_iff_mem]
 simp only [mem, List.mem_filter, List.mem_range]
 refine ⟨fun h => h.2, fun h => ⟨?_, h⟩⟩
 rcases Nat.lt_or_ge t 64 with h1 | h1
 · exact h1
 · rw [Nat.testBit_lt_two_pow (by have := Nat.pow_le_pow_right (n := 2) (by decide) h1; omega)] at h
   cases h
theorem frs_congr {st st' : Nat → Bool} (h : ∀ t, st t = st' t) : ∀ k, frs n p st k = frs n p st' k := by
 have : st = st' := funext h
 subst this
 exact fun _ => rfl
theorem sqO_mem {m : Nat} (hm : m < 18446744073709551616) : sqO n p (some (mem m 64)) = frs n p m.testBit n := frs_congr (fun _ => mem_has hm) n
theorem bst_skip1 (h : ¬(mem s 64).length = k) : bst n p k (s + 1) = bst n p k s := by rw [bst, if_neg (fun q => h q.1)]
theorem bst_skip2 {b : List Nat} (h : bst n p k s = some b) (h2 : cmpL (NI (mem s 64)) (NI b) > 0) : bst n p k (s + 1) = bst n p k s := by rw [bst, if_neg (fun q => q.2.1 b h h2)]
theorem bst_skip3 (h : fullB n p s.testBit = false) : bst n p k (s + 1) = bst n p k s := by rw [bst, if_neg (fun q => by rw [h] at q; exact absurd q.2.2 (by decide))]
theorem bst_take (h1 : (mem s 64).length = k) (h2 : ∀ b, bst n p k s = some b → ¬cmpL (NI (mem s 64)) (NI b) > 0) (h3 : fullB n p s.testBit = true) : bst n p k (s + 1) = some (mem s 64) := by rw [bst, if_pos ⟨h1, h2, h3⟩]
theorem full_iff {st : Nat → Bool} : fullB n p st = true ↔ (frs n p st n).length = n := by unfold fullB; exact beq_iff_eq
theorem full_no {st : Nat → Bool} : fullB n p st = false ↔ (frs n p st n).length ≠ n := by unfold fullB; exact beq_eq_false_iff_ne
theorem mem_nil {m : Nat} (hm : m < 18446744073709551616) (h : (mem m 64).length = 0) : m = 0 := by
 apply Nat.eq_of_testBit_eq
 intro i
 rw [← mem_has hm, List.eq_nil_of_length_eq_zero h, Nat.zero_testBit]
 rfl
theorem bst_zero : ∀ d, d < 18446744073709551616 → bst n p 0 (1 + d) = bst n p 0 1
 | 0, _ => rfl
 | d + 1, hd => by
   rw [← Nat.add_assoc, bst_skip1 (fun h => by have := mem_nil (m := 1 + d) (by omega) h; omega)]
   exact bst_zero d (by omega)
theorem mem_z : mem 0 64 = [] := by
 unfold mem
 rw [List.filter_eq_nil_iff]
 intro i _
 rw [Nat.zero_testBit]
 decide
/-- A set without members that will do. -/
theorem bst_first (hs : s < 18446744073709551616) (h0 : (mem s 64).length = 0) (hf : fullB n p s.testBit = true) {m : Nat} (hm : 1 ≤ m) (hm2 : m ≤ 18446744073709551616) : bst n p 0 m = some (mem s 64) := by
 obtain rfl := mem_nil hs h0
 have := bst_zero (n := n) (p := p) (m - 1) (by omega)
 rw [show 1 + (m - 1) = m from by omega] at this
 rw [this]
 exact bst_take (by rw [mem_z]; rfl) (fun b h => by cases h) hf
end
def ordR (ls : List (List Int)) : Option (List Nat) := srch (fun k => bst ls.length (rdP ls) k (2 ^ ls.length)) (ls.length + 1)
def ordT (ls : List (List Int)) : Option (List Nat) := if readB ls = true ∧ ls.length ≤ 16 then ordR ls else none
def ordE (ls : List (List Int)) : Int := if readB ls = true then (if ls.length ≤ 16 then 0 else 2) else 1
def ordQ (ls : List (List Int)) : List Nat := sqO ls.length (rdP ls) (ordT ls)
def ordH (ls : List (List Int)) : List Nat := (ordT ls).getD []
section
variable {ls : List (List Int)}
theorem ordT_no (h : readB ls = false ∨ 16 < ls.length) : ordT ls = none := by
 unfold ordT
 rw [if_neg]
 rintro ⟨h1, h2⟩
 rcases h with h | h
 · rw [h] at h1; cases h1
 · omega
theorem ordT_ok (h : readB ls = true) (h2 : ls.length ≤ 16) : ordT ls = ordR ls := if_pos ⟨h, h2⟩
theorem ordQ_no (h : readB ls = false ∨ 16 < ls.length) : ordQ ls = [] := by unfold ordQ; rw [ordT_no h]; rfl
theorem ordH_no (h : readB ls = false ∨ 16 < ls.length) : ordH ls = [] := by unfold ordH; rw [ordT_no h]; rfl
theorem ordQ_ok (h : readB ls = true) (h2 : ls.length ≤ 16) : ordQ ls = sqO ls.length (rdP ls) (ordR ls) := by unfold ordQ; rw [ordT_ok h h2]
theorem ordH_ok (h : readB ls = true) (h2 : ls.length ≤ 16) : ordH ls = (ordR ls).getD [] := by unfold ordH; rw [ordT_ok h h2]
theorem ordE_1 (h : readB ls = false) : ordE ls = 1 := by unfold ordE; rw [if_neg (by rw [h]; decide)]
theorem ordE_2 (h : readB ls = true) (h2 : 16 < ls.length) : ordE ls = 2 := by unfold ordE; rw [if_pos h, if_neg (by omega)]
theorem ordE_0 (h : readB ls = true) (h2 : ls.length ≤ 16) : ordE ls = 0 := by unfold ordE; rw [if_pos h, if_pos h2]
end
theorem bst_len {n k s : Nat} {p : Nat → Nat → Bool} : ((bst n p k s).getD []).length ≤ 64 := by
 induction s with
 | zero => exact Nat.zero_le _
 | succ s ih =>
   rw [bst]
   split
   · exact mem_len s 64
   · exact ih
end Go.Sl
