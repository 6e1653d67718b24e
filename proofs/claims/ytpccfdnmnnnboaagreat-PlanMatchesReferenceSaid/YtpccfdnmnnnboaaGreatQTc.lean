/-
  The stashes in their order, of any number of sectors up to sixteen; so the order of the program is that of the reference.
-/
import Derived.Test.YtpccfdnmnnnboaaGreatQTb
namespace Go.Sl

theorem mem_stL : ∀ (k f n : Nat) (l : List Nat), l ∈ stL k f n ↔ l.length = k ∧ l.Pairwise (· < ·) ∧ ∀ x ∈ l, f ≤ x ∧ x < n
 | 0, f, n, l => by
   simp only [stL, List.mem_singleton]
   constructor
   · rintro rfl
     exact ⟨rfl, List.Pairwise.nil, fun x hx => by cases hx⟩
   · rintro ⟨h, _⟩
     exact List.length_eq_zero_iff.1 h
 | k + 1, f, n, l => by
   simp only [stL, List.mem_flatMap, List.mem_map, List.mem_range'_1]
   constructor
   · rintro ⟨t, ht, l', hl', rfl⟩
     obtain ⟨h1, h2, h3⟩ := (mem_stL k (t + 1) n l').1 hl'
     refine ⟨by rw [List.length_cons, h1], List.pairwise_cons.2 ⟨fun x hx => by have := h3 x hx; omega, h2⟩, fun x hx => ?_⟩
     rcases List.mem_cons.1 hx with rfl | hx
     · omega
     · have := h3 x hx
       omega
   · rintro ⟨h1, h2, h3⟩
     cases l with
     | nil => cases h1
     | cons t l =>
       have ht := h3 t (by simp)
       refine ⟨t, by omega, l, (mem_stL k (t + 1) n l).2 ⟨by simpa using h1, (List.pairwise_cons.1 h2).2, fun x hx => ?_⟩, rfl⟩
       have h4 := (List.pairwise_cons.1 h2).1 x hx
       have h5 := h3 x (by simp [hx])
       omega
theorem stL_lex : ∀ (k f n : Nat), (stL k f n).Pairwise fun a b => cmpL (NI a) (NI b) < 0
 | 0, _, _ => List.pairwise_singleton _ _
 | k + 1, f, n => by
   rw [stL, List.pairwise_flatMap]
   refine ⟨fun t _ => ?_, ?_⟩
   · rw [List.pairwise_map]
     refine (stL_lex k (t + 1) n).imp fun {a b} h => ?_
     show cmpL ((t : Int) :: NI a) ((t : Int) :: NI b) < 0
     rw [cmpL, if_pos (cmpI_zero.2 rfl)]
     exact h
   · refine (List.pairwise_lt_range' (s := f) (n := n - f)).imp fun {t u} h => ?_
     intro x hx y hy
     obtain ⟨a, _, rfl⟩ := List.mem_map.1 hx
     obtain ⟨b, _, rfl⟩ := List.mem_map.1 hy
     show cmpL ((t : Int) :: NI a) ((u : Int) :: NI b) < 0
     have e : cmpI (t : Int) (u : Int) = -1 := by
       unfold cmpI
       rw [if_pos (by omega)]
     rw [cmpL, e, if_neg (by decide)]
     decide
theorem set_of : ∀ (n : Nat) (l : List Nat), l.Pairwise (· < ·) → (∀ x ∈ l, x < n) → ∃ s, s < 2 ^ n ∧ mem s n = l
 | 0, l, _, h => by
   refine ⟨0, by decide, ?_⟩
   cases l with
   | nil => rfl
   | cons x l => exact absurd (h x (by simp)) (Nat.not_lt_zero _)
 | n + 1, l, hp, h => by
   have hs : ∀ s, mem s (n + 1) = mem s n ++ (if s.testBit n = true then [n] else []) := by
     intro s
     unfold mem
     rw [List.range_succ, List.filter_append]
     by_cases q : s.testBit n = true <;> simp [q]
   by_cases hn : n ∈ l
   · have hne : l ≠ [] := List.ne_nil_of_mem hn
     have hl := List.dropLast_concat_getLast hne
     have hp2 := hp
     rw [← hl, List.pairwise_append] at hp2
     obtain ⟨q1, _, q3⟩ := hp2
     have hlast : l.getLast hne = n := by
       have h1 := h _ (List.getLast_mem hne)
       rw [← hl] at hn
       rcases List.mem_append.1 hn with h2 | h2
       · have := q3 n h2 (l.getLast hne) (by simp)
         omega
       · exact (List.mem_singleton.1 h2).symm
     obtain ⟨s, h1, h2⟩ := set_of n l.dropLast q1 (fun x hx => by
       have := q3 x hx (l.getLast hne) (by simp)
       omega)
     refine ⟨2 ^ n + s, by rw [Nat.pow_succ]; omega, ?_⟩
     rw [hs, Nat.testBit_two_pow_add_eq, Nat.testBit_lt_two_pow h1]
     have e : mem (2 ^ n + s) n = mem s n := by
       unfold mem
       refine List.filter_congr fun i hi => ?_
       exact Nat.testBit_two_pow_add_gt (List.mem_range.1 hi) s
     rw [e, h2]
     show l.dropLast ++ [n] = l
     rw [← hlast]
     exact hl
   · obtain ⟨s, h1, h2⟩ := set_of n l hp (fun x hx => by
       have := h x hx
       have : x ≠ n := fun e => hn (e ▸ hx)
       omega)
     refine ⟨s, by rw [Nat.pow_succ]; omega, ?_⟩
     rw [hs, Nat.testBit_lt_two_pow h1, h2]
     simp
theorem mem_rise (m n : Nat) : (mem m n).Pairwise (· < ·) := List.Pairwise.filter _ List.pairwise_lt_range
theorem st_all16 {n k : Nat} (hn : n ≤ 64) : (∀ s, s < 2 ^ n → (mem s 64).length = k → mem s 64 ∈ stL k 0 n) ∧ (∀ l ∈ stL k 0 n, ∃ s, s < 2 ^ n ∧ l = mem s 64) ∧ List.Pairwise (fun a b => cmpL (NI a) (NI b) < 0) (stL k 0 n) := by
 refine ⟨fun s hs hl => ?_, fun l hl => ?_, stL_lex k 0 n⟩
 · rw [mem64 hn hs] at hl ⊢
   refine (mem_stL k 0 n _).2 ⟨hl, mem_rise _ _, fun x hx => ⟨Nat.zero_le _, ?_⟩⟩
   unfold mem at hx
   exact List.mem_range.1 (List.mem_filter.1 hx).1
 · obtain ⟨h1, h2, h3⟩ := (mem_stL k 0 n l).1 hl
   obtain ⟨s, hs, e⟩ := set_of n l h2 fun x hx => (h3 x hx).2
   exact ⟨s, hs, by rw [mem64 hn hs]; exact e.symm⟩
theorem s6416 {n s : Nat} (hn : n ≤ 16) (hs : s < 2 ^ n) : s < 18446744073709551616 := by
 have := Nat.pow_le_pow_right (n := 2) (by decide) hn
 omega
theorem bst_find16 {n k : Nat} {p : Nat → Nat → Bool} (hn : n ≤ 16) : bst n p k (2 ^ n) = (stL k 0 n).find? (fullL n p) := by
 obtain ⟨c1, c2, c3⟩ := st_all16 (n := n) (k := k) (by omega)
 cases hb : bst n p k (2 ^ n) with
 | none =>
   symm
   rw [List.find?_eq_none]
   intro l hl
   obtain ⟨s, hs, rfl⟩ := c2 l hl
   rw [fullL_mem (s6416 hn hs), bst_none.1 hb s hs (stL_each k 0 n _ hl)]
   decide
 | some b =>
   obtain ⟨⟨s, h1, rfl, h3, h4⟩, h5⟩ := bst_some hb
   have hm := c1 s h1 h3
   cases hf : (stL k 0 n).find? (fullL n p) with
   | none =>
     have := List.find?_eq_none.1 hf _ hm
     rw [fullL_mem (s6416 hn h1), h4] at this
     exact absurd rfl this
   | some y =>
     obtain ⟨hy, l1, l2, he, hno⟩ := List.find?_eq_some_iff_append.1 hf
     rw [he] at hm c3
     rcases List.mem_append.1 hm with h | h
     · have := hno _ h
       rw [fullL_mem (s6416 hn h1), h4] at this
       cases this
     · rcases List.mem_cons.1 h with h | h
       · rw [h]
       · have h6 := (List.pairwise_cons.1 (List.pairwise_append.1 c3).2.1).1 _ h
         have hym : y ∈ stL k 0 n := by rw [he]; simp
         obtain ⟨s', hs', rfl⟩ := c2 y hym
         rw [fullL_mem (s6416 hn hs')] at hy
         have h7 := h5 s' hs' (stL_each k 0 n _ hym) hy
         rw [cmpL_anti] at h6
         omega
theorem ref16 {ls : List (List Int)} (hr : readB ls = true) (hn : ls.length ≤ 16) : refQ ls = ordQ ls ∧ refH ls = ordH ls ∧ refE ls = 0 := by
 have hR : ordR ls = refR ls := srch_congr fun k _ => bst_find16 hn
 have hT : ordT ls = refT ls := by unfold ordT refT; rw [hR]
 refine ⟨by unfold ordQ refQ; rw [hT], by unfold ordH refH; rw [hT], ?_⟩
 have h0 : ∃ b, ordR ls = some b := by
   cases h : ordR ls with
   | some b => exact ⟨b, rfl⟩
   | none =>
     exfalso
     have h0 := srch_none_iff.1 h
     have hs : 2 ^ ls.length - 1 < 2 ^ ls.length := by have := Nat.two_pow_pos ls.length; omega
     have hle : (mem (2 ^ ls.length - 1) 64).length ≤ ls.length := by rw [mem64 (by omega) hs]; exact mem_len _ _
     have := bst_none.1 (h0 (mem (2 ^ ls.length - 1) 64).length (by omega)) _ hs rfl
     rw [full_prg.2 (Prg.all fun t ht => by rw [Nat.testBit_two_pow_sub_one]; exact decide_eq_true ht)] at this
     cases this
 obtain ⟨b, hb⟩ := h0
 unfold refE
 rw [if_pos hr, ← hT, ordT_ok hr (by omega), hb]
 rfl
end Go.Sl
