/-
  What the order laws say of made readings: free ones, fewer ones, right ones, as plain data.
-/
import Derived.Test.YtklbkaefjjonmaaUOj
import Derived.Test.YtklbkaefjjonmaaUOi
import Derived.Test.YtklbkaefjjonmaaUSlW
namespace Go.Sl

/-! ### Free -/
def frB (ls : List (List Int)) (up : Bool) (u t : Nat) : Bool := (ls.getD u []).contains (t : Int) && (decide (t > u) == up)
def frR (ls : List (List Int)) (up : Bool) (u t : Nat) : List Nat := (List.range t).filter (frB ls up u)
def frL (ls : List (List Int)) (up : Bool) (k : Nat) : List (List Int) := (List.range k).map fun u => NI (frR ls up u ls.length)
def alR (u t : Nat) : List Nat := (List.range t).filter fun i => decide (i ≠ u)
def alL (n k : Nat) : List (List Int) := (List.range k).map fun u => NI (alR u n)
section
variable {ls : List (List Int)} {up : Bool} {u t k n : Nat}
theorem frR_yes (h : frB ls up u t = true) : frR ls up u (t + 1) = frR ls up u t ++ [t] := by simp [frR, List.range_succ, List.filter_append, h]
theorem frR_no (h : frB ls up u t = false) : frR ls up u (t + 1) = frR ls up u t := by simp [frR, List.range_succ, List.filter_append, h]
theorem alR_yes (h : t ≠ u) : alR u (t + 1) = alR u t ++ [t] := by simp [alR, List.range_succ, List.filter_append, h]
theorem alR_no (h : t = u) : alR u (t + 1) = alR u t := by simp [alR, List.range_succ, List.filter_append, h]
theorem frR_len (ls : List (List Int)) (up : Bool) (u t : Nat) : (frR ls up u t).length ≤ t := by
  have := List.length_filter_le (frB ls up u) (List.range t)
  rwa [List.length_range] at this
theorem alR_len (u t : Nat) : (alR u t).length ≤ t := by
  have := List.length_filter_le (fun i => decide (i ≠ u)) (List.range t)
  rwa [List.length_range] at this
theorem frL_len (ls : List (List Int)) (up : Bool) (k : Nat) : (frL ls up k).length = k := by simp [frL]
theorem alL_len (n k : Nat) : (alL n k).length = k := by simp [alL]
theorem frL_snoc (ls : List (List Int)) (up : Bool) (k : Nat) : frL ls up (k + 1) = frL ls up k ++ [NI (frR ls up k ls.length)] := by simp [frL, List.range_succ]
theorem alL_snoc (n k : Nat) : alL n (k + 1) = alL n k ++ [NI (alR k n)] := by simp [alL, List.range_succ]
theorem frL_get (h : u < k) : (frL ls up k).getD u [] = NI (frR ls up u ls.length) := map_range_getD h _
theorem alL_get (h : u < k) : (alL n k).getD u [] = NI (alR u n) := map_range_getD h _
theorem frL_row (ls : List (List Int)) (up : Bool) (k u : Nat) : ((frL ls up k).getD u []).length ≤ ls.length := by
  rcases Nat.lt_or_ge u k with h | h
  · rw [frL_get h, NI_len]; exact frR_len _ _ _ _
  · rw [getD_ge (by rw [frL_len]; exact h)]; exact Nat.zero_le _
theorem alL_row (n k u : Nat) : ((alL n k).getD u []).length ≤ n := by
  rcases Nat.lt_or_ge u k with h | h
  · rw [alL_get h, NI_len]; exact alR_len _ _
  · rw [getD_ge (by rw [alL_len]; exact h)]; exact Nat.zero_le _
theorem frB_self (h : readB ls = true) (hu : u < ls.length) : frB ls up u u = false := by
  unfold frB
  rw [show (ls.getD u []).contains (u : Int) = rdP ls u u from rfl, rdP_self h hu]
  rfl
theorem frL_ok (h : readB ls = true) : readB (frL ls up ls.length) = true := by
  refine readB_yes (fun u hu => ?_)
  rw [frL_len] at *
  rw [frL_get hu]
  exact rd_filter (frB_self h hu)
theorem alL_ok (n : Nat) : readB (alL n n) = true := by
  refine readB_yes (fun u hu => ?_)
  rw [alL_len] at *
  rw [alL_get hu]
  exact rd_filter (decide_eq_false (fun h => h rfl))
theorem frL_p (hu : u < ls.length) (t : Nat) : rdP (frL ls up ls.length) u t = (decide (t < ls.length) && frB ls up u t) := by
  unfold rdP
  rw [frL_get hu, NI_has, Bool.eq_iff_iff, List.contains_iff_mem]
  simp [frR]
/-- Nothing is stashed. -/
theorem free_none (h : readB ls = true) (hn : ls.length ≤ 6) : ordE (frL ls up ls.length) = 0 ∧ (ordH (frL ls up ls.length)).length = 0 := by
  have hl := frL_len ls up ls.length
  obtain ⟨s, _, h2, _, _, h5, h6⟩ := ord_set (frL_ok (up := up) h) (by omega)
  refine ⟨h5, ?_⟩
  have h0 := h6 0 (Nat.two_pow_pos _) (full_prg.2 (by
    rw [hl]
    cases up with
    | true =>
      refine Prg.up fun u t hu hp => ?_
      rw [frL_p hu, Bool.and_eq_true] at hp
      have := hp.2
      unfold frB at this
      rw [Bool.and_eq_true] at this
      have := of_decide_eq_true (eq_of_beq this.2)
      omega
    | false =>
      refine Prg.down fun u t hu hp => ?_
      rw [frL_p hu, Bool.and_eq_true] at hp
      have hb := hp.2
      unfold frB at hb
      rw [Bool.and_eq_true] at hb
      have h7 := of_decide_eq_false (eq_of_beq hb.2)
      have h8 : t ≠ u := fun e => by
        subst e
        have := frB_self (up := false) h hu
        rw [hp.2] at this
        cases this
      omega))
  rw [mem_z] at h0
  rw [h2]
  exact Nat.le_zero.1 h0
/-- All but one are stashed. -/
theorem free_all {n : Nat} (h1 : 1 ≤ n) (h6 : n ≤ 6) : ordE (alL n n) = 0 ∧ (ordH (alL n n)).length + 1 = n := by
  refine ⟨ordE_0 (alL_ok n) (by rw [alL_len]; omega), ?_⟩
  have key : ((List.range 6).all fun m => (ordH (alL (m + 1) (m + 1))).length == m) = true := by kernel_rfl
  have := List.all_eq_true.1 key (n - 1) (List.mem_range.2 (by omega))
  rw [show n - 1 + 1 = n from by omega] at this
  have := eq_of_beq this
  omega
end
/-! ### Fewer -/
theorem mem_or : ((List.range 64).all fun s => (List.range 6).all fun t => decide ((mem (s ||| 1 * 2 ^ t) 64).length ≤ (mem s 64).length + 1)) = true := by kernel_rfl
section
variable {l m : List UInt8} {i b : Nat}
/-- The readings m are those of l without one. -/
structure Less (l m : List UInt8) (i b : Nat) : Prop where
  len : m.length = l.length
  sub : ∀ u t, mdB m u t = true → mdB l u t = true
  one : ∀ u t, mdB l u t = true → mdB m u t = true ∨ t = b
theorem Less.n (h : Less l m i b) : mdN m = mdN l := by unfold mdN; rw [h.len]
theorem shrinks (h : Less l m i b) (hb : b < 6) : (ordE (madeL l) = 0 ∧ ordE (madeL m) = 0) ∧ (ordH (madeL m)).length ≤ (ordH (madeL l)).length ∧ (ordH (madeL l)).length ≤ (ordH (madeL m)).length + 1 := by
  have hl := madeL_len l
  have hm := madeL_len m
  have h6 := mdN_le l
  obtain ⟨s, a1, a2, _, a4, a5, a6⟩ := ord_set (madeL_ok l) (by omega)
  obtain ⟨s', b1, b2, _, b4, b5, b6⟩ := ord_set (madeL_ok m) (by rw [hm, h.n]; omega)
  rw [hl] at a1 a4 a6
  rw [hm, h.n] at b1 b4 b6
  refine ⟨⟨a5, b5⟩, ?_, ?_⟩
  · rw [a2, b2]
    refine b6 s a1 (full_prg.2 ((full_prg.1 a4).mono (fun u t hu hp => .inl ?_) (fun _ h => h)))
    rw [madeL_p (by rw [h.n]; exact hu), h.n, Bool.and_eq_true] at hp
    rw [madeL_p hu, Bool.and_eq_true]
    exact ⟨hp.1, h.sub u t hp.2⟩
  · rw [a2, b2]
    have hp64 : 2 ^ mdN l ≤ 64 := Nat.le_trans (Nat.pow_le_pow_right (by decide) h6) (by decide)
    by_cases hbn : b < mdN l
    · have hor : (s' ||| 1 * 2 ^ b) < 2 ^ mdN l := by
        rw [Nat.one_mul]
        exact Nat.or_lt_two_pow b1 (Nat.pow_lt_pow_right (by decide) hbn)
      have hc := of_decide_eq_true (List.all_eq_true.1 (List.all_eq_true.1 mem_or s' (List.mem_range.2 (by omega))) b (List.mem_range.2 hb))
      refine Nat.le_trans (a6 (s' ||| 1 * 2 ^ b) hor (full_prg.2 ((full_prg.1 b4).mono (fun u t hu hp => ?_) (fun t ht => by rw [or_bit, ht]; rfl)))) hc
      rw [madeL_p hu, Bool.and_eq_true] at hp
      rcases h.one u t hp.2 with h1 | h1
      · refine .inl ?_
        rw [madeL_p (by rw [h.n]; exact hu), h.n, Bool.and_eq_true]
        exact ⟨hp.1, h1⟩
      · refine .inr ?_
        rw [or_bit, h1, decide_eq_true rfl, Bool.or_true]
    · refine Nat.le_trans (a6 s' b1 (full_prg.2 ((full_prg.1 b4).mono (fun u t hu hp => .inl ?_) (fun _ h => h)))) (Nat.le_succ _)
      rw [madeL_p hu, Bool.and_eq_true, decide_eq_true_eq] at hp
      rw [madeL_p (by rw [h.n]; exact hu), h.n, Bool.and_eq_true, decide_eq_true_eq]
      refine ⟨hp.1, (h.one u t hp.2).resolve_right (fun e => by omega)⟩
end
theorem less_set {l : List UInt8} {i b : Nat} {c : UInt8} (hi : i < l.length) (hc : c.toNat = 2 ^ b) : Less l (l.set i (l.getD i 0 &&& ~~~c)) i b := by
  have key : ∀ u t, ((l.set i (l.getD i 0 &&& ~~~c)).getD u 0).toNat.testBit t = ((l.getD u 0).toNat.testBit t && !(decide (u = i) && decide (t = b))) := by
    intro u t
    by_cases h : u = i
    · subst h
      rw [getD_set_eq hi, andNot_bit, hc, Nat.testBit_two_pow, decide_eq_true rfl, Bool.true_and]
      congr 2
      exact decide_eq_decide.2 eq_comm
    · rw [getD_set_ne (fun e => h e.symm), decide_eq_false h]
      simp
  refine ⟨List.length_set, fun u t h => ?_, fun u t h => ?_⟩
  · unfold mdB at h ⊢
    rw [key, Bool.and_eq_true, Bool.and_eq_true] at h
    rw [Bool.and_eq_true]
    exact ⟨h.1, h.2.1⟩
  · by_cases hb : t = b
    · exact .inr hb
    · refine .inl ?_
      unfold mdB at h ⊢
      rw [key, decide_eq_false hb]
      simpa using h
/-! ### Right -/
theorem st_inc {n s : Nat} : rdRow n n (NI (mem s n)) = true := by
  have : mem s n = (List.range n).filter fun i => s.testBit i && decide (i < n) := by
    unfold mem
    refine List.filter_congr fun i hi => ?_
    rw [decide_eq_true (List.mem_range.1 hi), Bool.and_true]
  rw [this]
  exact rd_filter (by simp)
theorem frs_pair {n : Nat} {p : Nat → Nat → Bool} {st : Nat → Bool} : ∀ q, List.Pairwise (fun x y => st x = true ∨ p y x = false) (frs n p st q) ∧ ∀ x ∈ frs n p st q, st x = true ∨ ∀ u, u < n → p u x = true → u ∈ frs n p st q
  | 0 => ⟨List.Pairwise.nil, fun x hx => by cases hx⟩
  | q + 1 => by
    obtain ⟨h1, h2⟩ := frs_pair (n := n) (p := p) (st := st) q
    rw [frs]
    split
    · exact ⟨h1, h2⟩
    · rename_i t ht
      have htn := List.mem_range.1 (List.mem_of_find?_eq_some ht)
      obtain ⟨h3, h4⟩ := nxt_iff.1 (List.find?_some ht)
      have hno : t ∉ frs n p st q := fun h => by rw [List.contains_iff_mem.2 h] at h3; cases h3
      refine ⟨List.pairwise_append.2 ⟨h1, List.pairwise_singleton _ _, fun x hx y hy => ?_⟩, fun x hx => ?_⟩
      · obtain rfl := List.mem_singleton.1 hy
        rcases h2 x hx with h5 | h5
        · exact .inl h5
        · cases hp : p y x with
          | false => exact .inr rfl
          | true => exact absurd (h5 y htn hp) hno
      · rcases List.mem_append.1 hx with hx | hx
        · exact (h2 x hx).imp id fun h u hu hp => List.mem_append_left _ (h u hu hp)
        · obtain rfl := List.mem_singleton.1 hx
          exact h4.imp id fun h u hu hp => List.mem_append_left _ (List.contains_iff_mem.1 (h u hu hp))
/-- The order that is found is right. -/
theorem ord_right {ls : List (List Int)} (hr : readB ls = true) (hn : ls.length ≤ 6) : rightF ls (NI (ordQ ls)) (NI (ordH ls)) = true := by
  obtain ⟨s, h1, h2, h3, h4, _, _⟩ := ord_set hr hn
  have hf := full_iff.1 h4
  rw [h2, h3]
  unfold rightF
  refine decide_eq_true ⟨hr, by rw [NI_len, hf], fun t ht => ?_, ?_, fun i hi k hk => ?_⟩
  · rw [NI_has, List.contains_iff_mem]
    exact full_has (frs_nodup _) (frs_mem _) hf ht
  · rw [mem64 (by omega) h1]
    exact st_inc
  · rw [NI_len] at hi
    unfold pairB
    rw [NI_get hi, NI_get (by omega), NI_has, mem_has (s64 hn h1), Int.toNat_natCast]
    have h := List.pairwise_iff_getElem.1 (frs_pair (n := ls.length) (p := rdP ls) (st := s.testBit) ls.length).1 k i (by omega) hi hk
    rcases h with h | h
    · rw [h]; rfl
    · rw [show (ls.getD (frs ls.length (rdP ls) s.testBit ls.length)[i] []).contains ((frs ls.length (rdP ls) s.testBit ls.length)[k] : Int) = false from h]
      simp
end Go.Sl
