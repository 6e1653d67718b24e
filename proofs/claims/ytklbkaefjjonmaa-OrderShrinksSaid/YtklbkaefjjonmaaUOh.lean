/-
  Right orders, as plain data.
-/
import Derived.Test.YtklbkaefjjonmaaUOa
namespace Go.Sl

def pairB (ls : List (List Int)) (seq st : List Int) (i k : Nat) : Bool := st.contains (seq.getD k 0) || !(ls.getD (seq.getD i 0).toNat []).contains (seq.getD k 0)
/-- An order is right: as the reference has it. -/
def rightF (ls : List (List Int)) (seq st : List Int) : Bool :=
  decide (readB ls = true ∧ seq.length = ls.length ∧ (∀ t, t < ls.length → seq.contains (t : Int) = true) ∧ rdRow ls.length ls.length st = true ∧ ∀ i, i < seq.length → ∀ k, k < i → pairB ls seq st i k = true)
def atL (n : Nat) (seq : List Int) : Nat → List Int
  | 0 => List.replicate n (-1)
  | i + 1 => (atL n seq i).set (seq.getD i 0).toNat (i : Int)
theorem atL_len (n : Nat) (seq : List Int) : ∀ i, (atL n seq i).length = n
  | 0 => List.length_replicate
  | i + 1 => by rw [atL, List.length_set]; exact atL_len n seq i
def badS (n : Nat) (seq : List Int) (i : Nat) : Prop := seq.getD i 0 < 0 ∨ (n : Int) ≤ seq.getD i 0 ∨ 0 ≤ (atL n seq i).getD (seq.getD i 0).toNat 0
instance (n : Nat) (seq : List Int) (i : Nat) : Decidable (badS n seq i) := by unfold badS; infer_instance
def lastB (ls : List (List Int)) (seq st : List Int) (u : Nat) (t : Int) : Bool := decide ((atL ls.length seq seq.length).getD u 0 > (atL ls.length seq seq.length).getD t.toNat 0) && !st.contains t
/-- An order is right: as the program has it. -/
def rightP (ls : List (List Int)) (seq st : List Int) : Bool :=
  decide (readB ls = true ∧ seq.length = ls.length ∧ (∀ i, i < seq.length → ¬badS ls.length seq i) ∧ rdRow ls.length ls.length st = true ∧ ∀ u, u < ls.length → ∀ j, j < (ls.getD u []).length → lastB ls seq st u ((ls.getD u []).getD j 0) = false)
theorem fill_step {α : Type} (n k : Nat) (a b : α) (h : k < n) : (List.replicate k a ++ List.replicate (n - k) b).set k a = List.replicate (k + 1) a ++ List.replicate (n - (k + 1)) b := by
  rw [List.set_append_right _ _ (by simp), List.length_replicate, Nat.sub_self, show n - k = (n - (k + 1)) + 1 from by omega, List.replicate_succ, List.set_cons_zero, List.replicate_succ', List.append_assoc]
  rfl
/-- A list that has the first numbers is as long. -/
theorem cover_len : ∀ (n : Nat) (l : List Int), (∀ t, t < n → (t : Int) ∈ l) → n ≤ l.length
  | 0, _, _ => Nat.zero_le _
  | n + 1, l, h => by
    have hm := h n (Nat.lt_succ_self n)
    have := cover_len n (l.erase (n : Int)) (fun t ht => (List.mem_erase_of_ne (by omega)).2 (h t (by omega)))
    rw [List.length_erase_of_mem hm] at this
    have := List.length_pos_of_mem hm
    omega
theorem nodup_sub : ∀ {l s : List Int}, l.Nodup → (∀ x ∈ l, x ∈ s) → l.length ≤ s.length
  | [], _, _, _ => Nat.zero_le _
  | x :: l, s, hn, h => by
    have hx := h x List.mem_cons_self
    rw [List.nodup_cons] at hn
    have := nodup_sub (l := l) (s := s.erase x) hn.2 (fun y hy => (List.mem_erase_of_ne (fun e => hn.1 (by rw [← e]; exact hy))).2 (h y (List.mem_cons_of_mem _ hy)))
    rw [List.length_erase_of_mem hx] at this
    have := List.length_pos_of_mem hx
    rw [List.length_cons]
    omega
theorem at_spec {n : Nat} {seq : List Int} : ∀ {i : Nat}, (∀ j, j < i → ¬badS n seq j) → ∀ t, t < n → ((∀ j, j < i → seq.getD j 0 ≠ (t : Int)) ∧ (atL n seq i).getD t 0 = -1) ∨ ∃ j, j < i ∧ seq.getD j 0 = (t : Int) ∧ (atL n seq i).getD t 0 = (j : Int)
  | 0, _, t, ht => .inl ⟨fun j hj => absurd hj (Nat.not_lt_zero _), by simp [atL, ht]⟩
  | i + 1, h, t, ht => by
    have hi := h i (Nat.lt_succ_self i)
    unfold badS at hi
    rw [atL]
    by_cases e : (seq.getD i 0).toNat = t
    · subst e
      exact .inr ⟨i, Nat.lt_succ_self i, by omega, getD_set_eq (by rw [atL_len]; exact ht) _ _⟩
    · rw [getD_set_ne e]
      rcases at_spec (i := i) (fun j hj => h j (by omega)) t ht with ⟨h1, h2⟩ | ⟨j, h1, h2, h3⟩
      · exact .inl ⟨all_step h1 (fun g => e (by omega)), h2⟩
      · exact .inr ⟨j, by omega, h2, h3⟩
theorem ok_ne {n : Nat} {seq : List Int} {i : Nat} (h : ∀ j, j < i → ¬badS n seq j) (hi : ¬badS n seq i) : ∀ j, j < i → seq.getD j 0 ≠ seq.getD i 0 := by
  unfold badS at hi
  intro j hj e
  rcases at_spec h (seq.getD i 0).toNat (by omega) with ⟨h1, _⟩ | ⟨k, _, _, h3⟩
  · exact h1 j hj (by omega)
  · omega
theorem mem_at {l : List Int} {x : Int} : x ∈ l ↔ ∃ i, i < l.length ∧ l.getD i 0 = x := by
  rw [List.mem_iff_getElem]
  constructor
  · rintro ⟨i, h, e⟩
    exact ⟨i, h, by simp [h, e]⟩
  · rintro ⟨i, h, e⟩
    exact ⟨i, h, by simpa [h] using e⟩
theorem cover_no {n : Nat} {seq : List Int} (hl : seq.length = n) (hc : ∀ t, t < n → (t : Int) ∈ seq) {i : Nat} (hi : i < seq.length) (h : ∀ t, t < n → (t : Int) ≠ seq.getD i 0 ∨ ∃ j, j ≠ i ∧ j < seq.length ∧ seq.getD j 0 = (t : Int)) : False := by
  have := cover_len n (seq.eraseIdx i) (fun t ht => by
    rw [List.mem_eraseIdx_iff_getElem]
    obtain ⟨m, hm, e⟩ := mem_at.1 (hc t ht)
    rcases h t ht with h1 | ⟨j, h1, h2, h3⟩
    · refine ⟨m, hm, fun q => h1 ?_, by simpa [hm] using e⟩
      subst q
      exact e.symm
    · exact ⟨j, h2, h1, by simpa [h2] using h3⟩)
  rw [List.length_eraseIdx_of_lt hi] at this
  omega
theorem cover_in {n : Nat} {seq : List Int} (hl : seq.length = n) (hc : ∀ t, t < n → (t : Int) ∈ seq) {i : Nat} (hi : i < seq.length) : 0 ≤ seq.getD i 0 ∧ seq.getD i 0 < (n : Int) := by
  by_cases h : 0 ≤ seq.getD i 0 ∧ seq.getD i 0 < (n : Int)
  · exact h
  · exact (cover_no hl hc hi (fun t ht => .inl (by omega))).elim
theorem cover_ne {n : Nat} {seq : List Int} (hl : seq.length = n) (hc : ∀ t, t < n → (t : Int) ∈ seq) {i j : Nat} (hi : i < seq.length) (hj : j < i) : seq.getD j 0 ≠ seq.getD i 0 := by
  intro e
  refine cover_no hl hc hi (fun t ht => ?_)
  by_cases h : (t : Int) = seq.getD i 0
  · exact .inr ⟨j, by omega, by omega, by omega⟩
  · exact .inl h
theorem cover_ok {n : Nat} {seq : List Int} (hl : seq.length = n) (hc : ∀ t, t < n → (t : Int) ∈ seq) : ∀ i, i < seq.length → ¬badS n seq i := by
  intro i
  induction i using Nat.strongRecOn with
  | _ i ih =>
    intro hi hb
    have h1 := cover_in hl hc hi
    unfold badS at hb
    rcases at_spec (fun j hj => ih j hj (by omega)) (seq.getD i 0).toNat (by omega) with ⟨_, h3⟩ | ⟨k, h2, h3, _⟩
    · omega
    · exact cover_ne hl hc hi h2 (by omega)
theorem ok_cover {n : Nat} {seq : List Int} (hl : seq.length = n) (h : ∀ i, i < seq.length → ¬badS n seq i) : ∀ t, t < n → (t : Int) ∈ seq := by
  intro t ht
  refine Classical.byContradiction fun hm => ?_
  have hr : ∀ x ∈ seq, x ∈ ((List.range n).map fun (t : Nat) => (t : Int)).erase (t : Int) := by
    intro x hx
    obtain ⟨i, hi, rfl⟩ := mem_at.1 hx
    have hb := h i hi
    unfold badS at hb
    refine (List.mem_erase_of_ne (fun e => hm (by rw [← e]; exact hx))).2 (List.mem_map.2 ⟨(seq.getD i 0).toNat, List.mem_range.2 (by omega), by omega⟩)
  have hn : seq.Nodup := by
    unfold List.Nodup
    rw [List.pairwise_iff_getElem]
    intro i j hi hj hij
    have := ok_ne (fun k hk => h k (by omega)) (h j hj) i hij
    simpa [hi, hj] using this
  have := nodup_sub hn hr
  rw [List.length_erase_of_mem (List.mem_map.2 ⟨t, List.mem_range.2 ht, rfl⟩), List.length_map, List.length_range] at this
  omega
theorem right_eq (ls : List (List Int)) (seq st : List Int) : rightP ls seq st = rightF ls seq st := by
  unfold rightP rightF
  refine decide_eq_decide.2 ⟨?_, ?_⟩
  · rintro ⟨h1, h2, h3, h4, h5⟩
    refine ⟨h1, h2, fun t ht => List.contains_iff_mem.2 (ok_cover h2 h3 t ht), h4, fun i hi k hk => ?_⟩
    have bi := h3 i hi
    have bk := h3 k (by omega)
    unfold badS at bi bk
    unfold pairB
    cases hs : st.contains (seq.getD k 0) with
    | true => rfl
    | false =>
      rw [Bool.false_or, Bool.not_eq_true']
      refine has_no (fun j hj e => ?_)
      have := h5 (seq.getD i 0).toNat (by omega) j hj
      rw [e] at this
      unfold lastB at this
      rw [hs, Bool.not_false, Bool.and_true] at this
      have := of_decide_eq_false this
      have ai : (atL ls.length seq seq.length).getD (seq.getD i 0).toNat 0 = (i : Int) := by
        rcases at_spec h3 (seq.getD i 0).toNat (by omega) with ⟨q, _⟩ | ⟨m, q1, q2, q3⟩
        · exact absurd (by omega) (q i hi)
        · rcases Nat.lt_trichotomy m i with q | q | q
          · exact absurd (by omega) (ok_ne (fun z hz => h3 z (by omega)) (h3 i hi) m q)
          · omega
          · exact absurd (by omega) (ok_ne (fun z hz => h3 z (by omega)) (h3 m q1) i q)
      have ak : (atL ls.length seq seq.length).getD (seq.getD k 0).toNat 0 = (k : Int) := by
        rcases at_spec h3 (seq.getD k 0).toNat (by omega) with ⟨q, _⟩ | ⟨m, q1, q2, q3⟩
        · exact absurd (by omega) (q k (by omega))
        · rcases Nat.lt_trichotomy m k with q | q | q
          · exact absurd (by omega) (ok_ne (fun z hz => h3 z (by omega)) (h3 k (by omega)) m q)
          · omega
          · exact absurd (by omega) (ok_ne (fun z hz => h3 z (by omega)) (h3 m q1) k q)
      omega
  · rintro ⟨h1, h2, h3, h4, h5⟩
    have hc : ∀ t, t < ls.length → (t : Int) ∈ seq := fun t ht => List.contains_iff_mem.1 (h3 t ht)
    have ho := cover_ok h2 hc
    refine ⟨h1, h2, ho, h4, fun u hu j hj => ?_⟩
    have hN := rdRow_get (readB_get h1 hu) hj
    unfold NotRd at hN
    unfold lastB
    cases hs : st.contains ((ls.getD u []).getD j 0) with
    | true => simp
    | false =>
      rw [Bool.not_false, Bool.and_true]
      refine decide_eq_false (fun hgt => ?_)
      rcases at_spec ho u hu with ⟨q, _⟩ | ⟨a, a1, a2, a3⟩
      · obtain ⟨i, hi, e⟩ := mem_at.1 (hc u hu)
        exact q i hi e
      · rcases at_spec ho ((ls.getD u []).getD j 0).toNat (by omega) with ⟨q, _⟩ | ⟨b, b1, b2, b3⟩
        · obtain ⟨i, hi, e⟩ := mem_at.1 (hc ((ls.getD u []).getD j 0).toNat (by omega))
          exact q i hi (by omega)
        · have := h5 a a1 b (by omega)
          unfold pairB at this
          rw [show seq.getD b 0 = (ls.getD u []).getD j 0 from by omega, hs, a2, Int.toNat_natCast, has_yes hj rfl] at this
          cases this
end Go.Sl
