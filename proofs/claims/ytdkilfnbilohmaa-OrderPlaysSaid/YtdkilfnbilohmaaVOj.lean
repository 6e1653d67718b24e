/-
  Orders and stashes: what the search finds, as plain data.
-/
import Derived.KernelRfl
import Derived.Test.YtdkilfnbilohmaaVOd
import Derived.Test.YtdkilfnbilohmaaVOh
namespace Go.Sl

section
variable {n k : Nat} {p p' : Nat → Nat → Bool} {st st' : Nat → Bool} {O out : List Nat} {t : Nat}
theorem nxt_iff : nxtB n p st out t = true ↔ out.contains t = false ∧ (st t = true ∨ ∀ u, u < n → p u t = true → out.contains u = true) := by
 unfold nxtB
 rw [Bool.and_eq_true, Bool.or_eq_true, Bool.not_eq_true', List.all_eq_true]
 refine and_congr Iff.rfl (or_congr Iff.rfl ⟨fun h u hu hp => ?_, fun h u hu => ?_⟩)
 · have := h u (List.mem_range.2 hu)
   rw [hp] at this
   exact this
 · have := h u (List.mem_range.1 hu)
   cases hp : p u t with
   | false => rfl
   | true => rw [this hp]; rfl
theorem frs_nodup : ∀ k, (frs n p st k).Nodup
 | 0 => List.nodup_nil
 | k + 1 => by
   have ih := frs_nodup k
   rw [frs]
   split
   · exact ih
   · rename_i t ht
     have := (nxt_iff.1 (List.find?_some ht)).1
     rw [List.nodup_append]
     refine ⟨ih, by simp, fun a ha b hb e => ?_⟩
     obtain rfl := List.mem_singleton.1 hb
     subst e
     rw [List.contains_iff_mem.2 ha] at this
     cases this
theorem nodup_subN : ∀ {l s : List Nat}, l.Nodup → (∀ x ∈ l, x ∈ s) → l.length ≤ s.length
 | [], _, _, _ => Nat.zero_le _
 | x :: l, s, hn, h => by
   have hx := h x List.mem_cons_self
   rw [List.nodup_cons] at hn
   have := nodup_subN (l := l) (s := s.erase x) hn.2 (fun y hy => (List.mem_erase_of_ne (fun e => hn.1 (by rw [← e]; exact hy))).2 (h y (List.mem_cons_of_mem _ hy)))
   rw [List.length_erase_of_mem hx] at this
   have := List.length_pos_of_mem hx
   rw [List.length_cons]
   omega
theorem coverN : ∀ (n : Nat) (l : List Nat), (∀ t, t < n → t ∈ l) → n ≤ l.length
 | 0, _, _ => Nat.zero_le _
 | n + 1, l, h => by
   have hm := h n (Nat.lt_succ_self n)
   have := coverN n (l.erase n) (fun t ht => (List.mem_erase_of_ne (by omega)).2 (h t (by omega)))
   rw [List.length_erase_of_mem hm] at this
   have := List.length_pos_of_mem hm
   omega
/-- A full list without doubles has each number. -/
theorem full_has {l : List Nat} (hn : l.Nodup) (hm : ∀ x ∈ l, x < n) (hl : l.length = n) (ht : t < n) : t ∈ l := by
 refine Classical.byContradiction fun hc => ?_
 have := nodup_subN (s := (List.range n).erase t) hn (fun x hx => (List.mem_erase_of_ne (fun e => hc (by rw [← e]; exact hx))).2 (List.mem_range.2 (hm x hx)))
 rw [List.length_erase_of_mem (List.mem_range.2 ht), List.length_range] at this
 omega
/-- There is always one that may come next. -/
def Prg (n : Nat) (p : Nat → Nat → Bool) (st : Nat → Bool) : Prop := ∀ O : List Nat, (∃ t, t < n ∧ O.contains t = false) → ∃ t, t < n ∧ nxtB n p st O t = true
theorem full_prg : fullB n p st = true ↔ Prg n p st := by
 rw [full_iff]
 constructor
 · intro hf O ⟨t, ht, hO⟩
   have key : ∀ k, (∀ x ∈ frs n p st k, x ∈ O) ∨ ∃ t, t < n ∧ nxtB n p st O t = true := by
     intro k
     induction k with
     | zero => exact .inl fun x hx => by cases hx
     | succ k ih =>
       rcases ih with ih | ih
       · rw [frs]
         split
         · exact .inl ih
         · rename_i s hs
           obtain ⟨h1, h2⟩ := nxt_iff.1 (List.find?_some hs)
           cases hc : O.contains s with
           | true =>
             refine .inl fun x hx => ?_
             rcases List.mem_append.1 hx with h | h
             · exact ih x h
             · obtain rfl := List.mem_singleton.1 h
               exact List.contains_iff_mem.1 hc
           | false =>
             refine .inr ⟨s, List.mem_range.1 (List.mem_of_find?_eq_some hs), nxt_iff.2 ⟨hc, h2.imp id fun h u hu hp => ?_⟩⟩
             exact List.contains_iff_mem.2 (ih u (List.contains_iff_mem.1 (h u hu hp)))
       · exact .inr ih
   rcases key n with h | h
   · have := List.contains_iff_mem.2 (h t (full_has (frs_nodup n) (frs_mem n) hf ht))
     rw [hO] at this
     cases this
   · exact h
 · intro hp
   have key : ∀ k, k ≤ n → (frs n p st k).length = k := by
     intro k
     induction k with
     | zero => exact fun _ => rfl
     | succ k ih =>
       intro hk
       have h1 := ih (by omega)
       have hm : ∃ t, t < n ∧ (frs n p st k).contains t = false := by
         refine Classical.byContradiction fun hc => ?_
         have := coverN n (frs n p st k) (fun t ht => by
           rw [← List.contains_iff_mem]
           cases h : (frs n p st k).contains t with
           | true => rfl
           | false => exact absurd ⟨t, ht, h⟩ hc)
         omega
       obtain ⟨t, ht, hx⟩ := hp _ hm
       rw [frs]
       split
       · rename_i hnone
         have := List.find?_eq_none.1 hnone t (List.mem_range.2 ht)
         rw [hx] at this
         exact absurd rfl this
       · rw [List.length_append, h1]
         rfl
   exact key n (Nat.le_refl n)
theorem Prg.mono (h : Prg n p st) (hp : ∀ u t, u < n → p' u t = true → p u t = true ∨ st' t = true) (hs : ∀ t, st t = true → st' t = true) : Prg n p' st' := by
 intro O hO
 obtain ⟨t, ht, hx⟩ := h O hO
 obtain ⟨h1, h2⟩ := nxt_iff.1 hx
 refine ⟨t, ht, nxt_iff.2 ⟨h1, ?_⟩⟩
 cases hst : st' t with
 | true => exact .inl rfl
 | false =>
   rcases h2 with h2 | h2
   · rw [hs t h2] at hst
     cases hst
   · refine .inr fun u hu hpu => ?_
     rcases hp u t hu hpu with h3 | h3
     · exact h2 u hu h3
     · rw [hst] at h3
       cases h3
theorem Prg.all (h : ∀ t, t < n → st t = true) : Prg n p st := fun _ ⟨t, ht, hO⟩ => ⟨t, ht, nxt_iff.2 ⟨hO, .inl (h t ht)⟩⟩
/-- If one only reads greater ones, or only lesser ones. -/
theorem Prg.up (h : ∀ u t, u < n → p u t = true → u < t) : Prg n p st := by
 intro O ⟨t, ht, hO⟩
 have key : ∀ m, m < n → O.contains m = false → ∃ t, t < n ∧ nxtB n p st O t = true := by
   intro m
   induction m using Nat.strongRecOn with
   | _ m ih =>
     intro hm hO
     by_cases hx : ∃ u, u < n ∧ u < m ∧ O.contains u = false
     · obtain ⟨u, h1, h2, h3⟩ := hx
       exact ih u h2 h1 h3
     · refine ⟨m, hm, nxt_iff.2 ⟨hO, .inr fun u hu hp => ?_⟩⟩
       cases hc : O.contains u with
       | true => rfl
       | false => exact absurd ⟨u, hu, h u m hu hp, hc⟩ hx
 exact key t ht hO
end
/-! ### The order of lists -/
theorem cmpL_refl : ∀ a : List Int, cmpL a a = 0
 | [] => rfl
 | x :: a => by rw [cmpL, if_pos (cmpI_zero.2 rfl)]; exact cmpL_refl a
theorem cmpL_anti : ∀ a b : List Int, cmpL b a = -cmpL a b
 | [], [] => rfl
 | [], _ :: _ => rfl
 | _ :: _, [] => rfl
 | x :: a, y :: b => by
   have ih := cmpL_anti a b
   rw [cmpL, cmpL]
   unfold cmpI
   by_cases h1 : x < y
   · simp [h1, show ¬y < x by omega]
   · by_cases h2 : y < x
     · simp [h1, h2]
     · simp [h1, h2, ih]
theorem cmpL_trans : ∀ a b c : List Int, cmpL a b ≤ 0 → cmpL b c ≤ 0 → cmpL a c ≤ 0
 | [], _, [], _, _ => Int.le_refl _
 | [], _, _ :: _, _, _ => by show (-1 : Int) ≤ 0; omega
 | _ :: _, [], _, h, _ => absurd h (by show ¬(1 : Int) ≤ 0; omega)
 | _ :: _, _ :: _, [], _, h => absurd h (by show ¬(1 : Int) ≤ 0; omega)
 | x :: a, y :: b, z :: c, h1, h2 => by
   have ih := cmpL_trans a b c
   rw [cmpL] at h1 h2 ⊢
   unfold cmpI at h1 h2 ⊢
   by_cases a1 : x < y
   · by_cases a2 : y < z
     · simp [show x < z by omega]
     · by_cases a3 : z < y
       · simp [a2, a3] at h2
       · simp [show x < z by omega]
   · by_cases a1' : y < x
     · simp [a1, a1'] at h1
     · obtain rfl : x = y := by omega
       simp at h1
       by_cases a2 : x < z
       · simp [a2]
       · by_cases a3 : z < x
         · simp [a2, a3] at h2
         · simp [a2, a3] at h2 ⊢
           exact ih h1 h2
/-! ### The search -/
section
variable {n k m : Nat} {p : Nat → Nat → Bool}
theorem bst_none : ∀ {m : Nat}, bst n p k m = none ↔ ∀ s, s < m → (mem s 64).length = k → fullB n p s.testBit = false
 | 0 => ⟨fun _ s hs => absurd hs (Nat.not_lt_zero _), fun _ => rfl⟩
 | m + 1 => by
   have ih := bst_none (m := m)
   rw [bst]
   constructor
   · intro h
     split at h
     · cases h
     · rename_i hc
       refine all_step (ih.1 h) (fun hk => ?_)
       cases hf : fullB n p m.testBit with
       | false => rfl
       | true => exact absurd ⟨hk, ⟨fun b (hb : bst n p k m = some b) => absurd (h.symm.trans hb) (by simp), hf⟩⟩ hc
   · intro h
     rw [if_neg]
     · exact ih.2 (fun s hs => h s (by omega))
     · rintro ⟨h1, _, h3⟩
       rw [h m (Nat.lt_succ_self m) h1] at h3
       cases h3
theorem bst_some {b : List Nat} : ∀ {m : Nat}, bst n p k m = some b → (∃ s, s < m ∧ b = mem s 64 ∧ (mem s 64).length = k ∧ fullB n p s.testBit = true) ∧ ∀ s, s < m → (mem s 64).length = k → fullB n p s.testBit = true → cmpL (NI b) (NI (mem s 64)) ≤ 0
 | 0, h => by cases h
 | m + 1, h => by
   rw [bst] at h
   split at h
   · rename_i hc
     obtain ⟨h1, h2, h3⟩ := hc
     injection h with h
     subst h
     refine ⟨⟨m, Nat.lt_succ_self m, rfl, h1, h3⟩, all_step (fun s hs hk hf => ?_) (fun _ _ => by rw [cmpL_refl]; omega)⟩
     cases hb : bst n p k m with
     | none =>
       rw [bst_none.1 hb s hs hk] at hf
       cases hf
     | some b0 => exact cmpL_trans _ _ _ (by have := h2 b0 hb; omega) ((bst_some hb).2 s hs hk hf)
   · rename_i hc
     obtain ⟨⟨s, h1, h2, h3, h4⟩, h5⟩ := bst_some h
     refine ⟨⟨s, by omega, h2, h3, h4⟩, all_step h5 (fun hk hf => ?_)⟩
     refine Classical.byContradiction fun hn => hc ⟨hk, fun b0 hb0 => ?_, hf⟩
     rw [h] at hb0
     injection hb0 with hb0
     subst hb0
     rw [cmpL_anti]
     omega
theorem srch_none_iff {g : Nat → Option (List Nat)} : ∀ {m : Nat}, srch g m = none ↔ ∀ k, k < m → g k = none
 | 0 => ⟨fun _ k hk => absurd hk (Nat.not_lt_zero _), fun _ => rfl⟩
 | m + 1 => by
   have ih := srch_none_iff (g := g) (m := m)
   rw [srch]
   cases h : srch g m with
   | some x => exact ⟨fun q => (by cases q), fun q => by rw [ih.2 (fun k hk => q k (by omega))] at h; cases h⟩
   | none => exact ⟨fun q => all_step (ih.1 h) q, fun q => q m (Nat.lt_succ_self m)⟩
theorem srch_some {g : Nat → Option (List Nat)} {x : List Nat} : ∀ {m : Nat}, srch g m = some x → ∃ k, k < m ∧ g k = some x ∧ ∀ j, j < k → g j = none
 | 0, h => by cases h
 | m + 1, h => by
   rw [srch] at h
   cases hs : srch g m with
   | some y =>
     rw [hs] at h
     injection h with h
     subst h
     obtain ⟨k, h1, h2⟩ := srch_some hs
     exact ⟨k, by omega, h2⟩
   | none =>
     rw [hs] at h
     exact ⟨m, Nat.lt_succ_self m, h, srch_none_iff.1 hs⟩
end
/-! ### Few sectors -/
theorem mem64 {n s : Nat} (hn : n ≤ 64) (hs : s < 2 ^ n) : mem s 64 = mem s n := by
 have := mem_end (m := s) (t := n) (fun i hi => Nat.testBit_lt_two_pow (Nat.lt_of_lt_of_le hs (Nat.pow_le_pow_right (by decide) hi))) (64 - n)
 rwa [show n + (64 - n) = 64 from by omega] at this
section
variable {ls : List (List Int)}
end
end Go.Sl
