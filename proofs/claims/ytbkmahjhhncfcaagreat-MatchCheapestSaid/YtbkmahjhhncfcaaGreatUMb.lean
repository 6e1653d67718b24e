/-
  The least cost of a new image, as plain facts.
-/
import Derived.Test.YtbkmahjhhncfcaaGreatUMa
section
namespace Go.Sl

/-- D tells the least costs of the places up to n, where al tells what is copied or run. -/
structure DpOk (al : Nat → Nat → Prop) (D : Nat → Nat) (n : Nat) : Prop where
 zero : D 0 = 0
 lit : ∀ k i, k < i → i ≤ n → D i ≤ D k + 2 + (i - k)
 piece : ∀ k i, k < i → i ≤ n → al k i → D i ≤ D k + 4
 some : ∀ i, 0 < i → i ≤ n → ∃ k, k < i ∧ (D i = D k + 2 + (i - k) ∨ (al k i ∧ D i = D k + 4))
theorem DpOk.uniq {al : Nat → Nat → Prop} {D E : Nat → Nat} {n : Nat} (h : DpOk al D n) (g : DpOk al E n) : ∀ i, i ≤ n → D i = E i := by
 intro i
 induction i using Nat.strongRecOn with
 | _ i ih =>
   intro hi
   rcases Nat.eq_zero_or_pos i with rfl | h0
   · rw [h.zero, g.zero]
   · obtain ⟨k, k1, k2⟩ := h.some i h0 hi
     obtain ⟨m, m1, m2⟩ := g.some i h0 hi
     have ek := ih k k1 (by omega)
     have em := ih m m1 (by omega)
     have hle : E i ≤ D i := by
       rcases k2 with e | ⟨a, e⟩
       · have := g.lit k i k1 hi
         omega
       · have := g.piece k i k1 hi a
         omega
     have hge : D i ≤ E i := by
       rcases m2 with e | ⟨a, e⟩
       · have := h.lit m i m1 hi
         omega
       · have := h.piece m i m1 hi a
         omega
     omega
/-- One more place. -/
theorem DpOk.snoc {al : Nat → Nat → Prop} {D : Nat → Nat} {n x : Nat} (h : DpOk al D n) (hl : ∀ k, k ≤ n → x ≤ D k + 2 + (n + 1 - k)) (hp : ∀ k, k ≤ n → al k (n + 1) → x ≤ D k + 4) (hs : ∃ k, k ≤ n ∧ (x = D k + 2 + (n + 1 - k) ∨ (al k (n + 1) ∧ x = D k + 4))) : DpOk al (fun i => if i = n + 1 then x else D i) (n + 1) := by
 refine ⟨by rw [if_neg (by omega)]; exact h.zero, fun k i hk hi => ?_, fun k i hk hi ha => ?_, fun i h0 hi => ?_⟩
 · rw [if_neg (by omega : ¬ k = n + 1)]
   by_cases e : i = n + 1
   · subst e
     rw [if_pos rfl]
     exact hl k (by omega)
   · rw [if_neg e]
     exact h.lit k i hk (by omega)
 · rw [if_neg (by omega : ¬ k = n + 1)]
   by_cases e : i = n + 1
   · subst e
     rw [if_pos rfl]
     exact hp k (by omega) ha
   · rw [if_neg e]
     exact h.piece k i hk (by omega) ha
 · by_cases e : i = n + 1
   · subst e
     rw [if_pos rfl]
     obtain ⟨k, k1, k2⟩ := hs
     refine ⟨k, by omega, ?_⟩
     rw [if_neg (by omega : ¬ k = n + 1)]
     exact k2
   · rw [if_neg e]
     obtain ⟨k, k1, k2⟩ := h.some i h0 (by omega)
     refine ⟨k, k1, ?_⟩
     rw [if_neg (by omega : ¬ k = n + 1)]
     exact k2
theorem DpOk.start (al : Nat → Nat → Prop) : DpOk al (fun _ => 0) 0 := ⟨rfl, fun _ _ _ h => by omega, fun _ _ _ h => by omega, fun _ _ h => by omega⟩
/-! ### A window: the places of a list from one on that may be the least -/
/-- The places ps of a window that begins at f, when the values of the places before n were added. -/
structure Wdw (D : Nat → Nat) (f n : Nat) (ps : List Nat) : Prop where
 inc : ps.Pairwise (· < ·)
 val : ps.Pairwise fun p q => D p < D q
 rng : ∀ p ∈ ps, p < n
 all : ∀ k, f ≤ k → k < n → ∃ p ∈ ps, k ≤ p ∧ D p ≤ D k
/-- The places that stay when a value is added. -/
def keepW (D : Nat → Nat) (x : Nat) : List Nat → List Nat
 | [] => []
 | p :: ps => if D p < x then p :: keepW D x ps else []
theorem keepW_sub {D : Nat → Nat} {x : Nat} : ∀ ps : List Nat, ∀ p ∈ keepW D x ps, p ∈ ps ∧ D p < x
 | [], _, h => by cases h
 | q :: ps, p, h => by
   unfold keepW at h
   split at h
   · rename_i g
     rcases List.mem_cons.1 h with rfl | h
     · exact ⟨by simp, g⟩
     · have := keepW_sub ps p h
       exact ⟨by simp [this.1], this.2⟩
   · cases h
theorem keepW_has {D : Nat → Nat} {x : Nat} : ∀ ps : List Nat, ps.Pairwise (fun p q => D p < D q) → ∀ p ∈ ps, D p < x → p ∈ keepW D x ps
 | [], _, _, h, _ => by cases h
 | q :: ps, hv, p, h, hx => by
   obtain ⟨h1, h2⟩ := List.pairwise_cons.1 hv
   unfold keepW
   rcases List.mem_cons.1 h with rfl | h
   · rw [if_pos hx]
     simp
   · have := h1 p h
     rw [if_pos (by omega)]
     exact List.mem_cons_of_mem _ (keepW_has ps h2 p h hx)
theorem keepW_pre {D : Nat → Nat} {x : Nat} : ∀ ps : List Nat, ∃ k, k ≤ ps.length ∧ keepW D x ps = ps.take k
 | [] => ⟨0, Nat.le_refl _, rfl⟩
 | p :: ps => by
   obtain ⟨k, h1, h2⟩ := keepW_pre (D := D) (x := x) ps
   unfold keepW
   split
   · exact ⟨k + 1, by simp; omega, by rw [h2]; rfl⟩
   · exact ⟨0, Nat.zero_le _, rfl⟩
theorem Wdw.add {D : Nat → Nat} {f n : Nat} {ps : List Nat} (h : Wdw D f n ps) (hf : f ≤ n) : Wdw D f (n + 1) (keepW D (D n) ps ++ [n]) := by
 have hs := keepW_sub (D := D) (x := D n) ps
 obtain ⟨k, _, hk⟩ := keepW_pre (D := D) (x := D n) ps
 refine ⟨?_, ?_, fun p hp => ?_, fun j h1 h2 => ?_⟩
 · rw [List.pairwise_append]
   refine ⟨by rw [hk]; exact h.inc.sublist (List.take_sublist _ _), List.pairwise_singleton _ _, fun a ha b hb => ?_⟩
   obtain rfl := List.mem_singleton.1 hb
   exact h.rng a (hs a ha).1
 · rw [List.pairwise_append]
   refine ⟨by rw [hk]; exact h.val.sublist (List.take_sublist _ _), List.pairwise_singleton _ _, fun a ha b hb => ?_⟩
   obtain rfl := List.mem_singleton.1 hb
   exact (hs a ha).2
 · rcases List.mem_append.1 hp with hp | hp
   · have := h.rng p (hs p hp).1
     omega
   · obtain rfl := List.mem_singleton.1 hp
     omega
 · rcases Nat.lt_or_ge j n with g | g
   · obtain ⟨p, p1, p2, p3⟩ := h.all j h1 g
     rcases Nat.lt_or_ge (D p) (D n) with q | q
     · exact ⟨p, List.mem_append_left _ (keepW_has ps h.val p p1 q), p2, p3⟩
     · exact ⟨n, by simp, by omega, by omega⟩
   · obtain rfl : j = n := by omega
     exact ⟨j, by simp, Nat.le_refl _, Nat.le_refl _⟩
theorem Wdw.later {D : Nat → Nat} {f g n : Nat} {ps : List Nat} (h : Wdw D f n ps) (hfg : f ≤ g) : Wdw D g n ps := ⟨h.inc, h.val, h.rng, fun k h1 h2 => h.all k (by omega) h2⟩
theorem Wdw.cut {D : Nat → Nat} {g n p : Nat} {ps : List Nat} (h : Wdw D g n (p :: ps)) (hp : p < g) : Wdw D g n ps := by
 refine ⟨(List.pairwise_cons.1 h.inc).2, (List.pairwise_cons.1 h.val).2, fun q hm => h.rng q (by simp [hm]), fun k h1 h2 => ?_⟩
 obtain ⟨q, q1, q2, q3⟩ := h.all k h1 h2
 rcases List.mem_cons.1 q1 with rfl | q1
 · omega
 · exact ⟨q, q1, q2, q3⟩
theorem Wdw.some {D : Nat → Nat} {g n : Nat} {ps : List Nat} (h : Wdw D g n ps) (hg : g < n) : ps ≠ [] := by
 rintro rfl
 obtain ⟨q, q1, _⟩ := h.all g (Nat.le_refl _) hg
 cases q1
/-- The least one of the window is its first. -/
theorem Wdw.first {D : Nat → Nat} {f n p : Nat} {ps : List Nat} (h : Wdw D f n (p :: ps)) : p < n ∧ ∀ k, f ≤ k → k < n → D p ≤ D k := by
 refine ⟨h.rng p (by simp), fun k h1 h2 => ?_⟩
 obtain ⟨q, q1, q2, q3⟩ := h.all k h1 h2
 rcases List.mem_cons.1 q1 with rfl | q1
 · exact q3
 · have := (List.pairwise_cons.1 h.val).1 q q1
   omega
/-! ### The reference: from each place on -/
/-- The costs C when the places before i have been looked at, and those from i on up to m. -/
structure FwOk (al : Nat → Nat → Prop) (C : Nat → Nat) (n i m : Nat) : Prop where
 done : DpOk al C i
 lit : ∀ j k, j < i → i < k → k ≤ n → C k ≤ C j + 2 + (k - j)
 piece : ∀ j k, j < i → i < k → k ≤ n → al j k → C k ≤ C j + 4
 lit1 : ∀ k, i < k → k < m → k ≤ n → C k ≤ C i + 2 + (k - i)
 piece1 : ∀ k, i < k → k < m → k ≤ n → al i k → C k ≤ C i + 4
 some : ∀ k, i < k → k ≤ n → ∃ j, j ≤ i ∧ (C k = C j + 2 + (k - j) ∨ (al j k ∧ C k = C j + 4))
theorem FwOk.start (al : Nat → Nat → Prop) (n : Nat) {C : Nat → Nat} (h0 : C 0 = 0) (h : ∀ k, 0 < k → k ≤ n → C k = 2 + k) : FwOk al C n 0 1 := by
 refine ⟨⟨h0, fun _ _ _ g => by omega, fun _ _ _ g => by omega, fun _ _ g => by omega⟩, fun _ _ g => by omega, fun _ _ g => by omega, fun k g1 g2 => by omega, fun k g1 g2 => by omega, fun k g1 g2 => ⟨0, Nat.le_refl _, .inl ?_⟩⟩
 rw [h k g1 g2, h0]
 omega
/-- One place looked at. -/
theorem FwOk.step {al : Nat → Nat → Prop} {C E : Nat → Nat} {n i m : Nat} (h : FwOk al C n i m) (hi : i < m) (hm : m ≤ n) (he : ∀ k, k ≠ m → E k = C k) (hl : E m ≤ C m) (h1 : E m ≤ C i + 2 + (m - i)) (h2 : al i m → E m ≤ C i + 4) (hs : E m = C m ∨ E m = C i + 2 + (m - i) ∨ (al i m ∧ E m = C i + 4)) : FwOk al E n i (m + 1) := by
 have ei : ∀ j, j ≤ i → E j = C j := fun j hj => he j (by omega)
 refine ⟨⟨?_, fun k j g1 g2 => ?_, fun k j g1 g2 g3 => ?_, fun j g1 g2 => ?_⟩, fun j k g1 g2 g3 => ?_, fun j k g1 g2 g3 g4 => ?_, fun k g1 g2 g3 => ?_, fun k g1 g2 g3 g4 => ?_, fun k g1 g2 => ?_⟩
 · rw [ei 0 (Nat.zero_le _)]
   exact h.done.zero
 · rw [ei j g2, ei k (by omega)]
   exact h.done.lit k j g1 g2
 · rw [ei j g2, ei k (by omega)]
   exact h.done.piece k j g1 g2 g3
 · obtain ⟨k, k1, k2⟩ := h.done.some j g1 g2
   refine ⟨k, k1, ?_⟩
   rw [ei j g2, ei k (by omega)]
   exact k2
 · rw [ei j (by omega)]
   have := h.lit j k g1 g2 g3
   by_cases e : k = m
   · subst e
     omega
   · rw [he k e]
     exact this
 · rw [ei j (by omega)]
   have := h.piece j k g1 g2 g3 g4
   by_cases e : k = m
   · subst e
     omega
   · rw [he k e]
     exact this
 · rw [ei i (Nat.le_refl _)]
   by_cases e : k = m
   · subst e
     exact h1
   · rw [he k e]
     exact h.lit1 k g1 (by omega) g3
 · rw [ei i (Nat.le_refl _)]
   by_cases e : k = m
   · subst e
     exact h2 g4
   · rw [he k e]
     exact h.piece1 k g1 (by omega) g3 g4
 · by_cases e : k = m
   · subst e
     rcases hs with g | g | g
     · obtain ⟨j, j1, j2⟩ := h.some k g1 g2
       refine ⟨j, j1, ?_⟩
       rw [ei j j1, g]
       exact j2
     · exact ⟨i, Nat.le_refl _, .inl (by rw [ei i (Nat.le_refl _)]; exact g)⟩
     · exact ⟨i, Nat.le_refl _, .inr ⟨g.1, by rw [ei i (Nat.le_refl _)]; exact g.2⟩⟩
   · obtain ⟨j, j1, j2⟩ := h.some k g1 g2
     refine ⟨j, j1, ?_⟩
     rw [ei j j1, he k e]
     exact j2
/-- On to the next place. -/
theorem FwOk.next {al : Nat → Nat → Prop} {C : Nat → Nat} {n i : Nat} (h : FwOk al C n i (n + 1)) (hi : i < n) : FwOk al C n (i + 1) (i + 2) := by
 refine ⟨⟨h.done.zero, fun k j g1 g2 => ?_, fun k j g1 g2 g3 => ?_, fun j g1 g2 => ?_⟩, fun j k g1 g2 g3 => ?_, fun j k g1 g2 g3 g4 => ?_, fun k g1 g2 => by omega, fun k g1 g2 => by omega, fun k g1 g2 => ?_⟩
 · rcases Nat.lt_or_ge i j with g | g
   · rcases Nat.lt_or_ge k i with q | q
     · exact h.lit k j q g (by omega)
     · obtain rfl : k = i := by omega
       exact h.lit1 j g (by omega) (by omega)
   · exact h.done.lit k j g1 g
 · rcases Nat.lt_or_ge i j with g | g
   · rcases Nat.lt_or_ge k i with q | q
     · exact h.piece k j q g (by omega) g3
     · obtain rfl : k = i := by omega
       exact h.piece1 j g (by omega) (by omega) g3
   · exact h.done.piece k j g1 g g3
 · rcases Nat.lt_or_ge i j with g | g
   · obtain ⟨k, k1, k2⟩ := h.some j g (by omega)
     exact ⟨k, by omega, k2⟩
   · exact h.done.some j g1 g
 · rcases Nat.lt_or_ge j i with q | q
   · exact h.lit j k q (by omega) g3
   · obtain rfl : j = i := by omega
     exact h.lit1 k (by omega) (by omega) g3
 · rcases Nat.lt_or_ge j i with q | q
   · exact h.piece j k q (by omega) g3 g4
   · obtain rfl : j = i := by omega
     exact h.piece1 k (by omega) (by omega) g3 g4
 · obtain ⟨j, j1, j2⟩ := h.some k (by omega) g2
   exact ⟨j, by omega, j2⟩
end Go.Sl
end
/-
  The least costs as the program finds them.
-/
section
namespace Go.Sl

theorem dp_step {old new x : List UInt8} {D : Nat → Nat} {n l r kr c e : Nat} (h : DpOk (alN old new) D n) (hn : n + 1 ≤ new.length) (hx : Lng old (new.take (n + 1)) x) (hl : l ≤ n) (hlb : ∀ k, k ≤ n → D l + k ≤ D k + l)
   (hra : alikeN new r (n + 1)) (hrm : ∀ k, alikeN new k (n + 1) → k ≤ n → r ≤ k) (hkr : r ≤ kr ∧ kr ≤ n ∧ ∀ k, r ≤ k → k ≤ n → D kr ≤ D k) (hc : c = if D kr + 4 < D l + 2 + (n + 1 - l) then D kr + 4 else D l + 2 + (n + 1 - l))
   (he : (x.length = 0 ∧ e = c) ∨ (0 < x.length ∧ ∃ kc, n + 1 - x.length ≤ kc ∧ kc ≤ n ∧ (∀ k, n + 1 - x.length ≤ k → k ≤ n → D kc ≤ D k) ∧ e = if D kc + 4 ≤ c then D kc + 4 else c)) :
   DpOk (alN old new) (fun i => if i = n + 1 then e else D i) (n + 1) := by
 have hcl : c ≤ D l + 2 + (n + 1 - l) := by
   rw [hc]
   split <;> omega
 have hcr : c ≤ D kr + 4 := by
   rw [hc]
   split <;> omega
 have hec : e ≤ c := by
   rcases he with ⟨_, rfl⟩ | ⟨_, kc, _, _, _, he⟩
   · exact Nat.le_refl _
   · rw [he]
     split <;> omega
 refine h.snoc (fun k hk => ?_) (fun k hk ha => ?_) ?_
 · have := hlb k hk
   omega
 · rcases ha with ha | ha
   · have h1 := (hx.seg hn).1 ha
     rcases he with ⟨h0, _⟩ | ⟨_, kc, h2, h3, h4, he⟩
     · omega
     · have h5 := h4 k (by omega) hk
       rw [he]
       split <;> omega
   · have := hkr.2.2 k (hrm k ha hk) hk
     omega
 · have hcs : ∃ k, k ≤ n ∧ (c = D k + 2 + (n + 1 - k) ∨ (alN old new k (n + 1) ∧ c = D k + 4)) := by
     rw [hc]
     split
     · exact ⟨kr, hkr.2.1, .inr ⟨.inr (alikeN_suf hra hkr.1), rfl⟩⟩
     · exact ⟨l, hl, .inl rfl⟩
   rcases he with ⟨_, rfl⟩ | ⟨_, kc, h2, h3, h4, he⟩
   · exact hcs
   · rw [he]
     split
     · exact ⟨kc, h3, .inr ⟨.inl ((hx.seg hn).2 (by omega)), rfl⟩⟩
     · exact hcs
end Go.Sl
end
