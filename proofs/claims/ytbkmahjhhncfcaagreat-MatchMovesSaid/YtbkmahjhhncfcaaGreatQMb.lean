/-
  The least cost of a new image, as plain facts.
-/
import Derived.Test.YtbkmahjhhncfcaaGreatQMa
import Derived.Test.YtbkmahjhhncfcaaGreatQMd
section
namespace Go.Sl

/-- D tells the least costs of the places up to n, where al tells what is copied or run. -/
structure DpOk (al : Nat → Nat → Prop) (D : Nat → Nat) (n : Nat) : Prop where
 zero : D 0 = 0
 lit : ∀ k i, k < i → i ≤ n → D i ≤ D k + 2 + (i - k)
 piece : ∀ k i, k < i → i ≤ n → al k i → D i ≤ D k + 4
 some : ∀ i, 0 < i → i ≤ n → ∃ k, k < i ∧ (D i = D k + 2 + (i - k) ∨ (al k i ∧ D i = D k + 4))
theorem DpOk.uniq {al : Nat → Nat → Prop} {D E : Nat → Nat} {n : Nat} (h : DpOk al D n) (g : DpOk al E n) : ∀ i, i ≤ n → D i = E i := by
 intro i
 induction i using Nat.strongRecOn with
 | _ i ih =>
   intro hi
   rcases Nat.eq_zero_or_pos i with rfl | h0
   · rw [h.zero, g.zero]
   · obtain ⟨k, k1, k2⟩ := h.some i h0 hi
     obtain ⟨m, m1, m2⟩ := g.some i h0 hi
     have ek := ih k k1 (by omega)
     have em := ih m m1 (by omega)
     have hle : E i ≤ D i := by
       rcases k2 with e | ⟨a, e⟩
       · have := g.lit k i k1 hi
         omega
       · have := g.piece k i k1 hi a
         omega
     have hge : D i ≤ E i := by
       rcases m2 with e | ⟨a, e⟩
       · have := h.lit m i m1 hi
         omega
       · have := h.piece m i m1 hi a
         omega
     omega
/-- One more place. -/
theorem DpOk.snoc {al : Nat → Nat → Prop} {D : Nat → Nat} {n x : Nat} (h : DpOk al D n) (hl : ∀ k, k ≤ n → x ≤ D k + 2 + (n + 1 - k)) (hp : ∀ k, k ≤ n → al k (n + 1) → x ≤ D k + 4) (hs : ∃ k, k ≤ n ∧ (x = D k + 2 + (n + 1 - k) ∨ (al k (n + 1) ∧ x = D k + 4))) : DpOk al (fun i => if i = n + 1 then x else D i) (n + 1) := by
 refine ⟨by rw [if_neg (by omega)]; exact h.zero, fun k i hk hi => ?_, fun k i hk hi ha => ?_, fun i h0 hi => ?_⟩
 · rw [if_neg (by omega : ¬ k = n + 1)]
   by_cases e : i = n + 1
   · subst e
     rw [if_pos rfl]
     exact hl k (by omega)
   · rw [if_neg e]
     exact h.lit k i hk (by omega)
 · rw [if_neg (by omega : ¬ k = n + 1)]
   by_cases e : i = n + 1
   · subst e
     rw [if_pos rfl]
     exact hp k (by omega) ha
   · rw [if_neg e]
     exact h.piece k i hk (by omega) ha
 · by_cases e : i = n + 1
   · subst e
     rw [if_pos rfl]
     obtain ⟨k, k1, k2⟩ := hs
     refine ⟨k, by omega, ?_⟩
     rw [if_neg (by omega : ¬ k = n + 1)]
     exact k2
   · rw [if_neg e]
     obtain ⟨k, k1, k2⟩ := h.some i h0 (by omega)
     refine ⟨k, k1, ?_⟩
     rw [if_neg (by omega : ¬ k = n + 1)]
     exact k2
theorem DpOk.start (al : Nat → Nat → Prop) : DpOk al (fun _ => 0) 0 := ⟨rfl, fun _ _ _ h => by omega, fun _ _ _ h => by omega, fun _ _ h => by omega⟩
/-! ### A window: the places of a list from one on that may be the least -/
/-- The places ps of a window that begins at f, when the values of the places before n were added. -/
structure Wdw (D : Nat → Nat) (f n : Nat) (ps : List Nat) : Prop where
 inc : ps.Pairwise (· < ·)
 val : ps.Pairwise fun p q => D p < D q
 rng : ∀ p ∈ ps, p < n
 all : ∀ k, f ≤ k → k < n → ∃ p ∈ ps, k ≤ p ∧ D p ≤ D k
/-- The places that stay when a value is added. -/
def keepW (D : Nat → Nat) (x : Nat) : List Nat → List Nat
 | [] => []
 | p :: ps => if D p < x then p :: keepW D x ps else []
theorem keepW_sub {D : Nat → Nat} {x : Nat} : ∀ ps : List Nat, ∀ p ∈ keepW D x ps, p ∈ ps ∧ D p < x
 | [], _, h => by cases h
 | q :: ps, p, h => by
   unfold keepW at h
   split at h
   · rename_i g
     rcases List.mem_cons.1 h with rfl | h
     · exact ⟨by simp, g⟩
     · have := keepW_sub ps p h
       exact ⟨by simp [this.1], this.2⟩
   · cases h
theorem keepW_has {D : Nat → Nat} {x : Nat} : ∀ ps : List Nat, ps.Pairwise (fun p q => D p < D q) → ∀ p ∈ ps, D p < x → p ∈ keepW D x ps
 | [], _, _, h, _ => by cases h
 | q :: ps, hv, p, h, hx => by
   obtain ⟨h1, h2⟩ := List.pairwise_cons.1 hv
   unfold keepW
   rcases List.mem_cons.1 h with rfl | h
   · rw [if_pos hx]
     simp
   · have := h1 p h
     rw [if_pos (by omega)]
     exact List.mem_cons_of_mem _ (keepW_has ps h2 p h hx)
theorem keepW_pre {D : Nat → Nat} {x : Nat} : ∀ ps : List Nat, ∃ k, k ≤ ps.length ∧ keepW D x ps = ps.take k
 | [] => ⟨0, Nat.le_refl _, rfl⟩
 | p :: ps => by
   obtain ⟨k, h1, h2⟩ := keepW_pre (D := D) (x := x) ps
   unfold keepW
   split
   · exact ⟨k + 1, by simp; omega, by rw [h2]; rfl⟩
   · exact ⟨0, Nat.zero_le _, rfl⟩
theorem Wdw.add {D : Nat → Nat} {f n : Nat} {ps : List Nat} (h : Wdw D f n ps) (hf : f ≤ n) : Wdw D f (n + 1) (keepW D (D n) ps ++ [n]) := by
 have hs := keepW_sub (D := D) (x := D n) ps
 obtain ⟨k, _, hk⟩ := keepW_pre (D := D) (x := D n) ps
 refine ⟨?_, ?_, fun p hp => ?_, fun j h1 h2 => ?_⟩
 · rw [List.pairwise_append]
   refine ⟨by rw [hk]; exact h.inc.sublist (List.take_sublist _ _), List.pairwise_singleton _ _, fun a ha b hb => ?_⟩
   obtain rfl := List.mem_singleton.1 hb
   exact h.rng a (hs a ha).1
 · rw [List.pairwise_append]
   refine ⟨by rw [hk]; exact h.val.sublist (List.take_sublist _ _), List.pairwise_singleton _ _, fun a ha b hb => ?_⟩
   obtain rfl := List.mem_singleton.1 hb
   exact (hs a ha).2
 · rcases List.mem_append.1 hp with hp | hp
   · have := h.rng p (hs p hp).1
     omega
   · obtain rfl := List.mem_singleton.1 hp
     omega
 · rcases Nat.lt_or_ge j n with g | g
   · obtain ⟨p, p1, p2, p3⟩ := h.all j h1 g
     rcases Nat.lt_or_ge (D p) (D n) with q | q
     · exact ⟨p, List.mem_append_left _ (keepW_has ps h.val p p1 q), p2, p3⟩
     · exact ⟨n, by simp, by omega, by omega⟩
   · obtain rfl : j = n := by omega
     exact ⟨j, by simp, Nat.le_refl _, Nat.le_refl _⟩
theorem Wdw.later {D : Nat → Nat} {f g n : Nat} {ps : List Nat} (h : Wdw D f n ps) (hfg : f ≤ g) : Wdw D g n ps := ⟨h.inc, h.val, h.rng, fun k h1 h2 => h.all k (by omega) h2⟩
theorem Wdw.cut {D : Nat → Nat} {g n p : Nat} {ps : List Nat} (h : Wdw D g n (p :: ps)) (hp : p < g) : Wdw D g n ps := by
 refine ⟨(List.pairwise_cons.1 h.inc).2, (List.pairwise_cons.1 h.val).2, fun q hm => h.rng q (by simp [hm]), fun k h1 h2 => ?_⟩
 obtain ⟨q, q1, q2, q3⟩ := h.all k h1 h2
 rcases List.mem_cons.1 q1 with rfl | q1
 · omega
 · exact ⟨q, q1, q2, q3⟩
theorem Wdw.some {D : Nat → Nat} {g n : Nat} {ps : List Nat} (h : Wdw D g n ps) (hg : g < n) : ps ≠ [] := by
 rintro rfl
 obtain ⟨q, q1, _⟩ := h.all g (Nat.le_refl _) hg
 cases q1
/-- The least one of the window is its first. -/
theorem Wdw.first {D : Nat → Nat} {f n p : Nat} {ps : List Nat} (h : Wdw D f n (p :: ps)) : p < n ∧ ∀ k, f ≤ k → k < n → D p ≤ D k := by
 refine ⟨h.rng p (by simp), fun k h1 h2 => ?_⟩
 obtain ⟨q, q1, q2, q3⟩ := h.all k h1 h2
 rcases List.mem_cons.1 q1 with rfl | q1
 · exact q3
 · have := (List.pairwise_cons.1 h.val).1 q q1
   omega
/-! ### The reference: from each place on -/
/-- The costs C when the places before i have been looked at, and those from i on up to m. -/
structure FwOk (al : Nat → Nat → Prop) (C : Nat → Nat) (n i m : Nat) : Prop where
 done : DpOk al C i
 lit : ∀ j k, j < i → i < k → k ≤ n → C k ≤ C j + 2 + (k - j)
 piece : ∀ j k, j < i → i < k → k ≤ n → al j k → C k ≤ C j + 4
 lit1 : ∀ k, i < k → k < m → k ≤ n → C k ≤ C i + 2 + (k - i)
 piece1 : ∀ k, i < k → k < m → k ≤ n → al i k → C k ≤ C i + 4
 some : ∀ k, i < k → k ≤ n → ∃ j, j ≤ i ∧ (C k = C j + 2 + (k - j) ∨ (al j k ∧ C k = C j + 4))
theorem FwOk.start (al : Nat → Nat → Prop) (n : Nat) {C : Nat → Nat} (h0 : C 0 = 0) (h : ∀ k, 0 < k → k ≤ n → C k = 2 + k) : FwOk al C n 0 1 := by
 refine ⟨⟨h0, fun _ _ _ g => by omega, fun _ _ _ g => by omega, fun _ _ g => by omega⟩, fun _ _ g => by omega, fun _ _ g => by omega, fun k g1 g2 => by omega, fun k g1 g2 => by omega, fun k g1 g2 => ⟨0, Nat.le_refl _, .inl ?_⟩⟩
 rw [h k g1 g2, h0]
 omega
/-- One place looked at. -/
theorem FwOk.step {al : Nat → Nat → Prop} {C E : Nat → Nat} {n i m : Nat} (h : FwOk al C n i m) (hi : i < m) (hm : m ≤ n) (he : ∀ k, k ≠ m → E k = C k) (hl : E m ≤ C m) (h1 : E m ≤ C i + 2 + (m - i)) (h2 : al i m → E m ≤ C i + 4) (hs : E m = C m ∨ E m = C i + 2 + (m - i) ∨ (al i m ∧ E m = C i + 4)) : FwOk al E n i (m + 1) := by
 have ei : ∀ j, j ≤ i → E j = C j := fun j hj => he j (by omega)
 refine ⟨⟨?_, fun k j g1 g2 => ?_, fun k j g1 g2 g3 => ?_, fun j g1 g2 => ?_⟩, fun j k g1 g2 g3 => ?_, fun j k g1 g2 g3 g4 => ?_, fun k g1 g2 g3 => ?_, fun k g1 g2 g3 g4 => ?_, fun k g1 g2 => ?_⟩
 · rw [ei 0 (Nat.zero_le _)]
   exact h.done.zero
 · rw [ei j g2, ei k (by omega)]
   exact h.done.lit k j g1 g2
 · rw [ei j g2, ei k (by omega)]
   exact h.done.piece k j g1 g2 g3
 · obtain ⟨k, k1, k2⟩ := h.done.some j g1 g2
   refine ⟨k, k1, ?_⟩
   rw [ei j g2, ei k (by omega)]
   exact k2
 · rw [ei j (by omega)]
   have := h.lit j k g1 g2 g3
   by_cases e : k = m
   · subst e
     omega
   · rw [he k e]
     exact this
 · rw [ei j (by omega)]
   have := h.piece j k g1 g2 g3 g4
   by_cases e : k = m
   · subst e
     omega
   · rw [he k e]
     exact this
 · rw [ei i (Nat.le_refl _)]
   by_cases e : k = m
   · subst e
     exact h1
   · rw [he k e]
     exact h.lit1 k g1 (by omega) g3
 · rw [ei i (Nat.le_refl _)]
   by_cases e : k = m
   · subst e
     exact h2 g4
   · rw [he k e]
     exact h.piece1 k g1 (by omega) g3 g4
 · by_cases e : k = m
   · subst e
     rcases hs with g | g | g
     · obtain ⟨j, j1, j2⟩ := h.some k g1 g2
       refine ⟨j, j1, ?_⟩
       rw [ei j j1, g]
       exact j2
     · exact ⟨i, Nat.le_refl _, .inl (by rw [ei i (Nat.le_refl _)]; exact g)⟩
     · exact ⟨i, Nat.le_refl _, .inr ⟨g.1, by rw [ei i (Nat.le_refl _)]; exact g.2⟩⟩
   · obtain ⟨j, j1, j2⟩ := h.some k g1 g2
     refine ⟨j, j1, ?_⟩
     rw [ei j j1, he k e]
     exact j2
/-- On to the next place. -/
theorem FwOk.next {al : Nat → Nat → Prop} {C : Nat → Nat} {n i : Nat} (h : FwOk al C n i (n + 1)) (hi : i < n) : FwOk al C n (i + 1) (i + 2) := by
 refine ⟨⟨h.done.zero, fun k j g1 g2 => ?_, fun k j g1 g2 g3 => ?_, fun j g1 g2 => ?_⟩, fun j k g1 g2 g3 => ?_, fun j k g1 g2 g3 g4 => ?_, fun k g1 g2 => by omega, fun k g1 g2 => by omega, fun k g1 g2 => ?_⟩
 · rcases Nat.lt_or_ge i j with g | g
   · rcases Nat.lt_or_ge k i with q | q
     · exact h.lit k j q g (by omega)
     · obtain rfl : k = i := by omega
       exact h.lit1 j g (by omega) (by omega)
   · exact h.done.lit k j g1 g
 · rcases Nat.lt_or_ge i j with g | g
   · rcases Nat.lt_or_ge k i with q | q
     · exact h.piece k j q g (by omega) g3
     · obtain rfl : k = i := by omega
       exact h.piece1 j g (by omega) (by omega) g3
   · exact h.done.piece k j g1 g g3
 · rcases Nat.lt_or_ge i j with g | g
   · obtain ⟨k, k1, k2⟩ := h.some j g (by omega)
     exact ⟨k, by omega, k2⟩
   · exact h.done.some j g1 g
 · rcases Nat.lt_or_ge j i with q | q
   · exact h.lit j k q (by omega) g3
   · obtain rfl : j = i := by omega
     exact h.lit1 k (by omega) (by omega) g3
 · rcases Nat.lt_or_ge j i with q | q
   · exact h.piece j k q (by omega) g3 g4
   · obtain rfl : j = i := by omega
     exact h.piece1 k (by omega) (by omega) g3 g4
 · obtain ⟨j, j1, j2⟩ := h.some k (by omega) g2
   exact ⟨j, by omega, j2⟩
end Go.Sl
end
/-
  The least costs as the program finds them.
-/
section
namespace Go.Sl

theorem dp_step {old new x : List UInt8} {D : Nat → Nat} {n l r kr c e : Nat} (h : DpOk (alN old new) D n) (hn : n + 1 ≤ new.length) (hx : Lng old (new.take (n + 1)) x) (hl : l ≤ n) (hlb : ∀ k, k ≤ n → D l + k ≤ D k + l)
   (hra : alikeN new r (n + 1)) (hrm : ∀ k, alikeN new k (n + 1) → k ≤ n → r ≤ k) (hkr : r ≤ kr ∧ kr ≤ n ∧ ∀ k, r ≤ k → k ≤ n → D kr ≤ D k) (hc : c = if D kr + 4 < D l + 2 + (n + 1 - l) then D kr + 4 else D l + 2 + (n + 1 - l))
   (he : (x.length = 0 ∧ e = c) ∨ (0 < x.length ∧ ∃ kc, n + 1 - x.length ≤ kc ∧ kc ≤ n ∧ (∀ k, n + 1 - x.length ≤ k → k ≤ n → D kc ≤ D k) ∧ e = if D kc + 4 ≤ c then D kc + 4 else c)) :
   DpOk (alN old new) (fun i => if i = n + 1 then e else D i) (n + 1) := by
 have hcl : c ≤ D l + 2 + (n + 1 - l) := by
   rw [hc]
   split <;> omega
 have hcr : c ≤ D kr + 4 := by
   rw [hc]
   split <;> omega
 have hec : e ≤ c := by
   rcases he with ⟨_, rfl⟩ | ⟨_, kc, _, _, _, he⟩
   · exact Nat.le_refl _
   · rw [he]
     split <;> omega
 refine h.snoc (fun k hk => ?_) (fun k hk ha => ?_) ?_
 · have := hlb k hk
   omega
 · rcases ha with ha | ha
   · have h1 := (hx.seg hn).1 ha
     rcases he with ⟨h0, _⟩ | ⟨_, kc, h2, h3, h4, he⟩
     · omega
     · have h5 := h4 k (by omega) hk
       rw [he]
       split <;> omega
   · have := hkr.2.2 k (hrm k ha hk) hk
     omega
 · have hcs : ∃ k, k ≤ n ∧ (c = D k + 2 + (n + 1 - k) ∨ (alN old new k (n + 1) ∧ c = D k + 4)) := by
     rw [hc]
     split
     · exact ⟨kr, hkr.2.1, .inr ⟨.inr (alikeN_suf hra hkr.1), rfl⟩⟩
     · exact ⟨l, hl, .inl rfl⟩
   rcases he with ⟨_, rfl⟩ | ⟨_, kc, h2, h3, h4, he⟩
   · exact hcs
   · rw [he]
     split
     · exact ⟨kc, h3, .inr ⟨.inl ((hx.seg hn).2 (by omega)), rfl⟩⟩
     · exact hcs
end Go.Sl
end
/-
  The cheapest steps to all places, as plain facts; windows in memory.
-/
section
namespace Go.Sl

def Ni (l : List Nat) : List Value := l.map fun (x : Nat) => .int .i64 (x : Int)
theorem Ni_len (l : List Nat) : (Ni l).length = l.length := by simp [Ni]
theorem Ni_get {l : List Nat} {k : Nat} (h : k < l.length) : (Ni l)[k]? = some (.int .i64 ((l.getD k 0 : Nat) : Int)) := by simp [Ni, h]
theorem Ni_take (l : List Nat) (k : Nat) : (Ni l).take k = Ni (l.take k) := by simp [Ni, List.map_take]
theorem Ni_app (a b : List Nat) : Ni a ++ Ni b = Ni (a ++ b) := by simp [Ni]
/-- How many of the first n values stay when x is added. -/
def kpN (x : Nat) (vs : List Nat) : Nat → Nat
 | 0 => 0
 | n + 1 => if vs.getD n 0 < x then n + 1 else kpN x vs n
theorem kpN_le (x : Nat) (vs : List Nat) : ∀ n, kpN x vs n ≤ n
 | 0 => Nat.le_refl _
 | n + 1 => by
   unfold kpN
   split
   · exact Nat.le_refl _
   · exact Nat.le_trans (kpN_le x vs n) (Nat.le_succ _)
theorem kpN_keep {D : Nat → Nat} {x : Nat} {ps : List Nat} (h : ps.Pairwise fun p q => D p < D q) : ps.take (kpN x (ps.map D) ps.length) = keepW D x ps := by
 obtain ⟨k, hk, e⟩ := keepW_pre (D := D) (x := x) ps
 have hat : ∀ (j : Nat) (hj : j < ps.length), (ps.map D).getD j 0 = D ps[j] := fun j hj => by simp [List.getD_eq_getElem?_getD, hj]
 have lt : ∀ (i j : Nat) (hi : i < ps.length) (hj : j < ps.length), i < j → D ps[i] < D ps[j] := fun i j hi hj hij => List.pairwise_iff_getElem.1 h i j hi hj hij
 have sub := keepW_sub (D := D) (x := x) ps
 have has := keepW_has (x := x) ps h
 rw [e] at sub has
 have h1 : ∀ (j : Nat) (hj : j < ps.length), D ps[j] < x ↔ j < k := by
   intro j hj
   constructor
   · intro hx
     have := has _ (List.getElem_mem hj) hx
     obtain ⟨i, hi, e⟩ := List.getElem_of_mem this
     rw [List.getElem_take] at e
     rw [List.length_take] at hi
     refine Nat.lt_of_not_le fun hle => ?_
     have h2 := lt i j (by omega) hj (by omega)
     rw [e] at h2
     omega
   · intro hx
     have hm : ps[j] ∈ ps.take k := by
       rw [List.mem_take_iff_getElem]
       exact ⟨j, by omega, rfl⟩
     exact (sub _ hm).2
 have h2 : ∀ n, n ≤ ps.length → kpN x (ps.map D) n = min n k := by
   intro n
   induction n with
   | zero => intro _; simp [kpN]
   | succ n ih =>
     intro hn
     unfold kpN
     rw [hat n (by omega)]
     by_cases hx : D ps[n] < x
     · rw [if_pos hx]
       have := (h1 n (by omega)).1 hx
       omega
     · rw [if_neg hx, ih (by omega)]
       have : ¬ n < k := fun q => hx ((h1 n (by omega)).2 q)
       omega
 rw [e, h2 _ (Nat.le_refl _), Nat.min_eq_right hk]
theorem kpN_pred {x : Nat} {vs : List Nat} {k : Nat} (h0 : 0 < k) (h : ¬ vs.getD (k - 1) 0 < x) : kpN x vs k = kpN x vs (k - 1) := by
 obtain ⟨m, rfl⟩ : ∃ m, k = m + 1 := ⟨k - 1, by omega⟩
 rw [Nat.add_sub_cancel] at h ⊢
 rw [kpN, if_neg h]
theorem kpN_stop {x : Nat} {vs : List Nat} {k : Nat} (h0 : 0 < k) (h : vs.getD (k - 1) 0 < x) : kpN x vs k = k := by
 obtain ⟨m, rfl⟩ : ∃ m, k = m + 1 := ⟨k - 1, by omega⟩
 rw [Nat.add_sub_cancel] at h
 rw [kpN, if_pos h]
/-- How many places come before one. -/
def lfN (f : Nat) : List Nat → Nat
 | [] => 0
 | p :: ps => if p < f then lfN f ps + 1 else 0
theorem Wdw.drop {D : Nat → Nat} {g n : Nat} : ∀ {ps : List Nat}, Wdw D g n ps → Wdw D g n (ps.drop (lfN g ps))
 | [], h => h
 | p :: ps, h => by
   unfold lfN
   split
   · rename_i hp
     rw [List.drop_succ_cons]
     exact (h.cut hp).drop
   · exact h
theorem lfN_head {f : Nat} : ∀ {ps : List Nat}, (∃ p ∈ ps, f ≤ p) → lfN f ps < ps.length ∧ f ≤ ps.getD (lfN f ps) 0
 | [], h => by
   obtain ⟨p, hp, _⟩ := h
   cases hp
 | p :: ps, h => by
   unfold lfN
   split
   · rename_i hp
     have : ∃ q ∈ ps, f ≤ q := by
       obtain ⟨q, hq, hf⟩ := h
       rcases List.mem_cons.1 hq with rfl | hq
       · omega
       · exact ⟨q, hq, hf⟩
     obtain ⟨h1, h2⟩ := lfN_head this
     exact ⟨by simpa using h1, by simpa using h2⟩
   · rename_i hp
     exact ⟨by simp, by simpa using hp⟩
/-- While places are cut off: what is left. -/
def LsI (f : Nat) (ps vs qs us : List Nat) : Prop := ∃ j, qs = ps.drop j ∧ us = vs.drop j ∧ lfN f ps = j + lfN f qs
theorem LsI.start (f : Nat) (ps vs : List Nat) : LsI f ps vs ps vs := ⟨0, rfl, rfl, (Nat.zero_add _).symm⟩
theorem LsI.some {f : Nat} {ps vs qs us : List Nat} (h : LsI f ps vs qs us) (hl : ps.length = vs.length) (hlt : lfN f ps < ps.length) : ∃ q qs' u us', qs = q :: qs' ∧ us = u :: us' := by
 obtain ⟨j, rfl, rfl, h3⟩ := h
 have hj : j < ps.length := by omega
 exact ⟨_, _, _, _, List.drop_eq_getElem_cons hj, List.drop_eq_getElem_cons (by omega)⟩
theorem LsI.next {f q u : Nat} {ps vs qs us : List Nat} (h : LsI f ps vs (q :: qs) (u :: us)) (hq : q < f) : LsI f ps vs qs us := by
 obtain ⟨j, h1, h2, h3⟩ := h
 refine ⟨j + 1, ?_, ?_, ?_⟩
 · rw [← List.drop_drop, ← h1]
   rfl
 · rw [← List.drop_drop, ← h2]
   rfl
 · rw [h3, lfN, if_pos hq]
   omega
theorem LsI.stop {f q u : Nat} {ps vs qs us : List Nat} (h : LsI f ps vs (q :: qs) (u :: us)) (hq : ¬ q < f) : q :: qs = ps.drop (lfN f ps) ∧ u :: us = vs.drop (lfN f ps) ∧ q = ps.getD (lfN f ps) 0 := by
 obtain ⟨j, h1, h2, h3⟩ := h
 have e : lfN f (q :: qs) = 0 := by rw [lfN, if_neg hq]
 rw [e, Nat.add_zero] at h3
 rw [h3]
 refine ⟨h1, h2, ?_⟩
 have := congrArg (fun l : List Nat => l.getD 0 0) h1
 simpa [List.getD_eq_getElem?_getD, List.getElem?_drop] using this
/-! ### Steps -/
structure Sp where
 c : Nat
 f : Nat
 k : Nat
 a : Nat
 l : Nat
 b : UInt8
def Sp.zero : Sp := ⟨0, 0, 0, 0, 0, 0⟩
def spC (NA : Option Addr) (nc : Nat) (s : Sp) : List Value := [.int .i64 (s.c : Int), .int .i64 (s.f : Int), .int .i64 (s.k : Int), .int .i64 (s.a : Int), .int .i64 (s.l : Int), .int .u8 (s.b.toNat : Int), if s.k = 4 then .slice (subA NA nc s.f 1) s.l (nc - s.f) else .slice none 0 0]
theorem spC_len (NA : Option Addr) (nc : Nat) (s : Sp) : (spC NA nc s).length = 7 := rfl
theorem spC_one (NA : Option Addr) (nc : Nat) (s : Sp) : (spC NA nc s).all Value.oneCell' = true := by
 unfold spC
 split <;> rfl
def cst (ss : List Sp) (i : Nat) : Nat := (ss.getD i Sp.zero).c
theorem cst_set {ss : List Sp} {k : Nat} (hk : k < ss.length) (x : Sp) : cst (ss.set k x) = fun i => if i = k then x.c else cst ss i := by
 funext i
 unfold cst
 rw [List.getD_eq_getElem?_getD, List.getElem?_set]
 by_cases e : k = i
 · subst e
   rw [if_pos rfl, if_pos hk, if_pos rfl]
   rfl
 · rw [if_neg e, if_neg (fun h => e h.symm), List.getD_eq_getElem?_getD]
/-- A step makes a piece of the new image at its cost. -/
def StOk (old new : List UInt8) (D : Nat → Nat) (i : Nat) (s : Sp) : Prop := s.c = D i ∧ s.f < i ∧ s.l = i - s.f ∧
 ((s.k = 4 ∧ s.a = 0 ∧ s.b = 0 ∧ D i = D s.f + 2 + (i - s.f)) ∨ (s.k = 3 ∧ s.a = 0 ∧ s.b = new.getD (i - 1) 0 ∧ alikeN new s.f i ∧ D i = D s.f + 4) ∨ (s.k = 1 ∧ s.b = 0 ∧ s.a + s.l ≤ old.length ∧ segN new s.f i = (old.drop s.a).take s.l ∧ D i = D s.f + 4))
structure FiOk (old new : List UInt8) (ss : List Sp) (n : Nat) : Prop where
 len : ss.length = new.length + 1
 dp : DpOk (alN old new) (cst ss) n
 ok : ∀ i, 0 < i → i ≤ n → StOk old new (cst ss) i (ss.getD i Sp.zero)
theorem FiOk.start {old new : List UInt8} : FiOk old new (List.replicate (new.length + 1) Sp.zero) 0 := by
 refine ⟨List.length_replicate, ⟨?_, fun _ _ _ h => by omega, fun _ _ _ h => by omega, fun _ _ h => by omega⟩, fun i h0 h => by omega⟩
 simp [cst, List.getD_eq_getElem?_getD, Sp.zero]
theorem FiOk.le {old new : List UInt8} {ss : List Sp} {n : Nat} (h : FiOk old new ss n) {i : Nat} (hi : i ≤ n) : cst ss i ≤ 2 + i := by
 rcases Nat.eq_zero_or_pos i with rfl | h0
 · rw [h.dp.zero]
   omega
 · have := h.dp.lit 0 i h0 hi
   rw [h.dp.zero] at this
   omega
/-- What is known of the best step to the place behind n: it is one of three, and the costs are least. -/
theorem FiOk.step {old new x : List UInt8} {ss : List Sp} {n l r kr c kc at_ : Nat} {s : Sp} (h : FiOk old new ss n) (hn : n + 1 ≤ new.length) (hx : Lng old (new.take (n + 1)) x) (hat : at_ ≤ old.length ∧ x.length ≤ at_ ∧ (old.take at_).drop (at_ - x.length) = x)
   (hl : l ≤ n) (hlb : ∀ k, k ≤ n → cst ss l + k ≤ cst ss k + l) (hra : alikeN new r (n + 1)) (hrm : ∀ k, alikeN new k (n + 1) → k ≤ n → r ≤ k) (hkr : r ≤ kr ∧ kr ≤ n ∧ ∀ k, r ≤ k → k ≤ n → cst ss kr ≤ cst ss k)
   (hc : c = if cst ss kr + 4 < cst ss l + 2 + (n + 1 - l) then cst ss kr + 4 else cst ss l + 2 + (n + 1 - l))
   (he : (0 < x.length ∧ (n + 1 - x.length ≤ kc ∧ kc ≤ n ∧ ∀ k, n + 1 - x.length ≤ k → k ≤ n → cst ss kc ≤ cst ss k) ∧ cst ss kc + 4 ≤ c ∧ s = ⟨cst ss kc + 4, kc, 1, at_ - (n + 1 - kc), n + 1 - kc, 0⟩) ∨
     ((x.length = 0 ∨ (n + 1 - x.length ≤ kc ∧ kc ≤ n ∧ (∀ k, n + 1 - x.length ≤ k → k ≤ n → cst ss kc ≤ cst ss k)) ∧ ¬ cst ss kc + 4 ≤ c) ∧ ((cst ss kr + 4 < cst ss l + 2 + (n + 1 - l) ∧ s = ⟨cst ss kr + 4, kr, 3, 0, n + 1 - kr, new.getD n 0⟩) ∨ (¬ cst ss kr + 4 < cst ss l + 2 + (n + 1 - l) ∧ s = ⟨cst ss l + 2 + (n + 1 - l), l, 4, 0, n + 1 - l, 0⟩)))) :
   FiOk old new (ss.set (n + 1) s) (n + 1) := by
 have hlen : n + 1 < ss.length := by rw [h.len]; omega
 have hD := cst_set hlen s
 have hdp : DpOk (alN old new) (fun i => if i = n + 1 then s.c else cst ss i) (n + 1) := by
   refine dp_step (c := c) h.dp hn hx hl hlb hra hrm hkr hc ?_
   rcases he with ⟨h0, ⟨k1, k2, k3⟩, h4, rfl⟩ | ⟨h0, hs⟩
   · exact .inr ⟨h0, kc, k1, k2, k3, by rw [if_pos h4]⟩
   · have hsc : s.c = c := by
       rcases hs with ⟨g, rfl⟩ | ⟨g, rfl⟩
       · rw [hc, if_pos g]
       · rw [hc, if_neg g]
     rcases h0 with h0 | ⟨⟨k1, k2, k3⟩, h4⟩
     · exact .inl ⟨h0, hsc⟩
     · rcases Nat.eq_zero_or_pos x.length with h0 | h0
       · exact .inl ⟨h0, hsc⟩
       · exact .inr ⟨h0, kc, k1, k2, k3, by rw [if_neg h4]; exact hsc⟩
 refine ⟨by rw [List.length_set]; exact h.len, by rw [hD]; exact hdp, fun i h0 hi => ?_⟩
 rw [hD]
 by_cases e : i = n + 1
 · subst e
   have hget : (ss.set (n + 1) s).getD (n + 1) Sp.zero = s := by
     rw [List.getD_eq_getElem?_getD, List.getElem?_set, if_pos rfl, if_pos hlen]
     rfl
   rw [hget]
   unfold StOk
   dsimp only
   rw [if_pos rfl]
   rcases he with ⟨h0, ⟨k1, k2, k3⟩, h4, rfl⟩ | ⟨h0, ⟨g, rfl⟩ | ⟨g, rfl⟩⟩
   · refine ⟨rfl, by show kc < n + 1; omega, rfl, .inr (.inr ⟨rfl, rfl, ?_, ?_, ?_⟩)⟩
     · show at_ - (n + 1 - kc) + (n + 1 - kc) ≤ old.length
       omega
     · show segN new kc (n + 1) = (old.drop (at_ - (n + 1 - kc))).take (n + 1 - kc)
       have hs1 : segN new kc (n + 1) <:+ x := List.suffix_of_suffix_length_le segN_suf hx.1 (by rw [segN_len hn]; omega)
       have hs2 := List.suffix_iff_eq_drop.1 hs1
       rw [segN_len hn] at hs2
       have hs3 := congrArg (List.drop (x.length - (n + 1 - kc))) hat.2.2
       rw [List.drop_drop, show at_ - x.length + (x.length - (n + 1 - kc)) = at_ - (n + 1 - kc) from by omega, List.drop_take, show at_ - (at_ - (n + 1 - kc)) = n + 1 - kc from by omega] at hs3
       rw [hs2, hs3]
     · show cst ss kc + 4 = (if kc = n + 1 then _ else cst ss kc) + 4
       rw [if_neg (by omega)]
   · refine ⟨rfl, by show kr < n + 1; omega, rfl, .inr (.inl ⟨rfl, rfl, rfl, alikeN_suf hra hkr.1, ?_⟩)⟩
     show cst ss kr + 4 = (if kr = n + 1 then _ else cst ss kr) + 4
     rw [if_neg (by omega)]
   · refine ⟨rfl, by show l < n + 1; omega, rfl, .inl ⟨rfl, rfl, rfl, ?_⟩⟩
     show cst ss l + 2 + (n + 1 - l) = (if l = n + 1 then _ else cst ss l) + 2 + (n + 1 - l)
     rw [if_neg (by omega)]
 · have h1 := h.ok i h0 (by omega)
   have hget : (ss.set (n + 1) s).getD i Sp.zero = ss.getD i Sp.zero := by
     rw [List.getD_eq_getElem?_getD, List.getElem?_set_ne (fun h => e h.symm), ← List.getD_eq_getElem?_getD]
   rw [hget]
   unfold StOk at h1 ⊢
   have hf := h1.2.1
   dsimp only
   rw [if_neg e, if_neg (by omega)]
   exact h1
/-- The beginning of the run of bytes that are alike. -/
def RnOk (new : List UInt8) (n r : Nat) : Prop := r ≤ n ∧ (0 < n → r < n ∧ alikeN new r n ∧ ∀ k, alikeN new k n → k < n → r ≤ k)
theorem RnOk.same {new : List UInt8} {n r : Nat} (h : RnOk new n r) (hn : 0 < n) (e : new.getD n 0 = new.getD (n - 1) 0) : r ≤ n ∧ alikeN new r (n + 1) ∧ (∀ k, alikeN new k (n + 1) → k ≤ n → r ≤ k) ∧ RnOk new (n + 1) r := by
 obtain ⟨h1, h2, h3⟩ := h.2 hn
 have ha : alikeN new r (n + 1) := fun j j1 j2 => by
   rcases Nat.lt_or_ge j n with g | g
   · exact h2 j j1 g
   · obtain rfl : j = n := by omega
     rw [e]
     exact h2 (j - 1) (by omega) (by omega)
 have hb : ∀ k, alikeN new k (n + 1) → k ≤ n → r ≤ k := fun k hk hkn => by
   rcases Nat.lt_or_ge k n with g | g
   · exact h3 k (alikeN_pre hk (Nat.le_succ n)) g
   · omega
 exact ⟨h.1, ha, hb, by omega, fun _ => ⟨by omega, ha, fun k hk hkn => hb k hk (by omega)⟩⟩
theorem RnOk.new {new : List UInt8} {n r : Nat} (h : n = 0 ∨ new.getD n 0 ≠ new.getD (n - 1) 0) (hr : r = n) : r ≤ n ∧ alikeN new r (n + 1) ∧ (∀ k, alikeN new k (n + 1) → k ≤ n → r ≤ k) ∧ RnOk new (n + 1) r := by
 subst hr
 have ha : alikeN new r (r + 1) := fun j j1 j2 => by
   obtain rfl : j = r := by omega
   rfl
 have hb : ∀ k, alikeN new k (r + 1) → k ≤ r → r ≤ k := fun k hk hkn => by
   rcases h with h | h
   · omega
   · refine Nat.le_of_not_lt fun hlt => h ?_
     rw [hk r (by omega) (by omega), hk (r - 1) (by omega) (by omega)]
 exact ⟨Nat.le_refl _, ha, hb, by omega, fun _ => ⟨by omega, ha, fun k hk hkn => hb k hk (by omega)⟩⟩
/-- The place from which other bytes are cheapest. -/
def LtOk (ss : List Sp) (n l : Nat) : Prop := l ≤ n ∧ ∀ k, k < n → cst ss l + k ≤ cst ss k + l
theorem LtOk.stay {ss : List Sp} {n l : Nat} (h : LtOk ss n l) (hc : ¬ ((cst ss n : Int) - n < (cst ss l : Int) - l)) : ∀ k, k ≤ n → cst ss l + k ≤ cst ss k + l := fun k hk => by
 rcases Nat.lt_or_ge k n with g | g
 · exact h.2 k g
 · obtain rfl : k = n := by omega
   omega
theorem LtOk.move {ss : List Sp} {n l : Nat} (h : LtOk ss n l) (hc : (cst ss n : Int) - n < (cst ss l : Int) - l) : ∀ k, k ≤ n → cst ss n + k ≤ cst ss k + n := fun k hk => by
 rcases Nat.lt_or_ge k n with g | g
 · have := h.2 k g
   omega
 · obtain rfl : k = n := by omega
   omega
theorem LtOk.next {ss : List Sp} {n l : Nat} {s : Sp} (hn : n + 1 < ss.length) (hl : l ≤ n) (h : ∀ k, k ≤ n → cst ss l + k ≤ cst ss k + l) : LtOk (ss.set (n + 1) s) (n + 1) l := by
 rw [LtOk, cst_set hn]
 refine ⟨by omega, fun k hk => ?_⟩
 show (if l = n + 1 then _ else cst ss l) + k ≤ (if k = n + 1 then _ else cst ss k) + l
 rw [if_neg (by omega), if_neg (by omega)]
 exact h k (by omega)
/-- A window over the costs, and what it holds. -/
def WiOk (ss : List Sp) (f n : Nat) (ps vs : List Nat) : Prop := Wdw (cst ss) f n ps ∧ vs = ps.map (cst ss)
theorem WiOk.start (ss : List Sp) : WiOk ss 0 0 [] [] := ⟨⟨List.Pairwise.nil, List.Pairwise.nil, fun _ h => (by cases h), fun _ _ h => by omega⟩, rfl⟩
theorem WiOk.add {ss : List Sp} {f n : Nat} {ps vs : List Nat} (h : WiOk ss f n ps vs) (hf : f ≤ n) : WiOk ss f (n + 1) (ps.take (kpN (cst ss n) vs vs.length) ++ [n]) (vs.take (kpN (cst ss n) vs vs.length) ++ [cst ss n]) := by
 obtain ⟨h1, rfl⟩ := h
 have e := kpN_keep (x := cst ss n) h1.val
 rw [List.length_map]
 refine ⟨by rw [e]; exact h1.add hf, ?_⟩
 rw [List.map_append, List.map_take]
 rfl
theorem WiOk.cut {ss : List Sp} {f n g : Nat} {ps vs : List Nat} (h : WiOk ss f n ps vs) (hf : f ≤ g) (hg : g < n) : lfN g ps < ps.length ∧ g ≤ ps.getD (lfN g ps) 0 ∧ ps.getD (lfN g ps) 0 < n ∧ (∀ k, g ≤ k → k < n → cst ss (ps.getD (lfN g ps) 0) ≤ cst ss k) ∧ WiOk ss g n (ps.drop (lfN g ps)) (vs.drop (lfN g ps)) := by
 obtain ⟨h1, rfl⟩ := h
 have h2 := h1.later hf
 obtain ⟨p, p1, p2, _⟩ := h2.all g (Nat.le_refl _) hg
 obtain ⟨q1, q2⟩ := lfN_head ⟨p, p1, p2⟩
 have h3 := h2.drop
 have e : ps.drop (lfN g ps) = ps.getD (lfN g ps) 0 :: ps.drop (lfN g ps + 1) := by
   rw [List.drop_eq_getElem_cons q1]
   simp [List.getD_eq_getElem?_getD, q1]
 have h4 := h3
 rw [e] at h4
 obtain ⟨f1, f2⟩ := h4.first
 exact ⟨q1, q2, f1, f2, h3, by rw [List.map_drop]⟩
theorem WiOk.next {ss : List Sp} {f n : Nat} {ps vs : List Nat} {s : Sp} (h : WiOk ss f (n + 1) ps vs) (hn : n + 1 < ss.length) : WiOk (ss.set (n + 1) s) f (n + 1) ps vs := by
 obtain ⟨h1, rfl⟩ := h
 have e : ∀ k, k < n + 1 → cst (ss.set (n + 1) s) k = cst ss k := fun k hk => by
   rw [cst_set hn]
   show (if k = n + 1 then _ else _) = _
   rw [if_neg (by omega)]
 refine ⟨⟨h1.inc, ?_, h1.rng, fun k hk hk2 => ?_⟩, ?_⟩
 · refine List.Pairwise.imp_of_mem ?_ h1.val
   intro a b ha hb hab
   rw [e a (h1.rng a ha), e b (h1.rng b hb)]
   exact hab
 · obtain ⟨p, p1, p2, p3⟩ := h1.all k hk hk2
   exact ⟨p, p1, p2, by rw [e p (h1.rng p p1), e k hk2]; exact p3⟩
 · exact List.map_congr_left fun p hp => (e p (h1.rng p hp)).symm
theorem inc_len : ∀ {ps : List Nat} {n : Nat}, ps.Pairwise (· < ·) → (∀ p ∈ ps, p < n) → ps.length ≤ n
 | [], _, _, _ => Nat.zero_le _
 | p :: ps, n, h, hb => by
   obtain ⟨h1, h2⟩ := List.pairwise_cons.1 h
   have hp := hb p (by simp)
   have : ∀ (ps : List Nat) (m : Nat), ps.Pairwise (· < ·) → (∀ q ∈ ps, m ≤ q ∧ q < n) → ps.length + m ≤ max n m := by
     intro ps
     induction ps with
     | nil => intro m _ _; simp; omega
     | cons q qs ih =>
       intro m hp hq
       obtain ⟨g1, g2⟩ := List.pairwise_cons.1 hp
       have hq1 := hq q (by simp)
       have := ih (q + 1) g2 fun r hr => ⟨g1 r hr, (hq r (by simp [hr])).2⟩
       simp only [List.length_cons]
       omega
   have := this (p :: ps) 0 h fun q hq => ⟨Nat.zero_le _, hb q hq⟩
   omega
theorem WiOk.len {ss : List Sp} {f n : Nat} {ps vs : List Nat} (h : WiOk ss f n ps vs) : ps.length = vs.length ∧ vs.length ≤ n := by
 obtain ⟨h1, rfl⟩ := h
 rw [List.length_map]
 exact ⟨rfl, inc_len h1.inc h1.rng⟩
theorem WiOk.has {ss : List Sp} {f n g : Nat} {ps vs : List Nat} (h : WiOk ss f n ps vs) (hf : f ≤ g) (hg : g < n) : ∃ p ∈ ps, g ≤ p := by
 obtain ⟨p, p1, p2, _⟩ := (h.1.later hf).all g (Nat.le_refl _) hg
 exact ⟨p, p1, p2⟩
structure Wn where
 PA : Option Addr
 VA : Option Addr
 pc : Nat
 vc : Nat
 ps : List Nat
 vs : List Nat
theorem sp_cost {NA : Option Addr} {nc : Nat} {ss : List Sp} {k : Nat} (hk : k < ss.length) : (ss.flatMap (spC NA nc))[k * 7 + 0]? = some (.int .i64 (cst ss k : Int)) := flat_get (spC_len NA nc) Sp.zero ss hk (by decide)
theorem FdOk.grow {old new : List UInt8} {n : Nat} {p q : Nat × Nat} (h : FdOk old new n p) (g : FdOk old new (n + 1) q) (hn : n < new.length) : q.2 ≤ p.2 + 1 := by
 obtain ⟨x, h1, h2, _⟩ := h
 obtain ⟨y, g1, g2, _⟩ := g
 rw [h2, g2]
 rw [take_snoc' new 0 n hn] at g1
 exact h1.grow g1
end Go.Sl
end
