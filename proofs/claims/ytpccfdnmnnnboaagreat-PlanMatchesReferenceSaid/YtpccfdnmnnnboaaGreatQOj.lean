/-
  Orders and stashes: what the search finds, as plain data.
-/
import Derived.KernelRfl
import Derived.Lib.Overlaps
import Derived.Lib.AppendZeros
import Derived.Test.YtpccfdnmnnnboaaGreatQOe
import Derived.Test.YtpccfdnmnnnboaaGreatQWOrH
import Derived.Test.YtpccfdnmnnnboaaGreatQSlV
import Derived.Test.YtpccfdnmnnnboaaGreatQSlN
section
namespace Go.Sl

section
variable {n k : Nat} {p p' : Nat → Nat → Bool} {st st' : Nat → Bool} {O out : List Nat} {t : Nat}
theorem nxt_iff : nxtB n p st out t = true ↔ out.contains t = false ∧ (st t = true ∨ ∀ u, u < n → p u t = true → out.contains u = true) := by
 unfold nxtB
 rw [Bool.and_eq_true, Bool.or_eq_true, Bool.not_eq_true', List.all_eq_true]
 refine and_congr Iff.rfl (or_congr Iff.rfl ⟨fun h u hu hp => ?_, fun h u hu => ?_⟩)
 · have := h u (List.mem_range.2 hu)
   rw [hp] at this
   exact this
 · have := h u (List.mem_range.1 hu)
   cases hp : p u t with
   | false => rfl
   | true => rw [this hp]; rfl
theorem frs_nodup : ∀ k, (frs n p st k).Nodup
 | 0 => List.nodup_nil
 | k + 1 => by
   have ih := frs_nodup k
   rw [frs]
   split
   · exact ih
   · rename_i t ht
     have := (nxt_iff.1 (List.find?_some ht)).1
     rw [List.nodup_append]
     refine ⟨ih, by simp, fun a ha b hb e => ?_⟩
     obtain rfl := List.mem_singleton.1 hb
     subst e
     rw [List.contains_iff_mem.2 ha] at this
     cases this
theorem nodup_subN : ∀ {l s : List Nat}, l.Nodup → (∀ x ∈ l, x ∈ s) → l.length ≤ s.length
 | [], _, _, _ => Nat.zero_le _
 | x :: l, s, hn, h => by
   have hx := h x List.mem_cons_self
   rw [List.nodup_cons] at hn
   have := nodup_subN (l := l) (s := s.erase x) hn.2 (fun y hy => (List.mem_erase_of_ne (fun e => hn.1 (by rw [← e]; exact hy))).2 (h y (List.mem_cons_of_mem _ hy)))
   rw [List.length_erase_of_mem hx] at this
   have := List.length_pos_of_mem hx
   rw [List.length_cons]
   omega
theorem coverN : ∀ (n : Nat) (l : List Nat), (∀ t, t < n → t ∈ l) → n ≤ l.length
 | 0, _, _ => Nat.zero_le _
 | n + 1, l, h => by
   have hm := h n (Nat.lt_succ_self n)
   have := coverN n (l.erase n) (fun t ht => (List.mem_erase_of_ne (by omega)).2 (h t (by omega)))
   rw [List.length_erase_of_mem hm] at this
   have := List.length_pos_of_mem hm
   omega
/-- A full list without doubles has each number. -/
theorem full_has {l : List Nat} (hn : l.Nodup) (hm : ∀ x ∈ l, x < n) (hl : l.length = n) (ht : t < n) : t ∈ l := by
 refine Classical.byContradiction fun hc => ?_
 have := nodup_subN (s := (List.range n).erase t) hn (fun x hx => (List.mem_erase_of_ne (fun e => hc (by rw [← e]; exact hx))).2 (List.mem_range.2 (hm x hx)))
 rw [List.length_erase_of_mem (List.mem_range.2 ht), List.length_range] at this
 omega
/-- There is always one that may come next. -/
def Prg (n : Nat) (p : Nat → Nat → Bool) (st : Nat → Bool) : Prop := ∀ O : List Nat, (∃ t, t < n ∧ O.contains t = false) → ∃ t, t < n ∧ nxtB n p st O t = true
theorem full_prg : fullB n p st = true ↔ Prg n p st := by
 rw [full_iff]
 constructor
 · intro hf O ⟨t, ht, hO⟩
   have key : ∀ k, (∀ x ∈ frs n p st k, x ∈ O) ∨ ∃ t, t < n ∧ nxtB n p st O t = true := by
     intro k
     induction k with
     | zero => exact .inl fun x hx => by cases hx
     | succ k ih =>
       rcases ih with ih | ih
       · rw [frs]
         split
         · exact .inl ih
         · rename_i s hs
           obtain ⟨h1, h2⟩ := nxt_iff.1 (List.find?_some hs)
           cases hc : O.contains s with
           | true =>
             refine .inl fun x hx => ?_
             rcases List.mem_append.1 hx with h | h
             · exact ih x h
             · obtain rfl := List.mem_singleton.1 h
               exact List.contains_iff_mem.1 hc
           | false =>
             refine .inr ⟨s, List.mem_range.1 (List.mem_of_find?_eq_some hs), nxt_iff.2 ⟨hc, h2.imp id fun h u hu hp => ?_⟩⟩
             exact List.contains_iff_mem.2 (ih u (List.contains_iff_mem.1 (h u hu hp)))
       · exact .inr ih
   rcases key n with h | h
   · have := List.contains_iff_mem.2 (h t (full_has (frs_nodup n) (frs_mem n) hf ht))
     rw [hO] at this
     cases this
   · exact h
 · intro hp
   have key : ∀ k, k ≤ n → (frs n p st k).length = k := by
     intro k
     induction k with
     | zero => exact fun _ => rfl
     | succ k ih =>
       intro hk
       have h1 := ih (by omega)
       have hm : ∃ t, t < n ∧ (frs n p st k).contains t = false := by
         refine Classical.byContradiction fun hc => ?_
         have := coverN n (frs n p st k) (fun t ht => by
           rw [← List.contains_iff_mem]
           cases h : (frs n p st k).contains t with
           | true => rfl
           | false => exact absurd ⟨t, ht, h⟩ hc)
         omega
       obtain ⟨t, ht, hx⟩ := hp _ hm
       rw [frs]
       split
       · rename_i hnone
         have := List.find?_eq_none.1 hnone t (List.mem_range.2 ht)
         rw [hx] at this
         exact absurd rfl this
       · rw [List.length_append, h1]
         rfl
   exact key n (Nat.le_refl n)
theorem Prg.mono (h : Prg n p st) (hp : ∀ u t, u < n → p' u t = true → p u t = true ∨ st' t = true) (hs : ∀ t, st t = true → st' t = true) : Prg n p' st' := by
 intro O hO
 obtain ⟨t, ht, hx⟩ := h O hO
 obtain ⟨h1, h2⟩ := nxt_iff.1 hx
 refine ⟨t, ht, nxt_iff.2 ⟨h1, ?_⟩⟩
 cases hst : st' t with
 | true => exact .inl rfl
 | false =>
   rcases h2 with h2 | h2
   · rw [hs t h2] at hst
     cases hst
   · refine .inr fun u hu hpu => ?_
     rcases hp u t hu hpu with h3 | h3
     · exact h2 u hu h3
     · rw [hst] at h3
       cases h3
theorem Prg.all (h : ∀ t, t < n → st t = true) : Prg n p st := fun _ ⟨t, ht, hO⟩ => ⟨t, ht, nxt_iff.2 ⟨hO, .inl (h t ht)⟩⟩
/-- If one only reads greater ones, or only lesser ones. -/
theorem Prg.up (h : ∀ u t, u < n → p u t = true → u < t) : Prg n p st := by
 intro O ⟨t, ht, hO⟩
 have key : ∀ m, m < n → O.contains m = false → ∃ t, t < n ∧ nxtB n p st O t = true := by
   intro m
   induction m using Nat.strongRecOn with
   | _ m ih =>
     intro hm hO
     by_cases hx : ∃ u, u < n ∧ u < m ∧ O.contains u = false
     · obtain ⟨u, h1, h2, h3⟩ := hx
       exact ih u h2 h1 h3
     · refine ⟨m, hm, nxt_iff.2 ⟨hO, .inr fun u hu hp => ?_⟩⟩
       cases hc : O.contains u with
       | true => rfl
       | false => exact absurd ⟨u, hu, h u m hu hp, hc⟩ hx
 exact key t ht hO
end
/-! ### The order of lists -/
theorem cmpL_refl : ∀ a : List Int, cmpL a a = 0
 | [] => rfl
 | x :: a => by rw [cmpL, if_pos (cmpI_zero.2 rfl)]; exact cmpL_refl a
theorem cmpL_anti : ∀ a b : List Int, cmpL b a = -cmpL a b
 | [], [] => rfl
 | [], _ :: _ => rfl
 | _ :: _, [] => rfl
 | x :: a, y :: b => by
   have ih := cmpL_anti a b
   rw [cmpL, cmpL]
   unfold cmpI
   by_cases h1 : x < y
   · simp [h1, show ¬y < x by omega]
   · by_cases h2 : y < x
     · simp [h1, h2]
     · simp [h1, h2, ih]
theorem cmpL_trans : ∀ a b c : List Int, cmpL a b ≤ 0 → cmpL b c ≤ 0 → cmpL a c ≤ 0
 | [], _, [], _, _ => Int.le_refl _
 | [], _, _ :: _, _, _ => by show (-1 : Int) ≤ 0; omega
 | _ :: _, [], _, h, _ => absurd h (by show ¬(1 : Int) ≤ 0; omega)
 | _ :: _, _ :: _, [], _, h => absurd h (by show ¬(1 : Int) ≤ 0; omega)
 | x :: a, y :: b, z :: c, h1, h2 => by
   have ih := cmpL_trans a b c
   rw [cmpL] at h1 h2 ⊢
   unfold cmpI at h1 h2 ⊢
   by_cases a1 : x < y
   · by_cases a2 : y < z
     · simp [show x < z by omega]
     · by_cases a3 : z < y
       · simp [a2, a3] at h2
       · simp [show x < z by omega]
   · by_cases a1' : y < x
     · simp [a1, a1'] at h1
     · obtain rfl : x = y := by omega
       simp at h1
       by_cases a2 : x < z
       · simp [a2]
       · by_cases a3 : z < x
         · simp [a2, a3] at h2
         · simp [a2, a3] at h2 ⊢
           exact ih h1 h2
/-! ### The search -/
section
variable {n k m : Nat} {p : Nat → Nat → Bool}
theorem bst_none : ∀ {m : Nat}, bst n p k m = none ↔ ∀ s, s < m → (mem s 64).length = k → fullB n p s.testBit = false
 | 0 => ⟨fun _ s hs => absurd hs (Nat.not_lt_zero _), fun _ => rfl⟩
 | m + 1 => by
   have ih := bst_none (m := m)
   rw [bst]
   constructor
   · intro h
     split at h
     · cases h
     · rename_i hc
       refine all_step (ih.1 h) (fun hk => ?_)
       cases hf : fullB n p m.testBit with
       | false => rfl
       | true => exact absurd ⟨hk, ⟨fun b (hb : bst n p k m = some b) => absurd (h.symm.trans hb) (by simp), hf⟩⟩ hc
   · intro h
     rw [if_neg]
     · exact ih.2 (fun s hs => h s (by omega))
     · rintro ⟨h1, _, h3⟩
       rw [h m (Nat.lt_succ_self m) h1] at h3
       cases h3
theorem bst_some {b : List Nat} : ∀ {m : Nat}, bst n p k m = some b → (∃ s, s < m ∧ b = mem s 64 ∧ (mem s 64).length = k ∧ fullB n p s.testBit = true) ∧ ∀ s, s < m → (mem s 64).length = k → fullB n p s.testBit = true → cmpL (NI b) (NI (mem s 64)) ≤ 0
 | 0, h => by cases h
 | m + 1, h => by
   rw [bst] at h
   split at h
   · rename_i hc
     obtain ⟨h1, h2, h3⟩ := hc
     injection h with h
     subst h
     refine ⟨⟨m, Nat.lt_succ_self m, rfl, h1, h3⟩, all_step (fun s hs hk hf => ?_) (fun _ _ => by rw [cmpL_refl]; omega)⟩
     cases hb : bst n p k m with
     | none =>
       rw [bst_none.1 hb s hs hk] at hf
       cases hf
     | some b0 => exact cmpL_trans _ _ _ (by have := h2 b0 hb; omega) ((bst_some hb).2 s hs hk hf)
   · rename_i hc
     obtain ⟨⟨s, h1, h2, h3, h4⟩, h5⟩ := bst_some h
     refine ⟨⟨s, by omega, h2, h3, h4⟩, all_step h5 (fun hk hf => ?_)⟩
     refine Classical.byContradiction fun hn => hc ⟨hk, fun b0 hb0 => ?_, hf⟩
     rw [h] at hb0
     injection hb0 with hb0
     subst hb0
     rw [cmpL_anti]
     omega
theorem srch_none_iff {g : Nat → Option (List Nat)} : ∀ {m : Nat}, srch g m = none ↔ ∀ k, k < m → g k = none
 | 0 => ⟨fun _ k hk => absurd hk (Nat.not_lt_zero _), fun _ => rfl⟩
 | m + 1 => by
   have ih := srch_none_iff (g := g) (m := m)
   rw [srch]
   cases h : srch g m with
   | some x => exact ⟨fun q => (by cases q), fun q => by rw [ih.2 (fun k hk => q k (by omega))] at h; cases h⟩
   | none => exact ⟨fun q => all_step (ih.1 h) q, fun q => q m (Nat.lt_succ_self m)⟩
theorem srch_some {g : Nat → Option (List Nat)} {x : List Nat} : ∀ {m : Nat}, srch g m = some x → ∃ k, k < m ∧ g k = some x ∧ ∀ j, j < k → g j = none
 | 0, h => by cases h
 | m + 1, h => by
   rw [srch] at h
   cases hs : srch g m with
   | some y =>
     rw [hs] at h
     injection h with h
     subst h
     obtain ⟨k, h1, h2⟩ := srch_some hs
     exact ⟨k, by omega, h2⟩
   | none =>
     rw [hs] at h
     exact ⟨m, Nat.lt_succ_self m, h, srch_none_iff.1 hs⟩
theorem srch_congr {g g' : Nat → Option (List Nat)} : ∀ {m : Nat}, (∀ k, k < m → g k = g' k) → srch g m = srch g' m
 | 0, _ => rfl
 | m + 1, h => by rw [srch, srch, srch_congr (fun k hk => h k (by omega)), h m (Nat.lt_succ_self m)]
end
/-! ### Few sectors -/
theorem mem64 {n s : Nat} (hn : n ≤ 64) (hs : s < 2 ^ n) : mem s 64 = mem s n := by
 have := mem_end (m := s) (t := n) (fun i hi => Nat.testBit_lt_two_pow (Nat.lt_of_lt_of_le hs (Nat.pow_le_pow_right (by decide) hi))) (64 - n)
 rwa [show n + (64 - n) = 64 from by omega] at this
theorem fullL_mem {n s : Nat} {p : Nat → Nat → Bool} (hs : s < 18446744073709551616) : fullL n p (mem s 64) = fullB n p s.testBit := by
 unfold fullL fullB
 rw [frs_congr (fun t => mem_has hs)]
section
variable {ls : List (List Int)}
end
end Go.Sl
end
/-
  What the order laws say of made readings: free ones, fewer ones, right ones, as plain data.
-/
section
namespace Go.Sl

/-! ### Free -/
section
variable {ls : List (List Int)} {up : Bool} {u t k n : Nat}
end
/-! ### Fewer -/
section
variable {l m : List UInt8} {i b : Nat}
/-- The readings m are those of l without one. -/
structure Less (l m : List UInt8) (i b : Nat) : Prop where
 len : m.length = l.length
 sub : ∀ u t, mdB m u t = true → mdB l u t = true
 one : ∀ u t, mdB l u t = true → mdB m u t = true ∨ t = b
theorem Less.n (h : Less l m i b) : mdN m = mdN l := by unfold mdN; rw [h.len]
end
/-! ### Right -/
end Go.Sl
end
/-
  slices.Insert in the middle: room behind a slice, append of a made slice, slices.overlaps.
-/
section
namespace Go.Sl

section
variable {X : Cx} {β : Base} {n : Nat} {ds : List Deferred} {ops : Array Oper} {Q : Exit → Act → World → Prop} {rest : List Oper} {Γ : Env} {R H : List Pr}
theorem Ev.capS {t e : Nat} {i : Ti} {x : Operand} {A : Option Addr} {m c : Nat} (ht : tlook t X.tab = some i) (hd : i.desc = .slice e) (hx : ev Γ x = some (.slice A m c)) : Ev X β Γ R H (.call ⟨.builtin .cap, #[x], #[t]⟩) (.int .i64 (c : Int)) := by
 intro ρ w hρ hw o ho
 have e1 := (X.ok _ _ ht).und
 rw [hd] at e1
 simp [execOp, ho, resolve, invoke, builtin, hρ _ _ hx, Builtin.cap_, run_underlying e1]
 rfl
theorem Own.spare {w : World} {e m c : Nat} {A : Option Addr} {xs : List Value} (h : (Own e 1 A m c xs).p w) (hc : m + 1 ≤ c) : ∃ u, (Own e 1 A (m + 1) c (xs ++ [u])).p w := by
 rcases h.2 with ⟨hv, _⟩ | ⟨g, cap, cur, hv, hb, hh, h3, h4, h5, h6⟩
 · injection hv with _ _ h9
   omega
 · injection hv with h7 h8 h9
   subst h7 h9
   rw [Nat.mul_one] at h5 h6
   have hm : m < cur.toList.length := by rw [Array.length_toList]; omega
   refine ⟨cur.toList[m], by have := h.1; rw [List.length_append, this]; rfl, .inr ⟨g, c, cur, rfl, hb, hh, hc, h4, by omega, ?_⟩⟩
   rw [Nat.mul_one, List.take_succ_eq_append_getElem hm, h6]
/-- One place more of the room behind a slice. -/
theorem C.spare {x : Code} {e m c : Nat} {A : Option Addr} {xs : List Value} {H' : List Pr} (hc : m + 1 ≤ c) (h : ∀ u, C X β n ds Q x Γ R (Own e 1 A (m + 1) c (xs ++ [u]) :: H')) : C X β n ds Q x Γ R (Own e 1 A m c xs :: H') := by
 intro a w hf hs
 obtain ⟨u, hu⟩ := Own.spare (hs.own 0 _ rfl) hc
 exact h u a w hf (hs.repl (fun _ => hu) (fun k hk => hk))

theorem run_append_growZ {P : Program} (w : World) (t tn ty e : TypeId) (i : TypeInfo) (z : Value) (k kn : IntKind) (ht : P.underlying t = some (.slice e)) (htn : P.underlying tn = some (.int kn)) (hi : P.info? e = some i) (hz : i.zero = some z)
   (b : Addr) (sLen sCap : Nat) (olds : List Value) (hlo : olds.length = sLen * i.size) (holds : ∀ j v, olds[j]? = some v → w.cell? (b.add j) = some v)
   (q : Nat) (h0 : 0 < q) (hs : 0 < i.size) (hg : sCap < sLen + q) (h63 : ((sLen + q : Nat) : Int) ≤ 9223372036854775807) (h48 : q * i.bytes ≤ 281474976710656) (hfit : Builtin.nextslicecap (sLen + q) sCap * i.bytes ≤ 281474976710656) :
   (Builtin.append_ #[t, tn] ty #[.slice (some b) sLen sCap, .int k q]).run P w =
     .ok (.slice (some ⟨w.heap.size, 0, none⟩) (sLen + q) (grownCap w (sLen + q) sCap e))
       (w.drew.alloc (.cells (olds.toArray ++ Builtin.zeroCells z.cells q ++ Builtin.zeroCells z.cells (grownCap w (sLen + q) sCap e - (sLen + q))) e)) := by
 have hn : ¬ (sLen + q ≤ sCap) := by omega
 have hw : IntKind.i64.wrap (q : Int) = q := by rw [IntKind.wrap_i64]; omega
 have h63' : ¬ (9223372036854775807 < ((sLen : Int) + (q : Int))) := by omega
 have h48' : ¬ (281474976710656 < Builtin.nextslicecap (sLen + q) sCap * i.bytes) := by omega
 have h48i : ¬ (281474976710656 < (q : Int) * (i.bytes : Int)) := by
   rw [← Int.natCast_mul]
   omega
 have hneg : ¬ ((q : Int) < 0) := by omega
 have hns : ¬ (q * i.size = 0) := Nat.mul_ne_zero (by omega) (by omega)
 have hfo := run_firstCells_some (P := P) w.drew i.size sLen b sLen sCap olds hlo (by simpa using holds)
 simp [Builtin.append_, run_underlying ht, run_underlying htn, sizeOf, typeInfo, zeroValue, hi, hz, asInt, asIntOf, hw, hn, hneg, hns, h63', h48', h48i, Question.forced, hfo, newRow, grownCap]
theorem zeroCells_list {z : Value} (h : z.cells = #[z]) (q : Nat) : (Builtin.zeroCells z.cells q).toList = List.replicate q z := by
 rw [h]
 refine List.ext_getElem (by simp [Builtin.zeroCells]) fun i h1 h2 => ?_
 simp [Builtin.zeroCells, Nat.mod_one]
/-- append(s[:p], make([]T, q)...) where there is no room: a new row; the old one stays. -/
theorem L.appendZ {d t tn e ty j m c p q : Nat} {pos : String} {af : Array Edge} {x y : Operand} {A : Option Addr} {xs : List Value} {i ei it : Ti} {kn kq : IntKind} {z : Value} (ht : tlook t X.tab = some i) (hdesc : i.desc = .slice e) (he : tlook e X.tab = some ei) (hsz : ei.size = 1) (hz : ei.zero = z) (hzc : z.cells = #[z])
   (htn : tlook tn X.tab = some it) (hit : it.desc = .int kn) (hx : ev Γ x = some (.slice A p c)) (hy : ev Γ y = some (.int kq (q : Int))) (hj : H[j]? = some (Own e 1 A m c xs)) (hpm : p ≤ m) (hp0 : 0 < xs.length) (hq : 0 < q) (hg : c < p + q)
   (hml : p + q ≤ 9223372036854775807) (hb : (p + q) * ei.bytes ≤ 140737488355328) (hd : Nat.blt d n = true)
   (k : ∀ A' c', L X β n ds ops Q rest ((d, .slice A' (p + q) c') :: Γ) R (H ++ [Own e 1 A' (p + q) c' (xs.take p ++ List.replicate q z)])) :
   L X β n ds ops Q (⟨some d, .call ⟨.builtin .append, #[x, y], #[t, tn]⟩, ty, pos, af, none⟩ :: rest) Γ R H := by
 intro a w hf hsat
 refine wpList_plain rfl fun K hK => ?_
 obtain ⟨e1, _⟩ := X.ok _ _ ht
 rw [hdesc] at e1
 obtain ⟨e2, _⟩ := X.ok _ _ htn
 rw [hit] at e2
 obtain ⟨_, jf, hjf, g1, g2, g3⟩ := X.ok _ _ he
 have hown := hsat.own j _ hj
 have hlen := Own.len hown
 rw [Nat.mul_one] at hlen
 obtain ⟨g, cur, rfl, hgr, hmc, hcm, hcs, htake⟩ := Own.form hown hp0
 have hfit : Builtin.nextslicecap (p + q) c * jf.bytes ≤ 281474976710656 := by
   have h1 := nextslicecap_le hg
   have h2 := Nat.mul_le_mul_right jf.bytes h1
   rw [g2] at h2 ⊢
   have h3 : 2 * (p + q) * ei.bytes = 2 * ((p + q) * ei.bytes) := Nat.mul_assoc _ _ _
   omega
 have hqb : q * jf.bytes ≤ 281474976710656 := by
   have := Nat.mul_le_mul_right ei.bytes (Nat.le_add_left q p)
   rw [g2]
   omega
 have hrun := run_append_growZ (P := X.P) w t tn ty e jf ei.zero kq kn e1 e2 hjf g3 ⟨g, 0, none⟩ p c (xs.take p) (by rw [g1, hsz, List.length_take]; omega) (fun r u hu => by
   have hr : r < p := by
     have := (List.getElem?_eq_some_iff.1 hu).1
     rw [List.length_take] at this
     omega
   rw [List.getElem?_take, if_pos hr] at hu
   obtain ⟨g', hA, hc, _⟩ := Own.cell hown hu
   injection hA with hA
   injection hA with hA
   subst hA
   rw [adz]
   exact hc) q hq (by rw [g1, hsz]; decide) hg (by omega) hqb hfit
 have hrun' : (execOp a.eval ⟨some d, .call ⟨.builtin .append, #[x, y], #[t, tn]⟩, ty, pos, af, none⟩).run X.P w = .ok (.value (.slice (some ⟨w.heap.size, 0, none⟩) (p + q) (grownCap w (p + q) c e))) (w.drew.alloc (.cells ((xs.take p).toArray ++ Builtin.zeroCells ei.zero.cells q ++ Builtin.zeroCells ei.zero.cells (grownCap w (p + q) c e - (p + q))) e)) := by
   simp only [execOp, resolve, invoke, builtin, Sem.run_bind, Sem.run_pure, Result.andThen_ok, List.map_toArray, List.map_cons, List.map_nil, hf.eval hx, hf.eval hy, hrun]
 unfold Oper.wp
 rw [hrun']
 have hge := grownCap_ge w (p + q) c e
 have hle := grownCap_le_maxLen w (p + q) c e (by unfold maxLen; omega)
 have hz1 : ∀ r, (Builtin.zeroCells ei.zero.cells r).size = r := fun r => by rw [size_zeroCells, hz, hzc]; simp
 refine hK _ _ (k (some ⟨w.heap.size, 0, none⟩) _ _ _ (hf.put (by simpa [Nat.blt_eq] using hd) _) (hsat.snoc ((Stp.drew w _).trans (Stp.alloc _ _ _)) (fun _ h _ => h) _ ?_ ?_))
 · refine ⟨by rw [List.length_append, List.length_take, List.length_replicate]; omega, .inr ⟨w.heap.size, _, _, rfl, Nat.zero_le _, heap_alloc_new w.drew _, hge, hle, ?_, ?_⟩⟩
   · rw [Array.size_append, Array.size_append, hz1, hz1, List.size_toArray, List.length_take]
     omega
   · rw [Array.toList_append, Array.toList_append, hz, zeroCells_list hzc]
     have h1 : ((xs.take p).toArray.toList ++ List.replicate q z).length = (p + q) * 1 := by
       rw [List.length_append, List.length_replicate]
       simp
       omega
     rw [← h1, List.take_left]
 · intro k hk
   have := own_fp hk
   subst this
   exact ⟨by simp, Nat.le_refl _⟩
/-- slices.overlaps of two slices that are owned apart: false. -/
theorem L.overlaps {d t e ty f i j m c m' c' o la ca lb cb : Nat} {pos : String} {af : Array Edge} {x y : Operand} {A B D : Option Addr} {xs ys : List Value} {it ei : Ti} {fn : Func} {tys : Array TypeId} {tR : TypeId} (hf : X.P.funcs[f]? = some fn) (hname : (fn.name == "runtime.NumGoroutine") = false) (hb : fn.body.isNone = true) (hn : Extern.findNext fn = none)
   (hex : Extern.find fn = some (Extern.SlicesOverlaps.overlaps #[t, t] #[tR])) (ht : tlook t X.tab = some it) (hdesc : it.desc = .slice e) (he : tlook e X.tab = some ei) (hsz : ei.size = 1) (hx : ev Γ x = some (.slice A la ca)) (hy : ev Γ y = some (.slice D lb cb))
   (hi : H[i]? = some (Own e 1 A m c xs)) (hj : H[j]? = some (Own e 1 B m' c' ys)) (hij : i ≠ j) (hD : ∀ g, B = some ⟨g, 0, none⟩ → D = some ⟨g, o, none⟩) (hx0 : 0 < xs.length) (hy0 : 0 < ys.length) (hd : Nat.blt d n = true)
   (k : L X β n ds ops Q rest ((d, .bool false) :: Γ) R H) : L X β n ds ops Q (⟨some d, .call ⟨.value (.func f), #[x, y], tys⟩, ty, pos, af, none⟩ :: rest) Γ R H := by
 intro a w hfr hs
 refine wpList_plain rfl fun K hK => ?_
 unfold Oper.wp
 obtain ⟨e1, _⟩ := X.ok _ _ ht
 rw [hdesc] at e1
 have hS : ∀ w, (Go.sizeOf e).run X.P w = .ok 1 w := fun w => by
   have := run_sizeOf' (P := X.P) w (X.ok _ _ he)
   rwa [hsz] at this
 obtain ⟨g, cur, rfl, hg, _, _, hcs, htk⟩ := Own.form (hs.own i _ hi) hx0
 obtain ⟨g', cur', rfl, hg', _, _, hcs', htk'⟩ := Own.form (hs.own j _ hj) hy0
 obtain rfl := hD g' rfl
 have hne : g ≠ g' := fun e => hs.dis i j _ _ hi hj hij g ⟨_, rfl, rfl⟩ ⟨_, rfl, e.symm⟩
 have hsz' : cur'.size ≠ 0 := fun h0 => by
   have : ys.length ≤ cur'.size := by rw [← htk', List.length_take, Array.length_toList]; exact Nat.min_le_right _ _
   omega
 have hr := Lib.run_overlaps_apart (P := X.P) w t tR e e1 1 hS ⟨g, 0, none⟩ ⟨g', o, none⟩ la ca lb cb hne e e cur.size cur'.size (by simp [World.shape?, hg]) (by simp [World.shape?, hg']) hsz' (frozen_of_row w g 0 cur e hg) (frozen_of_row w g cur.size cur e hg)
 have hex' : (execOp a.eval ⟨some d, .call ⟨.value (.func f), #[x, y], tys⟩, ty, pos, af, none⟩).run X.P w = .ok (.value (.bool false)) w := by
   have hev := hfr.agree x _ hx
   have hev2 := hfr.agree y _ hy
   have hfv := hfr.agree (.func f) (.func (.func f) #[] #[]) rfl
   have e2 : (#[x, y] : Array Operand).map a.eval = #[.slice (some ⟨g, 0, none⟩) la ca, .slice (some ⟨g', o, none⟩) lb cb] := by simp [hev, hev2]
   have hc := run_callFunc_extern hf hname hb hn hex #[.slice (some ⟨g, 0, none⟩) la ca, .slice (some ⟨g', o, none⟩) lb cb] w
   rw [hr] at hc
   simp only [execOp, resolve, hfv, Deferred.ofValue, invoke, Sem.run_bind, Sem.run_pure, Result.andThen_ok, e2]
   simpa using hc
 rw [hex']
 exact hK _ _ (k _ _ (hfr.put (by simpa [Nat.blt_eq] using hd) _) hs)
end
theorem subA_atX {g c l : Nat} (h : c ≠ l) : subA (some ⟨g, 0, none⟩) c l 1 = some ⟨g, l, none⟩ := by
 unfold subA
 rw [if_neg h]
 simp [Addr.add]
 exact fun h => h.symm
theorem cut_list {α : Type} (x : List α) (k : Nat) (h : k ≤ x.length) : ∃ a b, x = a ++ b ∧ a.length = k :=
 ⟨x.take k, x.drop k, (List.take_append_drop k x).symm, by rw [List.length_take]; omega⟩
theorem ins_shift {α : Type} (x : List α) (k : Nat) (t u : α) (h : k < x.length) : (((x ++ [u]).take (k + 1) ++ x.drop k ++ (x ++ [u]).drop (k + 1 + (x.drop k).length)).take k ++ [t] ++ ((x ++ [u]).take (k + 1) ++ x.drop k ++ (x ++ [u]).drop (k + 1 + (x.drop k).length)).drop (k + [t].length)) = x.take k ++ [t] ++ x.drop k := by
 obtain ⟨a, b, rfl, rfl⟩ := cut_list x k (by omega)
 cases b with
 | nil => simp at h
 | cons y b =>
   have e1 : (a ++ y :: b ++ [u]).take (a.length + 1) = a ++ [y] := by
     rw [show a ++ y :: b ++ [u] = (a ++ [y]) ++ (b ++ [u]) by simp, show a.length + 1 = (a ++ [y]).length by simp, List.take_left]
   have e2 : (a ++ y :: b).drop a.length = y :: b := List.drop_left
   have e3 : (a ++ y :: b ++ [u]).drop (a.length + 1 + (y :: b).length) = [] := List.drop_eq_nil_of_le (by simp; omega)
   rw [e2, e1, e3]
   simp
theorem ins_grow {α : Type} (x : List α) (k : Nat) (t z : α) (h : k ≤ x.length) :
   (((x.take k ++ List.replicate (x.length + 1 - k) z).take k ++ [t] ++ (x.take k ++ List.replicate (x.length + 1 - k) z).drop (k + [t].length)).take (k + 1) ++ x.drop k ++ ((x.take k ++ List.replicate (x.length + 1 - k) z).take k ++ [t] ++ (x.take k ++ List.replicate (x.length + 1 - k) z).drop (k + [t].length)).drop (k + 1 + (x.drop k).length)) = x.take k ++ [t] ++ x.drop k := by
 obtain ⟨a, b, rfl, rfl⟩ := cut_list x k h
 have e0 : (a ++ b).length + 1 - a.length = b.length + 1 := by rw [List.length_append]; omega
 have e2 : (a ++ b).drop a.length = b := List.drop_left
 have e3 : (a ++ b).take a.length = a := List.take_left
 have e4 : (a ++ List.replicate (b.length + 1) z).take a.length = a := List.take_left
 have e5 : (a ++ List.replicate (b.length + 1) z).drop (a.length + [t].length) = List.replicate b.length z := by
   rw [List.replicate_succ, show a ++ z :: List.replicate b.length z = (a ++ [z]) ++ List.replicate b.length z by simp, show a.length + [t].length = (a ++ [z]).length by simp, List.drop_left]
 rw [e0, e2, e3, e4, e5]
 have e6 : (a ++ [t] ++ List.replicate b.length z).take (a.length + 1) = a ++ [t] := by rw [show a.length + 1 = (a ++ [t]).length by simp, List.take_left]
 have e7 : (a ++ [t] ++ List.replicate b.length z).drop (a.length + 1 + b.length) = [] := List.drop_eq_nil_of_le (by simp; omega)
 rw [e6, e7, List.append_nil]
end Go.Sl
end
