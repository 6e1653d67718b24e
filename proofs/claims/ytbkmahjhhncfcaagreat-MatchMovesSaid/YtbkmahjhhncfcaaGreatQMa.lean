/-
  All pieces of a text, told by states: plain facts, no program in sight.
-/
namespace Go.Sl

/-- A state of an automaton: where each byte leads, the state of the longest other end, the length of its longest piece, where that ends first. -/
structure Au where
 nx : UInt8 → Option Nat
 lk : Int
 ln : Nat
 en : Nat
def Au.zero : Au := ⟨fun _ => none, 0, 0, 0⟩
/-- The least length of a state's pieces. -/
def mnA (A : Nat → Au) (v : Nat) : Nat := if (A v).lk < 0 then 0 else (A (A v).lk.toNat).ln + 1
/-- A piece of a state. -/
def Pc (D : Nat → Prop) (A : Nat → Au) (L : Nat → List UInt8) (v : Nat) (x : List UInt8) : Prop := D v ∧ x <:+ L v ∧ mnA A v ≤ x.length
/-- What holds of the automaton of a text. -/
structure AuOk (w : List UInt8) (D : Nat → Prop) (A : Nat → Au) (L : Nat → List UInt8) (last : Nat) : Prop where
 root : D 0 ∧ L 0 = [] ∧ (A 0).lk = -1
 len : ∀ v, D v → (A v).ln = (L v).length
 lnk : ∀ v, 0 < v → D v → ∃ u : Nat, D u ∧ (A v).lk = (u : Int) ∧ L u <:+ L v ∧ (L u).length < (L v).length
 fac : ∀ v, D v → L v <:+: w
 cov : ∀ x, x <:+: w → ∃ v, Pc D A L v x
 uni : ∀ u v x, Pc D A L u x → Pc D A L v x → u = v
 tr : ∀ v c u, D v → (A v).nx c = some u → ∀ x, Pc D A L v x → Pc D A L u (x ++ [c])
 dfn : ∀ v c x, Pc D A L v x → (x ++ [c]) <:+: w → ((A v).nx c).isSome = true
 ter : ∀ v x, Pc D A L v x → x <:+ w → L v <:+ w
 last : D last ∧ L last = w
 en : ∀ v, D v → (A v).en ≤ w.length ∧ L v <:+ w.take (A v).en
section
variable {w : List UInt8} {D : Nat → Prop} {A : Nat → Au} {L : Nat → List UInt8} {last : Nat}
theorem AuOk.mn (h : AuOk w D A L last) {v : Nat} (hv : D v) : mnA A v ≤ (L v).length := by
 unfold mnA
 split
 · exact Nat.zero_le _
 · rename_i hl
   by_cases h0 : v = 0
   · subst h0
     rw [h.root.2.2] at hl
     omega
   · obtain ⟨u, h1, h2, h3, h4⟩ := h.lnk v (by omega) hv
     rw [h2, Int.toNat_natCast, h.len u h1]
     omega
theorem AuOk.self (h : AuOk w D A L last) {v : Nat} (hv : D v) : Pc D A L v (L v) := ⟨hv, List.suffix_refl _, h.mn hv⟩
theorem AuOk.mn_lk (h : AuOk w D A L last) {v u : Nat} (hl : (A v).lk = (u : Int)) (hu : D u) : mnA A v = (L u).length + 1 := by
 unfold mnA
 rw [hl, if_neg (by omega), Int.toNat_natCast, h.len u hu]
/-- A shorter end of a piece lies in the state, or is an end of the linked one's longest. -/
theorem AuOk.short (h : AuOk w D A L last) {v u : Nat} {x : List UInt8} (hv : D v) (hx : x <:+ L v) (hl : (A v).lk = (u : Int)) (hu : D u) : Pc D A L v x ∨ (x <:+ L u) := by
 by_cases hm : mnA A v ≤ x.length
 · exact .inl ⟨hv, hx, hm⟩
 · right
   rw [h.mn_lk hl hu] at hm
   have h0 : 0 < v := by
     rcases Nat.eq_zero_or_pos v with e | e
     · subst e
       rw [h.root.2.2] at hl
       omega
     · exact e
   obtain ⟨u', _, h2, h3, _⟩ := h.lnk v h0 hv
   obtain rfl : u' = u := by omega
   exact List.suffix_of_suffix_length_le hx h3 (by omega)
theorem AuOk.pc_fac (h : AuOk w D A L last) {v : Nat} {x : List UInt8} (hp : Pc D A L v x) : x <:+: w := hp.2.1.isInfix.trans (h.fac v hp.1)
/-- The states whose longest piece ends the text. -/
def Trm (w : List UInt8) (D : Nat → Prop) (L : Nat → List UInt8) (v : Nat) : Prop := D v ∧ L v <:+ w
theorem AuOk.trm_link (h : AuOk w D A L last) {v u : Nat} (hv : Trm w D L v) (h0 : 0 < v) (hl : (A v).lk = (u : Int)) : Trm w D L u ∧ (L u).length < (L v).length ∧ ∀ t, Trm w D L t → (L t).length < (L v).length → (L t).length ≤ (L u).length := by
 obtain ⟨u', h1, h2, h3, h4⟩ := h.lnk v h0 hv.1
 obtain rfl : u' = u := by omega
 refine ⟨⟨h1, h3.trans hv.2⟩, h4, fun t ht hlt => ?_⟩
 have hs : L t <:+ L v := List.suffix_of_suffix_length_le ht.2 hv.2 (by omega)
 rcases h.short hv.1 hs hl h1 with hp | hp
 · have := h.uni _ _ _ hp (h.self ht.1)
   subst this
   omega
 · exact hp.length_le
theorem AuOk.trm_uni (h : AuOk w D A L last) {u v : Nat} (hu : Trm w D L u) (hv : Trm w D L v) (e : (L u).length = (L v).length) : u = v := by
 have h1 : L u <:+ L v := List.suffix_of_suffix_length_le hu.2 hv.2 (by omega)
 have h2 : L u = L v := h1.eq_of_length e
 exact h.uni _ _ _ (h.self hu.1) (h2 ▸ h.self hv.1)
/-- What leads on from a state leads on from the ends. -/
theorem AuOk.dfn_link (h : AuOk w D A L last) {u v : Nat} {c : UInt8} (hu : Trm w D L u) (hv : Trm w D L v) (hl : (L u).length ≤ (L v).length) (hd : ((A v).nx c).isSome = true) : ((A u).nx c).isSome = true := by
 obtain ⟨q, hq⟩ := Option.isSome_iff_exists.1 hd
 have h1 : L u <:+ L v := List.suffix_of_suffix_length_le hu.2 hv.2 hl
 have h2 := h.pc_fac (h.tr v c q hv.1 hq _ (h.self hv.1))
 refine h.dfn u c (L u) (h.self hu.1) ?_
 obtain ⟨p, hp⟩ := h1
 refine List.IsInfix.trans (List.IsSuffix.isInfix ⟨p, ?_⟩) h2
 rw [← List.append_assoc, hp]
/-- A piece that ends a state's longest piece belongs to a state that does so as a whole. -/
theorem AuOk.chain (h : AuOk w D A L last) : ∀ (n m : Nat), (L m).length ≤ n → D m → ∀ v x, Pc D A L v x → x <:+ L m → L v <:+ L m := by
 intro n
 induction n with
 | zero =>
   intro m hn hm v x hp hx
   have e : x = L m := hx.eq_of_length (by have := hx.length_le; omega)
   subst e
   rw [h.uni _ _ _ hp (h.self hm)]
   exact List.suffix_refl _
 | succ n ih =>
   intro m hn hm v x hp hx
   by_cases h0 : m = 0
   · subst h0
     have e : x = L 0 := by
       rw [h.root.2.1] at hx ⊢
       exact List.suffix_nil.1 hx
     rw [h.uni v 0 x hp (e ▸ h.self hm)]
     exact List.suffix_refl _
   · obtain ⟨u, h1, h2, h3, h4⟩ := h.lnk m (by omega) hm
     rcases h.short hm hx h2 h1 with g | g
     · rw [h.uni _ _ _ hp g]
       exact List.suffix_refl _
     · exact (ih u (by omega) h1 v x hp g).trans h3
theorem AuOk.lk_d (h : AuOk w D A L last) {v : Nat} (hv : D v) (hl : ¬ (A v).lk < 0) : D (A v).lk.toNat := by
 by_cases h0 : v = 0
 · subst h0
   rw [h.root.2.2] at hl
   omega
 · obtain ⟨u, h1, h2, _, _⟩ := h.lnk v (by omega) hv
   rw [h2, Int.toNat_natCast]
   exact h1
/-- One more byte. -/
theorem AuOk.ext (h : AuOk w D A L last) {c : UInt8} {k m : Nat} {B : Nat → Au} (hk : ¬ D k) (hm : D m) (hms : L m <:+ w ++ [c]) (hmax : ∀ y, y <:+ w ++ [c] → y <:+: w → y.length ≤ (L m).length)
   (hB : ∀ v, D v → (B v).lk = (A v).lk ∧ (B v).ln = (A v).ln ∧ (B v).en = (A v).en ∧ (∀ d, d ≠ c → (B v).nx d = (A v).nx d) ∧ (L v <:+ w → (A v).nx c = none → (B v).nx c = some k) ∧ (¬(L v <:+ w ∧ (A v).nx c = none) → (B v).nx c = (A v).nx c))
   (hn : (B k).lk = (m : Int) ∧ (B k).ln = w.length + 1 ∧ (B k).en = w.length + 1 ∧ ∀ d, (B k).nx d = none) :
   AuOk (w ++ [c]) (fun v => D v ∨ v = k) B (fun v => if v = k then w ++ [c] else L v) k := by
 have hne : ∀ {v}, D v → v ≠ k := fun hv e => hk (e ▸ hv)
 have hmn : ∀ {v}, D v → mnA B v = mnA A v := by
   intro v hv
   unfold mnA
   rw [(hB v hv).1]
   split
   · rfl
   · rename_i hl
     rw [(hB _ (h.lk_d hv hl)).2.1]
 have hmk : mnA B k = (L m).length + 1 := by
   unfold mnA
   rw [hn.1, if_neg (by omega), Int.toNat_natCast, (hB m hm).2.1, h.len m hm]
 have po : ∀ {v x}, D v → (Pc (fun v => D v ∨ v = k) B (fun v => if v = k then w ++ [c] else L v) v x ↔ Pc D A L v x) := by
   intro v x hv
   unfold Pc
   dsimp only
   rw [if_neg (hne hv), hmn hv]
   exact ⟨fun g => ⟨hv, g.2⟩, fun g => ⟨.inl hv, g.2⟩⟩
 have pn : ∀ {x}, Pc (fun v => D v ∨ v = k) B (fun v => if v = k then w ++ [c] else L v) k x ↔ x <:+ w ++ [c] ∧ (L m).length < x.length := by
   intro x
   unfold Pc
   dsimp only
   rw [if_pos rfl, hmk]
   exact ⟨fun g => g.2, fun g => ⟨.inr rfl, g⟩⟩
 have hnot : ∀ {x}, x <:+ w ++ [c] → (L m).length < x.length → ¬ x <:+: w := fun hx hl hi => by
   have := hmax _ hx hi
   omega
 refine ⟨⟨.inl h.root.1, by rw [if_neg (hne h.root.1)]; exact h.root.2.1, by rw [(hB 0 h.root.1).1]; exact h.root.2.2⟩, ?_, ?_, ?_, ?_, ?_, ?_, ?_, ?_, ⟨.inr rfl, if_pos rfl⟩, ?_⟩
 · rintro v (hv | rfl)
   · rw [if_neg (hne hv), (hB v hv).2.1, h.len v hv]
   · rw [if_pos rfl, hn.2.1, List.length_append]
     rfl
 · rintro v h0 (hv | rfl)
   · obtain ⟨u, h1, h2, h3, h4⟩ := h.lnk v h0 hv
     refine ⟨u, .inl h1, by rw [(hB v hv).1]; exact h2, ?_, ?_⟩
     · rw [if_neg (hne hv), if_neg (hne h1)]
       exact h3
     · rw [if_neg (hne hv), if_neg (hne h1)]
       exact h4
   · refine ⟨m, .inl hm, hn.1, ?_, ?_⟩
     · rw [if_pos rfl, if_neg (hne hm)]
       exact hms
     · rw [if_pos rfl, if_neg (hne hm), List.length_append]
       have := (h.fac m hm).length_le
       show _ < _ + 1
       omega
 · rintro v (hv | rfl)
   · rw [if_neg (hne hv)]
     exact (h.fac v hv).trans (List.prefix_append w [c]).isInfix
   · rw [if_pos rfl]
     exact List.infix_refl _
 · intro x hx
   rcases List.infix_concat_iff.1 hx with g | g
   · by_cases hl : (L m).length < x.length
     · exact ⟨k, pn.2 ⟨g, hl⟩⟩
     · have g2 : x <:+ L m := List.suffix_of_suffix_length_le g hms (by omega)
       obtain ⟨v, hp⟩ := h.cov x (g2.isInfix.trans (h.fac m hm))
       exact ⟨v, (po hp.1).2 hp⟩
   · obtain ⟨v, hp⟩ := h.cov x g
     exact ⟨v, (po hp.1).2 hp⟩
 · intro u v x hu hv
   rcases hu.1 with du | rfl
   · rcases hv.1 with dv | rfl
     · exact h.uni u v x ((po du).1 hu) ((po dv).1 hv)
     · exact absurd (h.pc_fac ((po du).1 hu)) (hnot (pn.1 hv).1 (pn.1 hv).2)
   · rcases hv.1 with dv | rfl
     · exact absurd (h.pc_fac ((po dv).1 hv)) (hnot (pn.1 hu).1 (pn.1 hu).2)
     · rfl
 · intro v d u hv hx x hp
   rcases hv with dv | rfl
   · have hp' := (po dv).1 hp
     obtain ⟨_, _, _, b4, b5, b6⟩ := hB v dv
     by_cases e : d = c
     · subst e
       by_cases g : L v <:+ w ∧ (A v).nx d = none
       · rw [b5 g.1 g.2] at hx
         obtain rfl := Option.some.inj hx
         refine pn.2 ⟨?_, ?_⟩
         · obtain ⟨p, hpe⟩ := hp'.2.1.trans g.1
           exact ⟨p, by rw [← List.append_assoc, hpe]⟩
         · refine Nat.lt_of_not_le fun hle => ?_
           have hs : x ++ [d] <:+ w ++ [d] := by
             obtain ⟨p, hpe⟩ := hp'.2.1.trans g.1
             exact ⟨p, by rw [← List.append_assoc, hpe]⟩
           have h2 := (List.suffix_of_suffix_length_le hs hms hle).isInfix.trans (h.fac m hm)
           have := h.dfn v d x hp' h2
           rw [g.2] at this
           cases this
       · rw [b6 g] at hx
         have := h.tr v d u dv hx x hp'
         exact (po this.1).2 this
     · rw [b4 d e] at hx
       have := h.tr v d u dv hx x hp'
       exact (po this.1).2 this
   · rw [hn.2.2.2] at hx
     cases hx
 · intro v d x hp hi
   rcases hp.1 with dv | rfl
   · have hp' := (po dv).1 hp
     obtain ⟨_, _, _, b4, b5, b6⟩ := hB v dv
     rcases List.infix_concat_iff.1 hi with g | g
     · rcases List.suffix_concat_iff.1 g with g | ⟨t, g1, g2⟩
       · simp at g
       · obtain ⟨e1, e2⟩ := List.append_inj' g1 rfl
         subst e1
         obtain rfl : d = c := by simpa using e2
         have ht := h.ter v x hp' g2
         cases hc : (A v).nx d with
         | none => rw [b5 ht hc]; rfl
         | some q => rw [b6 (fun q => by rw [hc] at q; cases q.2), hc]; rfl
     · have := h.dfn v d x hp' g
       by_cases e : d = c
       · subst e
         rw [b6 (fun q => by rw [q.2] at this; cases this)]
         exact this
       · rw [b4 d e]
         exact this
   · exfalso
     have hx := pn.1 hp
     refine hnot hx.1 hx.2 ?_
     obtain ⟨s, t, e⟩ := hi
     rcases List.eq_nil_or_concat t with rfl | ⟨t', z, e0⟩
     · rw [List.append_nil, ← List.append_assoc] at e
       have := (List.append_inj' e rfl).1
       exact ⟨s, [], by rw [List.append_nil]; exact this⟩
     · rw [e0, List.concat_eq_append, ← List.append_assoc] at e
       have := (List.append_inj' e rfl).1
       exact ⟨s, [d] ++ t', by rw [← this]; simp⟩
 · intro v x hp hx
   rcases hp.1 with dv | rfl
   · rw [if_neg (hne dv)]
     have hp' := (po dv).1 hp
     have hl := hmax x hx (h.pc_fac hp')
     have g : x <:+ L m := List.suffix_of_suffix_length_le hx hms hl
     exact (h.chain _ m (Nat.le_refl _) hm v x hp' g).trans hms
   · rw [if_pos rfl]
     exact List.suffix_refl _
 · rintro v (hv | rfl)
   · rw [if_neg (hne hv), (hB v hv).2.2.1]
     obtain ⟨g1, g2⟩ := h.en v hv
     refine ⟨by rw [List.length_append]; omega, ?_⟩
     rw [List.take_append_of_le_length g1]
     exact g2
   · rw [if_pos rfl, hn.2.2.1]
     refine ⟨by rw [List.length_append]; exact Nat.le_refl _, ?_⟩
     rw [List.take_of_length_le (by rw [List.length_append]; exact Nat.le_refl _)]
     exact List.suffix_refl _
end
theorem suf_app {x y : List UInt8} {d c : UInt8} (h : x ++ [d] <:+ y ++ [c]) : d = c ∧ x <:+ y := by
 rcases List.suffix_concat_iff.1 h with g | ⟨t, g1, g2⟩
 · simp at g
 · obtain ⟨e1, e2⟩ := List.append_inj' g1 rfl
   subst e1
   exact ⟨by simpa using e2, g2⟩
theorem app_suf {x y : List UInt8} (h : x <:+ y) (c : UInt8) : x ++ [c] <:+ y ++ [c] := by
 obtain ⟨p, rfl⟩ := h
 exact ⟨p, by rw [List.append_assoc]⟩
/-- Two ends of a list that are not empty end alike. -/
theorem suf_both {x y z : List UInt8} {d c : UInt8} (h1 : x ++ [d] <:+ z) (h2 : y ++ [c] <:+ z) : d = c := by
 rcases Nat.le_total (x ++ [d]).length (y ++ [c]).length with g | g
 · exact (suf_app (List.suffix_of_suffix_length_le h1 h2 g)).1
 · exact (suf_app (List.suffix_of_suffix_length_le h2 h1 g)).1.symm
section
variable {w : List UInt8} {D : Nat → Prop} {A : Nat → Au} {L : Nat → List UInt8} {last : Nat}
/-- A state is split. -/
theorem AuOk.split (h : AuOk w D A L last) {c : UInt8} {k p q : Nat} {B : Nat → Au} (hk : ¬ D k) (hp : Trm w D L p) (hq : (A p).nx c = some q) (hl : (L q).length ≠ (L p).length + 1)
   (hB : ∀ v, D v → (v ≠ q → (B v).lk = (A v).lk) ∧ (B v).ln = (A v).ln ∧ (B v).en = (A v).en ∧ (∀ d, d ≠ c → (B v).nx d = (A v).nx d) ∧ (L v <:+ w → (L v).length ≤ (L p).length → (A v).nx c = some q → (B v).nx c = some k) ∧ (¬(L v <:+ w ∧ (L v).length ≤ (L p).length ∧ (A v).nx c = some q) → (B v).nx c = (A v).nx c))
   (hbq : (B q).lk = (k : Int)) (hn : (B k).lk = (A q).lk ∧ (B k).ln = (L p).length + 1 ∧ (B k).en = (A q).en ∧ ∀ d, (B k).nx d = (A q).nx d) :
   AuOk w (fun v => D v ∨ v = k) B (fun v => if v = k then L p ++ [c] else L v) last := by
 have hne : ∀ {v}, D v → v ≠ k := fun hv e => hk (e ▸ hv)
 have hy := h.tr p c q hp.1 hq _ (h.self hp.1)
 have hdq : D q := hy.1
 have hyl : (L p ++ [c]).length = (L p).length + 1 := by rw [List.length_append]; rfl
 have hlt : (L p ++ [c]).length < (L q).length := by
   have := hy.2.1.length_le
   omega
 have hq0 : 0 < q := by
   rcases Nat.eq_zero_or_pos q with e | e
   · rw [e, h.root.2.1] at hlt
     cases hlt
   · exact e
 obtain ⟨u0, hu0, hul, hus, hult⟩ := h.lnk q hq0 hdq
 have hmq : mnA A q = (L u0).length + 1 := h.mn_lk hul hu0
 have hmu : (L u0).length + 1 ≤ (L p ++ [c]).length := by rw [← hmq]; exact hy.2.2
 have hmn : ∀ {v}, D v → v ≠ q → mnA B v = mnA A v := by
   intro v hv hvq
   unfold mnA
   rw [(hB v hv).1 hvq]
   split
   · rfl
   · rename_i g
     rw [(hB _ (h.lk_d hv g)).2.1]
 have hmB : mnA B q = (L p ++ [c]).length + 1 := by
   unfold mnA
   rw [hbq, if_neg (by omega), Int.toNat_natCast, hn.2.1, hyl]
 have hmk : mnA B k = mnA A q := by
   unfold mnA
   rw [hn.1, hul, if_neg (by omega), if_neg (by omega), Int.toNat_natCast, (hB u0 hu0).2.1]
 have po : ∀ {v x}, D v → v ≠ q → (Pc (fun v => D v ∨ v = k) B (fun v => if v = k then L p ++ [c] else L v) v x ↔ Pc D A L v x) := by
   intro v x hv hvq
   unfold Pc
   dsimp only
   rw [if_neg (hne hv), hmn hv hvq]
   exact ⟨fun g => ⟨hv, g.2⟩, fun g => ⟨.inl hv, g.2⟩⟩
 have pq : ∀ {x}, Pc (fun v => D v ∨ v = k) B (fun v => if v = k then L p ++ [c] else L v) q x ↔ x <:+ L q ∧ (L p ++ [c]).length < x.length := by
   intro x
   unfold Pc
   dsimp only
   rw [if_neg (hne hdq), hmB]
   exact ⟨fun g => g.2, fun g => ⟨.inl hdq, g⟩⟩
 have pk : ∀ {x}, Pc (fun v => D v ∨ v = k) B (fun v => if v = k then L p ++ [c] else L v) k x ↔ x <:+ L p ++ [c] ∧ mnA A q ≤ x.length := by
   intro x
   unfold Pc
   dsimp only
   rw [if_pos rfl, hmk]
   exact ⟨fun g => g.2, fun g => ⟨.inr rfl, g⟩⟩
 have own : ∀ {v x}, Pc (fun v => D v ∨ v = k) B (fun v => if v = k then L p ++ [c] else L v) v x → Pc D A L (if v = k then q else v) x := by
   intro v x hv
   rcases hv.1 with dv | rfl
   · rw [if_neg (hne dv)]
     by_cases e : v = q
     · subst e
       have := pq.1 hv
       exact ⟨hdq, this.1, by have := hy.2.2; omega⟩
     · exact (po dv e).1 hv
   · rw [if_pos rfl]
     have := pk.1 hv
     exact ⟨hdq, this.1.trans hy.2.1, this.2⟩
 have cut : ∀ {x}, Pc D A L q x → (Pc (fun v => D v ∨ v = k) B (fun v => if v = k then L p ++ [c] else L v) q x ∨ Pc (fun v => D v ∨ v = k) B (fun v => if v = k then L p ++ [c] else L v) k x) := by
   intro x hx
   by_cases g : (L p ++ [c]).length < x.length
   · exact .inl (pq.2 ⟨hx.2.1, g⟩)
   · exact .inr (pk.2 ⟨List.suffix_of_suffix_length_le hx.2.1 hy.2.1 (by omega), hx.2.2⟩)
 refine ⟨⟨.inl h.root.1, by rw [if_neg (hne h.root.1)]; exact h.root.2.1, by rw [(hB 0 h.root.1).1 (by omega)]; exact h.root.2.2⟩, ?_, ?_, ?_, ?_, ?_, ?_, ?_, ?_, ⟨.inl h.last.1, by rw [if_neg (hne h.last.1)]; exact h.last.2⟩, ?_⟩
 · rintro v (hv | rfl)
   · rw [if_neg (hne hv), (hB v hv).2.1, h.len v hv]
   · rw [if_pos rfl, hn.2.1, hyl]
 · rintro v h0 (hv | rfl)
   · by_cases e : v = q
     · subst e
       refine ⟨k, .inr rfl, hbq, ?_, ?_⟩
       · rw [if_neg (hne hv), if_pos rfl]
         exact hy.2.1
       · rw [if_neg (hne hv), if_pos rfl]
         exact hlt
     · obtain ⟨u, h1, h2, h3, h4⟩ := h.lnk v h0 hv
       refine ⟨u, .inl h1, by rw [(hB v hv).1 e]; exact h2, ?_, ?_⟩
       · rw [if_neg (hne hv), if_neg (hne h1)]
         exact h3
       · rw [if_neg (hne hv), if_neg (hne h1)]
         exact h4
   · refine ⟨u0, .inl hu0, by rw [hn.1]; exact hul, ?_, ?_⟩
     · rw [if_pos rfl, if_neg (hne hu0)]
       exact List.suffix_of_suffix_length_le hus hy.2.1 (by omega)
     · rw [if_pos rfl, if_neg (hne hu0)]
       omega
 · rintro v (hv | rfl)
   · rw [if_neg (hne hv)]
     exact h.fac v hv
   · rw [if_pos rfl]
     exact hy.2.1.isInfix.trans (h.fac q hdq)
 · intro x hx
   obtain ⟨v, hv⟩ := h.cov x hx
   by_cases e : v = q
   · subst e
     rcases cut hv with g | g
     · exact ⟨_, g⟩
     · exact ⟨_, g⟩
   · exact ⟨v, (po hv.1 e).2 hv⟩
 · intro u v x hu hv
   have e := h.uni _ _ _ (own hu) (own hv)
   by_cases e1 : u = k
   · by_cases e2 : v = k
     · rw [e1, e2]
     · rw [if_pos e1, if_neg e2] at e
       subst e1
       subst e
       have h1 := (pk.1 hu).1.length_le
       have h2 := (pq.1 hv).2
       omega
   · by_cases e2 : v = k
     · rw [if_neg e1, if_pos e2] at e
       subst e2
       subst e
       have h1 := (pk.1 hv).1.length_le
       have h2 := (pq.1 hu).2
       omega
     · rw [if_neg e1, if_neg e2] at e
       exact e
 · intro v d u hv hx x hpx
   have ho := own hpx
   rcases hv with dv | rfl
   · rw [if_neg (hne dv)] at ho
     obtain ⟨_, _, _, b4, b5, b6⟩ := hB v dv
     by_cases ed : d = c
     · subst ed
       by_cases g : L v <:+ w ∧ (L v).length ≤ (L p).length ∧ (A v).nx d = some q
       · rw [b5 g.1 g.2.1 g.2.2] at hx
         obtain rfl := Option.some.inj hx
         have ht := h.tr v d q dv g.2.2 x ho
         exact pk.2 ⟨app_suf (ho.2.1.trans (List.suffix_of_suffix_length_le g.1 hp.2 g.2.1)) d, ht.2.2⟩
       · rw [b6 g] at hx
         have ht := h.tr v d u dv hx x ho
         by_cases e : u = q
         · subst e
           refine pq.2 ⟨ht.2.1, Nat.lt_of_not_le fun hle => g ?_⟩
           have hs := (suf_app (List.suffix_of_suffix_length_le ht.2.1 hy.2.1 hle)).2
           have hv := h.ter v x ho (hs.trans hp.2)
           refine ⟨hv, Nat.le_of_not_lt fun hlt2 => ?_, hx⟩
           have hpv : Pc D A L v (L p) := ⟨dv, List.suffix_of_suffix_length_le hp.2 hv (by omega), Nat.le_trans ho.2.2 hs.length_le⟩
           have := h.uni _ _ _ hpv (h.self hp.1)
           subst this
           omega
         · exact (po ht.1 e).2 ht
     · rw [b4 d ed] at hx
       have ht := h.tr v d u dv hx x ho
       by_cases e : u = q
       · subst e
         exact absurd (suf_both ht.2.1 hy.2.1) ed
       · exact (po ht.1 e).2 ht
   · rw [if_pos rfl] at ho
     rw [hn.2.2.2] at hx
     have ht := h.tr q d u hdq hx x ho
     by_cases e : u = q
     · subst e
       have := (h.tr u d u hdq hx _ (h.self hdq)).2.1.length_le
       rw [List.length_append] at this
       have h1 : [d].length = 1 := rfl
       omega
     · exact (po ht.1 e).2 ht
 · intro v d x hpx hi
   have ho := own hpx
   have hs := h.dfn _ d x ho hi
   rcases hpx.1 with dv | rfl
   · rw [if_neg (hne dv)] at hs
     obtain ⟨_, _, _, b4, b5, b6⟩ := hB v dv
     by_cases ed : d = c
     · subst ed
       by_cases g : L v <:+ w ∧ (L v).length ≤ (L p).length ∧ (A v).nx d = some q
       · rw [b5 g.1 g.2.1 g.2.2]
         rfl
       · rw [b6 g]
         exact hs
     · rw [b4 d ed]
       exact hs
   · rw [if_pos rfl] at hs
     rw [hn.2.2.2]
     exact hs
 · intro v x hpx hx
   have ho := own hpx
   have ht := h.ter _ x ho hx
   rcases hpx.1 with dv | rfl
   · rw [if_neg (hne dv)] at ht ⊢
     exact ht
   · rw [if_pos rfl] at ht ⊢
     exact hy.2.1.trans ht
 · rintro v (hv | rfl)
   · rw [if_neg (hne hv), (hB v hv).2.2.1]
     exact h.en v hv
   · rw [if_pos rfl, hn.2.2.1]
     obtain ⟨g1, g2⟩ := h.en q hdq
     exact ⟨g1, hy.2.1.trans g2⟩
end
section
variable {w : List UInt8} {D : Nat → Prop} {A : Nat → Au} {L : Nat → List UInt8} {last : Nat}
/-- The longest end of a text that is a piece of w. -/
def Lng (w s x : List UInt8) : Prop := x <:+ s ∧ x <:+: w ∧ ∀ y, y <:+ s → y <:+: w → y.length ≤ x.length
theorem pre_fac {t : List UInt8} {c : UInt8} (h : (t ++ [c]) <:+: w) : t <:+: w := (List.prefix_append t [c]).isInfix.trans h
/-- While a longest end is sought that leads on. -/
def Seek (w : List UInt8) (D : Nat → Prop) (A : Nat → Au) (L : Nat → List UInt8) (s : List UInt8) (c : UInt8) (v : Nat) (x : List UInt8) : Prop := Pc D A L v x ∧ x <:+ s ∧ ∀ t, t <:+ s → (t ++ [c]) <:+: w → t.length ≤ x.length
theorem Lng.seek {s x : List UInt8} (hp : Pc D A L last x) (h : Lng w s x) (c : UInt8) : Seek w D A L s c last x := ⟨hp, h.1, fun t ht hf => h.2.2 t ht (pre_fac hf)⟩
theorem Seek.back (h : AuOk w D A L last) {s x : List UInt8} {c : UInt8} {v u : Nat} (hs : Seek w D A L s c v x) (hn : (A v).nx c = none) (hl : (A v).lk = (u : Int)) (hv : 0 < v) : Seek w D A L s c u (L u) ∧ (L u).length < (L v).length := by
 obtain ⟨hp, hx, hm⟩ := hs
 obtain ⟨u', h1, h2, h3, h4⟩ := h.lnk v hv hp.1
 obtain rfl : u' = u := by omega
 have hmn := h.mn_lk hl h1
 have hle : (L u').length < x.length := by have := hp.2.2; omega
 have hux : L u' <:+ x := List.suffix_of_suffix_length_le h3 hp.2.1 (by omega)
 refine ⟨⟨h.self h1, hux.trans hx, fun t ht hf => Nat.le_of_not_lt fun hlt => ?_⟩, h4⟩
 have htx : t <:+ x := List.suffix_of_suffix_length_le ht hx (hm t ht hf)
 have := h.dfn v c t ⟨hp.1, htx.trans hp.2.1, by omega⟩ hf
 rw [hn] at this
 cases this
theorem Seek.yes (h : AuOk w D A L last) {s x : List UInt8} {c : UInt8} {v u : Nat} (hs : Seek w D A L s c v x) (hn : (A v).nx c = some u) : Pc D A L u (x ++ [c]) ∧ Lng w (s ++ [c]) (x ++ [c]) := by
 obtain ⟨hp, hx, hm⟩ := hs
 have ht := h.tr v c u hp.1 hn x hp
 refine ⟨ht, app_suf hx c, h.pc_fac ht, fun y hy hf => ?_⟩
 rcases List.suffix_concat_iff.1 hy with rfl | ⟨t, rfl, g⟩
 · exact Nat.zero_le _
 · rw [List.length_append, List.length_append]
   exact Nat.succ_le_succ (hm t g hf)
theorem Seek.none (h : AuOk w D A L last) {s x : List UInt8} {c : UInt8} (hs : Seek w D A L s c 0 x) (hn : (A 0).nx c = none) : x = [] ∧ Pc D A L 0 [] ∧ Lng w (s ++ [c]) [] := by
 obtain ⟨hp, hx, hm⟩ := hs
 have e : x = [] := by
   have := hp.2.1
   rw [h.root.2.1] at this
   exact List.suffix_nil.1 this
 subst e
 refine ⟨rfl, hp, List.nil_suffix, List.nil_infix, fun y hy hf => ?_⟩
 rcases List.suffix_concat_iff.1 hy with rfl | ⟨t, rfl, g⟩
 · exact Nat.le_refl _
 · have h0 := hm t g hf
   have e : t = [] := List.length_eq_zero_iff.1 (Nat.le_zero.1 h0)
   subst e
   have := h.dfn 0 c [] hp hf
   rw [hn] at this
   cases this
/-- Where a piece of a state stands. -/
theorem AuOk.stands (h : AuOk w D A L last) {v : Nat} {x : List UInt8} (hp : Pc D A L v x) : (A v).en ≤ w.length ∧ x.length ≤ (A v).en ∧ (w.take (A v).en).drop ((A v).en - x.length) = x := by
 obtain ⟨h1, h2⟩ := h.en v hp.1
 have h3 := hp.2.1.trans h2
 have h4 := h3.length_le
 rw [List.length_take, Nat.min_eq_left h1] at h4
 refine ⟨h1, h4, ?_⟩
 have := List.suffix_iff_eq_drop.1 h3
 rw [List.length_take, Nat.min_eq_left h1] at this
 exact this.symm
end
/-- The automaton of the empty text. -/
theorem AuOk.nil {A : Nat → Au} (h : A 0 = ⟨fun _ => none, -1, 0, 0⟩) : AuOk [] (fun v => v = 0) A (fun _ => []) 0 := by
 have hp : ∀ {v x}, Pc (fun v => v = 0) A (fun _ => []) v x → v = 0 ∧ x = [] := fun hp => ⟨hp.1, List.suffix_nil.1 hp.2.1⟩
 have h0 : Pc (fun v => v = 0) A (fun _ => []) 0 [] := ⟨rfl, List.suffix_refl _, by unfold mnA; rw [h]; exact Nat.le_refl _⟩
 refine ⟨⟨rfl, rfl, by rw [h]⟩, ?_, ?_, ?_, ?_, ?_, ?_, ?_, ?_, ⟨rfl, rfl⟩, ?_⟩
 · rintro v rfl
   rw [h]
   rfl
 · rintro v hv rfl
   omega
 · rintro v rfl
   exact List.infix_refl _
 · intro x hx
   rw [List.infix_nil.1 hx]
   exact ⟨0, h0⟩
 · intro u v x hu hv
   rw [(hp hu).1, (hp hv).1]
 · rintro v c u rfl hx
   rw [h] at hx
   cases hx
 · intro v c x _ hi
   have := List.infix_nil.1 hi
   simp at this
 · intro v x _ _
   exact List.suffix_refl _
 · rintro v rfl
   rw [h]
   exact ⟨Nat.le_refl _, List.suffix_refl _⟩
/-! ### One step of the program -/
def Dn (a : List Au) : Nat → Prop := fun v => v < a.length
def Ag (a : List Au) : Nat → Au := fun v => a.getD v Au.zero
def updA (f : UInt8 → Option Nat) (c : UInt8) (k : Nat) : UInt8 → Option Nat := fun d => if d = c then some k else f d
/-- Along the path: all ends that are not shorter than t lead to the new state. -/
structure Ph1 (w : List UInt8) (a : List Au) (L : Nat → List UInt8) (c : UInt8) (t : Nat) (b : List Au) : Prop where
 len : b.length = a.length + 1
 no : ∀ v, Trm w (Dn a) L v → t ≤ (L v).length → (Ag a v).nx c = none
 old : ∀ v, v < a.length → (Ag b v).lk = (Ag a v).lk ∧ (Ag b v).ln = (Ag a v).ln ∧ (Ag b v).en = (Ag a v).en ∧ (∀ d, d ≠ c → (Ag b v).nx d = (Ag a v).nx d) ∧ (L v <:+ w → t ≤ (L v).length → (Ag b v).nx c = some a.length) ∧ (¬(L v <:+ w ∧ t ≤ (L v).length) → (Ag b v).nx c = (Ag a v).nx c)
 new : Ag b a.length = ⟨fun _ => none, 0, w.length + 1, w.length + 1⟩
section
variable {w : List UInt8} {a b : List Au} {L : Nat → List UInt8} {last : Nat} {c : UInt8}
theorem Ag_app {v : Nat} {x : Au} (h : v < a.length) : Ag (a ++ [x]) v = Ag a v := by
 unfold Ag
 simp only [List.getD_eq_getElem?_getD]
 rw [List.getElem?_append_left h]
theorem Ag_end {x : Au} : Ag (a ++ [x]) a.length = x := by
 unfold Ag
 simp
theorem Ag_set {v u : Nat} {x : Au} (h : v < a.length) : Ag (a.set v x) u = if v = u then x else Ag a u := by
 unfold Ag
 simp only [List.getD_eq_getElem?_getD, List.getElem?_set]
 by_cases e : v = u
 · subst e
   rw [if_pos rfl, if_pos rfl, if_pos h]
   rfl
 · rw [if_neg e, if_neg e]
theorem Ph1.start (_h : AuOk w (Dn a) (Ag a) L last) : Ph1 w a L c (w.length + 1) (a ++ [⟨fun _ => none, 0, w.length + 1, w.length + 1⟩]) := by
 refine ⟨by rw [List.length_append]; rfl, fun v hv hl => ?_, fun v hv => ?_, Ag_end⟩
 · have := hv.2.length_le
   omega
 · rw [Ag_app hv]
   refine ⟨rfl, rfl, rfl, fun _ _ => rfl, fun h1 h2 => ?_, fun _ => rfl⟩
   have := h1.length_le
   omega
theorem Ph1.step (h : AuOk w (Dn a) (Ag a) L last) {v : Nat} (hp : Ph1 w a L c ((L v).length + 1) b) (hv : Trm w (Dn a) L v) (hn : (Ag b v).nx c = none) : Ph1 w a L c (L v).length (b.set v { Ag b v with nx := updA (Ag b v).nx c a.length }) := by
 have hvn : v < a.length := hv.1
 have ho := hp.old v hvn
 have han : (Ag a v).nx c = none := by rw [← ho.2.2.2.2.2 (fun g => by omega)]; exact hn
 have same : ∀ u, Trm w (Dn a) L u → (L v).length ≤ (L u).length → (L v).length + 1 ≤ (L u).length ∨ u = v := by
   intro u hu hl
   rcases Nat.lt_or_ge (L v).length (L u).length with g | g
   · exact .inl g
   · exact .inr (h.trm_uni hu hv (by omega))
 refine ⟨by rw [List.length_set]; exact hp.len, fun u hu hl => ?_, fun u hu => ?_, ?_⟩
 · rcases same u hu hl with g | rfl
   · exact hp.no u hu g
   · exact han
 · rw [Ag_set (by rw [hp.len]; omega)]
   by_cases e : v = u
   · subst e
     rw [if_pos rfl]
     refine ⟨ho.1, ho.2.1, ho.2.2.1, fun d hd => ?_, fun _ _ => ?_, fun g => absurd ⟨hv.2, Nat.le_refl _⟩ g⟩
     · show updA _ c a.length d = _
       unfold updA
       rw [if_neg hd]
       exact ho.2.2.2.1 d hd
     · show updA _ c a.length c = _
       unfold updA
       rw [if_pos rfl]
   · rw [if_neg e]
     obtain ⟨o1, o2, o3, o4, o5, o6⟩ := hp.old u hu
     refine ⟨o1, o2, o3, o4, fun g1 g2 => ?_, fun g => o6 fun q => g ⟨q.1, by omega⟩⟩
     rcases same u ⟨hu, g1⟩ g2 with g | g
     · exact o5 g1 g
     · exact absurd g.symm e
 · rw [Ag_set (by rw [hp.len]; omega), if_neg (by omega)]
   exact hp.new
/-- On to the linked state. -/
theorem Ph1.link (h : AuOk w (Dn a) (Ag a) L last) {v u : Nat} (hp : Ph1 w a L c (L v).length b) (hv : Trm w (Dn a) L v) (h0 : 0 < v) (hl : (Ag a v).lk = (u : Int)) : Ph1 w a L c ((L u).length + 1) b := by
 obtain ⟨h1, h2, h3⟩ := h.trm_link hv h0 hl
 have iff : ∀ t, Trm w (Dn a) L t → ((L u).length + 1 ≤ (L t).length ↔ (L v).length ≤ (L t).length) := by
   intro t ht
   constructor
   · intro g
     refine Nat.le_of_not_lt fun q => ?_
     have := h3 t ht q
     omega
   · intro g
     omega
 refine ⟨hp.len, fun t ht g => hp.no t ht ((iff t ht).1 g), fun t ht => ?_, hp.new⟩
 obtain ⟨o1, o2, o3, o4, o5, o6⟩ := hp.old t ht
 refine ⟨o1, o2, o3, o4, fun g1 g2 => o5 g1 ((iff t ⟨ht, g1⟩).1 g2), fun g => o6 fun q => g ⟨q.1, (iff t ⟨ht, q.1⟩).2 q.2⟩⟩
theorem Ph1.root (hr : L 0 = []) (hp : Ph1 w a L c (L 0).length b) : Ph1 w a L c 0 b := by
 rw [hr] at hp
 exact hp
theorem cup {D E : Nat → Prop} {A : Nat → Au} (e : ∀ v, D v ↔ E v) (h : AuOk w D A L last) : AuOk w E A L last := by
 have : D = E := funext fun v => propext (e v)
 rwa [← this]
/-- The byte is new. -/
theorem Ph1.fresh (h : AuOk w (Dn a) (Ag a) L last) (hp : Ph1 w a L c 0 b) : ∃ L', AuOk (w ++ [c]) (Dn b) (Ag b) L' a.length := by
 have h0 : 0 < a.length := h.root.1
 refine ⟨_, cup (fun v => ?_) (h.ext (c := c) (k := a.length) (m := 0) (B := Ag b) (fun g => absurd g (by unfold Dn; omega)) h0 (by rw [h.root.2.1]; exact List.nil_suffix) (fun y hy hf => ?_) (fun v hv => ?_) ?_)⟩
 · unfold Dn
   rw [hp.len]
   omega
 · rcases List.suffix_concat_iff.1 hy with rfl | ⟨t, rfl, g⟩
   · exact Nat.zero_le _
   · obtain ⟨v, hv⟩ := h.cov t (pre_fac hf)
     have h1 := h.dfn v c t hv hf
     rw [hp.no v ⟨hv.1, h.ter v t hv g⟩ (Nat.zero_le _)] at h1
     cases h1
 · obtain ⟨o1, o2, o3, o4, o5, o6⟩ := hp.old v hv
   refine ⟨o1, o2, o3, o4, fun g _ => o5 g (Nat.zero_le _), fun g => ?_⟩
   by_cases q : L v <:+ w
   · exact absurd ⟨q, hp.no v ⟨hv, q⟩ (Nat.zero_le _)⟩ g
   · exact o6 fun r => q r.1
 · rw [hp.new]
   exact ⟨rfl, rfl, rfl, fun _ => rfl⟩
/-- What is known when the path has led to a state that leads on. -/
theorem Ph1.found (h : AuOk w (Dn a) (Ag a) L last) {v q : Nat} (hp : Ph1 w a L c ((L v).length + 1) b) (hv : Trm w (Dn a) L v) (hq : (Ag b v).nx c = some q) : (Ag a v).nx c = some q ∧ Pc (Dn a) (Ag a) L q (L v ++ [c]) ∧ (∀ y, y <:+ w ++ [c] → y <:+: w → y.length ≤ (L v ++ [c]).length) := by
 have ho := hp.old v hv.1
 have e : (Ag a v).nx c = some q := by rw [← ho.2.2.2.2.2 (fun g => by omega)]; exact hq
 refine ⟨e, h.tr v c q hv.1 e _ (h.self hv.1), fun y hy hf => ?_⟩
 rcases List.suffix_concat_iff.1 hy with rfl | ⟨t, rfl, g⟩
 · exact Nat.zero_le _
 · rw [List.length_append, List.length_append]
   refine Nat.succ_le_succ ?_
   obtain ⟨u, hu⟩ := h.cov t (pre_fac hf)
   have h1 := h.dfn u c t hu hf
   have hut : Trm w (Dn a) L u := ⟨hu.1, h.ter u t hu g⟩
   refine Nat.le_trans hu.2.1.length_le (Nat.le_of_not_lt fun hl => ?_)
   rw [hp.no u hut hl] at h1
   cases h1
/-- The state that is led to has no longer pieces. -/
theorem Ph1.same (h : AuOk w (Dn a) (Ag a) L last) {v q : Nat} (hp : Ph1 w a L c ((L v).length + 1) b) (hv : Trm w (Dn a) L v) (hq : (Ag b v).nx c = some q) (hl : (Ag b q).ln = (Ag b v).ln + 1) : ∃ L', AuOk (w ++ [c]) (Dn (b.set a.length { Ag b a.length with lk := (q : Int) })) (Ag (b.set a.length { Ag b a.length with lk := (q : Int) })) L' a.length := by
 obtain ⟨e, hpc, hmax⟩ := hp.found h hv hq
 have hqn : q < a.length := hpc.1
 rw [(hp.old q hqn).2.1, (hp.old v hv.1).2.1, h.len q hqn, h.len v hv.1] at hl
 have hL : L v ++ [c] = L q := hpc.2.1.eq_of_length (by rw [List.length_append]; exact hl.symm)
 have hb : a.length < b.length := by rw [hp.len]; omega
 refine ⟨_, cup (fun u => ?_) (h.ext (c := c) (k := a.length) (m := q) (B := Ag (b.set a.length { Ag b a.length with lk := (q : Int) })) (fun g => absurd g (by unfold Dn; omega)) hqn (by rw [← hL]; exact app_suf hv.2 c) (fun y hy hf => by rw [← hL]; exact hmax y hy hf) (fun u hu => ?_) ?_)⟩
 · unfold Dn
   rw [List.length_set, hp.len]
   omega
 · rw [Ag_set hb, if_neg (by have : u < a.length := hu; omega)]
   obtain ⟨o1, o2, o3, o4, o5, o6⟩ := hp.old u hu
   refine ⟨o1, o2, o3, o4, fun g1 g2 => ?_, fun g => o6 fun r => g ⟨r.1, hp.no u ⟨hu, r.1⟩ r.2⟩⟩
   refine o5 g1 (Nat.lt_of_not_le fun hle => ?_)
   have := h.dfn_link ⟨hu, g1⟩ hv hle (by rw [e]; rfl)
   rw [g2] at this
   cases this
 · rw [Ag_set hb, if_pos rfl, hp.new]
   exact ⟨rfl, rfl, rfl, fun _ => rfl⟩
end
/-- While the ends that lead to the split state are turned to its copy. -/
structure Ph2 (w : List UInt8) (a : List Au) (L : Nat → List UInt8) (c : UInt8) (v q : Nat) (f : UInt8 → Option Nat) (t : Nat) (b : List Au) : Prop where
 len : b.length = a.length + 2
 led : ∀ u, Trm w (Dn a) L u → t ≤ (L u).length → (L u).length ≤ (L v).length → (Ag a u).nx c = some q
 old : ∀ u, u < a.length → (Ag b u).lk = (Ag a u).lk ∧ (Ag b u).ln = (Ag a u).ln ∧ (Ag b u).en = (Ag a u).en ∧ (∀ d, d ≠ c → (Ag b u).nx d = (Ag a u).nx d) ∧ (L u <:+ w → (L v).length + 1 ≤ (L u).length → (Ag b u).nx c = some a.length) ∧ (L u <:+ w → t ≤ (L u).length → (L u).length ≤ (L v).length → (Ag b u).nx c = some (a.length + 1)) ∧ (¬(L u <:+ w ∧ t ≤ (L u).length) → (Ag b u).nx c = (Ag a u).nx c)
 new : Ag b a.length = ⟨fun _ => none, 0, w.length + 1, w.length + 1⟩
 cl : Ag b (a.length + 1) = ⟨f, (Ag a q).lk, (L v).length + 1, (Ag a q).en⟩
section
variable {w : List UInt8} {a b : List Au} {L : Nat → List UInt8} {last : Nat} {c : UInt8} {f : UInt8 → Option Nat} {v q t : Nat}
theorem Ph2.start (h : AuOk w (Dn a) (Ag a) L last) (hp : Ph1 w a L c ((L v).length + 1) b) (hv : Trm w (Dn a) L v) (hq : (Ag b v).nx c = some q) : Ph2 w a L c v q (Ag b q).nx ((L v).length + 1) (b ++ [⟨(Ag b q).nx, (Ag b q).lk, (Ag b v).ln + 1, (Ag b q).en⟩]) := by
 obtain ⟨_, hpc, _⟩ := hp.found h hv hq
 have hqn : q < a.length := hpc.1
 have hl := hp.len
 refine ⟨by rw [List.length_append, hl]; rfl, fun u _ g1 g2 => by omega, fun u hu => ?_, ?_, ?_⟩
 · rw [Ag_app (by omega)]
   obtain ⟨o1, o2, o3, o4, o5, o6⟩ := hp.old u hu
   exact ⟨o1, o2, o3, o4, o5, fun _ g1 g2 => by omega, o6⟩
 · rw [Ag_app (by omega)]
   exact hp.new
 · rw [show a.length + 1 = b.length from hl.symm, Ag_end, (hp.old q hqn).1, (hp.old q hqn).2.2.1, (hp.old v hv.1).2.1, h.len v hv.1]
theorem Ph2.step (h : AuOk w (Dn a) (Ag a) L last) {u : Nat} (hp : Ph2 w a L c v q f ((L u).length + 1) b) (hu : Trm w (Dn a) L u) (hle : (L u).length ≤ (L v).length) (hn : (Ag b u).nx c = some q) : Ph2 w a L c v q f (L u).length (b.set u { Ag b u with nx := updA (Ag b u).nx c (a.length + 1) }) := by
 have hun : u < a.length := hu.1
 have ho := hp.old u hun
 have han : (Ag a u).nx c = some q := by rw [← ho.2.2.2.2.2.2 (fun g => by omega)]; exact hn
 have same : ∀ x, Trm w (Dn a) L x → (L u).length ≤ (L x).length → (L u).length + 1 ≤ (L x).length ∨ x = u := by
   intro x hx hl
   rcases Nat.lt_or_ge (L u).length (L x).length with g | g
   · exact .inl g
   · exact .inr (h.trm_uni hx hu (by omega))
 refine ⟨by rw [List.length_set]; exact hp.len, fun x hx g1 g2 => ?_, fun x hx => ?_, ?_, ?_⟩
 · rcases same x hx g1 with g | rfl
   · exact hp.led x hx g g2
   · exact han
 · rw [Ag_set (by rw [hp.len]; omega)]
   by_cases e : u = x
   · subst e
     rw [if_pos rfl]
     refine ⟨ho.1, ho.2.1, ho.2.2.1, fun d hd => ?_, fun _ g => by omega, fun _ _ _ => ?_, fun g => absurd ⟨hu.2, Nat.le_refl _⟩ g⟩
     · show updA _ c (a.length + 1) d = _
       unfold updA
       rw [if_neg hd]
       exact ho.2.2.2.1 d hd
     · show updA _ c (a.length + 1) c = _
       unfold updA
       rw [if_pos rfl]
   · rw [if_neg e]
     obtain ⟨o1, o2, o3, o4, o5, o6, o7⟩ := hp.old x hx
     refine ⟨o1, o2, o3, o4, o5, fun g1 g2 g3 => ?_, fun g => o7 fun r => g ⟨r.1, by omega⟩⟩
     rcases same x ⟨hx, g1⟩ g2 with g | g
     · exact o6 g1 g g3
     · exact absurd g.symm e
 · rw [Ag_set (by rw [hp.len]; omega), if_neg (by omega)]
   exact hp.new
 · rw [Ag_set (by rw [hp.len]; omega), if_neg (by omega)]
   exact hp.cl
theorem Ph2.link (h : AuOk w (Dn a) (Ag a) L last) {u x : Nat} (hp : Ph2 w a L c v q f (L u).length b) (hu : Trm w (Dn a) L u) (h0 : 0 < u) (hl : (Ag a u).lk = (x : Int)) : Ph2 w a L c v q f ((L x).length + 1) b := by
 obtain ⟨h1, h2, h3⟩ := h.trm_link hu h0 hl
 have iff : ∀ t, Trm w (Dn a) L t → ((L x).length + 1 ≤ (L t).length ↔ (L u).length ≤ (L t).length) := by
   intro t ht
   constructor
   · intro g
     refine Nat.le_of_not_lt fun r => ?_
     have := h3 t ht r
     omega
   · intro g
     omega
 refine ⟨hp.len, fun t ht g g2 => hp.led t ht ((iff t ht).1 g) g2, fun t ht => ?_, hp.new, hp.cl⟩
 obtain ⟨o1, o2, o3, o4, o5, o6, o7⟩ := hp.old t ht
 exact ⟨o1, o2, o3, o4, o5, fun g1 g2 g3 => o6 g1 ((iff t ⟨ht, g1⟩).1 g2) g3, fun g => o7 fun r => g ⟨r.1, (iff t ⟨ht, r.1⟩).2 r.2⟩⟩
/-- Once an end leads elsewhere, all shorter ones do. -/
theorem AuOk.apart (h : AuOk w (Dn a) (Ag a) L last) {u x : Nat} (hv : Trm w (Dn a) L v) (hq : (Ag a v).nx c = some q) (hu : Trm w (Dn a) L u) (hle : (L u).length ≤ (L v).length) (hn : (Ag a u).nx c ≠ some q) (hx : Trm w (Dn a) L x) (hxu : (L x).length ≤ (L u).length) : (Ag a x).nx c ≠ some q := by
 intro hxq
 have h1 := h.tr x c q hx.1 hxq _ (h.self hx.1)
 have h2 := h.tr v c q hv.1 hq _ (h.self hv.1)
 have hd := h.dfn_link (c := c) hu hv hle (by rw [hq]; rfl)
 obtain ⟨q', hq'⟩ := Option.isSome_iff_exists.1 hd
 have h3 := h.tr u c q' hu.1 hq' _ (h.self hu.1)
 have hs : L u <:+ L v := List.suffix_of_suffix_length_le hu.2 hv.2 hle
 have h4 : Pc (Dn a) (Ag a) L q (L u ++ [c]) := ⟨h1.1, (app_suf hs c).trans h2.2.1, by
   have := h1.2.2
   rw [List.length_append] at this ⊢
   omega⟩
 have := h.uni _ _ _ h3 h4
 subst this
 exact hn hq'
/-- Whatever ends the turning: all that led to the split state by shorter ends lead to its copy now. -/
theorem Ph2.done {b0 : List Au} (h : AuOk w (Dn a) (Ag a) L last) (hp : Ph2 w a L c v q f t b) (hv : Trm w (Dn a) L v) (hq : (Ag a v).nx c = some q) (hno : ∀ x, Trm w (Dn a) L x → (L x).length < t → (L x).length ≤ (L v).length → (Ag a x).nx c ≠ some q) (h1 : Ph1 w a L c ((L v).length + 1) b0) (hf : f = (Ag b0 q).nx) (hl : (L q).length ≠ (L v).length + 1) :
   ∃ L', AuOk (w ++ [c]) (Dn ((b.set q { Ag b q with lk := ((a.length + 1 : Nat) : Int) }).set a.length { Ag b a.length with lk := ((a.length + 1 : Nat) : Int) })) (Ag ((b.set q { Ag b q with lk := ((a.length + 1 : Nat) : Int) }).set a.length { Ag b a.length with lk := ((a.length + 1 : Nat) : Int) })) L' a.length := by
 have hpc := h.tr v c q hv.1 hq _ (h.self hv.1)
 have hqn : q < a.length := hpc.1
 have hlen := hp.len
 have hl1 : ∀ (x : Au), q < b.length := fun _ => by omega
 let B : Nat → Au := fun x => if x = a.length + 1 then ⟨(Ag a q).nx, (Ag a q).lk, (L v).length + 1, (Ag a q).en⟩ else ⟨fun d => if d = c ∧ (L x <:+ w ∧ (L x).length ≤ (L v).length ∧ (Ag a x).nx c = some q) then some (a.length + 1) else (Ag a x).nx d, if x = q then ((a.length + 1 : Nat) : Int) else (Ag a x).lk, (Ag a x).ln, (Ag a x).en⟩
 have hB : ∀ {x}, x < a.length → B x = ⟨fun d => if d = c ∧ (L x <:+ w ∧ (L x).length ≤ (L v).length ∧ (Ag a x).nx c = some q) then some (a.length + 1) else (Ag a x).nx d, if x = q then ((a.length + 1 : Nat) : Int) else (Ag a x).lk, (Ag a x).ln, (Ag a x).en⟩ := fun hx => if_neg (by omega)
 have hBk : B (a.length + 1) = ⟨(Ag a q).nx, (Ag a q).lk, (L v).length + 1, (Ag a q).en⟩ := if_pos rfl
 have hs := h.split (c := c) (k := a.length + 1) (p := v) (q := q) (B := B) (fun g => absurd g (by unfold Dn; omega)) hv hq hl (fun x hx => by
   rw [hB hx]
   refine ⟨fun g => if_neg g, rfl, rfl, fun d hd => if_neg fun g => hd g.1, fun g1 g2 g3 => if_pos ⟨rfl, g1, g2, g3⟩, fun g => if_neg fun r => g r.2⟩) (by rw [hB hqn]; exact if_pos rfl) (by
   rw [hBk]
   exact ⟨rfl, rfl, rfl, fun _ => rfl⟩)
 have hmax := (h1.found h hv (by rw [(h1.old v hv.1).2.2.2.2.2 (fun g => by omega)]; exact hq)).2.2
 have hy0 : L v ++ [c] <:+ w ++ [c] := app_suf hv.2 c
 have hyl : (L v ++ [c]).length = (L v).length + 1 := by rw [List.length_append]; rfl
 have hql : (L v).length + 1 < (L q).length := by
   have := hpc.2.1.length_le
   omega
 have hg : ∀ x, Ag ((b.set q { Ag b q with lk := ((a.length + 1 : Nat) : Int) }).set a.length { Ag b a.length with lk := ((a.length + 1 : Nat) : Int) }) x = if a.length = x then { Ag b a.length with lk := ((a.length + 1 : Nat) : Int) } else if q = x then { Ag b q with lk := ((a.length + 1 : Nat) : Int) } else Ag b x := by
   intro x
   rw [Ag_set (by rw [List.length_set]; omega), Ag_set (by omega)]
 have h2 := hs.ext (c := c) (k := a.length) (m := a.length + 1) (B := Ag ((b.set q { Ag b q with lk := ((a.length + 1 : Nat) : Int) }).set a.length { Ag b a.length with lk := ((a.length + 1 : Nat) : Int) })) (fun g => by
     rcases g with g | g
     · exact absurd g (by unfold Dn; omega)
     · omega) (.inr rfl) (by rw [if_pos rfl]; exact hy0) (fun y hy hf => by rw [if_pos rfl]; exact hmax y hy hf) (fun x hx => by
   rcases hx with hx | rfl
   · have hx' : x < a.length := hx
     obtain ⟨o1, o2, o3, o4, o5, o6, o7⟩ := hp.old x hx'
     have hlo : ∀ hi : L x <:+ w, (Ag a x).nx c = none → (L v).length + 1 ≤ (L x).length := fun hi hn => Nat.lt_of_not_le fun hle => by
       have := h.dfn_link (c := c) ⟨hx, hi⟩ hv hle (by rw [hq]; rfl)
       rw [hn] at this
       cases this
     have hb : (Ag ((b.set q { Ag b q with lk := ((a.length + 1 : Nat) : Int) }).set a.length { Ag b a.length with lk := ((a.length + 1 : Nat) : Int) }) x) = { Ag b x with lk := if x = q then ((a.length + 1 : Nat) : Int) else (Ag b x).lk } := by
       rw [hg, if_neg (by omega)]
       by_cases e : q = x
       · subst e
         rw [if_pos rfl, if_pos rfl]
       · rw [if_neg e, if_neg (fun r => e r.symm)]
     rw [hb, hB hx', if_neg (by omega : ¬ x = a.length + 1)]
     dsimp only
     refine ⟨by rw [o1], o2, o3, fun d hd => ?_, fun g1 g2 => ?_, fun g => ?_⟩
     · rw [o4 d hd, if_neg fun r => hd r.1]
     · by_cases r : L x <:+ w ∧ (L x).length ≤ (L v).length ∧ (Ag a x).nx c = some q
       · rw [if_pos ⟨rfl, r⟩] at g2
         cases g2
       · rw [if_neg fun s => r s.2] at g2
         exact o5 g1 (hlo g1 g2)
     · by_cases r : L x <:+ w ∧ (L x).length ≤ (L v).length ∧ (Ag a x).nx c = some q
       · rw [if_pos ⟨rfl, r⟩]
         refine o6 r.1 (Nat.le_of_not_lt fun hlt => ?_) r.2.1
         exact hno x ⟨hx, r.1⟩ hlt r.2.1 r.2.2
       · rw [if_neg fun s => r s.2]
         by_cases s : L x <:+ w
         · by_cases s2 : (L v).length + 1 ≤ (L x).length
           · exfalso
             exact g ⟨s, by rw [if_neg fun s => r s.2]; exact h1.no x ⟨hx, s⟩ s2⟩
           · refine o7 fun s3 => r ⟨s, by omega, hp.led x ⟨hx, s⟩ s3.2 (by omega)⟩
         · exact o7 fun s3 => s s3.1
   · rw [hg, if_neg (by omega), if_neg (by omega), hp.cl, hBk, if_pos rfl]
     dsimp only
     obtain ⟨o1, o2, o3, o4, o5, o6⟩ := h1.old q hqn
     refine ⟨rfl, rfl, rfl, fun d hd => by rw [hf]; exact o4 d hd, fun g1 g2 => ?_, fun g => ?_⟩
     · rw [hf]
       exact o5 (h.ter q _ hpc g1) (by omega)
     · rw [hf]
       refine o6 fun r => g ⟨hpc.2.1.trans r.1, h1.no q ⟨hqn, r.1⟩ r.2⟩) (by
   rw [hg, if_pos rfl, hp.new]
   exact ⟨rfl, rfl, rfl, fun _ => rfl⟩)
 refine ⟨_, cup (fun x => ?_) h2⟩
 unfold Dn
 rw [List.length_set, List.length_set, hp.len]
 omega
end
/-! ### Pieces of the new image -/
def segN (s : List UInt8) (k i : Nat) : List UInt8 := (s.take i).drop k
def alikeN (s : List UInt8) (k i : Nat) : Prop := ∀ j, k ≤ j → j < i → s.getD j 0 = s.getD k 0
/-- What one operation makes at a price of four. -/
def alN (old new : List UInt8) (k i : Nat) : Prop := segN new k i <:+: old ∨ alikeN new k i
section
variable {old new x : List UInt8} {k i j : Nat}
theorem segN_len (h : i ≤ new.length) : (segN new k i).length = i - k := by
 unfold segN
 rw [List.length_drop, List.length_take, Nat.min_eq_left h]
theorem segN_suf : segN new k i <:+ new.take i := List.drop_suffix _ _
/-- By its longest end that is a piece of the old image, a text tells which of its ends are. -/
theorem Lng.seg (h : Lng old (new.take i) x) (hi : i ≤ new.length) : segN new k i <:+: old ↔ i - k ≤ x.length := by
 have hl := segN_len (k := k) hi
 constructor
 · intro g
   have := h.2.2 _ segN_suf g
   omega
 · intro g
   exact (List.suffix_of_suffix_length_le segN_suf h.1 (by omega)).isInfix.trans h.2.1
theorem Lng.start : Lng old (new.take 0) [] := ⟨List.nil_suffix, List.nil_infix, fun y hy _ => by
 rw [List.take_zero] at hy
 rw [List.suffix_nil.1 hy]
 exact Nat.le_refl _⟩
/-- From one byte to the next, the longest end grows by at most one. -/
theorem Lng.grow {s y : List UInt8} {c : UInt8} (h : Lng old s x) (g : Lng old (s ++ [c]) y) : y.length ≤ x.length + 1 := by
 rcases List.suffix_concat_iff.1 g.1 with e | ⟨t, e, ht⟩
 · rw [e]
   exact Nat.zero_le _
 · subst e
   have := h.2.2 t ht (pre_fac g.2.1)
   rw [List.length_append]
   exact Nat.succ_le_succ this
theorem alikeN_pre (h : alikeN new k i) (hj : j ≤ i) : alikeN new k j := fun m h1 h2 => h m h1 (by omega)
theorem alikeN_suf (h : alikeN new k i) (hj : k ≤ j) : alikeN new j i := fun m h1 h2 => by
 rw [h m (by omega) h2, h j hj (by omega)]
end
end Go.Sl
