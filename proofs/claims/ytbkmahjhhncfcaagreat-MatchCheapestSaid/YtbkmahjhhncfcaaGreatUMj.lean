/-
  The automaton's steps as its loops take them.
-/
import Derived.Scope
import Derived.Test.YtbkmahjhhncfcaaGreatUMd
import Derived.Test.YtbkmahjhhncfcaaGreatUSlN
import Derived.Test.YtbkmahjhhncfcaaGreatUSlI
section
namespace Go.Sl

section
variable {w : List UInt8} {a b : List Au} {L : Nat → List UInt8} {last : Nat} {c : UInt8}
/-- At the first loop's head: the path has been followed down to p. -/
def PhI (w : List UInt8) (a : List Au) (L : Nat → List UInt8) (c : UInt8) (b : List Au) (p : Int) : Prop :=
 (p = -1 ∧ Ph1 w a L c 0 b) ∨ ∃ v : Nat, p = (v : Int) ∧ Trm w (Dn a) L v ∧ Ph1 w a L c ((L v).length + 1) b
def PhM (L : Nat → List UInt8) (p : Int) : Nat := if p < 0 then 0 else (L p.toNat).length + 1
theorem PhI.start (h : AuOk w (Dn a) (Ag a) L last) : PhI w a L c (a ++ [⟨fun _ => none, 0, w.length + 1, w.length + 1⟩]) (last : Int) := by
 refine .inr ⟨last, rfl, ⟨h.last.1, by rw [h.last.2]; exact List.suffix_refl _⟩, ?_⟩
 rw [h.last.2]
 exact Ph1.start h
theorem PhI.pos {p : Int} (h : PhI w a L c b p) (hp : 0 ≤ p) : ∃ v : Nat, p = (v : Int) ∧ Trm w (Dn a) L v ∧ Ph1 w a L c ((L v).length + 1) b := by
 rcases h with ⟨h, _⟩ | h
 · omega
 · exact h
theorem PhI.neg {p : Int} (h : PhI w a L c b p) (hp : p < 0) : p = -1 ∧ Ph1 w a L c 0 b := by
 rcases h with h | ⟨v, h, _⟩
 · exact h
 · omega
theorem PhI.next (h : AuOk w (Dn a) (Ag a) L last) {v : Nat} (hp : Ph1 w a L c ((L v).length + 1) b) (hv : Trm w (Dn a) L v) (hn : (Ag b v).nx c = none) :
   PhI w a L c (b.set v { Ag b v with nx := updA (Ag b v).nx c a.length }) (Ag b v).lk ∧ PhM L (Ag b v).lk < PhM L (v : Int) := by
 have hs := hp.step h hv hn
 have ho := (hp.old v hv.1).1
 unfold PhM
 rw [if_neg (by omega : ¬ ((v : Int) < 0)), Int.toNat_natCast]
 rcases Nat.eq_zero_or_pos v with rfl | h0
 · rw [ho, h.root.2.2, if_pos (by omega)]
   exact ⟨.inl ⟨rfl, hs.root h.root.2.1⟩, by omega⟩
 · obtain ⟨u, h1, h2, h3, h4⟩ := h.lnk v h0 hv.1
   have ht := h.trm_link hv h0 h2
   rw [ho, h2, if_neg (by omega), Int.toNat_natCast]
   exact ⟨.inr ⟨u, rfl, ht.1, hs.link h hv h0 h2⟩, by omega⟩
/-- Behind the first loop. -/
def PhX (w : List UInt8) (a : List Au) (L : Nat → List UInt8) (c : UInt8) (b : List Au) (p : Int) : Prop :=
 (p = -1 ∧ Ph1 w a L c 0 b) ∨ ∃ v u : Nat, p = (v : Int) ∧ Trm w (Dn a) L v ∧ Ph1 w a L c ((L v).length + 1) b ∧ (Ag b v).nx c = some u
theorem PhX.pos {p : Int} (h : PhX w a L c b p) (hp : ¬ p < 0) : ∃ v u : Nat, p = (v : Int) ∧ Trm w (Dn a) L v ∧ Ph1 w a L c ((L v).length + 1) b ∧ (Ag b v).nx c = some u := by
 rcases h with ⟨h, _⟩ | h
 · omega
 · exact h
theorem PhX.neg {p : Int} (h : PhX w a L c b p) (hp : p < 0) : Ph1 w a L c 0 b := by
 rcases h with h | ⟨v, _, h, _⟩
 · exact h.2
 · omega
theorem Ph1.target (h : AuOk w (Dn a) (Ag a) L last) {v q : Nat} (hp : Ph1 w a L c ((L v).length + 1) b) (hv : Trm w (Dn a) L v) (hq : (Ag b v).nx c = some q) : q < a.length ∧ 0 < q ∧ (Ag b q).ln = (L q).length ∧ (Ag b v).ln = (L v).length := by
 obtain ⟨_, h2, _⟩ := hp.found h hv hq
 have hqn : q < a.length := h2.1
 refine ⟨hqn, ?_, ?_, ?_⟩
 · rcases Nat.eq_zero_or_pos q with e | e
   · subst e
     have := h2.2.1.length_le
     rw [h.root.2.1, List.length_append] at this
     exact absurd this (by simp)
   · exact e
 · rw [(hp.old q hqn).2.1, h.len q hqn]
 · rw [(hp.old v hv.1).2.1, h.len v hv.1]
/-- At the second loop's head. -/
def PhJ (w : List UInt8) (a : List Au) (L : Nat → List UInt8) (c : UInt8) (v q : Nat) (f : UInt8 → Option Nat) (b : List Au) (p : Int) : Prop :=
 (p = -1 ∧ Ph2 w a L c v q f 0 b) ∨ ∃ u : Nat, p = (u : Int) ∧ Trm w (Dn a) L u ∧ (L u).length ≤ (L v).length ∧ Ph2 w a L c v q f ((L u).length + 1) b
/-- Behind it. -/
def PhK (w : List UInt8) (a : List Au) (L : Nat → List UInt8) (c : UInt8) (v q : Nat) (f : UInt8 → Option Nat) (b : List Au) : Prop :=
 ∃ t, Ph2 w a L c v q f t b ∧ ∀ x, Trm w (Dn a) L x → (L x).length < t → (L x).length ≤ (L v).length → (Ag a x).nx c ≠ some q
theorem PhJ.pos {v q : Nat} {f : UInt8 → Option Nat} {p : Int} (h : PhJ w a L c v q f b p) (hp : 0 ≤ p) : ∃ u : Nat, p = (u : Int) ∧ Trm w (Dn a) L u ∧ (L u).length ≤ (L v).length ∧ Ph2 w a L c v q f ((L u).length + 1) b := by
 rcases h with ⟨h, _⟩ | h
 · omega
 · exact h
theorem PhJ.neg {v q : Nat} {f : UInt8 → Option Nat} {p : Int} (h : PhJ w a L c v q f b p) (hp : ¬ 0 ≤ p) : PhK w a L c v q f b := by
 rcases h with ⟨_, h⟩ | ⟨v, h, _⟩
 · exact ⟨0, h, fun _ _ h => by omega⟩
 · omega
theorem PhJ.start (h : AuOk w (Dn a) (Ag a) L last) {v q : Nat} (hp : Ph1 w a L c ((L v).length + 1) b) (hv : Trm w (Dn a) L v) (hq : (Ag b v).nx c = some q) : PhJ w a L c v q (Ag b q).nx (b ++ [⟨(Ag b q).nx, (Ag b q).lk, (Ag b v).ln + 1, (Ag b q).en⟩]) (v : Int) :=
 .inr ⟨v, rfl, hv, Nat.le_refl _, Ph2.start h hp hv hq⟩
theorem Ph2.nx_old {v q t : Nat} {f : UInt8 → Option Nat} (hp : Ph2 w a L c v q f t b) {u : Nat} (hu : u < a.length) (ht : (L u).length < t) : (Ag b u).nx c = (Ag a u).nx c := (hp.old u hu).2.2.2.2.2.2 fun g => by omega
theorem PhJ.stop (h : AuOk w (Dn a) (Ag a) L last) {v q u : Nat} {f : UInt8 → Option Nat} (hv : Trm w (Dn a) L v) (hq : (Ag a v).nx c = some q) (hu : Trm w (Dn a) L u) (hle : (L u).length ≤ (L v).length) (hp : Ph2 w a L c v q f ((L u).length + 1) b) (hn : (Ag b u).nx c ≠ some q) : PhK w a L c v q f b := by
 refine ⟨_, hp, fun x hx hlt _ => ?_⟩
 rw [hp.nx_old hu.1 (Nat.lt_succ_self _)] at hn
 exact h.apart hv hq hu hle hn hx (by omega)
theorem PhJ.next (h : AuOk w (Dn a) (Ag a) L last) {v q u : Nat} {f : UInt8 → Option Nat} (hu : Trm w (Dn a) L u) (hle : (L u).length ≤ (L v).length) (hp : Ph2 w a L c v q f ((L u).length + 1) b) (hn : (Ag b u).nx c = some q) :
   PhJ w a L c v q f (b.set u { Ag b u with nx := updA (Ag b u).nx c (a.length + 1) }) (Ag b u).lk ∧ PhM L (Ag b u).lk < PhM L (u : Int) := by
 have hs := hp.step h hu hle hn
 have hlk := (hp.old u hu.1).1
 unfold PhM
 rw [if_neg (by omega : ¬ ((u : Int) < 0)), Int.toNat_natCast]
 rcases Nat.eq_zero_or_pos u with rfl | h0
 · rw [hlk, h.root.2.2, if_pos (by omega)]
   refine ⟨.inl ⟨rfl, ?_⟩, by omega⟩
   have e : (L 0).length = 0 := by rw [h.root.2.1]; rfl
   rw [e] at hs
   exact hs
 · obtain ⟨x, h1, h2, h3, h4⟩ := h.lnk u h0 hu.1
   have ht := h.trm_link hu h0 h2
   rw [hlk, h2, if_neg (by omega), Int.toNat_natCast]
   exact ⟨.inr ⟨x, rfl, ht.1, by omega, hs.link h hu h0 h2⟩, by omega⟩
theorem au_start : AuOk [] (Dn [⟨fun _ => none, -1, 0, 0⟩]) (Ag [⟨fun _ => none, -1, 0, 0⟩]) (fun _ => []) 0 :=
 cup (fun v => ⟨fun h => by subst h; exact Nat.zero_lt_one, fun h => by have : v < 1 := h; omega⟩) (AuOk.nil (A := Ag [⟨fun _ => none, -1, 0, 0⟩]) rfl)
theorem optD {o : Option Nat} {q : Nat} (h : o.getD 0 = q) (h0 : 0 < q) : o = some q := by
 cases o with
 | none => simp at h; omega
 | some u => simp at h; rw [h]
theorem Ph2.done' {v q t : Nat} {f : UInt8 → Option Nat} {b0 : List Au} (h : AuOk w (Dn a) (Ag a) L last) (hp : Ph2 w a L c v q f t b) (hv : Trm w (Dn a) L v) (hq : (Ag a v).nx c = some q) (hno : ∀ x, Trm w (Dn a) L x → (L x).length < t → (L x).length ≤ (L v).length → (Ag a x).nx c ≠ some q) (h1 : Ph1 w a L c ((L v).length + 1) b0) (hf : f = (Ag b0 q).nx) (hl : (L q).length ≠ (L v).length + 1) (hqa : q < a.length) :
   ∃ L', AuOk (w ++ [c]) (Dn ((b.set q { Ag b q with lk := ((a.length + 1 : Nat) : Int) }).set a.length { Ag (b.set q { Ag b q with lk := ((a.length + 1 : Nat) : Int) }) a.length with lk := ((a.length + 1 : Nat) : Int) })) (Ag ((b.set q { Ag b q with lk := ((a.length + 1 : Nat) : Int) }).set a.length { Ag (b.set q { Ag b q with lk := ((a.length + 1 : Nat) : Int) }) a.length with lk := ((a.length + 1 : Nat) : Int) })) L' a.length := by
 have hlen := hp.len
 rw [Ag_set (v := q) (by omega), if_neg (by omega)]
 exact hp.done h hv hq hno h1 hf hl
/-- At the head of the loop over the new image: where the automaton stands. -/
def EnI (w s : List UInt8) (z : List Au) (L : Nat → List UInt8) (v n : Nat) : Prop := ∃ x, Pc (Dn z) (Ag z) L v x ∧ Lng w s x ∧ n = x.length
theorem EnI.start {z : List Au} (h : AuOk w (Dn z) (Ag z) L last) : EnI w [] z L 0 0 := by
 refine ⟨[], ?_, ⟨List.nil_suffix, List.nil_infix, fun y hy _ => ?_⟩, rfl⟩
 · have := h.self h.root.1
   rw [h.root.2.1] at this
   exact this
 · rw [List.suffix_nil.1 hy]
   exact Nat.le_refl _
def SkI (w s : List UInt8) (z : List Au) (L : Nat → List UInt8) (c : UInt8) (v n : Nat) : Prop := ∃ x, Seek w (Dn z) (Ag z) L s c v x ∧ n = x.length
theorem EnI.seek {s : List UInt8} {z : List Au} {v n : Nat} (h : EnI w s z L v n) (c : UInt8) : SkI w s z L c v n := by
 obtain ⟨x, h1, h2, h3⟩ := h
 exact ⟨x, h2.seek h1 c, h3⟩
theorem SkI.lt {s : List UInt8} {z : List Au} {v n : Nat} (h : SkI w s z L c v n) : v < z.length ∧ n ≤ s.length := by
 obtain ⟨x, h1, h2⟩ := h
 exact ⟨h1.1.1, by rw [h2]; exact h1.2.1.length_le⟩
theorem SkI.back {s : List UInt8} {z : List Au} {v n : Nat} (hA : AuOk w (Dn z) (Ag z) L last) (h : SkI w s z L c v n) (hn : (Ag z v).nx c = none) (hv : 0 < v) : ∃ u : Nat, (Ag z v).lk = (u : Int) ∧ u < z.length ∧ SkI w s z L c u (Ag z u).ln ∧ (L u).length < (L v).length := by
 obtain ⟨x, h1, h2⟩ := h
 obtain ⟨u, k1, k2, k3, k4⟩ := hA.lnk v hv h1.1.1
 obtain ⟨g1, g2⟩ := h1.back hA hn k2 hv
 exact ⟨u, k2, k1, ⟨L u, g1, hA.len u k1⟩, g2⟩
theorem SkI.yes {s : List UInt8} {z : List Au} {v n u : Nat} (hA : AuOk w (Dn z) (Ag z) L last) (h : SkI w s z L c v n) (hn : (Ag z v).nx c = some u) : EnI w (s ++ [c]) z L u (n + 1) := by
 obtain ⟨x, h1, h2⟩ := h
 obtain ⟨g1, g2⟩ := h1.yes hA hn
 exact ⟨_, g1, g2, by rw [List.length_append, h2]; rfl⟩
theorem SkI.none {s : List UInt8} {z : List Au} {n : Nat} (hA : AuOk w (Dn z) (Ag z) L last) (h : SkI w s z L c 0 n) (hn : (Ag z 0).nx c = none) : EnI w (s ++ [c]) z L 0 n := by
 obtain ⟨x, h1, h2⟩ := h
 obtain ⟨g1, g2, g3⟩ := h1.none hA hn
 subst g1
 exact ⟨[], g2, g3, h2⟩
theorem EnI.lt {s : List UInt8} {z : List Au} {v n : Nat} (h : EnI w s z L v n) : v < z.length ∧ n ≤ s.length := by
 obtain ⟨x, h1, h2, h3⟩ := h
 exact ⟨h1.1, by rw [h3]; exact h2.1.length_le⟩
theorem EnI.fd {new : List UInt8} {i : Nat} {z : List Au} {v n : Nat} (hA : AuOk w (Dn z) (Ag z) L last) (h : EnI w (new.take i) z L v n) : FdOk w new i ((Ag z v).en, n) := by
 obtain ⟨x, h1, h2, h3⟩ := h
 obtain ⟨g1, g2, g3⟩ := hA.stands h1
 exact ⟨x, h2, h3, g1, g2, g3⟩
theorem FdOk.zero (w new : List UInt8) : FdOk w new 0 (0, 0) := ⟨[], Lng.start, rfl, Nat.zero_le _, Nat.le_refl _, rfl⟩
end
end Go.Sl
end
/-
  The small separation logic: methods behind interface values; numbers of 64 bits as sets.
-/
section
namespace Go.Sl

section
variable {X : Cx} {β : Base} {n : Nat} {ds : List Deferred} {ops : Array Oper} {Q : Exit → Act → World → Prop} {Γ : Env} {R H : List Pr} {rest : List Oper}

end

section
variable {X : Cx} {β : Base} {Γ : Env} {R H : List Pr}
end

section
variable {X : Cx} {β : Base} {n : Nat} {ds : List Deferred} {Q : Exit → Act → World → Prop} {Γ : Env} {R H : List Pr}
end

section
variable {X : Cx} {β : Base} {n : Nat} {ds : List Deferred} {Q : Exit → Act → World → Prop} {Γ : Env} {R H : List Pr}
end

/-! ### An inner slice is put where none was -/
section
variable {X : Cx} {β : Base} {n : Nat} {ds : List Deferred} {ops : Array Oper} {Q : Exit → Act → World → Prop} {Γ : Env} {R H : List Pr} {rest : List Oper}
theorem Sat.repl {w : World} {c c' : Pr} (h : Sat β w R (c :: H)) (hp : c.p w → c'.p w) (hf : ∀ k, c'.fp k → c.fp k) : Sat β w R (c' :: H) := by
 have idx : ∀ (q : Nat) (d : Pr), (c' :: H)[q]? = some d → ∃ d', (c :: H)[q]? = some d' ∧ (d'.p w → d.p w) ∧ ∀ k, d.fp k → d'.fp k := by
   intro q d hd
   match q with
   | 0 =>
     simp at hd
     subst hd
     exact ⟨c, rfl, hp, hf⟩
   | q + 1 => exact ⟨d, hd, id, fun _ h => h⟩
 refine h.put (Stp.refl w fun _ => False) (fun _ hk => hk.elim) R _ (fun r hr => .inl hr) ?_ ?_ ?_
 · intro q d hd
   obtain ⟨d', hd', h1, h2⟩ := idx q d hd
   exact ⟨h1 (h.own q _ hd'), fun k hk => ⟨(h.ofp q _ hd' k (h2 k hk)).1, .inr ⟨q, _, hd', h2 k hk⟩⟩⟩
 · intro p q x y hx hy hne k hxk hyk
   obtain ⟨x', hx', _, h2⟩ := idx p x hx
   obtain ⟨y', hy', _, h3⟩ := idx q y hy
   exact h.dis p q _ _ hx' hy' hne k (h2 k hxk) (h3 k hyk)
 · intro r hr q d hd k hrk hdk
   obtain ⟨d', hd', _, h2⟩ := idx q d hd
   exact h.sep r hr q _ hd' k hrk (h2 k hdk)
/-- The last inner slice goes to a place where none was. -/
theorem OwnKids.move {w : World} {e i : Nat} {hs : List Hd} {vss : List (List Value)} {g : Hd} {v : List Value} (hl : hs.length = vss.length) (hi : i < vss.length) (h : (OwnKids e (hs ++ [g]) (vss ++ [v])).p w) : (OwnKids e (hs.set i g) (vss.set i v)).p w := by
 have gl : (hs ++ [g])[hs.length]? = some g := by simp
 have vl : (vss ++ [v])[hs.length]? = some v := by rw [hl]; simp
 have low : ∀ {q : Nat} {x : Hd}, hs[q]? = some x → (hs ++ [g])[q]? = some x := fun {q x} hq => by
   rw [List.getElem?_append_left (List.getElem?_eq_some_iff.1 hq).1]; exact hq
 have lov : ∀ {q : Nat} {x : List Value}, vss[q]? = some x → (vss ++ [v])[q]? = some x := fun {q x} hq => by
   rw [List.getElem?_append_left (List.getElem?_eq_some_iff.1 hq).1]; exact hq
 have src : ∀ (q : Nat) (x : Hd), (hs.set i g)[q]? = some x → ∃ q', (hs ++ [g])[q']? = some x ∧ (q' = hs.length ↔ q = i) ∧ (q ≠ i → q' = q) := by
   intro q x hx
   rw [List.getElem?_set] at hx
   by_cases hq : i = q
   · rw [if_pos hq, if_pos (by omega)] at hx
     injection hx with hx
     subst hx
     exact ⟨hs.length, gl, ⟨fun _ => hq.symm, fun _ => rfl⟩, fun h => absurd hq.symm h⟩
   · rw [if_neg hq] at hx
     have := (List.getElem?_eq_some_iff.1 hx).1
     exact ⟨q, low hx, ⟨fun h => by omega, fun h => absurd h.symm hq⟩, fun _ => rfl⟩
 refine ⟨by simp [hl], fun q x y hx hy => ?_, fun a b x y hx hy hab => ?_⟩
 · rw [List.getElem?_set] at hx hy
   by_cases hq : i = q
   · rw [if_pos hq, if_pos (by omega)] at hx
     rw [if_pos hq, if_pos hi] at hy
     injection hx with hx
     injection hy with hy
     subst hx hy
     exact h.2.1 _ _ _ gl vl
   · rw [if_neg hq] at hx hy
     exact h.2.1 _ _ _ (low hx) (lov hy)
 · obtain ⟨a', ha, ha2, ha3⟩ := src a x hx
   obtain ⟨b', hb, hb2, hb3⟩ := src b y hy
   refine h.2.2 a' b' x y ha hb (fun e => ?_)
   by_cases h1 : a = i
   · exact hab (h1.trans (hb2.1 (e ▸ ha2.2 h1)).symm)
   · by_cases h2 : b = i
     · exact h1 (ha2.1 (e ▸ hb2.2 h2))
     · rw [ha3 h1, hb3 h2] at e
       exact hab e
end

section
variable {X : Cx} {β : Base} {n : Nat} {ds : List Deferred} {ops : Array Oper} {Q : Exit → Act → World → Prop} {Γ : Env} {R H : List Pr} {rest : List Oper}
end

section
variable {X : Cx} {β : Base} {n : Nat} {ds : List Deferred} {ops : Array Oper} {Q : Exit → Act → World → Prop} {Γ : Env} {R H : List Pr} {rest : List Oper}
theorem fold_putS : ∀ (cs : List Value) (k : Nat) (Z : Array Value), k + cs.length ≤ Z.size → ((cs.zipIdx k).foldl (fun (q : Array Value) (x : Value × Nat) => q.setIfInBounds x.2 x.1) Z).toList = Z.toList.take k ++ cs ++ Z.toList.drop (k + cs.length)
 | [], k, Z, _ => by simp
 | c :: cs, k, Z, h => by
   simp only [List.length_cons] at h
   simp only [List.zipIdx_cons, List.foldl_cons]
   rw [fold_putS cs (k + 1) (Z.setIfInBounds k c) (by simp; omega)]
   have hk : k < Z.toList.length := by simp; omega
   rw [Array.toList_setIfInBounds, List.take_set, List.drop_set]
   have e1 : ¬ (k + 1 + cs.length ≤ k) := by omega
   have e2 : (Z.toList.take (k + 1)).set k c = Z.toList.take k ++ [c] := by
     rw [List.take_succ_eq_append_getElem hk, List.set_append_right _ _ (by simp; omega)]
     have hk2 : k < Z.size := by simpa using hk
     simp [Nat.min_eq_left (Nat.le_of_lt hk2)]
   simp only [e2, List.length_cons]
   rw [show k + (cs.length + 1) = k + 1 + cs.length from by omega]
   simp
   omega
theorem fold_allS (cs : List Value) (Z : Array Value) (h : Z.size = cs.length) : (cs.zipIdx).foldl (fun (q : Array Value) (x : Value × Nat) => q.setIfInBounds x.2 x.1) Z = List.toArray cs := by
 apply Array.ext'
 rw [fold_putS cs 0 Z (by omega)]
 simp [← h]
theorem L.lit1S {d t e ty : Nat} {pos : String} {af : Array Edge} {x : Operand} {cs : List Value} {i ei : Ti} (ht : tlook t X.tab = some i) (hdesc : i.desc = .slice e) (he : tlook e X.tab = some ei) (hsz : ei.size = cs.length) (hpos : 0 < cs.length) (hsmall : Nat.ble cs.length 1000 = true)
   (hx : ev Γ x = some (.agg (List.toArray cs))) (hd : Nat.blt d n = true) (k : ∀ A, L X β n ds ops Q rest ((d, .slice A 1 1) :: Γ) R (H ++ [Own e cs.length A 1 1 cs])) : L X β n ds ops Q (⟨some d, .buildSlice t 1 #[(0, x)], ty, pos, af, none⟩ :: rest) Γ R H := by
 have hsm : cs.length ≤ 1000 := by simpa using hsmall
 refine L.mk hd e cs.length 1 cs one_le_maxLen (by simp) (fun A => .slice A 1 1) ?_ k
 intro ρ w hρ hs o ho
 obtain ⟨e1, _⟩ := X.ok _ _ ht
 rw [hdesc] at e1
 have hS := run_sizeOf' (P := X.P) w (X.ok _ _ he)
 obtain ⟨_, j, hj, h1, h2, h3⟩ := X.ok _ _ he
 have hz : (zeroValue e).run X.P w = .ok ei.zero w := by simp [zeroValue, typeInfo, hj, h3]
 have hbig : ¬ (1 * cs.length > 2 ^ 24) := by omega
 have hz1 : ¬ (1 * cs.length = 0) := by omega
 have hf : Instr.fill (fun i => some (i * cs.length, cs.length)) ((Array.range (1 * cs.length)).map (ei.zero.cells[· % ei.zero.cells.size]!)) [(0, .agg (List.toArray cs))] = some (List.toArray cs) := by
   have hsz : ((Array.range (1 * cs.length)).map (ei.zero.cells[· % ei.zero.cells.size]!)).size = cs.length := by simp
   generalize (Array.range (1 * cs.length)).map (ei.zero.cells[· % ei.zero.cells.size]!) = Z at hsz
   have := fold_allS cs Z hsz
   simp [Instr.fill, Value.cells, hsz, this]
 have hp : (#[(0, x)] : Array (Nat × Operand)).map (fun (i, x) => (i, ρ x)) = #[(0, .agg (List.toArray cs))] := by simp [hρ _ _ hx]
 simp only [execOp, ho, Instr.buildSlice, Sem.run_bind, run_underlying e1, Result.andThen_ok, hS, hsz, if_neg hbig, if_neg hz1, hz, Sem.run_pure, hp, hf]
 simp [newRow]
end
end Go.Sl
end
