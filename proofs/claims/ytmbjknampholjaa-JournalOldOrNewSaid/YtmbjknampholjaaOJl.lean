/-
  The journal as plain data: on the way from one state to the next one, as the laws walk it.
-/
import Derived.Test.YtmbjknampholjaaOJk
import Derived.Test.YtmbjknampholjaaOLi
section
namespace Go.Sl

/-- On the way from the state s to p: at most m whole operations are left, at most t places are torn. -/
structure Wy (f0 f : Fl) (a b : Int) (s p : List Int) (t G m : Nat) (W : Int) : Prop where
 c : (s ≠ p ∧ JV f a b s p t G m) ∨ JC f a b p t (G + 1)
 w : ∀ i, f.wear.getD i 0 ≤ W
 l : f.limit = f0.limit
 s : f.size = f0.size
 n : f.data.length = f0.data.length
 d : f.dead = f0.dead
section
variable {f0 f : Fl} {a b : Int} {s p : List Int} {t G m : Nat} {W : Int}
theorem JR.mono {V : Int} (h : JR f0 f a b s t G W) (hW : W ≤ V) : JR f0 f a b s t G V := ⟨h.c, fun i => by have := h.w i; omega, h.l, h.s, h.n, h.d⟩
theorem JR.way (h : JR f0 f a b s t G W) (p : List Int) : Wy f0 f a b s p t G 3 W := by
 refine ⟨?_, h.w, h.l, h.s, h.n, h.d⟩
 by_cases e : s = p
 · subst e
   exact .inr (h.c.mono (Nat.le_refl _) (by omega))
 · exact .inl ⟨e, h.c.jv p⟩
theorem Wy.mono {t' n : Nat} {V : Int} (h : Wy f0 f a b s p t G m W) (ht : t ≤ t') (hm : m ≤ n) (hW : W ≤ V) : Wy f0 f a b s p t' G n V := by
 refine ⟨?_, fun i => by have := h.w i; omega, h.l, h.s, h.n, h.d⟩
 rcases h.c with ⟨h1, h2⟩ | h2
 · exact .inl ⟨h1, h2.mono ht (Nat.le_refl _) hm⟩
 · exact .inr (h2.mono ht (Nat.le_refl _))
theorem Wy.ok (h : Wy f0 f a b s p t G m W) : f.Ok := by
 rcases h.c with ⟨_, h⟩ | h
 · exact h.ok
 · exact h.ok
theorem Wy.find (h : Wy f0 f a b s p t G m W) (hG : G + 2 < 4294967296) : (findF f a b).found = true ∧ ((findF f a b).s = s ∨ (findF f a b).s = p) ∧ (findF f a b).torn ≤ t := by
 rcases h.c with ⟨_, h⟩ | h
 · have := h.find (by omega)
   exact ⟨this.1, .inl this.2.1, this.2.2⟩
 · have := h.find (by omega)
   exact ⟨this.1, .inr this.2.1, this.2.2⟩
theorem Wy.done (h : Wy f0 f a b s p t G m W) (hG : G + 2 < 4294967296) (hpl : p.length = 9) (hr : rightS p = true) (hW : W < f0.limit) (hd : (nextF f a b p).done = true) : JR f0 f a b p t (G + 1) W := by
 refine ⟨?_, h.w, h.l, h.s, h.n, h.d⟩
 rcases h.c with ⟨hsp, h1⟩ | h1
 · rw [(h1.go (by omega) hpl hr hsp (fun i => by have := h.w i; rw [h.l]; omega)).2.1] at hd
   cases hd
 · exact h1
theorem Wy.e (h : Wy f0 f a b s p t G m W) (hG : G + 2 < 4294967296) (hpl : p.length = 9) (hr : rightS p = true) (hW : W < f0.limit) : (nextF f a b p).e = 0 := by
 rcases h.c with ⟨hsp, h1⟩ | h1
 · exact (h1.go (by omega) hpl hr hsp (fun i => by have := h.w i; rw [h.l]; omega)).1
 · rw [(h1.jv p).done (by omega) hr]
theorem Wy.go (h : Wy f0 f a b s p t G m W) (hG : G + 2 < 4294967296) (hpl : p.length = 9) (hr : rightS p = true) (hW : W < f0.limit) (hd : (nextF f a b p).done = false) :
   checkE f (nextF f a b p).x = 0 ∧ ((nextF f a b p).x.sec = a ∨ (nextF f a b p).x.sec = b) ∧ ((nextF f a b p).x.kind = 1 → 3 ≤ m) ∧ 1 ≤ m ∧
   ∀ mk : Nat → UInt8, Wy f0 (cutR f (nextF f a b p).x mk) a b s p (t + 1) G 3 (W + 1) ∧ ((∀ i, mk i = 255) → Wy f0 (cutR f (nextF f a b p).x mk) a b s p t G (m - 1) (W + 1)) := by
 rcases h.c with ⟨hsp, h1⟩ | h1
 · obtain ⟨_, _, h3, h4, h5, h6, h7⟩ := h1.go (by omega) hpl hr hsp (fun i => by have := h.w i; rw [h.l]; omega)
   refine ⟨h3, h4, h5, h6, fun mk => ?_⟩
   have K := cutR_kept h.ok h3 mk
   have hW2 := wear_cut h.ok h3 mk h.w
   obtain ⟨q1, q2⟩ := h7 mk
   refine ⟨⟨?_, hW2, K.l.trans h.l, K.s.trans h.s, K.n.trans h.n, K.d.trans h.d⟩, fun hm => ⟨?_, hW2, K.l.trans h.l, K.s.trans h.s, K.n.trans h.n, K.d.trans h.d⟩⟩
   · rcases q1 with q | q
     · exact .inl ⟨hsp, q⟩
     · exact .inr (q.mono (by omega) (Nat.le_refl _))
   · rcases q2 hm with q | q
     · exact .inl ⟨hsp, q⟩
     · exact .inr q
 · rw [(h1.jv p).done (by omega) hr] at hd
   cases hd
theorem Wy.same (h : Wy f0 f a b s p t G m W) (hG : G + 2 < 4294967296) (hpl : p.length = 9) (hr : rightS p = true) (hW : W < f0.limit) (hd : (nextF f a b p).done = false) (mk : Nat → UInt8) {i : Nat} (h1 : i ≠ a.toNat) (h2 : i ≠ b.toNat) :
   (cutR f (nextF f a b p).x mk).data.getD i [] = f.data.getD i [] ∧ (cutR f (nextF f a b p).x mk).wear.getD i 0 = f.wear.getD i 0 := by
 obtain ⟨g1, g2, _⟩ := h.go hG hpl hr hW hd
 have C := Chg.cut h.ok g1 mk
 have hi : i ≠ (nextF f a b p).x.sec.toNat := by rcases g2 with e | e <;> rw [e] <;> assumption
 exact ⟨C.oth i hi, C.wo i hi⟩
/-- What Read tells at rest and on the way. -/
theorem Wy.read (h : Wy f0 f a b s p t G m W) (hG : G + 2 < 4294967296) : (readF f a b).2.2 = 0 ∧ ((readF f a b).1 = s ∨ (readF f a b).1 = p) ∧ (readF f a b).2.1 ≤ t ∧ (readF f a b).2.1 = (findF f a b).torn := by
 obtain ⟨h1, h2, h3⟩ := h.find hG
 rw [readF_yes h1]
 exact ⟨rfl, h2, h3, rfl⟩
theorem JR.read (h : JR f0 f a b s t G W) (hG : G + 1 < 4294967296) : (readF f a b).2.2 = 0 ∧ (readF f a b).1 = s ∧ (readF f a b).2.1 ≤ t ∧ (readF f a b).2.1 = (findF f a b).torn := by
 obtain ⟨h1, h2, h3⟩ := h.c.find hG
 rw [readF_yes h1]
 exact ⟨rfl, h2, h3, rfl⟩
end
theorem stepsF_way (z p q : UInt8) (r : List UInt8) (l : List Wr) (s : List Int) {k : Nat} (hk : k ≤ 6) : ∃ s0 t G, G + 2 < 4294967296 ∧ (findF (stepsF (flJ z p q r) (laA p) (laB p q) l k) (laA p) (laB p q)).s = s0 ∧
   JR (fl1 z) (stepsF (flJ z p q r) (laA p) (laB p q) l k) (laA p) (laB p q) s0 t G 43 ∧ Wy (fl1 z) (stepsF (flJ z p q r) (laA p) (laB p q) l k) (laA p) (laB p q) s0 s t G 3 43 := by
 obtain ⟨u, h⟩ := steps_rest z p q r l k hk
 have h' : JR (fl1 z) (stepsF (flJ z p q r) (laA p) (laB p q) l k) (laA p) (laB p q) (stAt r l k) u (k + 1) 43 := ⟨h.c, fun i => by have := h.w i; omega, h.l, h.s, h.n, h.d⟩
 exact ⟨_, u, k + 1, by omega, (h'.c.find (by omega)).2.1, h', h'.way s⟩
end Go.Sl
end
/-
  From the readings of a call's arguments to facts: slices of arrays of nine bytes.
-/
section
namespace Go.Sl
open Go.ChangeShapes Go.WideShapes Go.RowKit Go.Deep Go.Joins

section
variable {H : Type} {enc : TypeId × Value → H} {P : Program} {w : World} {base : Nat} {spare : Nat → Bool} {held : Bool}
theorem open_writeV {r : Reach} {b0 : Nat} {t b e s o : TypeId} {f0 f1 : Field} {v : Value} {d : DataW H} {ps : List MemPlace} (ht : P.underlying t = some (.struct #[f0, f1])) (t0 : f0.type = b) (t1 : f1.type = s) (o0 : f0.offset = 0) (o1 : f1.offset = 9)
   (he : P.underlying e = some (.int .u8)) (hb : P.underlying b = some (.array 9 e)) (hs : P.underlying s = some (.slice o)) (ho : P.underlying o = some (.slice e)) (ce : P.cellsOf e = 1) (cb : P.cellsOf b = 9) (cs1 : P.cellsOf s = 1) (co : P.cellsOf o = 1) (ct : P.cellsOf t = 10)
   (hv : Value.okWide P w r b0 t v) (h : DataW.Trod enc P w base spare held t v d ps) :
   ∃ y : Wr, v = .agg (List.toArray y.cells) ∧ WrOk y ∧ (Rd y.T (rowsV y.ths (B8 y.ts))).p w ∧ (KidsR y.ths (B8 y.ts)).p w := by
 obtain ⟨cs, rfl, hsz⟩ := okWide_struct ht hv
 obtain ⟨ls⟩ := cs
 obtain ⟨fuel, hf⟩ := h
 have hf' : DataW.trod enc P w base spare held fuel t ls = some (d, ps) := hf
 obtain ⟨y, rfl, h1, h2, h3⟩ := open_writeC ht t0 t1 o0 o1 he hb hs ho ce cb cs1 co ct hf'
 exact ⟨y, rfl, h1, h2, h3⟩
end
end Go.Sl
end
