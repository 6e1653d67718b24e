/-
  The journal as plain data: on the way from one state to the next one, as the laws walk it.
-/
import Derived.Test.YtmbjknampholjaaRJk
import Derived.Test.YtmbjknampholjaaRLi
section
namespace Go.Sl

/-- On the way from the state s to p: at most m whole operations are left, at most t places are torn. -/
structure Wy (f0 f : Fl) (a b : Int) (s p : List Int) (t G m : Nat) (W : Int) : Prop where
 c : (s ≠ p ∧ JV f a b s p t G m) ∨ JC f a b p t (G + 1)
 w : ∀ i, f.wear.getD i 0 ≤ W
 l : f.limit = f0.limit
 s : f.size = f0.size
 n : f.data.length = f0.data.length
 d : f.dead = f0.dead
section
variable {f0 f : Fl} {a b : Int} {s p : List Int} {t G m : Nat} {W : Int}
theorem JR.way (h : JR f0 f a b s t G W) (p : List Int) : Wy f0 f a b s p t G 3 W := by
 refine ⟨?_, h.w, h.l, h.s, h.n, h.d⟩
 by_cases e : s = p
 · subst e
   exact .inr (h.c.mono (Nat.le_refl _) (by omega))
 · exact .inl ⟨e, h.c.jv p⟩
theorem JR.way1 (h : JR f0 f a b s t G W) (hG : G + 1 < 4294967296) (hf : (findF f a b).free < plcs f) (p : List Int) : Wy f0 f a b s p t G 1 W := by
 refine ⟨?_, h.w, h.l, h.s, h.n, h.d⟩
 by_cases e : s = p
 · subst e
   exact .inr (h.c.mono (Nat.le_refl _) (by omega))
 · exact .inl ⟨e, h.c.jv1 hG hf p⟩
theorem Wy.mono {t' n : Nat} {V : Int} (h : Wy f0 f a b s p t G m W) (ht : t ≤ t') (hm : m ≤ n) (hW : W ≤ V) : Wy f0 f a b s p t' G n V := by
 refine ⟨?_, fun i => by have := h.w i; omega, h.l, h.s, h.n, h.d⟩
 rcases h.c with ⟨h1, h2⟩ | h2
 · exact .inl ⟨h1, h2.mono ht (Nat.le_refl _) hm⟩
 · exact .inr (h2.mono ht (Nat.le_refl _))
theorem Wy.ok (h : Wy f0 f a b s p t G m W) : f.Ok := by
 rcases h.c with ⟨_, h⟩ | h
 · exact h.ok
 · exact h.ok
theorem Wy.find (h : Wy f0 f a b s p t G m W) (hG : G + 2 < 4294967296) : (findF f a b).found = true ∧ ((findF f a b).s = s ∨ (findF f a b).s = p) ∧ (findF f a b).torn ≤ t := by
 rcases h.c with ⟨_, h⟩ | h
 · have := h.find (by omega)
   exact ⟨this.1, .inl this.2.1, this.2.2⟩
 · have := h.find (by omega)
   exact ⟨this.1, .inr this.2.1, this.2.2⟩
theorem Wy.done (h : Wy f0 f a b s p t G m W) (hG : G + 2 < 4294967296) (hpl : p.length = 9) (hr : rightS p = true) (hW : W < f0.limit) (hd : (nextF f a b p).done = true) : JR f0 f a b p t (G + 1) W := by
 refine ⟨?_, h.w, h.l, h.s, h.n, h.d⟩
 rcases h.c with ⟨hsp, h1⟩ | h1
 · rw [(h1.go (by omega) hpl hr hsp (fun i => by have := h.w i; rw [h.l]; omega)).2.1] at hd
   cases hd
 · exact h1
theorem Wy.e (h : Wy f0 f a b s p t G m W) (hG : G + 2 < 4294967296) (hpl : p.length = 9) (hr : rightS p = true) (hW : W < f0.limit) : (nextF f a b p).e = 0 := by
 rcases h.c with ⟨hsp, h1⟩ | h1
 · exact (h1.go (by omega) hpl hr hsp (fun i => by have := h.w i; rw [h.l]; omega)).1
 · rw [(h1.jv p).done (by omega) hr]
theorem Wy.go (h : Wy f0 f a b s p t G m W) (hG : G + 2 < 4294967296) (hpl : p.length = 9) (hr : rightS p = true) (hW : W < f0.limit) (hd : (nextF f a b p).done = false) :
   checkE f (nextF f a b p).x = 0 ∧ ((nextF f a b p).x.sec = a ∨ (nextF f a b p).x.sec = b) ∧ ((nextF f a b p).x.kind = 1 → 3 ≤ m) ∧ 1 ≤ m ∧
   ∀ mk : Nat → UInt8, Wy f0 (cutR f (nextF f a b p).x mk) a b s p (t + 1) G 3 (W + 1) ∧ ((∀ i, mk i = 255) → Wy f0 (cutR f (nextF f a b p).x mk) a b s p t G (m - 1) (W + 1)) := by
 rcases h.c with ⟨hsp, h1⟩ | h1
 · obtain ⟨_, _, h3, h4, h5, h6, h7⟩ := h1.go (by omega) hpl hr hsp (fun i => by have := h.w i; rw [h.l]; omega)
   refine ⟨h3, h4, h5, h6, fun mk => ?_⟩
   have K := cutR_kept h.ok h3 mk
   have hW2 := wear_cut h.ok h3 mk h.w
   obtain ⟨q1, q2⟩ := h7 mk
   refine ⟨⟨?_, hW2, K.l.trans h.l, K.s.trans h.s, K.n.trans h.n, K.d.trans h.d⟩, fun hm => ⟨?_, hW2, K.l.trans h.l, K.s.trans h.s, K.n.trans h.n, K.d.trans h.d⟩⟩
   · rcases q1 with q | q
     · exact .inl ⟨hsp, q⟩
     · exact .inr (q.mono (by omega) (Nat.le_refl _))
   · rcases q2 hm with q | q
     · exact .inl ⟨hsp, q⟩
     · exact .inr q
 · rw [(h1.jv p).done (by omega) hr] at hd
   cases hd
theorem Wy.same (h : Wy f0 f a b s p t G m W) (hG : G + 2 < 4294967296) (hpl : p.length = 9) (hr : rightS p = true) (hW : W < f0.limit) (hd : (nextF f a b p).done = false) (mk : Nat → UInt8) {i : Nat} (h1 : i ≠ a.toNat) (h2 : i ≠ b.toNat) :
   (cutR f (nextF f a b p).x mk).data.getD i [] = f.data.getD i [] ∧ (cutR f (nextF f a b p).x mk).wear.getD i 0 = f.wear.getD i 0 := by
 obtain ⟨g1, g2, _⟩ := h.go hG hpl hr hW hd
 have C := Chg.cut h.ok g1 mk
 have hi : i ≠ (nextF f a b p).x.sec.toNat := by rcases g2 with e | e <;> rw [e] <;> assumption
 exact ⟨C.oth i hi, C.wo i hi⟩
/-- What Read tells at rest and on the way. -/
theorem Wy.read (h : Wy f0 f a b s p t G m W) (hG : G + 2 < 4294967296) : (readF f a b).2.2 = 0 ∧ ((readF f a b).1 = s ∨ (readF f a b).1 = p) ∧ (readF f a b).2.1 ≤ t ∧ (readF f a b).2.1 = (findF f a b).torn := by
 obtain ⟨h1, h2, h3⟩ := h.find hG
 rw [readF_yes h1]
 exact ⟨rfl, h2, h3, rfl⟩
theorem JR.read (h : JR f0 f a b s t G W) (hG : G + 1 < 4294967296) : (readF f a b).2.2 = 0 ∧ (readF f a b).1 = s ∧ (readF f a b).2.1 ≤ t ∧ (readF f a b).2.1 = (findF f a b).torn := by
 obtain ⟨h1, h2, h3⟩ := h.c.find hG
 rw [readF_yes h1]
 exact ⟨rfl, h2, h3, rfl⟩
end
/-- A write without interruptions. -/
def wr0 (r : List UInt8) : Wr := ⟨r, none, 0, [], []⟩
/-- The flash behind the first k states, written without interruptions. -/
def stepsN (f : Fl) (a b : Int) (l : List (List UInt8)) : Nat → Fl
 | 0 => f
 | k + 1 => stepF (stepsN f a b l k) a b (madeS (l.getD k [])) []
theorem stepsN_eq (f : Fl) (a b : Int) (l : List (List UInt8)) : ∀ k, stepsN f a b l k = stepsF f a b (l.map wr0) k
 | 0 => rfl
 | k + 1 => by
   have e : (l.map wr0).getD k Wr.zero = wr0 (l.getD k []) := by
     by_cases h : k < l.length
     · simp [h]
     · rw [getD_ge (by simpa using h), getD_ge (by simpa using h)]
       rfl
   show stepF (stepsN f a b l k) a b (madeS (l.getD k [])) [] = stepF (stepsF f a b (l.map wr0) k) a b (madeS ((l.map wr0).getD k Wr.zero).r) ((l.map wr0).getD k Wr.zero).ts
   rw [stepsN_eq f a b l k, e]
   rfl
theorem stepsN_ok {f : Fl} (ok : f.Ok) (a b : Int) (l : List (List UInt8)) (k : Nat) : (stepsN f a b l k).Ok ∧ (stepsN f a b l k).size = f.size ∧ (stepsN f a b l k).data.length = f.data.length := by
 rw [stepsN_eq]
 exact stepsF_ok ok a b _ k
/-- How many operations are to do. -/
theorem stepsN_way (z p q : UInt8) (r : List UInt8) (l : List (List UInt8)) (s : List Int) {k : Nat} (hk : k ≤ 6) : ∃ s0 t G B, G + 2 < 4294967296 ∧ B ≤ 3 ∧ ((findF (stepsN (flJ z p q r) (laA p) (laB p q) l k) (laA p) (laB p q)).free < plcs (stepsN (flJ z p q r) (laA p) (laB p q) l k) → B ≤ 1) ∧
   Wy (fl1 z) (stepsN (flJ z p q r) (laA p) (laB p q) l k) (laA p) (laB p q) s0 s t G B 43 := by
 rw [stepsN_eq]
 obtain ⟨u, h⟩ := steps_rest z p q r (l.map wr0) k hk
 have h' : JR (fl1 z) (stepsF (flJ z p q r) (laA p) (laB p q) (l.map wr0) k) (laA p) (laB p q) (stAt r (l.map wr0) k) u (k + 1) 43 := ⟨h.c, fun i => by have := h.w i; omega, h.l, h.s, h.n, h.d⟩
 by_cases hf : (findF (stepsF (flJ z p q r) (laA p) (laB p q) (l.map wr0) k) (laA p) (laB p q)).free < plcs (stepsF (flJ z p q r) (laA p) (laB p q) (l.map wr0) k)
 · exact ⟨_, u, k + 1, 1, by omega, by decide, fun _ => Nat.le_refl _, h'.way1 (by omega) hf s⟩
 · exact ⟨_, u, k + 1, 3, by omega, by decide, fun h => absurd h hf, h'.way s⟩
end Go.Sl
end
/-
  From the readings of a call's arguments to facts: slices of arrays of nine bytes.
-/
section
namespace Go.Sl
open Go.ChangeShapes Go.WideShapes Go.RowKit Go.Deep Go.Joins

def nnV (l : List (List UInt8)) : List Value := l.flatMap u9
theorem u9_len (r : List UInt8) : (u9 r).length = 9 := rfl
theorem nnV_len (l : List (List UInt8)) : (nnV l).length = l.length * 9 := by
 induction l with
 | nil => rfl
 | cons x l ih =>
   unfold nnV at ih ⊢
   rw [List.flatMap_cons, List.length_append, ih, u9_len, List.length_cons]
   omega
theorem nnV_at (l : List (List UInt8)) (k : Nat) (hk : k < l.length) : ((nnV l).drop (k * 9)).take 9 = u9 (l.getD k []) := by
 induction l generalizing k with
 | nil => cases hk
 | cons x l ih =>
   have e : nnV (x :: l) = u9 x ++ nnV l := rfl
   rw [e]
   cases k with
   | zero =>
     rw [Nat.zero_mul, List.drop_zero, List.take_append_of_le_length (by rw [u9_len]; decide), List.take_of_length_le (by rw [u9_len]; decide)]
     rfl
   | succ k =>
     have hd : (u9 x ++ nnV l).drop ((k + 1) * 9) = (nnV l).drop (k * 9) := by
       rw [show (k + 1) * 9 = (u9 x).length + k * 9 by rw [u9_len]; omega, ← List.drop_drop, List.drop_left]
     rw [hd, ih k (by simpa using hk)]
     rfl
theorem nnV_get (l : List (List UInt8)) (k q : Nat) (hk : k < l.length) (hq : q < 9) : (nnV l)[k * 9 + q]? = (u9 (l.getD k []))[q]? := by
 rw [← nnV_at l k hk, List.getElem?_take, if_pos hq, List.getElem?_drop]
section
variable {H : Type} {enc : TypeId × Value → H} {P : Program} {w : World} {base : Nat} {spare : Nat → Bool} {held : Bool}
theorem open_nines {r : Reach} {b0 : Nat} {q t e : TypeId} {v : Value} {d : DataW H} {ps : List MemPlace} (hq : P.underlying q = some (.slice t)) (ht : P.underlying t = some (.array 9 e)) (he : P.underlying e = some (.int .u8)) (ce : P.cellsOf e = 1) (ct : P.cellsOf t = 9)
   (hv : Value.okWide P w r b0 q v) (h : DataW.Trod enc P w base spare held q v d ps) :
   ∃ (A : Option Addr) (c : Nat) (l : List (List UInt8)), v = .slice A l.length c ∧ l.length ≤ maxLen ∧ (Rd A (nnV l)).p w := by
 obtain ⟨A, n, c, rfl⟩ := okWide_slice hq hv
 obtain ⟨fuel, hf⟩ := h
 have hf' : DataW.trod enc P w base spare held fuel q [.slice A n c] = some (d, ps) := by simpa [Value.cells] using hf
 rcases open_slice hq hf' with ⟨hcs, _⟩ | ⟨a, len, cap, m, k, D, Pl, hcs, _, hl, hm, hmm, _, hi⟩
 · exact ⟨none, 0, [], (List.cons.inj hcs).1, Nat.zero_le _, fun j u hu => by simp [nnV] at hu⟩
 · have ee := (List.cons.inj hcs).1
   have hle : len ≤ m := by rw [hmm]; split <;> omega
   have each : ∀ i : Nat, ∃ x : List UInt8, i < len → ∀ j, j < 9 → w.cell? ((a.add (i * 9)).add j) = (u9 x)[j]? := fun i => by
     by_cases h1 : i < len
     · obtain ⟨cs', hc, htr⟩ := hi i (by omega)
       rw [ct] at hc
       obtain ⟨_, hcl, hat⟩ := World.cells?_some hc
       obtain ⟨y, _, rfl⟩ := open_u9c ht he ce (by simpa using hcl) htr
       exact ⟨y, fun _ j hj => hat j hj⟩
     · exact ⟨[], fun h => absurd h h1⟩
   obtain ⟨F, hF⟩ := Classical.axiomOfChoice each
   have hlen : ((List.range len).map F).length = len := by simp
   have get : ∀ i, i < len → ((List.range len).map F).getD i [] = F i := fun i h => by simp [h]
   refine ⟨some a, cap, (List.range len).map F, by rw [hlen]; exact ee, by rw [hlen]; omega, fun j u hu => ⟨a, rfl, ?_⟩⟩
   have hj : j < len * 9 := by
     have := (List.getElem?_eq_some_iff.1 hu).1
     rwa [nnV_len, hlen] at this
   have hd : j / 9 < len := by omega
   have hu2 := hu
   rw [show j = j / 9 * 9 + j % 9 from by omega, nnV_get _ _ _ (by rw [hlen]; exact hd) (by omega), get _ hd] at hu2
   rw [← hu2, ← hF _ hd (j % 9) (by omega), addadd]
   congr 2
   omega
end
end Go.Sl
end
