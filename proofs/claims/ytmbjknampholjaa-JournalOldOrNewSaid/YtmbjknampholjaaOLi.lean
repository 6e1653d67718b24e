/-
  From the readings of a call's arguments to the facts of the small separation logic.
-/
import Derived.ProofKit
import Derived.Deep.Slices
import Derived.Below
import Derived.OpenShut
import Derived.Lib.SmallJoins
import Derived.ChangeArms
import Derived.Test.YtmbjknampholjaaOSlN
import Derived.Test.YtmbjknampholjaaOSlI
import Derived.Test.YtmbjknampholjaaOPl
import Derived.Test.YtmbjknampholjaaOSlK
section
namespace Go.Sl
open Go.ChangeShapes Go.WideShapes Go.RowKit Go.Deep

theorem cell_lt {w : World} {a : Addr} {v : Value} (h : w.cell? a = some v) : a.block < w.heap.size := by
 rcases Nat.lt_or_ge a.block w.heap.size with h1 | h1
 · exact h1
 · unfold World.cell? at h
   rw [Array.getElem?_eq_none h1] at h
   simp at h
theorem Rd.lt {w : World} {A : Option Addr} {xs : List Value} (h : (Rd A xs).p w) {k : Nat} (hk : (Rd A xs).fp k) : k < w.heap.size := by
 obtain ⟨hne, a, rfl, rfl⟩ := hk
 cases xs with
 | nil => exact absurd rfl hne
 | cons u us =>
   obtain ⟨b, hb, hc⟩ := h 0 u rfl
   cases hb
   have := cell_lt hc
   rwa [addblock] at this
theorem KidsR.lt {w : World} {hs : List Hd} {vss : List (List Value)} (h : (KidsR hs vss).p w) {k : Nat} (hk : (KidsR hs vss).fp k) : k < w.heap.size := by
 obtain ⟨i, hd, v, h1, h2, h3⟩ := hk
 exact Rd.lt (h i hd v h1 h2) h3

/-- The state at a call that owns nothing. -/
theorem Sat.start {w : World} {R : List Pr} (hr : ∀ r ∈ R, r.p w) (hf : ∀ r ∈ R, ∀ k, r.fp k → k < w.heap.size) : Sat (ownBase w R []) w R [] :=
 ⟨⟨rfl, rfl, rfl, Nat.le_refl _, fun _ _ _ => rfl⟩, hr, fun r h k hk => ⟨hf r h k hk, .inr (.inr ⟨r, h, hk⟩)⟩, fun i c h => by simp at h, fun i c h => by simp at h, fun i j c d h => by simp at h, fun r _ j c h => by simp at h⟩
theorem Sat.below {w w' : World} {R R' H' : List Pr} (h : Sat (ownBase w R []) w' R' H') : Below w.heap.size w w' :=
 ⟨h.ext.os, h.ext.tape, h.ext.output, h.ext.size, fun k hk => h.ext.block k hk (fun ⟨i, c, hi, _⟩ => by simp at hi)⟩

section
variable {H : Type} {enc : TypeId × Value → H} {P : Program} {w : World} {base : Nat} {spare : Nat → Bool} {held : Bool}

def byteOf (n : Int) : UInt8 := UInt8.ofNat n.toNat
theorem byteOf_eq {n : Int} (h : (Lit.int .u8 n).wf = true) : Value.int .u8 ((byteOf n).toNat : Int) = .int .u8 n := by
 have : 0 ≤ n ∧ n ≤ 255 := by
   simp [Lit.wf, IntKind.min, IntKind.max, IntKind.signed, IntKind.bits] at h
   omega
 unfold byteOf
 congr 1
 simp
 omega

/-- A slice of bytes. -/
theorem open_U8 {t e : TypeId} {fuel : Nat} {cs : List Value} {x : DataW H × List MemPlace} (ht : P.underlying t = some (.slice e)) (he : P.underlying e = some (.int .u8)) (hc : P.cellsOf e = 1) (h : DataW.trod enc P w base spare held fuel t cs = some x) :
   ∃ (A : Option Addr) (c : Nat) (l : List UInt8), cs = [.slice A l.length c] ∧ l.length ≤ c ∧ l.length ≤ maxLen ∧ (Rd A (U8 l)).p w := by
 rcases open_ints ht he hc h with ⟨rfl, _⟩ | ⟨a, len, cap, zs, rfl, _, hl, hm, hz, _, hcell, hwz⟩
 · exact ⟨none, 0, [], rfl, Nat.le_refl _, Nat.zero_le _, fun j u hu => by simp [U8] at hu⟩
 · have hle : len ≤ zs.length := by rw [hz]; split <;> omega
   have hlen : ((zs.take len).map byteOf).length = len := by rw [List.length_map, List.length_take]; omega
   refine ⟨some a, cap, (zs.take len).map byteOf, by rw [hlen], by omega, by omega, fun j u hu => ⟨a, rfl, ?_⟩⟩
   have hj : j < len := by
     have := (List.getElem?_eq_some_iff.1 hu).1
     rwa [U8_len, hlen] at this
   rw [hcell j (by omega), ← hu]
   have hw := hwz _ (List.getElem_mem (show j < zs.length by omega))
   have hu2 : (U8 ((zs.take len).map byteOf))[j]? = some (.int .u8 ((byteOf (zs[j]'(by omega))).toNat : Int)) := by
     simp [U8, hj, show j < zs.length from by omega]
   rw [hu2, byteOf_eq hw]
   simp [List.getD_eq_getElem?_getD, show j < zs.length from by omega]
/-- A slice of slices of bytes. -/
theorem open_rows {t e q : TypeId} {fuel : Nat} {cs : List Value} {x : DataW H × List MemPlace} (ht : P.underlying t = some (.slice e)) (he : P.underlying e = some (.slice q)) (hq : P.underlying q = some (.int .u8)) (ce : P.cellsOf e = 1) (cq : P.cellsOf q = 1)
   (h : DataW.trod enc P w base spare held fuel t cs = some x) :
   ∃ (A : Option Addr) (c : Nat) (hs : List Hd) (ls : List (List UInt8)), cs = [.slice A ls.length c] ∧ hs.length = ls.length ∧ ls.length ≤ c ∧ ls.length ≤ maxLen ∧ (∀ i, (ls.getD i []).length ≤ maxLen) ∧ (Rd A (rowsV hs (B8 ls))).p w ∧ (KidsR hs (B8 ls)).p w := by
 rcases open_slice ht h with ⟨rfl, _⟩ | ⟨a, len, cap, m, n, D, Pl, rfl, _, hl, hm, hmm, _, hi⟩
 · exact ⟨none, 0, [], [], rfl, rfl, Nat.le_refl _, Nat.zero_le _, fun i => by simp, fun j u hu => by simp [rowsV] at hu, fun i h v hh => by simp at hh⟩
 · have hle : len ≤ m := by rw [hmm]; split <;> omega
   have each : ∀ i : Nat, ∃ r : Option Addr × Nat × List UInt8, i < len → (w.cell? (a.add i) = some (.slice r.1 r.2.2.length r.2.1) ∧ r.2.2.length ≤ maxLen ∧ (Rd r.1 (U8 r.2.2)).p w) := fun i => by
     by_cases h1 : i < len
     · obtain ⟨cs', hc, ht'⟩ := hi i (by omega)
       obtain ⟨A, c, l, rfl, _, h2, h3⟩ := open_U8 he hq cq ht'
       obtain ⟨_, hcl, hat⟩ := World.cells?_some hc
       have := hat 0 (by rw [ce]; decide)
       rw [ce, Nat.mul_one] at this
       refine ⟨(A, c, l), fun _ => ⟨?_, h2, h3⟩⟩
       rw [addadd, Nat.add_zero] at this
       exact this
     · exact ⟨(none, 0, []), fun h => absurd h h1⟩
   obtain ⟨F, hF⟩ := Classical.axiomOfChoice each
   have g1 : ∀ i, i < len → ((List.range len).map fun i => ((F i).1, (F i).2.1))[i]? = some ((F i).1, (F i).2.1) := fun i h => by simp [h]
   have g2 : ∀ i, i < len → ((List.range len).map fun i => (F i).2.2)[i]? = some (F i).2.2 := fun i h => by simp [h]
   refine ⟨some a, cap, (List.range len).map fun i => ((F i).1, (F i).2.1), (List.range len).map fun i => (F i).2.2, by simp, by simp, by simpa using hl, by simp; omega, fun i => ?_, fun j u hu => ⟨a, rfl, ?_⟩, fun i h v hh hv => ?_⟩
   · by_cases h1 : i < len
     · rw [List.getD_eq_getElem?_getD, g2 i h1]
       exact (hF i h1).2.1
     · rw [List.getD_eq_getElem?_getD, List.getElem?_eq_none (by simp; omega)]
       exact Nat.zero_le _
   · have hj : j < len := by
       have := (List.getElem?_eq_some_iff.1 hu).1
       rw [rowsV_len (by rw [B8_len]; simp), B8_len] at this
       simpa using this
     rw [rows8_get (by simp) (by simpa using hj)] at hu
     injection hu with hu
     subst hu
     rw [List.getD_eq_getElem?_getD, List.getD_eq_getElem?_getD, g1 j hj, g2 j hj]
     exact (hF j hj).1
   · have h1 : i < len := by
       have := (List.getElem?_eq_some_iff.1 hh).1
       simpa using this
     rw [g1 i h1] at hh
     injection hh with hh
     subst hh
     have : (B8 ((List.range len).map fun i => (F i).2.2))[i]? = some (U8 (F i).2.2) := by simp [B8, h1]
     rw [this] at hv
     injection hv with hv
     subst hv
     exact (hF i h1).2.2
end
end Go.Sl
end
/-
  Readings of sectors, as plain data.
-/
section
namespace Go.Sl

/-! ### Rows of numbers -/
/-! ### Numbers and lists of them -/
/-! ### Readings -/
def NotRd (n u : Nat) (row : List Int) (i : Nat) : Prop := row.getD i 0 < 0 ∨ (n : Int) ≤ row.getD i 0 ∨ row.getD i 0 = (u : Int) ∨ (0 < i ∧ row.getD i 0 ≤ row.getD (i - 1) 0)
instance (n u : Nat) (row : List Int) (i : Nat) : Decidable (NotRd n u row i) := by unfold NotRd; infer_instance
end Go.Sl
end
/-
  From the readings of a call's arguments to facts: numbers, slices of slices of numbers, small arrays.
-/
section
namespace Go.Sl
open Go.ChangeShapes Go.WideShapes Go.RowKit Go.Deep Go.Joins

section
variable {H : Type} {enc : TypeId × Value → H} {P : Program} {w : World} {base : Nat} {spare : Nat → Bool} {held : Bool}

/-- The cells of an array of small numbers. -/
theorem open_arr8 {n : Nat} {t e : TypeId} {fuel : Nat} {cs : List Value} {x : DataW H × List MemPlace} (ht : P.underlying t = some (.array n e)) (he : P.underlying e = some (.int .u8)) (ce : P.cellsOf e = 1) (hl : cs.length = n)
   (h : DataW.trod enc P w base spare held fuel t cs = some x) : ∀ i, i < n → ∃ y : UInt8, cs[i]? = some (.int .u8 (y.toNat : Int)) := by
 intro i hi
 obtain ⟨xs, m2, -, -, -, hxl, hg⟩ := DataW.trod_array ht h
 have g := hg i hi
 rw [ce, List.getElem?_eq_getElem (by rw [hxl]; exact hi)] at g
 have e1 : (cs.drop (i * 1)).take 1 = [cs[i]'(by omega)] := by
   rw [Nat.mul_one, List.drop_eq_getElem_cons (by omega), List.take_succ_cons, List.take_zero]
 rw [e1] at g
 obtain ⟨z, hz, -, wz⟩ := DataW.trod_int he g
 exact ⟨byteOf z, by rw [List.getElem?_eq_getElem (by omega), (List.cons.inj hz).1, byteOf_eq wz]⟩
end
end Go.Sl
end
/-
  From the readings of a call's arguments to facts: arrays of nine bytes, descriptions of flashes, states, writes.
-/
section
namespace Go.Sl
open Go.ChangeShapes Go.WideShapes Go.RowKit Go.Deep Go.Joins

section
variable {H : Type} {enc : TypeId × Value → H} {P : Program} {w : World} {base : Nat} {spare : Nat → Bool} {held : Bool}

/-- Nine bytes, one by one. -/
def u9 (r : List UInt8) : List Value := [.int .u8 ((r.getD 0 0).toNat : Int), .int .u8 ((r.getD 1 0).toNat : Int), .int .u8 ((r.getD 2 0).toNat : Int), .int .u8 ((r.getD 3 0).toNat : Int), .int .u8 ((r.getD 4 0).toNat : Int), .int .u8 ((r.getD 5 0).toNat : Int), .int .u8 ((r.getD 6 0).toNat : Int), .int .u8 ((r.getD 7 0).toNat : Int), .int .u8 ((r.getD 8 0).toNat : Int)]
theorem nine8 {ls : List Value} (hl : ls.length = 9) (hi : ∀ i, i < 9 → ∃ y : UInt8, ls[i]? = some (.int .u8 (y.toNat : Int))) : ∃ r : List UInt8, r.length = 9 ∧ ls = u9 r := by
 obtain ⟨y0, h0⟩ := hi 0 (by decide)
 obtain ⟨y1, h1⟩ := hi 1 (by decide)
 obtain ⟨y2, h2⟩ := hi 2 (by decide)
 obtain ⟨y3, h3⟩ := hi 3 (by decide)
 obtain ⟨y4, h4⟩ := hi 4 (by decide)
 obtain ⟨y5, h5⟩ := hi 5 (by decide)
 obtain ⟨y6, h6⟩ := hi 6 (by decide)
 obtain ⟨y7, h7⟩ := hi 7 (by decide)
 obtain ⟨y8, h8⟩ := hi 8 (by decide)
 match ls, hl, h0, h1, h2, h3, h4, h5, h6, h7, h8 with
 | [a, b, c, d, e, f, g, h, i], _, h0, h1, h2, h3, h4, h5, h6, h7, h8 =>
   simp at h0 h1 h2 h3 h4 h5 h6 h7 h8
   exact ⟨[y0, y1, y2, y3, y4, y5, y6, y7, y8], rfl, by rw [h0, h1, h2, h3, h4, h5, h6, h7, h8]; rfl⟩
theorem open_u9c {t e : TypeId} {fuel : Nat} {cs : List Value} {x : DataW H × List MemPlace} (ht : P.underlying t = some (.array 9 e)) (he : P.underlying e = some (.int .u8)) (ce : P.cellsOf e = 1) (hl : cs.length = 9)
   (h : DataW.trod enc P w base spare held fuel t cs = some x) : ∃ r : List UInt8, r.length = 9 ∧ cs = u9 r := nine8 hl (open_arr8 ht he ce hl h)
/-- The description of a flash. -/
def rawC (z p q : UInt8) (r : List UInt8) : List Value := .int .u8 (z.toNat : Int) :: .int .u8 (p.toNat : Int) :: .int .u8 (q.toNat : Int) :: u9 r
theorem twelve {cs : List Value} (h : cs.length = 12) : cs = (cs.drop 0).take 1 ++ (cs.drop 1).take 2 ++ (cs.drop 3).take 9 := by
 match cs, h with
 | [_, _, _, _, _, _, _, _, _, _, _, _], _ => rfl
theorem open_rawJ {r : Reach} {b0 : Nat} {t a b e : TypeId} {f0 f1 f2 : Field} {v : Value} {d : DataW H} {ps : List MemPlace} (ht : P.underlying t = some (.struct #[f0, f1, f2])) (t0 : f0.type = e) (t1 : f1.type = a) (t2 : f2.type = b) (o0 : f0.offset = 0) (o1 : f1.offset = 1) (o2 : f2.offset = 3)
   (he : P.underlying e = some (.int .u8)) (ha : P.underlying a = some (.array 2 e)) (hb : P.underlying b = some (.array 9 e)) (ce : P.cellsOf e = 1) (ca : P.cellsOf a = 2) (cb : P.cellsOf b = 9) (ct : P.cellsOf t = 12)
   (hv : Value.okWide P w r b0 t v) (h : DataW.Trod enc P w base spare held t v d ps) : ∃ (z p q : UInt8) (s : List UInt8), s.length = 9 ∧ v = .agg (List.toArray (rawC z p q s)) := by
 obtain ⟨cs, rfl, hsz⟩ := okWide_struct ht hv
 rw [ct] at hsz
 obtain ⟨ls⟩ := cs
 obtain ⟨fuel, hf⟩ := h
 have hf' : DataW.trod enc P w base spare held fuel t ls = some (d, ps) := hf
 obtain ⟨xs, n, -, -, hl, hxl, hg⟩ := DataW.trod_struct ht hf'
 rw [ct] at hl
 match xs, hxl with
 | [y0, y1, y2], _ =>
   have g0 := hg 0 f0 rfl
   have g1 := hg 1 f1 rfl
   have g2 := hg 2 f2 rfl
   rw [t0, o0, ce] at g0
   rw [t1, o1, ca] at g1
   rw [t2, o2, cb] at g2
   obtain ⟨m, hm, -, wm⟩ := DataW.trod_int he (by simpa using g0)
   have h2 := open_arr8 (cs := (ls.drop 1).take 2) ha he ce (by rw [List.length_take, List.length_drop, hl]; rfl) (by simpa using g1)
   obtain ⟨s, hs, e2⟩ := open_u9c (cs := (ls.drop 3).take 9) hb he ce (by rw [List.length_take, List.length_drop, hl]; rfl) (by simpa using g2)
   obtain ⟨p, e0⟩ := h2 0 (by decide)
   obtain ⟨q, e1⟩ := h2 1 (by decide)
   have l2 : ((ls.drop 1).take 2).length = 2 := by rw [List.length_take, List.length_drop, hl]; rfl
   have e12 : (ls.drop 1).take 2 = [.int .u8 (p.toNat : Int), .int .u8 (q.toNat : Int)] := by
     match (ls.drop 1).take 2, l2, e0, e1 with
     | [x, y], _, e0, e1 =>
       simp at e0 e1
       rw [e0, e1]
   have hz : (ls.drop 0).take 1 = [.int .u8 ((byteOf m).toNat : Int)] := by rw [byteOf_eq wm]; simpa using hm
   refine ⟨byteOf m, p, q, s, hs, ?_⟩
   have e := twelve hl
   rw [hz, e12, e2] at e
   rw [e]
   rfl
end

/-! ### Writes -/
/-- Inner slices of inner slices. -/
def KidsA (hss : List (List Hd)) (vsss : List (List (List Value))) : Pr where
 fp b := ∃ (i : Nat) (h : List Hd) (v : List (List Value)), hss[i]? = some h ∧ vsss[i]? = some v ∧ (KidsR h v).fp b
 p w := ∀ (i : Nat) (h : List Hd) (v : List (List Value)), hss[i]? = some h → vsss[i]? = some v → (KidsR h v).p w
 st := by
   intro w w' hk hp i h v hh hv
   exact (KidsR h v).st w w' (fun b hkk => hk b ⟨i, h, v, hh, hv, hkk⟩) (hp i h v hh hv)
theorem Has.kidsA {R H : List Pr} (j : Nat) {hss : List (List Hd)} {vsss : List (List (List Value))} (hj : R[j]? = some (KidsA hss vsss)) {i : Nat} {h : List Hd} {v : List (List Value)} (h1 : hss[i]? = some h) (h2 : vsss[i]? = some v) : Has R H (KidsR h v) :=
 ⟨fun _ _ hs => hs.rd _ (List.mem_of_getElem? hj) i h v h1 h2, fun _ hk => .inl ⟨_, List.mem_of_getElem? hj, i, h, v, h1, h2, hk⟩⟩
theorem KidsA.lt {w : World} {hss : List (List Hd)} {vsss : List (List (List Value))} (h : (KidsA hss vsss).p w) {k : Nat} (hk : (KidsA hss vsss).fp k) : k < w.heap.size := by
 obtain ⟨i, g, v, h1, h2, h3⟩ := hk
 exact KidsR.lt (h i g v h1 h2) h3
structure Wr where
 r : List UInt8
 T : Option Addr
 tc : Nat
 ths : List Hd
 ts : List (List UInt8)
def Wr.zero : Wr := ⟨[], none, 0, [], []⟩
def Wr.cells (x : Wr) : List Value := u9 x.r ++ [.slice x.T x.ts.length x.tc]
def wrV (l : List Wr) : List Value := l.flatMap Wr.cells
theorem Wr.cells_len (x : Wr) : x.cells.length = 10 := rfl
theorem wrV_len (l : List Wr) : (wrV l).length = l.length * 10 := by
 induction l with
 | nil => rfl
 | cons x l ih =>
   unfold wrV at ih ⊢
   rw [List.flatMap_cons, List.length_append, ih, Wr.cells_len, List.length_cons]
   omega
theorem wrV_at (l : List Wr) (k : Nat) (hk : k < l.length) : ((wrV l).drop (k * 10)).take 10 = (l.getD k Wr.zero).cells := by
 induction l generalizing k with
 | nil => cases hk
 | cons x l ih =>
   have e : wrV (x :: l) = x.cells ++ wrV l := rfl
   rw [e]
   cases k with
   | zero =>
     rw [Nat.zero_mul, List.drop_zero, List.take_append_of_le_length (by rw [Wr.cells_len]; decide), List.take_of_length_le (by rw [Wr.cells_len]; decide)]
     rfl
   | succ k =>
     have hd : (x.cells ++ wrV l).drop ((k + 1) * 10) = (wrV l).drop (k * 10) := by
       rw [show (k + 1) * 10 = x.cells.length + k * 10 by rw [Wr.cells_len]; omega, ← List.drop_drop, List.drop_left]
     rw [hd, ih k (by simpa using hk)]
     rfl
theorem wrV_get (l : List Wr) (k q : Nat) (hk : k < l.length) (hq : q < 10) : (wrV l)[k * 10 + q]? = (l.getD k Wr.zero).cells[q]? := by
 rw [← wrV_at l k hk, List.getElem?_take, if_pos hq, List.getElem?_drop]
structure WrOk (x : Wr) : Prop where
 h : x.ths.length = x.ts.length
 l : x.ts.length ≤ maxLen
 r : ∀ i, (x.ts.getD i []).length ≤ maxLen
def wrT (l : List Wr) : List Hd := l.map fun x => (x.T, x.tc)
def wrR (l : List Wr) : List (List Value) := l.map fun x => rowsV x.ths (B8 x.ts)
def wrA (l : List Wr) : List (List Hd) := l.map Wr.ths
def wrB (l : List Wr) : List (List (List Value)) := l.map fun x => B8 x.ts

section
variable {H : Type} {enc : TypeId × Value → H} {P : Program} {w : World} {base : Nat} {spare : Nat → Bool} {held : Bool}
theorem ten {cs : List Value} (h : cs.length = 10) : cs = (cs.drop 0).take 9 ++ (cs.drop 9).take 1 := by
 match cs, h with
 | [_, _, _, _, _, _, _, _, _, _], _ => rfl
theorem open_writeC {t b e s o : TypeId} {f0 f1 : Field} {fuel : Nat} {cs : List Value} {x : DataW H × List MemPlace} (ht : P.underlying t = some (.struct #[f0, f1])) (t0 : f0.type = b) (t1 : f1.type = s) (o0 : f0.offset = 0) (o1 : f1.offset = 9)
   (he : P.underlying e = some (.int .u8)) (hb : P.underlying b = some (.array 9 e)) (hs : P.underlying s = some (.slice o)) (ho : P.underlying o = some (.slice e)) (ce : P.cellsOf e = 1) (cb : P.cellsOf b = 9) (cs1 : P.cellsOf s = 1) (co : P.cellsOf o = 1) (ct : P.cellsOf t = 10)
   (h : DataW.trod enc P w base spare held fuel t cs = some x) : ∃ y : Wr, cs = y.cells ∧ WrOk y ∧ (Rd y.T (rowsV y.ths (B8 y.ts))).p w ∧ (KidsR y.ths (B8 y.ts)).p w := by
 obtain ⟨xs, n, -, -, hl, hxl, hg⟩ := DataW.trod_struct ht h
 rw [ct] at hl
 match xs, hxl with
 | [y0, y1], _ =>
   have g0 := hg 0 f0 rfl
   have g1 := hg 1 f1 rfl
   rw [t0, o0, cb] at g0
   rw [t1, o1, cs1] at g1
   obtain ⟨r, _, e0⟩ := open_u9c (cs := (cs.drop 0).take 9) hb he ce (by rw [List.length_take, List.length_drop, hl]; rfl) (by simpa using g0)
   obtain ⟨T, tc, ths, ts, e1, h1, -, h2, h3, h4, h5⟩ := open_rows hs ho he co ce (by simpa using g1)
   refine ⟨⟨r, T, tc, ths, ts⟩, ?_, ⟨h1, h2, h3⟩, h4, h5⟩
   have e := ten hl
   have e0' : (cs.drop 0).take 9 = u9 r := by simpa using e0
   have e1' : (cs.drop 9).take 1 = [.slice T ts.length tc] := by simpa using e1
   rw [e0', e1'] at e
   exact e
theorem open_writes {r : Reach} {b0 : Nat} {q t b e s o : TypeId} {f0 f1 : Field} {v : Value} {d : DataW H} {ps : List MemPlace} (hq : P.underlying q = some (.slice t)) (ht : P.underlying t = some (.struct #[f0, f1])) (t0 : f0.type = b) (t1 : f1.type = s) (o0 : f0.offset = 0) (o1 : f1.offset = 9)
   (he : P.underlying e = some (.int .u8)) (hb : P.underlying b = some (.array 9 e)) (hs : P.underlying s = some (.slice o)) (ho : P.underlying o = some (.slice e)) (ce : P.cellsOf e = 1) (cb : P.cellsOf b = 9) (cs1 : P.cellsOf s = 1) (co : P.cellsOf o = 1) (ct : P.cellsOf t = 10)
   (hv : Value.okWide P w r b0 q v) (h : DataW.Trod enc P w base spare held q v d ps) :
   ∃ (A : Option Addr) (c : Nat) (l : List Wr), v = .slice A l.length c ∧ l.length ≤ maxLen ∧ (∀ k, WrOk (l.getD k Wr.zero)) ∧ (Rd A (wrV l)).p w ∧ (KidsR (wrT l) (wrR l)).p w ∧ (KidsA (wrA l) (wrB l)).p w := by
 have zok : WrOk Wr.zero := ⟨rfl, Nat.zero_le _, fun i => by simp [Wr.zero]⟩
 obtain ⟨A, n, c, rfl⟩ := okWide_slice hq hv
 obtain ⟨fuel, hf⟩ := h
 have hf' : DataW.trod enc P w base spare held fuel q [.slice A n c] = some (d, ps) := by simpa [Value.cells] using hf
 rcases open_slice hq hf' with ⟨hcs, _⟩ | ⟨a, len, cap, m, k, D, Pl, hcs, _, hl, hm, hmm, _, hi⟩
 · have e := (List.cons.inj hcs).1
   exact ⟨none, 0, [], e, Nat.zero_le _, fun k => by simpa using zok, fun j u hu => by simp [wrV] at hu, fun i g v hg hv => by simp [wrT] at hg, fun i g v hg hv => by simp [wrA] at hg⟩
 · have ee := (List.cons.inj hcs).1
   have hle : len ≤ m := by rw [hmm]; split <;> omega
   have each : ∀ i : Nat, ∃ x : Wr, i < len → ((∀ j, j < 10 → w.cell? ((a.add (i * 10)).add j) = x.cells[j]?) ∧ WrOk x ∧ (Rd x.T (rowsV x.ths (B8 x.ts))).p w ∧ (KidsR x.ths (B8 x.ts)).p w) := fun i => by
     by_cases h1 : i < len
     · obtain ⟨cs', hc, htr⟩ := hi i (by omega)
       rw [ct] at hc
       obtain ⟨y, rfl, q1, q2, q3⟩ := open_writeC ht t0 t1 o0 o1 he hb hs ho ce cb cs1 co ct htr
       obtain ⟨_, _, hat⟩ := World.cells?_some hc
       exact ⟨y, fun _ => ⟨fun j hj => hat j hj, q1, q2, q3⟩⟩
     · exact ⟨Wr.zero, fun h => absurd h h1⟩
   obtain ⟨F, hF⟩ := Classical.axiomOfChoice each
   have hlen : ((List.range len).map F).length = len := by simp
   have get : ∀ i, i < len → ((List.range len).map F).getD i Wr.zero = F i := fun i h => by simp [h]
   refine ⟨some a, cap, (List.range len).map F, by rw [hlen]; exact ee, by rw [hlen]; omega, fun k => ?_, fun j u hu => ⟨a, rfl, ?_⟩, fun i g v hg hv => ?_, fun i g v hg hv => ?_⟩
   · by_cases h1 : k < len
     · rw [get k h1]; exact (hF k h1).2.1
     · rw [List.getD_eq_getElem?_getD, List.getElem?_eq_none (by rw [hlen]; omega)]
       exact zok
   · have hj : j < len * 10 := by
       have := (List.getElem?_eq_some_iff.1 hu).1
       rwa [wrV_len, hlen] at this
     have hd : j / 10 < len := by omega
     have hu2 := hu
     rw [show j = j / 10 * 10 + j % 10 from by omega, wrV_get _ _ _ (by rw [hlen]; exact hd) (by omega), get _ hd] at hu2
     rw [← hu2, ← (hF _ hd).1 (j % 10) (by omega), addadd]
     congr 2
     omega
   · have h1 : i < len := by
       have := (List.getElem?_eq_some_iff.1 hg).1
       simpa [wrT] using this
     have hg2 : (wrT ((List.range len).map F))[i]? = some ((F i).T, (F i).tc) := by simp [wrT, h1]
     have hv2 : (wrR ((List.range len).map F))[i]? = some (rowsV (F i).ths (B8 (F i).ts)) := by simp [wrR, h1]
     rw [hg2] at hg
     rw [hv2] at hv
     injection hg with hg
     injection hv with hv
     subst hg hv
     exact (hF i h1).2.2.1
   · have h1 : i < len := by
       have := (List.getElem?_eq_some_iff.1 hg).1
       simpa [wrA] using this
     have hg2 : (wrA ((List.range len).map F))[i]? = some (F i).ths := by simp [wrA, h1]
     have hv2 : (wrB ((List.range len).map F))[i]? = some (B8 (F i).ts) := by simp [wrB, h1]
     rw [hg2] at hg
     rw [hv2] at hv
     injection hg with hg
     injection hv with hv
     subst hg hv
     exact (hF i h1).2.2.2
end
end Go.Sl
end
