/-
  From the readings of a call's arguments to the facts of the small separation logic.
-/
import Derived.ProofKit
import Derived.Deep.Slices
import Derived.Below
import Derived.OpenShut
import Derived.Lib.SmallJoins
import Derived.ChangeArms
import Derived.Test.YtmbjknampholjaaESlN
import Derived.Test.YtmbjknampholjaaESlI
import Derived.Test.YtmbjknampholjaaEPl
import Derived.Test.YtmbjknampholjaaESlK
section
namespace Go.Sl
open Go.ChangeShapes Go.WideShapes Go.RowKit Go.Deep

theorem cell_lt {w : World} {a : Addr} {v : Value} (h : w.cell? a = some v) : a.block < w.heap.size := by
 rcases Nat.lt_or_ge a.block w.heap.size with h1 | h1
 · exact h1
 · unfold World.cell? at h
   rw [Array.getElem?_eq_none h1] at h
   simp at h
theorem Rd.lt {w : World} {A : Option Addr} {xs : List Value} (h : (Rd A xs).p w) {k : Nat} (hk : (Rd A xs).fp k) : k < w.heap.size := by
 obtain ⟨hne, a, rfl, rfl⟩ := hk
 cases xs with
 | nil => exact absurd rfl hne
 | cons u us =>
   obtain ⟨b, hb, hc⟩ := h 0 u rfl
   cases hb
   have := cell_lt hc
   rwa [addblock] at this
theorem KidsR.lt {w : World} {hs : List Hd} {vss : List (List Value)} (h : (KidsR hs vss).p w) {k : Nat} (hk : (KidsR hs vss).fp k) : k < w.heap.size := by
 obtain ⟨i, hd, v, h1, h2, h3⟩ := hk
 exact Rd.lt (h i hd v h1 h2) h3

/-- The state at a call that owns nothing. -/
theorem Sat.start {w : World} {R : List Pr} (hr : ∀ r ∈ R, r.p w) (hf : ∀ r ∈ R, ∀ k, r.fp k → k < w.heap.size) : Sat (ownBase w R []) w R [] :=
 ⟨⟨rfl, rfl, rfl, Nat.le_refl _, fun _ _ _ => rfl⟩, hr, fun r h k hk => ⟨hf r h k hk, .inr (.inr ⟨r, h, hk⟩)⟩, fun i c h => by simp at h, fun i c h => by simp at h, fun i j c d h => by simp at h, fun r _ j c h => by simp at h⟩
theorem Sat.below {w w' : World} {R R' H' : List Pr} (h : Sat (ownBase w R []) w' R' H') : Below w.heap.size w w' :=
 ⟨h.ext.os, h.ext.tape, h.ext.output, h.ext.size, fun k hk => h.ext.block k hk (fun ⟨i, c, hi, _⟩ => by simp at hi)⟩

section
variable {H : Type} {enc : TypeId × Value → H} {P : Program} {w : World} {base : Nat} {spare : Nat → Bool} {held : Bool}

def byteOf (n : Int) : UInt8 := UInt8.ofNat n.toNat
theorem byteOf_eq {n : Int} (h : (Lit.int .u8 n).wf = true) : Value.int .u8 ((byteOf n).toNat : Int) = .int .u8 n := by
 have : 0 ≤ n ∧ n ≤ 255 := by
   simp [Lit.wf, IntKind.min, IntKind.max, IntKind.signed, IntKind.bits] at h
   omega
 unfold byteOf
 congr 1
 simp
 omega

end
end Go.Sl
end
/-
  Readings of sectors, as plain data.
-/
section
namespace Go.Sl

/-! ### Rows of numbers -/
/-! ### Numbers and lists of them -/
/-! ### Readings -/
def NotRd (n u : Nat) (row : List Int) (i : Nat) : Prop := row.getD i 0 < 0 ∨ (n : Int) ≤ row.getD i 0 ∨ row.getD i 0 = (u : Int) ∨ (0 < i ∧ row.getD i 0 ≤ row.getD (i - 1) 0)
instance (n u : Nat) (row : List Int) (i : Nat) : Decidable (NotRd n u row i) := by unfold NotRd; infer_instance
end Go.Sl
end
/-
  From the readings of a call's arguments to facts: numbers, slices of slices of numbers, small arrays.
-/
section
namespace Go.Sl
open Go.ChangeShapes Go.WideShapes Go.RowKit Go.Deep Go.Joins

section
variable {H : Type} {enc : TypeId × Value → H} {P : Program} {w : World} {base : Nat} {spare : Nat → Bool} {held : Bool}

/-- The cells of an array of small numbers. -/
theorem open_arr8 {n : Nat} {t e : TypeId} {fuel : Nat} {cs : List Value} {x : DataW H × List MemPlace} (ht : P.underlying t = some (.array n e)) (he : P.underlying e = some (.int .u8)) (ce : P.cellsOf e = 1) (hl : cs.length = n)
   (h : DataW.trod enc P w base spare held fuel t cs = some x) : ∀ i, i < n → ∃ y : UInt8, cs[i]? = some (.int .u8 (y.toNat : Int)) := by
 intro i hi
 obtain ⟨xs, m2, -, -, -, hxl, hg⟩ := DataW.trod_array ht h
 have g := hg i hi
 rw [ce, List.getElem?_eq_getElem (by rw [hxl]; exact hi)] at g
 have e1 : (cs.drop (i * 1)).take 1 = [cs[i]'(by omega)] := by
   rw [Nat.mul_one, List.drop_eq_getElem_cons (by omega), List.take_succ_cons, List.take_zero]
 rw [e1] at g
 obtain ⟨z, hz, -, wz⟩ := DataW.trod_int he g
 exact ⟨byteOf z, by rw [List.getElem?_eq_getElem (by omega), (List.cons.inj hz).1, byteOf_eq wz]⟩
end
end Go.Sl
end
/-
  From the readings of a call's arguments to facts: arrays of nine bytes, descriptions of flashes, states, writes.
-/
section
namespace Go.Sl
open Go.ChangeShapes Go.WideShapes Go.RowKit Go.Deep Go.Joins

section
variable {H : Type} {enc : TypeId × Value → H} {P : Program} {w : World} {base : Nat} {spare : Nat → Bool} {held : Bool}

/-- Nine bytes, one by one. -/
def u9 (r : List UInt8) : List Value := [.int .u8 ((r.getD 0 0).toNat : Int), .int .u8 ((r.getD 1 0).toNat : Int), .int .u8 ((r.getD 2 0).toNat : Int), .int .u8 ((r.getD 3 0).toNat : Int), .int .u8 ((r.getD 4 0).toNat : Int), .int .u8 ((r.getD 5 0).toNat : Int), .int .u8 ((r.getD 6 0).toNat : Int), .int .u8 ((r.getD 7 0).toNat : Int), .int .u8 ((r.getD 8 0).toNat : Int)]
theorem nine8 {ls : List Value} (hl : ls.length = 9) (hi : ∀ i, i < 9 → ∃ y : UInt8, ls[i]? = some (.int .u8 (y.toNat : Int))) : ∃ r : List UInt8, r.length = 9 ∧ ls = u9 r := by
 obtain ⟨y0, h0⟩ := hi 0 (by decide)
 obtain ⟨y1, h1⟩ := hi 1 (by decide)
 obtain ⟨y2, h2⟩ := hi 2 (by decide)
 obtain ⟨y3, h3⟩ := hi 3 (by decide)
 obtain ⟨y4, h4⟩ := hi 4 (by decide)
 obtain ⟨y5, h5⟩ := hi 5 (by decide)
 obtain ⟨y6, h6⟩ := hi 6 (by decide)
 obtain ⟨y7, h7⟩ := hi 7 (by decide)
 obtain ⟨y8, h8⟩ := hi 8 (by decide)
 match ls, hl, h0, h1, h2, h3, h4, h5, h6, h7, h8 with
 | [a, b, c, d, e, f, g, h, i], _, h0, h1, h2, h3, h4, h5, h6, h7, h8 =>
   simp at h0 h1 h2 h3 h4 h5 h6 h7 h8
   exact ⟨[y0, y1, y2, y3, y4, y5, y6, y7, y8], rfl, by rw [h0, h1, h2, h3, h4, h5, h6, h7, h8]; rfl⟩
theorem open_u9c {t e : TypeId} {fuel : Nat} {cs : List Value} {x : DataW H × List MemPlace} (ht : P.underlying t = some (.array 9 e)) (he : P.underlying e = some (.int .u8)) (ce : P.cellsOf e = 1) (hl : cs.length = 9)
   (h : DataW.trod enc P w base spare held fuel t cs = some x) : ∃ r : List UInt8, r.length = 9 ∧ cs = u9 r := nine8 hl (open_arr8 ht he ce hl h)
/-- The description of a flash. -/
def rawC (z p q : UInt8) (r : List UInt8) : List Value := .int .u8 (z.toNat : Int) :: .int .u8 (p.toNat : Int) :: .int .u8 (q.toNat : Int) :: u9 r
theorem twelve {cs : List Value} (h : cs.length = 12) : cs = (cs.drop 0).take 1 ++ (cs.drop 1).take 2 ++ (cs.drop 3).take 9 := by
 match cs, h with
 | [_, _, _, _, _, _, _, _, _, _, _, _], _ => rfl
theorem open_rawJ {r : Reach} {b0 : Nat} {t a b e : TypeId} {f0 f1 f2 : Field} {v : Value} {d : DataW H} {ps : List MemPlace} (ht : P.underlying t = some (.struct #[f0, f1, f2])) (t0 : f0.type = e) (t1 : f1.type = a) (t2 : f2.type = b) (o0 : f0.offset = 0) (o1 : f1.offset = 1) (o2 : f2.offset = 3)
   (he : P.underlying e = some (.int .u8)) (ha : P.underlying a = some (.array 2 e)) (hb : P.underlying b = some (.array 9 e)) (ce : P.cellsOf e = 1) (ca : P.cellsOf a = 2) (cb : P.cellsOf b = 9) (ct : P.cellsOf t = 12)
   (hv : Value.okWide P w r b0 t v) (h : DataW.Trod enc P w base spare held t v d ps) : ∃ (z p q : UInt8) (s : List UInt8), s.length = 9 ∧ v = .agg (List.toArray (rawC z p q s)) := by
 obtain ⟨cs, rfl, hsz⟩ := okWide_struct ht hv
 rw [ct] at hsz
 obtain ⟨ls⟩ := cs
 obtain ⟨fuel, hf⟩ := h
 have hf' : DataW.trod enc P w base spare held fuel t ls = some (d, ps) := hf
 obtain ⟨xs, n, -, -, hl, hxl, hg⟩ := DataW.trod_struct ht hf'
 rw [ct] at hl
 match xs, hxl with
 | [y0, y1, y2], _ =>
   have g0 := hg 0 f0 rfl
   have g1 := hg 1 f1 rfl
   have g2 := hg 2 f2 rfl
   rw [t0, o0, ce] at g0
   rw [t1, o1, ca] at g1
   rw [t2, o2, cb] at g2
   obtain ⟨m, hm, -, wm⟩ := DataW.trod_int he (by simpa using g0)
   have h2 := open_arr8 (cs := (ls.drop 1).take 2) ha he ce (by rw [List.length_take, List.length_drop, hl]; rfl) (by simpa using g1)
   obtain ⟨s, hs, e2⟩ := open_u9c (cs := (ls.drop 3).take 9) hb he ce (by rw [List.length_take, List.length_drop, hl]; rfl) (by simpa using g2)
   obtain ⟨p, e0⟩ := h2 0 (by decide)
   obtain ⟨q, e1⟩ := h2 1 (by decide)
   have l2 : ((ls.drop 1).take 2).length = 2 := by rw [List.length_take, List.length_drop, hl]; rfl
   have e12 : (ls.drop 1).take 2 = [.int .u8 (p.toNat : Int), .int .u8 (q.toNat : Int)] := by
     match (ls.drop 1).take 2, l2, e0, e1 with
     | [x, y], _, e0, e1 =>
       simp at e0 e1
       rw [e0, e1]
   have hz : (ls.drop 0).take 1 = [.int .u8 ((byteOf m).toNat : Int)] := by rw [byteOf_eq wm]; simpa using hm
   refine ⟨byteOf m, p, q, s, hs, ?_⟩
   have e := twelve hl
   rw [hz, e12, e2] at e
   rw [e]
   rfl
end

/-! ### Writes -/
/-- Inner slices of inner slices. -/
def KidsA (hss : List (List Hd)) (vsss : List (List (List Value))) : Pr where
 fp b := ∃ (i : Nat) (h : List Hd) (v : List (List Value)), hss[i]? = some h ∧ vsss[i]? = some v ∧ (KidsR h v).fp b
 p w := ∀ (i : Nat) (h : List Hd) (v : List (List Value)), hss[i]? = some h → vsss[i]? = some v → (KidsR h v).p w
 st := by
   intro w w' hk hp i h v hh hv
   exact (KidsR h v).st w w' (fun b hkk => hk b ⟨i, h, v, hh, hv, hkk⟩) (hp i h v hh hv)
theorem KidsA.lt {w : World} {hss : List (List Hd)} {vsss : List (List (List Value))} (h : (KidsA hss vsss).p w) {k : Nat} (hk : (KidsA hss vsss).fp k) : k < w.heap.size := by
 obtain ⟨i, g, v, h1, h2, h3⟩ := hk
 exact KidsR.lt (h i g v h1 h2) h3
structure Wr where
 r : List UInt8
 T : Option Addr
 tc : Nat
 ths : List Hd
 ts : List (List UInt8)
def Wr.zero : Wr := ⟨[], none, 0, [], []⟩
def Wr.cells (x : Wr) : List Value := u9 x.r ++ [.slice x.T x.ts.length x.tc]
structure WrOk (x : Wr) : Prop where
 h : x.ths.length = x.ts.length
 l : x.ts.length ≤ maxLen
 r : ∀ i, (x.ts.getD i []).length ≤ maxLen
section
variable {H : Type} {enc : TypeId × Value → H} {P : Program} {w : World} {base : Nat} {spare : Nat → Bool} {held : Bool}
end
end Go.Sl
end
