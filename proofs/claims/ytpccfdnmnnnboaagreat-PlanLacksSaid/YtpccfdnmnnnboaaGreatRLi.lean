/-
  From the readings of a call's arguments to the facts of the small separation logic.
-/
import Derived.ProofKit
import Derived.Deep.Slices
import Derived.Below
import Derived.OpenShut
import Derived.Lib.SmallJoins
import Derived.ChangeArms
import Derived.Test.YtpccfdnmnnnboaaGreatRSlH
import Derived.Test.YtpccfdnmnnnboaaGreatRSlN
import Derived.Test.YtpccfdnmnnnboaaGreatRPl
import Derived.Test.YtpccfdnmnnnboaaGreatROm
section
namespace Go.Sl
open Go.ChangeShapes Go.WideShapes Go.RowKit Go.Deep

theorem cell_lt {w : World} {a : Addr} {v : Value} (h : w.cell? a = some v) : a.block < w.heap.size := by
 rcases Nat.lt_or_ge a.block w.heap.size with h1 | h1
 · exact h1
 · unfold World.cell? at h
   rw [Array.getElem?_eq_none h1] at h
   simp at h
theorem Rd.lt {w : World} {A : Option Addr} {xs : List Value} (h : (Rd A xs).p w) {k : Nat} (hk : (Rd A xs).fp k) : k < w.heap.size := by
 obtain ⟨hne, a, rfl, rfl⟩ := hk
 cases xs with
 | nil => exact absurd rfl hne
 | cons u us =>
   obtain ⟨b, hb, hc⟩ := h 0 u rfl
   cases hb
   have := cell_lt hc
   rwa [addblock] at this
theorem KidsR.lt {w : World} {hs : List Hd} {vss : List (List Value)} (h : (KidsR hs vss).p w) {k : Nat} (hk : (KidsR hs vss).fp k) : k < w.heap.size := by
 obtain ⟨i, hd, v, h1, h2, h3⟩ := hk
 exact Rd.lt (h i hd v h1 h2) h3

/-- The state at a call that owns nothing. -/
theorem Sat.start {w : World} {R : List Pr} (hr : ∀ r ∈ R, r.p w) (hf : ∀ r ∈ R, ∀ k, r.fp k → k < w.heap.size) : Sat (ownBase w R []) w R [] :=
 ⟨⟨rfl, rfl, rfl, Nat.le_refl _, fun _ _ _ => rfl⟩, hr, fun r h k hk => ⟨hf r h k hk, .inr (.inr ⟨r, h, hk⟩)⟩, fun i c h => by simp at h, fun i c h => by simp at h, fun i j c d h => by simp at h, fun r _ j c h => by simp at h⟩
theorem Sat.below {w w' : World} {R R' H' : List Pr} (h : Sat (ownBase w R []) w' R' H') : Below w.heap.size w w' :=
 ⟨h.ext.os, h.ext.tape, h.ext.output, h.ext.size, fun k hk => h.ext.block k hk (fun ⟨i, c, hi, _⟩ => by simp at hi)⟩

section
variable {H : Type} {enc : TypeId × Value → H} {P : Program} {w : World} {base : Nat} {spare : Nat → Bool} {held : Bool}

def byteOf (n : Int) : UInt8 := UInt8.ofNat n.toNat
theorem byteOf_eq {n : Int} (h : (Lit.int .u8 n).wf = true) : Value.int .u8 ((byteOf n).toNat : Int) = .int .u8 n := by
 have : 0 ≤ n ∧ n ≤ 255 := by
   simp [Lit.wf, IntKind.min, IntKind.max, IntKind.signed, IntKind.bits] at h
   omega
 unfold byteOf
 congr 1
 simp
 omega

/-- A slice of bytes. -/
theorem open_U8 {t e : TypeId} {fuel : Nat} {cs : List Value} {x : DataW H × List MemPlace} (ht : P.underlying t = some (.slice e)) (he : P.underlying e = some (.int .u8)) (hc : P.cellsOf e = 1) (h : DataW.trod enc P w base spare held fuel t cs = some x) :
   ∃ (A : Option Addr) (c : Nat) (l : List UInt8), cs = [.slice A l.length c] ∧ l.length ≤ c ∧ l.length ≤ maxLen ∧ (Rd A (U8 l)).p w := by
 rcases open_ints ht he hc h with ⟨rfl, _⟩ | ⟨a, len, cap, zs, rfl, _, hl, hm, hz, _, hcell, hwz⟩
 · exact ⟨none, 0, [], rfl, Nat.le_refl _, Nat.zero_le _, fun j u hu => by simp [U8] at hu⟩
 · have hle : len ≤ zs.length := by rw [hz]; split <;> omega
   have hlen : ((zs.take len).map byteOf).length = len := by rw [List.length_map, List.length_take]; omega
   refine ⟨some a, cap, (zs.take len).map byteOf, by rw [hlen], by omega, by omega, fun j u hu => ⟨a, rfl, ?_⟩⟩
   have hj : j < len := by
     have := (List.getElem?_eq_some_iff.1 hu).1
     rwa [U8_len, hlen] at this
   rw [hcell j (by omega), ← hu]
   have hw := hwz _ (List.getElem_mem (show j < zs.length by omega))
   have hu2 : (U8 ((zs.take len).map byteOf))[j]? = some (.int .u8 ((byteOf (zs[j]'(by omega))).toNat : Int)) := by
     simp [U8, hj, show j < zs.length from by omega]
   rw [hu2, byteOf_eq hw]
   simp [List.getD_eq_getElem?_getD, show j < zs.length from by omega]
end
end Go.Sl
end
/-
  From the readings of a call's arguments to facts: numbers, slices of slices of numbers, small arrays.
-/
section
namespace Go.Sl
open Go.ChangeShapes Go.WideShapes Go.RowKit Go.Deep Go.Joins

section
variable {H : Type} {enc : TypeId × Value → H} {P : Program} {w : World} {base : Nat} {spare : Nat → Bool} {held : Bool}

/-- The cells of an array of small numbers. -/
theorem open_arr8 {n : Nat} {t e : TypeId} {fuel : Nat} {cs : List Value} {x : DataW H × List MemPlace} (ht : P.underlying t = some (.array n e)) (he : P.underlying e = some (.int .u8)) (ce : P.cellsOf e = 1) (hl : cs.length = n)
   (h : DataW.trod enc P w base spare held fuel t cs = some x) : ∀ i, i < n → ∃ y : UInt8, cs[i]? = some (.int .u8 (y.toNat : Int)) := by
 intro i hi
 obtain ⟨xs, m2, -, -, -, hxl, hg⟩ := DataW.trod_array ht h
 have g := hg i hi
 rw [ce, List.getElem?_eq_getElem (by rw [hxl]; exact hi)] at g
 have e1 : (cs.drop (i * 1)).take 1 = [cs[i]'(by omega)] := by
   rw [Nat.mul_one, List.drop_eq_getElem_cons (by omega), List.take_succ_cons, List.take_zero]
 rw [e1] at g
 obtain ⟨z, hz, -, wz⟩ := DataW.trod_int he g
 exact ⟨byteOf z, by rw [List.getElem?_eq_getElem (by omega), (List.cons.inj hz).1, byteOf_eq wz]⟩
end
end Go.Sl
end
/-
  From the readings of a call's arguments to facts: slices of triples, a small number with a sign.
-/
section
namespace Go.Sl
open Go.ChangeShapes Go.WideShapes Go.RowKit Go.Deep Go.Joins

section
variable {H : Type} {enc : TypeId × Value → H} {P : Program} {w : World} {base : Nat} {spare : Nat → Bool} {held : Bool}

theorem wf_i8 {n : Int} (h : (Lit.int .i8 n).wf = true) : -128 ≤ n ∧ n ≤ 127 := by
 simp [Lit.wf, IntKind.min, IntKind.max, IntKind.signed, IntKind.bits] at h
 omega
end
end Go.Sl
end
/-
  From the readings of a call's arguments to facts: arrays of four and of five bytes, a description of what is lacking.
-/
section
namespace Go.Sl
open Go.ChangeShapes Go.WideShapes Go.RowKit Go.Deep Go.Joins

section
variable {H : Type} {enc : TypeId × Value → H} {P : Program} {w : World} {base : Nat} {spare : Nat → Bool} {held : Bool}
def B5 (w0 w1 w2 w3 w4 : UInt8) : List Value := [.int .u8 (w0.toNat : Int), .int .u8 (w1.toNat : Int), .int .u8 (w2.toNat : Int), .int .u8 (w3.toNat : Int), .int .u8 (w4.toNat : Int)]
theorem five8 {ls : List Value} (hl : ls.length = 5) (hi : ∀ i, i < 5 → ∃ y : UInt8, ls[i]? = some (.int .u8 (y.toNat : Int))) : ∃ w0 w1 w2 w3 w4 : UInt8, ls = B5 w0 w1 w2 w3 w4 := by
 obtain ⟨y0, h0⟩ := hi 0 (by decide)
 obtain ⟨y1, h1⟩ := hi 1 (by decide)
 obtain ⟨y2, h2⟩ := hi 2 (by decide)
 obtain ⟨y3, h3⟩ := hi 3 (by decide)
 obtain ⟨y4, h4⟩ := hi 4 (by decide)
 match ls, hl, h0, h1, h2, h3, h4 with
 | [a, b, c, d, e], _, h0, h1, h2, h3, h4 =>
   simp at h0 h1 h2 h3 h4
   exact ⟨y0, y1, y2, y3, y4, by rw [h0, h1, h2, h3, h4]; rfl⟩
/-- Four small numbers with signs, among others. -/
theorem four_i8 {t e : TypeId} {fuel : Nat} {cs : List Value} {x : DataW H × List MemPlace} (ht : P.underlying t = some (.array 4 e)) (he : P.underlying e = some (.int .i8)) (ce : P.cellsOf e = 1) (hl : cs.length = 4)
   (h : DataW.trod enc P w base spare held fuel t cs = some x) : ∃ a b c d : Int, cs = [.int .i8 a, .int .i8 b, .int .i8 c, .int .i8 d] ∧ (-128 ≤ a ∧ a ≤ 127) ∧ (-128 ≤ b ∧ b ≤ 127) ∧ (-128 ≤ c ∧ c ≤ 127) ∧ (-128 ≤ d ∧ d ≤ 127) := by
 obtain ⟨a0, a1, a2, a3, rfl⟩ : ∃ a0 a1 a2 a3, cs = [a0, a1, a2, a3] := by
   match cs, hl with
   | [a, b, c, d], _ => exact ⟨a, b, c, d, rfl⟩
 obtain ⟨xs, m2, -, -, -, hxl, hg⟩ := DataW.trod_array ht h
 have g0 := hg 0 (by decide)
 have g1 := hg 1 (by decide)
 have g2 := hg 2 (by decide)
 have g3 := hg 3 (by decide)
 rw [ce, List.getElem?_eq_getElem (by rw [hxl]; decide)] at g0 g1 g2 g3
 obtain ⟨x, h0, -, w0⟩ := DataW.trod_int (cs := [a0]) he g0
 obtain ⟨y, h1, -, w1⟩ := DataW.trod_int (cs := [a1]) he g1
 obtain ⟨z, h2, -, w2⟩ := DataW.trod_int (cs := [a2]) he g2
 obtain ⟨u, h3, -, w3⟩ := DataW.trod_int (cs := [a3]) he g3
 obtain rfl := (List.cons.inj h0).1
 obtain rfl := (List.cons.inj h1).1
 obtain rfl := (List.cons.inj h2).1
 obtain rfl := (List.cons.inj h3).1
 exact ⟨x, y, z, u, rfl, wf_i8 w0, wf_i8 w1, wf_i8 w2, wf_i8 w3⟩
theorem eleven {cs : List Value} (h : cs.length = 11) : cs = (cs.drop 0).take 5 ++ (cs.drop 5).take 4 ++ (cs.drop 9).take 1 ++ (cs.drop 10).take 1 := by
 match cs, h with
 | [_, _, _, _, _, _, _, _, _, _, _], _ => rfl
/-- The description of what is lacking. -/
theorem open_lackT {r : Reach} {b0 : Nat} {t a b e s q : TypeId} {f0 f1 f2 f3 : Field} {v : Value} {d : DataW H} {ps : List MemPlace} (ht : P.underlying t = some (.struct #[f0, f1, f2, f3])) (t0 : f0.type = a) (t1 : f1.type = b) (t2 : f2.type = s) (t3 : f3.type = e) (o0 : f0.offset = 0) (o1 : f1.offset = 5) (o2 : f2.offset = 9) (o3 : f3.offset = 10)
   (he : P.underlying e = some (.int .u8)) (hq : P.underlying q = some (.int .i8)) (ha : P.underlying a = some (.array 5 e)) (hb : P.underlying b = some (.array 4 q)) (hs : P.underlying s = some (.slice e)) (ce : P.cellsOf e = 1) (cq : P.cellsOf q = 1) (ca : P.cellsOf a = 5) (cb : P.cellsOf b = 4) (cs' : P.cellsOf s = 1) (ct : P.cellsOf t = 11)
   (hv : Value.okWide P w r b0 t v) (h : DataW.Trod enc P w base spare held t v d ps) : ∃ (w0 w1 w2 w3 w4 : UInt8) (x0 x1 x2 x3 : Int) (A : Option Addr) (c : Nat) (l : List UInt8) (z : UInt8), v = .agg (List.toArray (B5 w0 w1 w2 w3 w4 ++ [.int .i8 x0, .int .i8 x1, .int .i8 x2, .int .i8 x3] ++ [.slice A l.length c] ++ [.int .u8 (z.toNat : Int)])) ∧
     (-128 ≤ x0 ∧ x0 ≤ 127) ∧ (-128 ≤ x1 ∧ x1 ≤ 127) ∧ (-128 ≤ x2 ∧ x2 ≤ 127) ∧ (-128 ≤ x3 ∧ x3 ≤ 127) ∧ l.length ≤ maxLen ∧ (Rd A (U8 l)).p w := by
 obtain ⟨cs, rfl, hsz⟩ := okWide_struct ht hv
 rw [ct] at hsz
 obtain ⟨ls⟩ := cs
 obtain ⟨fuel, hf⟩ := h
 have hf' : DataW.trod enc P w base spare held fuel t ls = some (d, ps) := hf
 obtain ⟨xs, n, -, -, hl, hxl, hg⟩ := DataW.trod_struct ht hf'
 rw [ct] at hl
 match xs, hxl with
 | [y0, y1, y2, y3], _ =>
   have g0 := hg 0 f0 rfl
   have g1 := hg 1 f1 rfl
   have g2 := hg 2 f2 rfl
   have g3 := hg 3 f3 rfl
   rw [t0, o0, ca] at g0
   rw [t1, o1, cb] at g1
   rw [t2, o2, cs'] at g2
   rw [t3, o3, ce] at g3
   have l0 : ((ls.drop 0).take 5).length = 5 := by rw [List.length_take, List.length_drop, hl]; rfl
   have l1 : ((ls.drop 5).take 4).length = 4 := by rw [List.length_take, List.length_drop, hl]; rfl
   obtain ⟨w0, w1, w2, w3, w4, e0⟩ := five8 l0 (open_arr8 (cs := (ls.drop 0).take 5) ha he ce l0 (by simpa using g0))
   obtain ⟨x0, x1, x2, x3, e1, b0, b1, b2, b3⟩ := four_i8 (cs := (ls.drop 5).take 4) hb hq cq l1 (by simpa using g1)
   obtain ⟨A, c, l, e2, -, hll, hR⟩ := open_U8 (cs := (ls.drop 9).take 1) hs he ce (by simpa using g2)
   obtain ⟨m, hm, -, wm⟩ := DataW.trod_int (cs := (ls.drop 10).take 1) he (by simpa using g3)
   refine ⟨w0, w1, w2, w3, w4, x0, x1, x2, x3, A, c, l, byteOf m, ?_, b0, b1, b2, b3, hll, hR⟩
   have e := eleven hl
   rw [e0, e1, e2, hm, ← byteOf_eq wm] at e
   rw [e]
end
end Go.Sl
end
