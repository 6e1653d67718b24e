/-
  From the readings of a call's arguments to facts: arrays of small numbers, slices of pairs, slices of slices.
-/
import Derived.Test.YthfjkdgopkmgoaaRLj
import Derived.Test.YthfjkdgopkmgoaaRPw
namespace Go.Sl
open Go.ChangeShapes Go.WideShapes Go.RowKit Go.Deep Go.Joins

section
variable {H : Type} {enc : TypeId × Value → H} {P : Program} {w : World} {base : Nat} {spare : Nat → Bool} {held : Bool}

/-- An array of four numbers. -/
theorem open_x4 {r : Reach} {b0 : Nat} {k : IntKind} {t e : TypeId} {v : Value} {d : DataW H} {ps : List MemPlace} (ht : P.underlying t = some (.array 4 e)) (he : P.underlying e = some (.int k)) (ce : P.cellsOf e = 1) (ct : P.cellsOf t = 4)
    (hv : Value.okWide P w r b0 t v) (h : DataW.Trod enc P w base spare held t v d ps) :
    ∃ x y z u : Int, v = .agg (List.toArray [.int k x, .int k y, .int k z, .int k u]) ∧ (Lit.int k x).wf = true ∧ (Lit.int k y).wf = true ∧ (Lit.int k z).wf = true ∧ (Lit.int k u).wf = true := by
  simp only [Value.okWide, ht] at hv
  obtain ⟨cs, rfl, hsz, -⟩ := hv
  rw [ct] at hsz
  obtain ⟨ls⟩ := cs
  obtain ⟨a0, a1, a2, a3, rfl⟩ : ∃ a0 a1 a2 a3, ls = [a0, a1, a2, a3] := by
    match ls, hsz with
    | [a, b, c, d], _ => exact ⟨a, b, c, d, rfl⟩
  obtain ⟨fuel, hf⟩ := h
  obtain ⟨xs, m2, -, -, -, hxl, hg⟩ := DataW.trod_array ht hf
  have g0 := hg 0 (by decide)
  have g1 := hg 1 (by decide)
  have g2 := hg 2 (by decide)
  have g3 := hg 3 (by decide)
  rw [ce, List.getElem?_eq_getElem (by rw [hxl]; decide)] at g0 g1 g2 g3
  obtain ⟨x, h0, -, w0⟩ := DataW.trod_int (cs := [a0]) he g0
  obtain ⟨y, h1, -, w1⟩ := DataW.trod_int (cs := [a1]) he g1
  obtain ⟨z, h2, -, w2⟩ := DataW.trod_int (cs := [a2]) he g2
  obtain ⟨u, h3, -, w3⟩ := DataW.trod_int (cs := [a3]) he g3
  obtain rfl := (List.cons.inj h0).1
  obtain rfl := (List.cons.inj h1).1
  obtain rfl := (List.cons.inj h2).1
  obtain rfl := (List.cons.inj h3).1
  exact ⟨x, y, z, u, rfl, w0, w1, w2, w3⟩
theorem open_u8x4 {r : Reach} {b0 : Nat} {t e : TypeId} {v : Value} {d : DataW H} {ps : List MemPlace} (ht : P.underlying t = some (.array 4 e)) (he : P.underlying e = some (.int .u8)) (ce : P.cellsOf e = 1) (ct : P.cellsOf t = 4)
    (hv : Value.okWide P w r b0 t v) (h : DataW.Trod enc P w base spare held t v d ps) :
    ∃ x y z u : UInt8, v = .agg (List.toArray [.int .u8 (x.toNat : Int), .int .u8 (y.toNat : Int), .int .u8 (z.toNat : Int), .int .u8 (u.toNat : Int)]) := by
  obtain ⟨x, y, z, u, rfl, h0, h1, h2, h3⟩ := open_x4 ht he ce ct hv h
  exact ⟨byteOf x, byteOf y, byteOf z, byteOf u, by rw [byteOf_eq h0, byteOf_eq h1, byteOf_eq h2, byteOf_eq h3]⟩
end
end Go.Sl
