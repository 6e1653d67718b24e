/-
  From the readings of a call's arguments to facts: numbers, slices of slices of numbers, small arrays.
-/
import Derived.Test.YtklbkaefjjonmaaTLi
import Derived.Test.YtklbkaefjjonmaaTSlJ
import Derived.Test.YtklbkaefjjonmaaTOa
namespace Go.Sl
open Go.ChangeShapes Go.WideShapes Go.RowKit Go.Deep Go.Joins

section
variable {H : Type} {enc : TypeId × Value → H} {P : Program} {w : World} {base : Nat} {spare : Nat → Bool} {held : Bool}

/-- The cells of an array of small numbers. -/
theorem open_arr8 {n : Nat} {t e : TypeId} {fuel : Nat} {cs : List Value} {x : DataW H × List MemPlace} (ht : P.underlying t = some (.array n e)) (he : P.underlying e = some (.int .u8)) (ce : P.cellsOf e = 1) (hl : cs.length = n)
    (h : DataW.trod enc P w base spare held fuel t cs = some x) : ∀ i, i < n → ∃ y : UInt8, cs[i]? = some (.int .u8 (y.toNat : Int)) := by
  intro i hi
  obtain ⟨xs, m2, -, -, -, hxl, hg⟩ := DataW.trod_array ht h
  have g := hg i hi
  rw [ce, List.getElem?_eq_getElem (by rw [hxl]; exact hi)] at g
  have e1 : (cs.drop (i * 1)).take 1 = [cs[i]'(by omega)] := by
    rw [Nat.mul_one, List.drop_eq_getElem_cons (by omega), List.take_succ_cons, List.take_zero]
  rw [e1] at g
  obtain ⟨z, hz, -, wz⟩ := DataW.trod_int he g
  exact ⟨byteOf z, by rw [List.getElem?_eq_getElem (by omega), (List.cons.inj hz).1, byteOf_eq wz]⟩
theorem open_arrV {n : Nat} {r : Reach} {b0 : Nat} {t e : TypeId} {v : Value} {d : DataW H} {ps : List MemPlace} (ht : P.underlying t = some (.array n e)) (he : P.underlying e = some (.int .u8)) (ce : P.cellsOf e = 1) (ct : P.cellsOf t = n)
    (hv : Value.okWide P w r b0 t v) (h : DataW.Trod enc P w base spare held t v d ps) : ∃ ls : List Value, v = .agg (List.toArray ls) ∧ ls.length = n ∧ ∀ i, i < n → ∃ y : UInt8, ls[i]? = some (.int .u8 (y.toNat : Int)) := by
  simp only [Value.okWide, ht] at hv
  obtain ⟨cs, rfl, hsz, -⟩ := hv
  rw [ct] at hsz
  obtain ⟨ls⟩ := cs
  obtain ⟨fuel, hf⟩ := h
  exact ⟨ls, rfl, hsz, open_arr8 ht he ce hsz hf⟩
/-- An array of two bytes, of three. -/
theorem open_u8x2 {r : Reach} {b0 : Nat} {t e : TypeId} {v : Value} {d : DataW H} {ps : List MemPlace} (ht : P.underlying t = some (.array 2 e)) (he : P.underlying e = some (.int .u8)) (ce : P.cellsOf e = 1) (ct : P.cellsOf t = 2)
    (hv : Value.okWide P w r b0 t v) (h : DataW.Trod enc P w base spare held t v d ps) : ∃ x y : UInt8, v = .agg (List.toArray [.int .u8 (x.toNat : Int), .int .u8 (y.toNat : Int)]) := by
  obtain ⟨ls, rfl, hl, hi⟩ := open_arrV ht he ce ct hv h
  obtain ⟨x, h0⟩ := hi 0 (by decide)
  obtain ⟨y, h1⟩ := hi 1 (by decide)
  match ls, hl, h0, h1 with
  | [a, b], _, h0, h1 =>
    simp at h0 h1
    exact ⟨x, y, by rw [h0, h1]⟩
end
end Go.Sl
