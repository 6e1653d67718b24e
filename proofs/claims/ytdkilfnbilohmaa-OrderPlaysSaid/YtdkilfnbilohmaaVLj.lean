/-
  From the readings of a call's arguments to facts: three numbers, bytes, a script of steps.
-/
import Derived.Test.YtdkilfnbilohmaaVLi
import Derived.Test.YtdkilfnbilohmaaVSlJ
import Derived.Test.YtdkilfnbilohmaaVPl
import Derived.Test.YtdkilfnbilohmaaVSlY
section
namespace Go.Sl
open Go.ChangeShapes Go.WideShapes Go.RowKit Go.Deep Go.Joins

section
variable {H : Type} {enc : TypeId × Value → H} {P : Program} {w : World} {base : Nat} {spare : Nat → Bool} {held : Bool}

/-- Bytes. -/
theorem open_bytesV {r : Reach} {b0 : Nat} {t e : TypeId} {v : Value} {d : DataW H} {ps : List MemPlace} (ht : P.underlying t = some (.slice e)) (he : P.underlying e = some (.int .u8)) (ce : P.cellsOf e = 1)
   (hv : Value.okWide P w r b0 t v) (h : DataW.Trod enc P w base spare held t v d ps) :
   ∃ (A : Option Addr) (c : Nat) (l : List UInt8), v = .slice A l.length c ∧ l.length ≤ c ∧ l.length ≤ maxLen ∧ (Rd A (U8 l)).p w := by
 obtain ⟨A, n, c, rfl⟩ := okWide_slice ht hv
 obtain ⟨fuel, hf⟩ := h
 obtain ⟨B, c', l, hcs, h1, h2, h3⟩ := open_U8 ht he ce hf
 have e : Value.slice A n c = .slice B l.length c' := (List.cons.inj (show [Value.slice A n c] = [.slice B l.length c'] from by simpa [Value.cells] using hcs)).1
 exact ⟨B, c', l, e, h1, h2, h3⟩
end
end Go.Sl
end
/-
  From the readings of a call's arguments to facts: numbers, slices of slices of numbers, small arrays.
-/
section
namespace Go.Sl
open Go.ChangeShapes Go.WideShapes Go.RowKit Go.Deep Go.Joins

section
variable {H : Type} {enc : TypeId × Value → H} {P : Program} {w : World} {base : Nat} {spare : Nat → Bool} {held : Bool}

/-- The cells of an array of small numbers. -/
theorem open_arr8 {n : Nat} {t e : TypeId} {fuel : Nat} {cs : List Value} {x : DataW H × List MemPlace} (ht : P.underlying t = some (.array n e)) (he : P.underlying e = some (.int .u8)) (ce : P.cellsOf e = 1) (hl : cs.length = n)
   (h : DataW.trod enc P w base spare held fuel t cs = some x) : ∀ i, i < n → ∃ y : UInt8, cs[i]? = some (.int .u8 (y.toNat : Int)) := by
 intro i hi
 obtain ⟨xs, m2, -, -, -, hxl, hg⟩ := DataW.trod_array ht h
 have g := hg i hi
 rw [ce, List.getElem?_eq_getElem (by rw [hxl]; exact hi)] at g
 have e1 : (cs.drop (i * 1)).take 1 = [cs[i]'(by omega)] := by
   rw [Nat.mul_one, List.drop_eq_getElem_cons (by omega), List.take_succ_cons, List.take_zero]
 rw [e1] at g
 obtain ⟨z, hz, -, wz⟩ := DataW.trod_int he g
 exact ⟨byteOf z, by rw [List.getElem?_eq_getElem (by omega), (List.cons.inj hz).1, byteOf_eq wz]⟩
theorem open_arrV {n : Nat} {r : Reach} {b0 : Nat} {t e : TypeId} {v : Value} {d : DataW H} {ps : List MemPlace} (ht : P.underlying t = some (.array n e)) (he : P.underlying e = some (.int .u8)) (ce : P.cellsOf e = 1) (ct : P.cellsOf t = n)
   (hv : Value.okWide P w r b0 t v) (h : DataW.Trod enc P w base spare held t v d ps) : ∃ ls : List Value, v = .agg (List.toArray ls) ∧ ls.length = n ∧ ∀ i, i < n → ∃ y : UInt8, ls[i]? = some (.int .u8 (y.toNat : Int)) := by
 simp only [Value.okWide, ht] at hv
 obtain ⟨cs, rfl, hsz, -⟩ := hv
 rw [ct] at hsz
 obtain ⟨ls⟩ := cs
 obtain ⟨fuel, hf⟩ := h
 exact ⟨ls, rfl, hsz, open_arr8 ht he ce hsz hf⟩
/-- An array of two bytes, of three. -/
theorem open_u8x2 {r : Reach} {b0 : Nat} {t e : TypeId} {v : Value} {d : DataW H} {ps : List MemPlace} (ht : P.underlying t = some (.array 2 e)) (he : P.underlying e = some (.int .u8)) (ce : P.cellsOf e = 1) (ct : P.cellsOf t = 2)
   (hv : Value.okWide P w r b0 t v) (h : DataW.Trod enc P w base spare held t v d ps) : ∃ x y : UInt8, v = .agg (List.toArray [.int .u8 (x.toNat : Int), .int .u8 (y.toNat : Int)]) := by
 obtain ⟨ls, rfl, hl, hi⟩ := open_arrV ht he ce ct hv h
 obtain ⟨x, h0⟩ := hi 0 (by decide)
 obtain ⟨y, h1⟩ := hi 1 (by decide)
 match ls, hl, h0, h1 with
 | [a, b], _, h0, h1 =>
   simp at h0 h1
   exact ⟨x, y, by rw [h0, h1]⟩
end
end Go.Sl
end
/-
  From the readings of a call's arguments to facts: slices of triples, a small number with a sign.
-/
section
namespace Go.Sl
open Go.ChangeShapes Go.WideShapes Go.RowKit Go.Deep Go.Joins

section
variable {H : Type} {enc : TypeId × Value → H} {P : Program} {w : World} {base : Nat} {spare : Nat → Bool} {held : Bool}

/-- A slice of triples of bytes. -/
theorem open_tris {t q e : TypeId} {fuel : Nat} {cs : List Value} {x : DataW H × List MemPlace} (ht : P.underlying t = some (.slice q)) (hq : P.underlying q = some (.array 3 e)) (he : P.underlying e = some (.int .u8)) (ce : P.cellsOf e = 1) (cq : P.cellsOf q = 3)
   (h : DataW.trod enc P w base spare held fuel t cs = some x) :
   ∃ (A : Option Addr) (c : Nat) (l : List T3), cs = [.slice A l.length c] ∧ l.length ≤ maxLen ∧ (Rd A (triV l)).p w := by
 rcases open_slice ht h with ⟨rfl, _⟩ | ⟨a, len, cap, m, k, D, Pl, rfl, _, hl, hm, hmm, _, hi⟩
 · exact ⟨none, 0, [], rfl, Nat.zero_le _, fun j u hu => by simp [triV] at hu⟩
 · have hle : len ≤ m := by rw [hmm]; split <;> omega
   have each : ∀ i : Nat, ∃ x : T3, i < len → ∀ j, j < 3 → w.cell? ((a.add (i * 3)).add j) = (triC x)[j]? := fun i => by
     by_cases h1 : i < len
     · obtain ⟨cs', hc, htr⟩ := hi i (by omega)
       rw [cq] at hc
       obtain ⟨_, hcl, hat⟩ := World.cells?_some hc
       have g := open_arr8 hq he ce (by simpa using hcl) htr
       obtain ⟨x, h0⟩ := g 0 (by decide)
       obtain ⟨y, h1⟩ := g 1 (by decide)
       obtain ⟨z, h2⟩ := g 2 (by decide)
       refine ⟨(x, y, z), fun _ j hj => ?_⟩
       rw [hat j hj]
       match j, hj with
       | 0, _ => exact h0
       | 1, _ => exact h1
       | 2, _ => exact h2
     · exact ⟨(0, 0, 0), fun h => absurd h h1⟩
   obtain ⟨F, hF⟩ := Classical.axiomOfChoice each
   have hlen : ((List.range len).map F).length = len := by simp
   have get : ∀ i, i < len → ((List.range len).map F).getD i (0, 0, 0) = F i := fun i h => by simp [h]
   refine ⟨some a, cap, (List.range len).map F, by rw [hlen], by rw [hlen]; omega, fun j u hu => ⟨a, rfl, ?_⟩⟩
   have hj : j < len * 3 := by
     have := (List.getElem?_eq_some_iff.1 hu).1
     rwa [triV_len, hlen] at this
   have hd : j / 3 < len := by omega
   have hu2 := hu
   rw [show j = j / 3 * 3 + j % 3 from by omega, triV_get (by rw [hlen]; exact hd) (by omega), get _ hd] at hu2
   rw [← hu2, ← hF _ hd (j % 3) (by omega), addadd]
   congr 2
   omega
theorem open_trisV {r : Reach} {b0 : Nat} {t q e : TypeId} {v : Value} {d : DataW H} {ps : List MemPlace} (ht : P.underlying t = some (.slice q)) (hq : P.underlying q = some (.array 3 e)) (he : P.underlying e = some (.int .u8)) (ce : P.cellsOf e = 1) (cq : P.cellsOf q = 3)
   (hv : Value.okWide P w r b0 t v) (h : DataW.Trod enc P w base spare held t v d ps) :
   ∃ (A : Option Addr) (c : Nat) (l : List T3), v = .slice A l.length c ∧ l.length ≤ maxLen ∧ (Rd A (triV l)).p w := by
 obtain ⟨A, n, c, rfl⟩ := okWide_slice ht hv
 obtain ⟨fuel, hf⟩ := h
 obtain ⟨B, c', l, hcs, h2, h3⟩ := open_tris ht hq he ce cq hf
 have e : Value.slice A n c = .slice B l.length c' := (List.cons.inj (show [Value.slice A n c] = [.slice B l.length c'] from by simpa [Value.cells] using hcs)).1
 exact ⟨B, c', l, e, h2, h3⟩
end
end Go.Sl
end
