/-
  From the readings of a call's arguments to facts: arrays of small numbers, slices of pairs, slices of slices.
-/
import Derived.Test.YthfjkdgopkmgoaaVLj
import Derived.Test.YthfjkdgopkmgoaaVPw
namespace Go.Sl
open Go.ChangeShapes Go.WideShapes Go.RowKit Go.Deep Go.Joins

section
variable {H : Type} {enc : TypeId × Value → H} {P : Program} {w : World} {base : Nat} {spare : Nat → Bool} {held : Bool}

/-- The cells of an array of two bytes. -/
theorem open_pair_cells {t e : TypeId} {fuel : Nat} {cs : List Value} {x : DataW H × List MemPlace} (ht : P.underlying t = some (.array 2 e)) (he : P.underlying e = some (.int .u8)) (ce : P.cellsOf e = 1) (hl : cs.length = 2)
    (h : DataW.trod enc P w base spare held fuel t cs = some x) : ∃ p : UInt8 × UInt8, cs = [.int .u8 (p.1.toNat : Int), .int .u8 (p.2.toNat : Int)] := by
  obtain ⟨a0, a1, rfl⟩ : ∃ a0 a1, cs = [a0, a1] := by
    match cs, hl with
    | [a, b], _ => exact ⟨a, b, rfl⟩
  obtain ⟨xs, m2, -, -, -, hxl, hg⟩ := DataW.trod_array ht h
  have g0 := hg 0 (by decide)
  have g1 := hg 1 (by decide)
  rw [ce, List.getElem?_eq_getElem (by rw [hxl]; decide)] at g0 g1
  obtain ⟨x, h0, -, w0⟩ := DataW.trod_int (cs := [a0]) he g0
  obtain ⟨y, h1, -, w1⟩ := DataW.trod_int (cs := [a1]) he g1
  obtain rfl := (List.cons.inj h0).1
  obtain rfl := (List.cons.inj h1).1
  exact ⟨(byteOf x, byteOf y), by rw [byteOf_eq w0, byteOf_eq w1]⟩
/-- An array of two bytes. -/
theorem open_u8x2 {r : Reach} {b0 : Nat} {t e : TypeId} {v : Value} {d : DataW H} {ps : List MemPlace} (ht : P.underlying t = some (.array 2 e)) (he : P.underlying e = some (.int .u8)) (ce : P.cellsOf e = 1) (ct : P.cellsOf t = 2)
    (hv : Value.okWide P w r b0 t v) (h : DataW.Trod enc P w base spare held t v d ps) : ∃ x y : UInt8, v = .agg (List.toArray [.int .u8 (x.toNat : Int), .int .u8 (y.toNat : Int)]) := by
  simp only [Value.okWide, ht] at hv
  obtain ⟨cs, rfl, hsz, -⟩ := hv
  rw [ct] at hsz
  obtain ⟨ls⟩ := cs
  obtain ⟨fuel, hf⟩ := h
  obtain ⟨p, hp⟩ := open_pair_cells ht he ce hsz hf
  simp only at hp
  exact ⟨p.1, p.2, by rw [hp]⟩
/-- A slice of pairs of bytes. -/
theorem open_pairs {t q e : TypeId} {fuel : Nat} {cs : List Value} {x : DataW H × List MemPlace} (ht : P.underlying t = some (.slice q)) (hq : P.underlying q = some (.array 2 e)) (he : P.underlying e = some (.int .u8)) (ce : P.cellsOf e = 1) (cq : P.cellsOf q = 2)
    (h : DataW.trod enc P w base spare held fuel t cs = some x) :
    ∃ (A : Option Addr) (c : Nat) (l : List (UInt8 × UInt8)), cs = [.slice A l.length c] ∧ l.length ≤ maxLen ∧ (Rd A (pairsV l)).p w := by
  rcases open_slice ht h with ⟨rfl, _⟩ | ⟨a, len, cap, m, k, D, Pl, rfl, _, hl, hm, hmm, _, hi⟩
  · exact ⟨none, 0, [], rfl, Nat.zero_le _, fun j u hu => by simp [pairsV] at hu⟩
  · have hle : len ≤ m := by rw [hmm]; split <;> omega
    have each : ∀ i : Nat, ∃ x : UInt8 × UInt8, i < len → ∀ j, j < 2 → w.cell? ((a.add (i * 2)).add j) = [Value.int .u8 (x.1.toNat : Int), .int .u8 (x.2.toNat : Int)][j]? := fun i => by
      by_cases h1 : i < len
      · obtain ⟨cs', hc, htr⟩ := hi i (by omega)
        rw [cq] at hc
        obtain ⟨_, hcl, hat⟩ := World.cells?_some hc
        obtain ⟨p, rfl⟩ := open_pair_cells hq he ce (by simpa using hcl) htr
        exact ⟨p, fun _ j hj => hat j hj⟩
      · exact ⟨(0, 0), fun h => absurd h h1⟩
    obtain ⟨F, hF⟩ := Classical.axiomOfChoice each
    have hlen : ((List.range len).map F).length = len := by simp
    have get : ∀ i, i < len → ((List.range len).map F).getD i (0, 0) = F i := fun i h => by simp [h]
    refine ⟨some a, cap, (List.range len).map F, by rw [hlen], by rw [hlen]; omega, fun j u hu => ⟨a, rfl, ?_⟩⟩
    have hj : j < len * 2 := by
      have := (List.getElem?_eq_some_iff.1 hu).1
      rwa [pairsV_len, hlen] at this
    have hd : j / 2 < len := by omega
    have hu2 := hu
    rw [show j = j / 2 * 2 + j % 2 from by omega, pairsV_get _ _ _ (by rw [hlen]; exact hd) (by omega), get _ hd] at hu2
    rw [← hu2, ← hF _ hd (j % 2) (by omega), addadd]
    congr 2
    omega
theorem open_pairsV {r : Reach} {b0 : Nat} {t q e : TypeId} {v : Value} {d : DataW H} {ps : List MemPlace} (ht : P.underlying t = some (.slice q)) (hq : P.underlying q = some (.array 2 e)) (he : P.underlying e = some (.int .u8)) (ce : P.cellsOf e = 1) (cq : P.cellsOf q = 2)
    (hv : Value.okWide P w r b0 t v) (h : DataW.Trod enc P w base spare held t v d ps) :
    ∃ (A : Option Addr) (c : Nat) (l : List (UInt8 × UInt8)), v = .slice A l.length c ∧ l.length ≤ maxLen ∧ (Rd A (pairsV l)).p w := by
  obtain ⟨A, n, c, rfl⟩ := okWide_slice ht hv
  obtain ⟨fuel, hf⟩ := h
  obtain ⟨B, c', l, hcs, h2, h3⟩ := open_pairs ht hq he ce cq hf
  have e : Value.slice A n c = .slice B l.length c' := (List.cons.inj (show [Value.slice A n c] = [.slice B l.length c'] from by simpa [Value.cells] using hcs)).1
  exact ⟨B, c', l, e, h2, h3⟩
end
end Go.Sl
