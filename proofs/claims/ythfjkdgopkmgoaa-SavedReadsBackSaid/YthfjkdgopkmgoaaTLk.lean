/-
  From the readings of a call's arguments to facts: arrays of small numbers, slices of pairs, slices of slices.
-/
import Derived.Test.YthfjkdgopkmgoaaTLi
import Derived.Test.YthfjkdgopkmgoaaTPw
namespace Go.Sl
open Go.ChangeShapes Go.WideShapes Go.RowKit Go.Deep Go.Joins

section
variable {H : Type} {enc : TypeId × Value → H} {P : Program} {w : World} {base : Nat} {spare : Nat → Bool} {held : Bool}

/-- The cells of an array of two bytes. -/
theorem open_pair_cells {t e : TypeId} {fuel : Nat} {cs : List Value} {x : DataW H × List MemPlace} (ht : P.underlying t = some (.array 2 e)) (he : P.underlying e = some (.int .u8)) (ce : P.cellsOf e = 1) (hl : cs.length = 2)
    (h : DataW.trod enc P w base spare held fuel t cs = some x) : ∃ p : UInt8 × UInt8, cs = [.int .u8 (p.1.toNat : Int), .int .u8 (p.2.toNat : Int)] := by
  obtain ⟨a0, a1, rfl⟩ : ∃ a0 a1, cs = [a0, a1] := by
    match cs, hl with
    | [a, b], _ => exact ⟨a, b, rfl⟩
  obtain ⟨xs, m2, -, -, -, hxl, hg⟩ := DataW.trod_array ht h
  have g0 := hg 0 (by decide)
  have g1 := hg 1 (by decide)
  rw [ce, List.getElem?_eq_getElem (by rw [hxl]; decide)] at g0 g1
  obtain ⟨x, h0, -, w0⟩ := DataW.trod_int (cs := [a0]) he g0
  obtain ⟨y, h1, -, w1⟩ := DataW.trod_int (cs := [a1]) he g1
  obtain rfl := (List.cons.inj h0).1
  obtain rfl := (List.cons.inj h1).1
  exact ⟨(byteOf x, byteOf y), by rw [byteOf_eq w0, byteOf_eq w1]⟩
/-- A slice of pairs of bytes. -/
theorem open_pairs {t q e : TypeId} {fuel : Nat} {cs : List Value} {x : DataW H × List MemPlace} (ht : P.underlying t = some (.slice q)) (hq : P.underlying q = some (.array 2 e)) (he : P.underlying e = some (.int .u8)) (ce : P.cellsOf e = 1) (cq : P.cellsOf q = 2)
    (h : DataW.trod enc P w base spare held fuel t cs = some x) :
    ∃ (A : Option Addr) (c : Nat) (l : List (UInt8 × UInt8)), cs = [.slice A l.length c] ∧ l.length ≤ maxLen ∧ (Rd A (pairsV l)).p w := by
  rcases open_slice ht h with ⟨rfl, _⟩ | ⟨a, len, cap, m, k, D, Pl, rfl, _, hl, hm, hmm, _, hi⟩
  · exact ⟨none, 0, [], rfl, Nat.zero_le _, fun j u hu => by simp [pairsV] at hu⟩
  · have hle : len ≤ m := by rw [hmm]; split <;> omega
    have each : ∀ i : Nat, ∃ x : UInt8 × UInt8, i < len → ∀ j, j < 2 → w.cell? ((a.add (i * 2)).add j) = [Value.int .u8 (x.1.toNat : Int), .int .u8 (x.2.toNat : Int)][j]? := fun i => by
      by_cases h1 : i < len
      · obtain ⟨cs', hc, htr⟩ := hi i (by omega)
        rw [cq] at hc
        obtain ⟨_, hcl, hat⟩ := World.cells?_some hc
        obtain ⟨p, rfl⟩ := open_pair_cells hq he ce (by simpa using hcl) htr
        exact ⟨p, fun _ j hj => hat j hj⟩
      · exact ⟨(0, 0), fun h => absurd h h1⟩
    obtain ⟨F, hF⟩ := Classical.axiomOfChoice each
    have hlen : ((List.range len).map F).length = len := by simp
    have get : ∀ i, i < len → ((List.range len).map F).getD i (0, 0) = F i := fun i h => by simp [h]
    refine ⟨some a, cap, (List.range len).map F, by rw [hlen], by rw [hlen]; omega, fun j u hu => ⟨a, rfl, ?_⟩⟩
    have hj : j < len * 2 := by
      have := (List.getElem?_eq_some_iff.1 hu).1
      rwa [pairsV_len, hlen] at this
    have hd : j / 2 < len := by omega
    have hu2 := hu
    rw [show j = j / 2 * 2 + j % 2 from by omega, pairsV_get _ _ _ (by rw [hlen]; exact hd) (by omega), get _ hd] at hu2
    rw [← hu2, ← hF _ hd (j % 2) (by omega), addadd]
    congr 2
    omega
/-- A slice of slices of bytes. -/
theorem open_rowsV {r : Reach} {b0 : Nat} {t e q : TypeId} {v : Value} {d : DataW H} {ps : List MemPlace} (ht : P.underlying t = some (.slice e)) (he : P.underlying e = some (.slice q)) (hq : P.underlying q = some (.int .u8)) (ce : P.cellsOf e = 1) (cq : P.cellsOf q = 1)
    (hv : Value.okWide P w r b0 t v) (h : DataW.Trod enc P w base spare held t v d ps) :
    ∃ (A : Option Addr) (c : Nat) (hs : List Hd) (ls : List (List UInt8)), v = .slice A ls.length c ∧ hs.length = ls.length ∧ ls.length ≤ maxLen ∧ (∀ i, (ls.getD i []).length ≤ maxLen) ∧ (Rd A (rowsV hs (B8 ls))).p w ∧ (KidsR hs (B8 ls)).p w := by
  obtain ⟨A, n, c, rfl⟩ := okWide_slice ht hv
  obtain ⟨fuel, hf⟩ := h
  obtain ⟨B, c', hs, ls, hcs, h1, -, h2, h3, h4, h5⟩ := open_rows ht he hq ce cq hf
  have e : Value.slice A n c = .slice B ls.length c' := (List.cons.inj (show [Value.slice A n c] = [.slice B ls.length c'] from by simpa [Value.cells] using hcs)).1
  exact ⟨B, c', hs, ls, e, h1, h2, h3, h4, h5⟩
/-- A slice of slices of pairs. -/
theorem open_pairss {r : Reach} {b0 : Nat} {t s q e : TypeId} {v : Value} {d : DataW H} {ps : List MemPlace} (ht : P.underlying t = some (.slice s)) (hs : P.underlying s = some (.slice q)) (hq : P.underlying q = some (.array 2 e)) (he : P.underlying e = some (.int .u8)) (ce : P.cellsOf e = 1) (cq : P.cellsOf q = 2) (cs1 : P.cellsOf s = 1)
    (hv : Value.okWide P w r b0 t v) (h : DataW.Trod enc P w base spare held t v d ps) :
    ∃ (A : Option Addr) (c : Nat) (hs : List Hd) (ls : List (List (UInt8 × UInt8))), v = .slice A ls.length c ∧ hs.length = ls.length ∧ ls.length ≤ maxLen ∧ (∀ i, (ls.getD i []).length ≤ maxLen) ∧ (Rd A (rowsP hs ls)).p w ∧ (KidsR hs (ls.map pairsV)).p w := by
  obtain ⟨A, n, c, rfl⟩ := okWide_slice ht hv
  obtain ⟨fuel, hf⟩ := h
  have hf' : DataW.trod enc P w base spare held fuel t [.slice A n c] = some (d, ps) := by simpa [Value.cells] using hf
  rcases open_slice ht hf' with ⟨hcs, _⟩ | ⟨a, len, cap, m, k, D, Pl, hcs, _, hl, hm, hmm, _, hi⟩
  · have e := (List.cons.inj hcs).1
    exact ⟨none, 0, [], [], e, rfl, Nat.zero_le _, fun i => by simp, fun j u hu => by simp [rowsP] at hu, fun i h v hh => by simp at hh⟩
  · have e := (List.cons.inj hcs).1
    have hle : len ≤ m := by rw [hmm]; split <;> omega
    have each : ∀ i : Nat, ∃ r : Option Addr × Nat × List (UInt8 × UInt8), i < len → (w.cell? (a.add i) = some (.slice r.1 r.2.2.length r.2.1) ∧ r.2.2.length ≤ maxLen ∧ (Rd r.1 (pairsV r.2.2)).p w) := fun i => by
      by_cases h1 : i < len
      · obtain ⟨cs', hc, ht'⟩ := hi i (by omega)
        obtain ⟨A, c, l, rfl, h2, h3⟩ := open_pairs hs hq he ce cq ht'
        obtain ⟨_, hcl, hat⟩ := World.cells?_some hc
        have := hat 0 (by rw [cs1]; decide)
        rw [cs1, Nat.mul_one] at this
        refine ⟨(A, c, l), fun _ => ⟨?_, h2, h3⟩⟩
        rw [addadd, Nat.add_zero] at this
        exact this
      · exact ⟨(none, 0, []), fun h => absurd h h1⟩
    obtain ⟨F, hF⟩ := Classical.axiomOfChoice each
    have g1 : ∀ i, i < len → ((List.range len).map fun i => ((F i).1, (F i).2.1))[i]? = some ((F i).1, (F i).2.1) := fun i h => by simp [h]
    have g2 : ∀ i, i < len → ((List.range len).map fun i => (F i).2.2)[i]? = some (F i).2.2 := fun i h => by simp [h]
    refine ⟨some a, cap, (List.range len).map fun i => ((F i).1, (F i).2.1), (List.range len).map fun i => (F i).2.2, by rw [e]; simp, by simp, by simp; omega, fun i => ?_, fun j u hu => ⟨a, rfl, ?_⟩, fun i h v hh hv => ?_⟩
    · by_cases h1 : i < len
      · rw [List.getD_eq_getElem?_getD, g2 i h1]
        exact (hF i h1).2.1
      · rw [List.getD_eq_getElem?_getD, List.getElem?_eq_none (by simp; omega)]
        exact Nat.zero_le _
    · have hj : j < len := by
        have := (List.getElem?_eq_some_iff.1 hu).1
        simpa [rowsP] using this
      rw [rowsP_get (by simp) (by simpa using hj)] at hu
      injection hu with hu
      subst hu
      rw [List.getD_eq_getElem?_getD, List.getD_eq_getElem?_getD, g1 j hj, g2 j hj]
      exact (hF j hj).1
    · have h1 : i < len := by
        have := (List.getElem?_eq_some_iff.1 hh).1
        simpa using this
      rw [g1 i h1] at hh
      injection hh with hh
      subst hh
      have : (((List.range len).map fun i => (F i).2.2).map pairsV)[i]? = some (pairsV (F i).2.2) := by simp [h1]
      rw [this] at hv
      injection hv with hv
      subst hv
      exact (hF i h1).2.2
end
end Go.Sl
