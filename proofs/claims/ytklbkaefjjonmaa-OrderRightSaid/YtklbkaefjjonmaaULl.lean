/-
  From the readings of a call's arguments to facts: numbers, slices of slices of numbers, small arrays.
-/
import Derived.Test.YtklbkaefjjonmaaULj
import Derived.Test.YtklbkaefjjonmaaUOa
namespace Go.Sl
open Go.ChangeShapes Go.WideShapes Go.RowKit Go.Deep Go.Joins

section
variable {H : Type} {enc : TypeId × Value → H} {P : Program} {w : World} {base : Nat} {spare : Nat → Bool} {held : Bool}

/-- A slice of numbers. -/
theorem open_I64 {t e : TypeId} {fuel : Nat} {cs : List Value} {x : DataW H × List MemPlace} (ht : P.underlying t = some (.slice e)) (he : P.underlying e = some (.int .i64)) (hc : P.cellsOf e = 1) (h : DataW.trod enc P w base spare held fuel t cs = some x) :
    ∃ (A : Option Addr) (c : Nat) (l : List Int), cs = [.slice A l.length c] ∧ l.length ≤ c ∧ l.length ≤ maxLen ∧ (Rd A (I64 l)).p w := by
  rcases open_ints ht he hc h with ⟨rfl, _⟩ | ⟨a, len, cap, zs, rfl, _, hl, hm, hz, _, hcell, hwz⟩
  · exact ⟨none, 0, [], rfl, Nat.le_refl _, Nat.zero_le _, fun j u hu => by simp [I64] at hu⟩
  · have hle : len ≤ zs.length := by rw [hz]; split <;> omega
    have hlen : (zs.take len).length = len := by rw [List.length_take]; omega
    refine ⟨some a, cap, zs.take len, by rw [hlen], by omega, by omega, fun j u hu => ⟨a, rfl, ?_⟩⟩
    have hj : j < len := by
      have := (List.getElem?_eq_some_iff.1 hu).1
      rwa [I64_len, hlen] at this
    rw [hcell j (by omega), ← hu, I64_get (by omega)]
    simp [List.getD_eq_getElem?_getD, hj]
theorem open_intsV {r : Reach} {b0 : Nat} {t e : TypeId} {v : Value} {d : DataW H} {ps : List MemPlace} (ht : P.underlying t = some (.slice e)) (he : P.underlying e = some (.int .i64)) (ce : P.cellsOf e = 1)
    (hv : Value.okWide P w r b0 t v) (h : DataW.Trod enc P w base spare held t v d ps) :
    ∃ (A : Option Addr) (c : Nat) (l : List Int), v = .slice A l.length c ∧ l.length ≤ maxLen ∧ (Rd A (I64 l)).p w := by
  obtain ⟨A, n, c, rfl⟩ := okWide_slice ht hv
  obtain ⟨fuel, hf⟩ := h
  obtain ⟨B, c', l, hcs, _, h2, h3⟩ := open_I64 ht he ce hf
  have e : Value.slice A n c = .slice B l.length c' := (List.cons.inj (show [Value.slice A n c] = [.slice B l.length c'] from by simpa [Value.cells] using hcs)).1
  exact ⟨B, c', l, e, h2, h3⟩
/-- A slice of slices of numbers. -/
theorem open_rowsI {t e q : TypeId} {fuel : Nat} {cs : List Value} {x : DataW H × List MemPlace} (ht : P.underlying t = some (.slice e)) (he : P.underlying e = some (.slice q)) (hq : P.underlying q = some (.int .i64)) (ce : P.cellsOf e = 1) (cq : P.cellsOf q = 1)
    (h : DataW.trod enc P w base spare held fuel t cs = some x) :
    ∃ (A : Option Addr) (c : Nat) (hs : List Hd) (ls : List (List Int)), cs = [.slice A ls.length c] ∧ hs.length = ls.length ∧ ls.length ≤ maxLen ∧ (∀ i, (ls.getD i []).length ≤ maxLen) ∧ (Rd A (rowsV hs (J8 ls))).p w ∧ (KidsR hs (J8 ls)).p w := by
  rcases open_slice ht h with ⟨rfl, _⟩ | ⟨a, len, cap, m, n, D, Pl, rfl, _, hl, hm, hmm, _, hi⟩
  · exact ⟨none, 0, [], [], rfl, rfl, Nat.zero_le _, fun i => by simp, fun j u hu => by simp [rowsV] at hu, fun i h v hh => by simp at hh⟩
  · have hle : len ≤ m := by rw [hmm]; split <;> omega
    have each : ∀ i : Nat, ∃ r : Option Addr × Nat × List Int, i < len → (w.cell? (a.add i) = some (.slice r.1 r.2.2.length r.2.1) ∧ r.2.2.length ≤ maxLen ∧ (Rd r.1 (I64 r.2.2)).p w) := fun i => by
      by_cases h1 : i < len
      · obtain ⟨cs', hc, ht'⟩ := hi i (by omega)
        obtain ⟨A, c, l, rfl, _, h2, h3⟩ := open_I64 he hq cq ht'
        obtain ⟨_, hcl, hat⟩ := World.cells?_some hc
        have := hat 0 (by rw [ce]; decide)
        rw [ce, Nat.mul_one] at this
        refine ⟨(A, c, l), fun _ => ⟨?_, h2, h3⟩⟩
        rw [addadd, Nat.add_zero] at this
        exact this
      · exact ⟨(none, 0, []), fun h => absurd h h1⟩
    obtain ⟨F, hF⟩ := Classical.axiomOfChoice each
    have g1 : ∀ i, i < len → ((List.range len).map fun i => ((F i).1, (F i).2.1))[i]? = some ((F i).1, (F i).2.1) := fun i h => by simp [h]
    have g2 : ∀ i, i < len → ((List.range len).map fun i => (F i).2.2)[i]? = some (F i).2.2 := fun i h => by simp [h]
    refine ⟨some a, cap, (List.range len).map fun i => ((F i).1, (F i).2.1), (List.range len).map fun i => (F i).2.2, by simp, by simp, by simp; omega, fun i => ?_, fun j u hu => ⟨a, rfl, ?_⟩, fun i h v hh hv => ?_⟩
    · by_cases h1 : i < len
      · rw [List.getD_eq_getElem?_getD, g2 i h1]
        exact (hF i h1).2.1
      · rw [List.getD_eq_getElem?_getD, List.getElem?_eq_none (by simp; omega)]
        exact Nat.zero_le _
    · have hj : j < len := by
        have := (List.getElem?_eq_some_iff.1 hu).1
        rw [rowsV_len (by rw [J8_len]; simp), J8_len] at this
        simpa using this
      rw [rowsJ_get (by simp) (by simpa using hj)] at hu
      injection hu with hu
      subst hu
      rw [List.getD_eq_getElem?_getD, List.getD_eq_getElem?_getD, g1 j hj, g2 j hj]
      exact (hF j hj).1
    · have h1 : i < len := by
        have := (List.getElem?_eq_some_iff.1 hh).1
        simpa using this
      rw [g1 i h1] at hh
      injection hh with hh
      subst hh
      have : (J8 ((List.range len).map fun i => (F i).2.2))[i]? = some (I64 (F i).2.2) := by simp [J8, h1]
      rw [this] at hv
      injection hv with hv
      subst hv
      exact (hF i h1).2.2
theorem open_rowsIV {r : Reach} {b0 : Nat} {t e q : TypeId} {v : Value} {d : DataW H} {ps : List MemPlace} (ht : P.underlying t = some (.slice e)) (he : P.underlying e = some (.slice q)) (hq : P.underlying q = some (.int .i64)) (ce : P.cellsOf e = 1) (cq : P.cellsOf q = 1)
    (hv : Value.okWide P w r b0 t v) (h : DataW.Trod enc P w base spare held t v d ps) :
    ∃ (A : Option Addr) (c : Nat) (hs : List Hd) (ls : List (List Int)), v = .slice A ls.length c ∧ hs.length = ls.length ∧ ls.length ≤ maxLen ∧ (∀ i, (ls.getD i []).length ≤ maxLen) ∧ (Rd A (rowsV hs (J8 ls))).p w ∧ (KidsR hs (J8 ls)).p w := by
  obtain ⟨A, n, c, rfl⟩ := okWide_slice ht hv
  obtain ⟨fuel, hf⟩ := h
  obtain ⟨B, c', hs, ls, hcs, h1, h2, h3, h4, h5⟩ := open_rowsI ht he hq ce cq hf
  have e : Value.slice A n c = .slice B ls.length c' := (List.cons.inj (show [Value.slice A n c] = [.slice B ls.length c'] from by simpa [Value.cells] using hcs)).1
  exact ⟨B, c', hs, ls, e, h1, h2, h3, h4, h5⟩
/-- The cells of an array of small numbers. -/
theorem open_arr8 {n : Nat} {t e : TypeId} {fuel : Nat} {cs : List Value} {x : DataW H × List MemPlace} (ht : P.underlying t = some (.array n e)) (he : P.underlying e = some (.int .u8)) (ce : P.cellsOf e = 1) (hl : cs.length = n)
    (h : DataW.trod enc P w base spare held fuel t cs = some x) : ∀ i, i < n → ∃ y : UInt8, cs[i]? = some (.int .u8 (y.toNat : Int)) := by
  intro i hi
  obtain ⟨xs, m2, -, -, -, hxl, hg⟩ := DataW.trod_array ht h
  have g := hg i hi
  rw [ce, List.getElem?_eq_getElem (by rw [hxl]; exact hi)] at g
  have e1 : (cs.drop (i * 1)).take 1 = [cs[i]'(by omega)] := by
    rw [Nat.mul_one, List.drop_eq_getElem_cons (by omega), List.take_succ_cons, List.take_zero]
  rw [e1] at g
  obtain ⟨z, hz, -, wz⟩ := DataW.trod_int he g
  exact ⟨byteOf z, by rw [List.getElem?_eq_getElem (by omega), (List.cons.inj hz).1, byteOf_eq wz]⟩
theorem open_arrV {n : Nat} {r : Reach} {b0 : Nat} {t e : TypeId} {v : Value} {d : DataW H} {ps : List MemPlace} (ht : P.underlying t = some (.array n e)) (he : P.underlying e = some (.int .u8)) (ce : P.cellsOf e = 1) (ct : P.cellsOf t = n)
    (hv : Value.okWide P w r b0 t v) (h : DataW.Trod enc P w base spare held t v d ps) : ∃ ls : List Value, v = .agg (List.toArray ls) ∧ ls.length = n ∧ ∀ i, i < n → ∃ y : UInt8, ls[i]? = some (.int .u8 (y.toNat : Int)) := by
  simp only [Value.okWide, ht] at hv
  obtain ⟨cs, rfl, hsz, -⟩ := hv
  rw [ct] at hsz
  obtain ⟨ls⟩ := cs
  obtain ⟨fuel, hf⟩ := h
  exact ⟨ls, rfl, hsz, open_arr8 ht he ce hsz hf⟩
/-- An array of two bytes, of three. -/
theorem open_u8x2 {r : Reach} {b0 : Nat} {t e : TypeId} {v : Value} {d : DataW H} {ps : List MemPlace} (ht : P.underlying t = some (.array 2 e)) (he : P.underlying e = some (.int .u8)) (ce : P.cellsOf e = 1) (ct : P.cellsOf t = 2)
    (hv : Value.okWide P w r b0 t v) (h : DataW.Trod enc P w base spare held t v d ps) : ∃ x y : UInt8, v = .agg (List.toArray [.int .u8 (x.toNat : Int), .int .u8 (y.toNat : Int)]) := by
  obtain ⟨ls, rfl, hl, hi⟩ := open_arrV ht he ce ct hv h
  obtain ⟨x, h0⟩ := hi 0 (by decide)
  obtain ⟨y, h1⟩ := hi 1 (by decide)
  match ls, hl, h0, h1 with
  | [a, b], _, h0, h1 =>
    simp at h0 h1
    exact ⟨x, y, by rw [h0, h1]⟩
theorem open_u8x3 {r : Reach} {b0 : Nat} {t e : TypeId} {v : Value} {d : DataW H} {ps : List MemPlace} (ht : P.underlying t = some (.array 3 e)) (he : P.underlying e = some (.int .u8)) (ce : P.cellsOf e = 1) (ct : P.cellsOf t = 3)
    (hv : Value.okWide P w r b0 t v) (h : DataW.Trod enc P w base spare held t v d ps) : ∃ x y z : UInt8, v = .agg (List.toArray [.int .u8 (x.toNat : Int), .int .u8 (y.toNat : Int), .int .u8 (z.toNat : Int)]) := by
  obtain ⟨ls, rfl, hl, hi⟩ := open_arrV ht he ce ct hv h
  obtain ⟨x, h0⟩ := hi 0 (by decide)
  obtain ⟨y, h1⟩ := hi 1 (by decide)
  obtain ⟨z, h2⟩ := hi 2 (by decide)
  match ls, hl, h0, h1, h2 with
  | [a, b, c], _, h0, h1, h2 =>
    simp at h0 h1 h2
    exact ⟨x, y, z, by rw [h0, h1, h2]⟩
end
end Go.Sl
