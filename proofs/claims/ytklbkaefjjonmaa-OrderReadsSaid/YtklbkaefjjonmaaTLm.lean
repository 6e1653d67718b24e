/-
  From the readings of a call's arguments to facts: slices of triples, a small number with a sign.
-/
import Derived.Test.YtklbkaefjjonmaaTLl
import Derived.Test.YtklbkaefjjonmaaTOn
namespace Go.Sl
open Go.ChangeShapes Go.WideShapes Go.RowKit Go.Deep Go.Joins

section
variable {H : Type} {enc : TypeId × Value → H} {P : Program} {w : World} {base : Nat} {spare : Nat → Bool} {held : Bool}

theorem wf_i8 {n : Int} (h : (Lit.int .i8 n).wf = true) : -128 ≤ n ∧ n ≤ 127 := by
  simp [Lit.wf, IntKind.min, IntKind.max, IntKind.signed, IntKind.bits] at h
  omega
theorem open_i8 {r : Reach} {b0 : Nat} {t : TypeId} {v : Value} {d : DataW H} {ps : List MemPlace} (ht : P.underlying t = some (.int .i8)) (hv : Value.okWide P w r b0 t v) (h : DataW.Trod enc P w base spare held t v d ps) : ∃ n : Int, v = .int .i8 n ∧ (-128 ≤ n ∧ n ≤ 127) := by
  obtain ⟨n, rfl, -, -, hw⟩ := open_int ht hv h
  exact ⟨n, rfl, wf_i8 hw⟩
/-- A slice of triples of bytes. -/
theorem open_tris {t q e : TypeId} {fuel : Nat} {cs : List Value} {x : DataW H × List MemPlace} (ht : P.underlying t = some (.slice q)) (hq : P.underlying q = some (.array 3 e)) (he : P.underlying e = some (.int .u8)) (ce : P.cellsOf e = 1) (cq : P.cellsOf q = 3)
    (h : DataW.trod enc P w base spare held fuel t cs = some x) :
    ∃ (A : Option Addr) (c : Nat) (l : List T3), cs = [.slice A l.length c] ∧ l.length ≤ maxLen ∧ (Rd A (triV l)).p w := by
  rcases open_slice ht h with ⟨rfl, _⟩ | ⟨a, len, cap, m, k, D, Pl, rfl, _, hl, hm, hmm, _, hi⟩
  · exact ⟨none, 0, [], rfl, Nat.zero_le _, fun j u hu => by simp [triV] at hu⟩
  · have hle : len ≤ m := by rw [hmm]; split <;> omega
    have each : ∀ i : Nat, ∃ x : T3, i < len → ∀ j, j < 3 → w.cell? ((a.add (i * 3)).add j) = (triC x)[j]? := fun i => by
      by_cases h1 : i < len
      · obtain ⟨cs', hc, htr⟩ := hi i (by omega)
        rw [cq] at hc
        obtain ⟨_, hcl, hat⟩ := World.cells?_some hc
        have g := open_arr8 hq he ce (by simpa using hcl) htr
        obtain ⟨x, h0⟩ := g 0 (by decide)
        obtain ⟨y, h1⟩ := g 1 (by decide)
        obtain ⟨z, h2⟩ := g 2 (by decide)
        refine ⟨(x, y, z), fun _ j hj => ?_⟩
        rw [hat j hj]
        match j, hj with
        | 0, _ => exact h0
        | 1, _ => exact h1
        | 2, _ => exact h2
      · exact ⟨(0, 0, 0), fun h => absurd h h1⟩
    obtain ⟨F, hF⟩ := Classical.axiomOfChoice each
    have hlen : ((List.range len).map F).length = len := by simp
    have get : ∀ i, i < len → ((List.range len).map F).getD i (0, 0, 0) = F i := fun i h => by simp [h]
    refine ⟨some a, cap, (List.range len).map F, by rw [hlen], by rw [hlen]; omega, fun j u hu => ⟨a, rfl, ?_⟩⟩
    have hj : j < len * 3 := by
      have := (List.getElem?_eq_some_iff.1 hu).1
      rwa [triV_len, hlen] at this
    have hd : j / 3 < len := by omega
    have hu2 := hu
    rw [show j = j / 3 * 3 + j % 3 from by omega, triV_get (by rw [hlen]; exact hd) (by omega), get _ hd] at hu2
    rw [← hu2, ← hF _ hd (j % 3) (by omega), addadd]
    congr 2
    omega
theorem open_trisV {r : Reach} {b0 : Nat} {t q e : TypeId} {v : Value} {d : DataW H} {ps : List MemPlace} (ht : P.underlying t = some (.slice q)) (hq : P.underlying q = some (.array 3 e)) (he : P.underlying e = some (.int .u8)) (ce : P.cellsOf e = 1) (cq : P.cellsOf q = 3)
    (hv : Value.okWide P w r b0 t v) (h : DataW.Trod enc P w base spare held t v d ps) :
    ∃ (A : Option Addr) (c : Nat) (l : List T3), v = .slice A l.length c ∧ l.length ≤ maxLen ∧ (Rd A (triV l)).p w := by
  obtain ⟨A, n, c, rfl⟩ := okWide_slice ht hv
  obtain ⟨fuel, hf⟩ := h
  obtain ⟨B, c', l, hcs, h2, h3⟩ := open_tris ht hq he ce cq hf
  have e : Value.slice A n c = .slice B l.length c' := (List.cons.inj (show [Value.slice A n c] = [.slice B l.length c'] from by simpa [Value.cells] using hcs)).1
  exact ⟨B, c', l, e, h2, h3⟩
end
end Go.Sl
