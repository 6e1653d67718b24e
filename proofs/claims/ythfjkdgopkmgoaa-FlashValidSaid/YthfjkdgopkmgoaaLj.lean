/-
  From the readings of a call's arguments to facts: three numbers, bytes, a script of steps.
-/
import Derived.Test.YthfjkdgopkmgoaaLi
import Derived.Test.YthfjkdgopkmgoaaSlJ
namespace Go.Sl
open Go.ChangeShapes Go.WideShapes Go.RowKit Go.Deep Go.Joins

section
variable {H : Type} {enc : TypeId × Value → H} {P : Program} {w : World} {base : Nat} {spare : Nat → Bool} {held : Bool}

theorem wf_i32 {n : Int} (h : (Lit.int .i32 n).wf = true) : -2147483648 ≤ n ∧ n ≤ 2147483647 := by
  simp [Lit.wf, IntKind.min, IntKind.max, IntKind.signed, IntKind.bits] at h
  omega
/-- An array of three numbers of 32 bits. -/
theorem open_i32x3 {r : Reach} {b0 : Nat} {t e : TypeId} {v : Value} {d : DataW H} {ps : List MemPlace} (ht : P.underlying t = some (.array 3 e)) (he : P.underlying e = some (.int .i32)) (ce : P.cellsOf e = 1) (ct : P.cellsOf t = 3)
    (hv : Value.okWide P w r b0 t v) (h : DataW.Trod enc P w base spare held t v d ps) :
    ∃ x y z : Int, v = .agg (List.toArray [.int .i32 x, .int .i32 y, .int .i32 z]) ∧ (-2147483648 ≤ x ∧ x ≤ 2147483647) ∧ (-2147483648 ≤ y ∧ y ≤ 2147483647) ∧ (-2147483648 ≤ z ∧ z ≤ 2147483647) := by
  simp only [Value.okWide, ht] at hv
  obtain ⟨cs, rfl, hsz, -⟩ := hv
  rw [ct] at hsz
  obtain ⟨ls⟩ := cs
  obtain ⟨a0, a1, a2, rfl⟩ : ∃ a0 a1 a2, ls = [a0, a1, a2] := by
    match ls, hsz with
    | [a, b, c], _ => exact ⟨a, b, c, rfl⟩
  obtain ⟨fuel, hf⟩ := h
  obtain ⟨xs, m2, -, -, -, hxl, hg⟩ := DataW.trod_array ht hf
  have g0 := hg 0 (by decide)
  have g1 := hg 1 (by decide)
  have g2 := hg 2 (by decide)
  rw [ce, List.getElem?_eq_getElem (by rw [hxl]; decide)] at g0 g1 g2
  obtain ⟨x, h0, -, w0⟩ := DataW.trod_int (cs := [a0]) he g0
  obtain ⟨y, h1, -, w1⟩ := DataW.trod_int (cs := [a1]) he g1
  obtain ⟨z, h2, -, w2⟩ := DataW.trod_int (cs := [a2]) he g2
  obtain rfl := (List.cons.inj h0).1
  obtain rfl := (List.cons.inj h1).1
  obtain rfl := (List.cons.inj h2).1
  exact ⟨x, y, z, rfl, wf_i32 w0, wf_i32 w1, wf_i32 w2⟩
/-- Bytes. -/
theorem open_bytesV {r : Reach} {b0 : Nat} {t e : TypeId} {v : Value} {d : DataW H} {ps : List MemPlace} (ht : P.underlying t = some (.slice e)) (he : P.underlying e = some (.int .u8)) (ce : P.cellsOf e = 1)
    (hv : Value.okWide P w r b0 t v) (h : DataW.Trod enc P w base spare held t v d ps) :
    ∃ (A : Option Addr) (c : Nat) (l : List UInt8), v = .slice A l.length c ∧ l.length ≤ c ∧ l.length ≤ maxLen ∧ (Rd A (U8 l)).p w := by
  obtain ⟨A, n, c, rfl⟩ := okWide_slice ht hv
  obtain ⟨fuel, hf⟩ := h
  obtain ⟨B, c', l, hcs, h1, h2, h3⟩ := open_U8 ht he ce hf
  have e : Value.slice A n c = .slice B l.length c' := (List.cons.inj (show [Value.slice A n c] = [.slice B l.length c'] from by simpa [Value.cells] using hcs)).1
  exact ⟨B, c', l, e, h1, h2, h3⟩
/-- A script: a slice of steps. -/
theorem open_steps {r : Reach} {b0 : Nat} {t q o b s : TypeId} {v : Value} {d : DataW H} {ps : List MemPlace} {f0 f1 f2 f3 f4 f5 : Field} (ht : P.underlying t = some (.slice q))
    (hs : P.underlying q = some (.struct #[f0, f1, f2, f3, f4, f5])) (hone : oneCellFields P #[f0, f1, f2, f3, f4, f5] = true) (hC : P.cellsOf q = 6)
    (t0 : f0.type = o) (t1 : f1.type = b) (t2 : f2.type = b) (t3 : f3.type = s) (t4 : f4.type = o) (t5 : f5.type = s)
    (ho : P.underlying o = some .bool) (hb : P.underlying b = some (.int .u8)) (hs' : P.underlying s = some (.slice b)) (cb : P.cellsOf b = 1)
    (hv : Value.okWide P w r b0 t v) (h : DataW.Trod enc P w base spare held t v d ps) :
    ∃ (A : Option Addr) (c : Nat) (l : List Stp6), v = .slice A l.length c ∧ l.length ≤ maxLen ∧ (∀ k, (l.getD k Stp6.zero).data.length ≤ (l.getD k Stp6.zero).yc ∧ (l.getD k Stp6.zero).data.length ≤ maxLen ∧ (l.getD k Stp6.zero).mask.length ≤ maxLen) ∧
      (Rd A (stepsV l)).p w ∧ (KidsR (stepsY l) (B8 (l.map Stp6.data))).p w ∧ (KidsR (stepsM l) (B8 (l.map Stp6.mask))).p w := by
  obtain ⟨A, n, c, rfl⟩ := okWide_slice ht hv
  obtain ⟨fuel, hf⟩ := h
  have hf' : DataW.trod enc P w base spare held fuel t [.slice A n c] = some (d, ps) := by simpa [Value.cells] using hf
  rcases open_slice ht hf' with ⟨hcs, _⟩ | ⟨a, len, cap, m, k, D, Pl, hcs, _, hl, hm, hmm, _, hi⟩
  · have e := (List.cons.inj hcs).1
    refine ⟨none, 0, [], e, Nat.zero_le _, fun k => ?_, fun j u hu => by simp [stepsV] at hu, fun i g v hg hv => by simp [stepsY] at hg, fun i g v hg hv => by simp [stepsM] at hg⟩
    simp [Stp6.zero]
  · have e := (List.cons.inj hcs).1
    have hle : len ≤ m := by rw [hmm]; split <;> omega
    have each : ∀ i : Nat, ∃ x : Stp6, i < len → ((∀ j, j < 6 → w.cell? ((a.add (i * 6)).add j) = x.cells[j]?) ∧ x.data.length ≤ x.yc ∧ x.data.length ≤ maxLen ∧ x.mask.length ≤ maxLen ∧ (Rd x.yA (U8 x.data)).p w ∧ (Rd x.mA (U8 x.mask)).p w) := fun i => by
      by_cases h1 : i < len
      · obtain ⟨cs', hc, htr⟩ := hi i (by omega)
        rw [hC] at hc
        obtain ⟨er, torn, se, at_, YA, yc, data, MA, mc, mask, rfl, q1, q2, q3, q4, q5⟩ := open_step_cells hs hone hC t0 t1 t2 t3 t4 t5 ho hb hs' cb htr
        obtain ⟨_, _, hat⟩ := World.cells?_some hc
        exact ⟨⟨er, se, at_, data, YA, yc, torn, mask, MA, mc⟩, fun _ => ⟨fun j hj => hat j hj, q1, q2, q3, q4, q5⟩⟩
      · exact ⟨Stp6.zero, fun h => absurd h h1⟩
    obtain ⟨F, hF⟩ := Classical.axiomOfChoice each
    have hlen : ((List.range len).map F).length = len := by simp
    have get : ∀ i, i < len → ((List.range len).map F).getD i Stp6.zero = F i := fun i h => by simp [h]
    refine ⟨some a, cap, (List.range len).map F, by rw [hlen]; exact e, by rw [hlen]; omega, fun k => ?_, fun j u hu => ⟨a, rfl, ?_⟩, fun i g v hg hv => ?_, fun i g v hg hv => ?_⟩
    · by_cases h1 : k < len
      · rw [get k h1]
        exact ⟨(hF k h1).2.1, (hF k h1).2.2.1, (hF k h1).2.2.2.1⟩
      · rw [List.getD_eq_getElem?_getD, List.getElem?_eq_none (by rw [hlen]; omega)]
        simp [Stp6.zero]
    · have hj : j < len * 6 := by
        have := (List.getElem?_eq_some_iff.1 hu).1
        rwa [stepsV_len, hlen] at this
      have hd : j / 6 < len := by omega
      have hu2 := hu
      rw [show j = j / 6 * 6 + j % 6 from by omega, stepsV_get _ _ _ (by rw [hlen]; exact hd) (by omega), get _ hd] at hu2
      rw [← hu2, ← (hF _ hd).1 (j % 6) (by omega), addadd]
      congr 2
      omega
    · have h1 : i < len := by
        have := (List.getElem?_eq_some_iff.1 hg).1
        simpa [stepsY] using this
      have hg2 : (stepsY ((List.range len).map F))[i]? = some ((F i).yA, (F i).yc) := by simp [stepsY, h1]
      have hv2 : (B8 (((List.range len).map F).map Stp6.data))[i]? = some (U8 (F i).data) := by simp [B8, h1]
      rw [hg2] at hg
      rw [hv2] at hv
      injection hg with hg
      injection hv with hv
      subst hg hv
      exact (hF i h1).2.2.2.2.1
    · have h1 : i < len := by
        have := (List.getElem?_eq_some_iff.1 hg).1
        simpa [stepsM] using this
      have hg2 : (stepsM ((List.range len).map F))[i]? = some ((F i).mA, (F i).mc) := by simp [stepsM, h1]
      have hv2 : (B8 (((List.range len).map F).map Stp6.mask))[i]? = some (U8 (F i).mask) := by simp [B8, h1]
      rw [hg2] at hg
      rw [hv2] at hv
      injection hg with hg
      injection hv with hv
      subst hg hv
      exact (hF i h1).2.2.2.2.2
end
end Go.Sl
