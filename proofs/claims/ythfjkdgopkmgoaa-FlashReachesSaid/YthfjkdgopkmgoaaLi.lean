/-
  From the readings of a call's arguments to the facts of the small separation logic.
-/
import Derived.Test.YthfjkdgopkmgoaaSlH
import Derived.ProofKit
import Derived.Deep.Slices
import Derived.Below
import Derived.OpenShut
import Derived.Lib.SmallJoins
import Derived.ChangeArms
namespace Go.Sl
open Go.ChangeShapes Go.WideShapes Go.RowKit Go.Deep

theorem cell_lt {w : World} {a : Addr} {v : Value} (h : w.cell? a = some v) : a.block < w.heap.size := by
  rcases Nat.lt_or_ge a.block w.heap.size with h1 | h1
  · exact h1
  · unfold World.cell? at h
    rw [Array.getElem?_eq_none h1] at h
    simp at h
theorem Rd.lt {w : World} {A : Option Addr} {xs : List Value} (h : (Rd A xs).p w) {k : Nat} (hk : (Rd A xs).fp k) : k < w.heap.size := by
  obtain ⟨hne, a, rfl, rfl⟩ := hk
  cases xs with
  | nil => exact absurd rfl hne
  | cons u us =>
    obtain ⟨b, hb, hc⟩ := h 0 u rfl
    cases hb
    have := cell_lt hc
    rwa [addblock] at this
theorem KidsR.lt {w : World} {hs : List Hd} {vss : List (List Value)} (h : (KidsR hs vss).p w) {k : Nat} (hk : (KidsR hs vss).fp k) : k < w.heap.size := by
  obtain ⟨i, hd, v, h1, h2, h3⟩ := hk
  exact Rd.lt (h i hd v h1 h2) h3

/-- The state at a call that owns nothing. -/
theorem Sat.start {w : World} {R : List Pr} (hr : ∀ r ∈ R, r.p w) (hf : ∀ r ∈ R, ∀ k, r.fp k → k < w.heap.size) : Sat (ownBase w R []) w R [] :=
  ⟨⟨rfl, rfl, rfl, Nat.le_refl _, fun _ _ _ => rfl⟩, hr, fun r h k hk => ⟨hf r h k hk, .inr (.inr ⟨r, h, hk⟩)⟩, fun i c h => by simp at h, fun i c h => by simp at h, fun i j c d h => by simp at h, fun r _ j c h => by simp at h⟩
theorem Sat.below {w w' : World} {R R' H' : List Pr} (h : Sat (ownBase w R []) w' R' H') : Below w.heap.size w w' :=
  ⟨h.ext.os, h.ext.tape, h.ext.output, h.ext.size, fun k hk => h.ext.block k hk (fun ⟨i, c, hi, _⟩ => by simp at hi)⟩

section
variable {H : Type} {enc : TypeId × Value → H} {P : Program} {w : World} {base : Nat} {spare : Nat → Bool} {held : Bool}

def byteOf (n : Int) : UInt8 := UInt8.ofNat n.toNat
theorem byteOf_eq {n : Int} (h : (Lit.int .u8 n).wf = true) : Value.int .u8 ((byteOf n).toNat : Int) = .int .u8 n := by
  have : 0 ≤ n ∧ n ≤ 255 := by
    simp [Lit.wf, IntKind.min, IntKind.max, IntKind.signed, IntKind.bits] at h
    omega
  unfold byteOf
  congr 1
  simp
  omega

/-- A slice of bytes. -/
theorem open_U8 {t e : TypeId} {fuel : Nat} {cs : List Value} {x : DataW H × List MemPlace} (ht : P.underlying t = some (.slice e)) (he : P.underlying e = some (.int .u8)) (hc : P.cellsOf e = 1) (h : DataW.trod enc P w base spare held fuel t cs = some x) :
    ∃ (A : Option Addr) (c : Nat) (l : List UInt8), cs = [.slice A l.length c] ∧ l.length ≤ c ∧ l.length ≤ maxLen ∧ (Rd A (U8 l)).p w := by
  rcases open_ints ht he hc h with ⟨rfl, _⟩ | ⟨a, len, cap, zs, rfl, _, hl, hm, hz, _, hcell, hwz⟩
  · exact ⟨none, 0, [], rfl, Nat.le_refl _, Nat.zero_le _, fun j u hu => by simp [U8] at hu⟩
  · have hle : len ≤ zs.length := by rw [hz]; split <;> omega
    have hlen : ((zs.take len).map byteOf).length = len := by rw [List.length_map, List.length_take]; omega
    refine ⟨some a, cap, (zs.take len).map byteOf, by rw [hlen], by omega, by omega, fun j u hu => ⟨a, rfl, ?_⟩⟩
    have hj : j < len := by
      have := (List.getElem?_eq_some_iff.1 hu).1
      rwa [U8_len, hlen] at this
    rw [hcell j (by omega), ← hu]
    have hw := hwz _ (List.getElem_mem (show j < zs.length by omega))
    have hu2 : (U8 ((zs.take len).map byteOf))[j]? = some (.int .u8 ((byteOf (zs[j]'(by omega))).toNat : Int)) := by
      simp [U8, hj, show j < zs.length from by omega]
    rw [hu2, byteOf_eq hw]
    simp [List.getD_eq_getElem?_getD, show j < zs.length from by omega]
/-- A slice of slices of bytes. -/
theorem open_rows {t e q : TypeId} {fuel : Nat} {cs : List Value} {x : DataW H × List MemPlace} (ht : P.underlying t = some (.slice e)) (he : P.underlying e = some (.slice q)) (hq : P.underlying q = some (.int .u8)) (ce : P.cellsOf e = 1) (cq : P.cellsOf q = 1)
    (h : DataW.trod enc P w base spare held fuel t cs = some x) :
    ∃ (A : Option Addr) (c : Nat) (hs : List Hd) (ls : List (List UInt8)), cs = [.slice A ls.length c] ∧ hs.length = ls.length ∧ ls.length ≤ c ∧ ls.length ≤ maxLen ∧ (∀ i, (ls.getD i []).length ≤ maxLen) ∧ (Rd A (rowsV hs (B8 ls))).p w ∧ (KidsR hs (B8 ls)).p w := by
  rcases open_slice ht h with ⟨rfl, _⟩ | ⟨a, len, cap, m, n, D, Pl, rfl, _, hl, hm, hmm, _, hi⟩
  · exact ⟨none, 0, [], [], rfl, rfl, Nat.le_refl _, Nat.zero_le _, fun i => by simp, fun j u hu => by simp [rowsV] at hu, fun i h v hh => by simp at hh⟩
  · have hle : len ≤ m := by rw [hmm]; split <;> omega
    have each : ∀ i : Nat, ∃ r : Option Addr × Nat × List UInt8, i < len → (w.cell? (a.add i) = some (.slice r.1 r.2.2.length r.2.1) ∧ r.2.2.length ≤ maxLen ∧ (Rd r.1 (U8 r.2.2)).p w) := fun i => by
      by_cases h1 : i < len
      · obtain ⟨cs', hc, ht'⟩ := hi i (by omega)
        obtain ⟨A, c, l, rfl, _, h2, h3⟩ := open_U8 he hq cq ht'
        obtain ⟨_, hcl, hat⟩ := World.cells?_some hc
        have := hat 0 (by rw [ce]; decide)
        rw [ce, Nat.mul_one] at this
        refine ⟨(A, c, l), fun _ => ⟨?_, h2, h3⟩⟩
        rw [addadd, Nat.add_zero] at this
        exact this
      · exact ⟨(none, 0, []), fun h => absurd h h1⟩
    obtain ⟨F, hF⟩ := Classical.axiomOfChoice each
    have g1 : ∀ i, i < len → ((List.range len).map fun i => ((F i).1, (F i).2.1))[i]? = some ((F i).1, (F i).2.1) := fun i h => by simp [h]
    have g2 : ∀ i, i < len → ((List.range len).map fun i => (F i).2.2)[i]? = some (F i).2.2 := fun i h => by simp [h]
    refine ⟨some a, cap, (List.range len).map fun i => ((F i).1, (F i).2.1), (List.range len).map fun i => (F i).2.2, by simp, by simp, by simpa using hl, by simp; omega, fun i => ?_, fun j u hu => ⟨a, rfl, ?_⟩, fun i h v hh hv => ?_⟩
    · by_cases h1 : i < len
      · rw [List.getD_eq_getElem?_getD, g2 i h1]
        exact (hF i h1).2.1
      · rw [List.getD_eq_getElem?_getD, List.getElem?_eq_none (by simp; omega)]
        exact Nat.zero_le _
    · have hj : j < len := by
        have := (List.getElem?_eq_some_iff.1 hu).1
        rw [rowsV_len (by rw [B8_len]; simp), B8_len] at this
        simpa using this
      rw [rows8_get (by simp) (by simpa using hj)] at hu
      injection hu with hu
      subst hu
      rw [List.getD_eq_getElem?_getD, List.getD_eq_getElem?_getD, g1 j hj, g2 j hj]
      exact (hF j hj).1
    · have h1 : i < len := by
        have := (List.getElem?_eq_some_iff.1 hh).1
        simpa using this
      rw [g1 i h1] at hh
      injection hh with hh
      subst hh
      have : (B8 ((List.range len).map fun i => (F i).2.2))[i]? = some (U8 (F i).2.2) := by simp [B8, h1]
      rw [this] at hv
      injection hv with hv
      subst hv
      exact (hF i h1).2.2
/-- An array of two slices of bytes. -/
theorem open_bytes2 {r : Reach} {b0 : Nat} {t e q : TypeId} {v : Value} {d : DataW H} {ps : List MemPlace} (ht : P.underlying t = some (.array 2 e)) (he : P.underlying e = some (.slice q)) (hq : P.underlying q = some (.int .u8)) (ce : P.cellsOf e = 1) (cq : P.cellsOf q = 1) (ct : P.cellsOf t = 2)
    (hv : Value.okWide P w r b0 t v) (h : DataW.Trod enc P w base spare held t v d ps) :
    ∃ (A : Option Addr) (c : Nat) (k : List UInt8) (B : Option Addr) (c' : Nat) (l : List UInt8), v = .agg #[.slice A k.length c, .slice B l.length c'] ∧ k.length ≤ c ∧ l.length ≤ c' ∧ k.length ≤ maxLen ∧ l.length ≤ maxLen ∧ (Rd A (U8 k)).p w ∧ (Rd B (U8 l)).p w := by
  simp only [Value.okWide, ht] at hv
  obtain ⟨cs, rfl, hsz, -⟩ := hv
  rw [ct] at hsz
  obtain ⟨ls⟩ := cs
  obtain ⟨a0, a1, rfl⟩ : ∃ a0 a1, ls = [a0, a1] := by
    match ls, hsz with
    | [a, b], _ => exact ⟨a, b, rfl⟩
  obtain ⟨fuel, hf⟩ := h
  obtain ⟨xs, m2, -, -, -, hxl, hg⟩ := DataW.trod_array ht hf
  have g0 := hg 0 (by decide)
  have g1 := hg 1 (by decide)
  rw [ce, List.getElem?_eq_getElem (by rw [hxl]; decide)] at g0 g1
  obtain ⟨PA, pc, pl, ha0, h1, h2, fP⟩ := open_U8 (cs := [a0]) he hq cq g0
  obtain ⟨QA, qc, ql, ha1, h3, h4, fQ⟩ := open_U8 (cs := [a1]) he hq cq g1
  obtain rfl := (List.cons.inj ha0).1
  obtain rfl := (List.cons.inj ha1).1
  exact ⟨PA, pc, pl, QA, qc, ql, rfl, h1, h3, h2, h4, fP, fQ⟩

/-- The cells of a struct of six fields of one cell each. -/
theorem open_cells6 {t : TypeId} {f0 f1 f2 f3 f4 f5 : Field} {fuel : Nat} {cs : List Value} {x : DataW H × List MemPlace} (hs : P.underlying t = some (.struct #[f0, f1, f2, f3, f4, f5])) (hone : oneCellFields P #[f0, f1, f2, f3, f4, f5] = true) (hC : P.cellsOf t = 6)
    (h : DataW.trod enc P w base spare held fuel t cs = some x) :
    ∃ (v0 v1 v2 v3 v4 v5 : Value) (y0 y1 y2 y3 y4 y5 : DataW H × List MemPlace) (n : Nat), cs = [v0, v1, v2, v3, v4, v5] ∧
      DataW.trod enc P w base spare held n f0.type [v0] = some y0 ∧ DataW.trod enc P w base spare held n f1.type [v1] = some y1 ∧ DataW.trod enc P w base spare held n f2.type [v2] = some y2 ∧
      DataW.trod enc P w base spare held n f3.type [v3] = some y3 ∧ DataW.trod enc P w base spare held n f4.type [v4] = some y4 ∧ DataW.trod enc P w base spare held n f5.type [v5] = some y5 := by
  obtain ⟨xs, n, -, -, hl, hxl, hf⟩ := DataW.trod_struct hs h
  rw [hC] at hl
  match cs, hl, xs, hxl with
  | [v0, v1, v2, v3, v4, v5], _, [y0, y1, y2, y3, y4, y5], _ =>
    obtain ⟨o0, k0⟩ := hone_of hone 0 f0 rfl
    obtain ⟨o1, k1⟩ := hone_of hone 1 f1 rfl
    obtain ⟨o2, k2⟩ := hone_of hone 2 f2 rfl
    obtain ⟨o3, k3⟩ := hone_of hone 3 f3 rfl
    obtain ⟨o4, k4⟩ := hone_of hone 4 f4 rfl
    obtain ⟨o5, k5⟩ := hone_of hone 5 f5 rfl
    have g0 := hf 0 f0 rfl
    have g1 := hf 1 f1 rfl
    have g2 := hf 2 f2 rfl
    have g3 := hf 3 f3 rfl
    have g4 := hf 4 f4 rfl
    have g5 := hf 5 f5 rfl
    rw [o0, k0] at g0
    rw [o1, k1] at g1
    rw [o2, k2] at g2
    rw [o3, k3] at g3
    rw [o4, k4] at g4
    rw [o5, k5] at g5
    exact ⟨v0, v1, v2, v3, v4, v5, y0, y1, y2, y3, y4, y5, n, rfl, g0, g1, g2, g3, g4, g5⟩
/-- A step: a struct of a Bool, two bytes, bytes, a Bool and bytes. -/
theorem open_step_cells {t o b s : TypeId} {fuel : Nat} {cs : List Value} {x : DataW H × List MemPlace} {f0 f1 f2 f3 f4 f5 : Field}
    (hs : P.underlying t = some (.struct #[f0, f1, f2, f3, f4, f5])) (hone : oneCellFields P #[f0, f1, f2, f3, f4, f5] = true) (hC : P.cellsOf t = 6)
    (t0 : f0.type = o) (t1 : f1.type = b) (t2 : f2.type = b) (t3 : f3.type = s) (t4 : f4.type = o) (t5 : f5.type = s)
    (ho : P.underlying o = some .bool) (hb : P.underlying b = some (.int .u8)) (hs' : P.underlying s = some (.slice b)) (cb : P.cellsOf b = 1)
    (h : DataW.trod enc P w base spare held fuel t cs = some x) :
    ∃ (er torn : Bool) (se at_ : UInt8) (YA : Option Addr) (yc : Nat) (data : List UInt8) (MA : Option Addr) (mc : Nat) (mask : List UInt8),
      cs = [.bool er, .int .u8 (se.toNat : Int), .int .u8 (at_.toNat : Int), .slice YA data.length yc, .bool torn, .slice MA mask.length mc] ∧ data.length ≤ yc ∧ data.length ≤ maxLen ∧ mask.length ≤ maxLen ∧
      (Rd YA (U8 data)).p w ∧ (Rd MA (U8 mask)).p w := by
  subst t0
  subst t1
  subst t3
  obtain ⟨v0, v1, v2, v3, v4, v5, y0, y1, y2, y3, y4, y5, n, rfl, h0, h1, h2, h3, h4, h5⟩ := open_cells6 hs hone hC h
  rw [t2] at h2
  rw [t4] at h4
  rw [t5] at h5
  obtain ⟨er, q0, -⟩ := DataW.trod_bool ho h0
  obtain ⟨n1, q1, -, w1⟩ := DataW.trod_int hb h1
  obtain ⟨n2, q2, -, w2⟩ := DataW.trod_int hb h2
  obtain ⟨YA, yc, data, q3, l3, m3, r3⟩ := open_U8 hs' hb cb h3
  obtain ⟨torn, q4, -⟩ := DataW.trod_bool ho h4
  obtain ⟨MA, mc, mask, q5, l5, m5, r5⟩ := open_U8 hs' hb cb h5
  obtain rfl := (List.cons.inj q0).1
  obtain rfl := (List.cons.inj q1).1
  obtain rfl := (List.cons.inj q2).1
  obtain rfl := (List.cons.inj q3).1
  obtain rfl := (List.cons.inj q4).1
  obtain rfl := (List.cons.inj q5).1
  exact ⟨er, torn, byteOf n1, byteOf n2, YA, yc, data, MA, mc, mask, by rw [byteOf_eq w1, byteOf_eq w2], l3, m3, m5, r3, r5⟩
theorem open_step {r : Reach} {b0 : Nat} {t o b s : TypeId} {v : Value} {d : DataW H} {ps : List MemPlace} {f0 f1 f2 f3 f4 f5 : Field}
    (hs : P.underlying t = some (.struct #[f0, f1, f2, f3, f4, f5])) (hone : oneCellFields P #[f0, f1, f2, f3, f4, f5] = true) (hC : P.cellsOf t = 6)
    (t0 : f0.type = o) (t1 : f1.type = b) (t2 : f2.type = b) (t3 : f3.type = s) (t4 : f4.type = o) (t5 : f5.type = s)
    (ho : P.underlying o = some .bool) (hb : P.underlying b = some (.int .u8)) (hs' : P.underlying s = some (.slice b)) (cb : P.cellsOf b = 1)
    (hv : Value.okWide P w r b0 t v) (h : DataW.Trod enc P w base spare held t v d ps) :
    ∃ (er torn : Bool) (se at_ : UInt8) (YA : Option Addr) (yc : Nat) (data : List UInt8) (MA : Option Addr) (mc : Nat) (mask : List UInt8),
      v = .agg (List.toArray [.bool er, .int .u8 (se.toNat : Int), .int .u8 (at_.toNat : Int), .slice YA data.length yc, .bool torn, .slice MA mask.length mc]) ∧ data.length ≤ yc ∧ data.length ≤ maxLen ∧ mask.length ≤ maxLen ∧
      (Rd YA (U8 data)).p w ∧ (Rd MA (U8 mask)).p w := by
  obtain ⟨cs, rfl, hsz⟩ := okWide_struct hs hv
  obtain ⟨fuel, hf⟩ := h
  obtain ⟨er, torn, se, at_, YA, yc, data, MA, mc, mask, hc, q⟩ := open_step_cells hs hone hC t0 t1 t2 t3 t4 t5 ho hb hs' cb hf
  refine ⟨er, torn, se, at_, YA, yc, data, MA, mc, mask, ?_, q⟩
  rw [← hc]
  simp [Value.cells]

end
end Go.Sl
