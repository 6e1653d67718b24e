/-
  From the readings of a call's arguments to the facts of the small separation logic.
-/
import Derived.ProofKit
import Derived.Deep.Slices
import Derived.Below
import Derived.OpenShut
import Derived.Lib.SmallJoins
import Derived.ChangeArms
import Derived.Test.YtmbjknampholjaaQSlN
import Derived.Test.YtmbjknampholjaaQSlI
import Derived.Test.YtmbjknampholjaaQPl
section
namespace Go.Sl
open Go.ChangeShapes Go.WideShapes Go.RowKit Go.Deep

theorem cell_lt {w : World} {a : Addr} {v : Value} (h : w.cell? a = some v) : a.block < w.heap.size := by
 rcases Nat.lt_or_ge a.block w.heap.size with h1 | h1
 · exact h1
 · unfold World.cell? at h
   rw [Array.getElem?_eq_none h1] at h
   simp at h
theorem Rd.lt {w : World} {A : Option Addr} {xs : List Value} (h : (Rd A xs).p w) {k : Nat} (hk : (Rd A xs).fp k) : k < w.heap.size := by
 obtain ⟨hne, a, rfl, rfl⟩ := hk
 cases xs with
 | nil => exact absurd rfl hne
 | cons u us =>
   obtain ⟨b, hb, hc⟩ := h 0 u rfl
   cases hb
   have := cell_lt hc
   rwa [addblock] at this
theorem KidsR.lt {w : World} {hs : List Hd} {vss : List (List Value)} (h : (KidsR hs vss).p w) {k : Nat} (hk : (KidsR hs vss).fp k) : k < w.heap.size := by
 obtain ⟨i, hd, v, h1, h2, h3⟩ := hk
 exact Rd.lt (h i hd v h1 h2) h3

/-- The state at a call that owns nothing. -/
theorem Sat.start {w : World} {R : List Pr} (hr : ∀ r ∈ R, r.p w) (hf : ∀ r ∈ R, ∀ k, r.fp k → k < w.heap.size) : Sat (ownBase w R []) w R [] :=
 ⟨⟨rfl, rfl, rfl, Nat.le_refl _, fun _ _ _ => rfl⟩, hr, fun r h k hk => ⟨hf r h k hk, .inr (.inr ⟨r, h, hk⟩)⟩, fun i c h => by simp at h, fun i c h => by simp at h, fun i j c d h => by simp at h, fun r _ j c h => by simp at h⟩
theorem Sat.below {w w' : World} {R R' H' : List Pr} (h : Sat (ownBase w R []) w' R' H') : Below w.heap.size w w' :=
 ⟨h.ext.os, h.ext.tape, h.ext.output, h.ext.size, fun k hk => h.ext.block k hk (fun ⟨i, c, hi, _⟩ => by simp at hi)⟩

section
variable {H : Type} {enc : TypeId × Value → H} {P : Program} {w : World} {base : Nat} {spare : Nat → Bool} {held : Bool}

def byteOf (n : Int) : UInt8 := UInt8.ofNat n.toNat
theorem byteOf_eq {n : Int} (h : (Lit.int .u8 n).wf = true) : Value.int .u8 ((byteOf n).toNat : Int) = .int .u8 n := by
 have : 0 ≤ n ∧ n ≤ 255 := by
   simp [Lit.wf, IntKind.min, IntKind.max, IntKind.signed, IntKind.bits] at h
   omega
 unfold byteOf
 congr 1
 simp
 omega

/-- A slice of bytes. -/
theorem open_U8 {t e : TypeId} {fuel : Nat} {cs : List Value} {x : DataW H × List MemPlace} (ht : P.underlying t = some (.slice e)) (he : P.underlying e = some (.int .u8)) (hc : P.cellsOf e = 1) (h : DataW.trod enc P w base spare held fuel t cs = some x) :
   ∃ (A : Option Addr) (c : Nat) (l : List UInt8), cs = [.slice A l.length c] ∧ l.length ≤ c ∧ l.length ≤ maxLen ∧ (Rd A (U8 l)).p w := by
 rcases open_ints ht he hc h with ⟨rfl, _⟩ | ⟨a, len, cap, zs, rfl, _, hl, hm, hz, _, hcell, hwz⟩
 · exact ⟨none, 0, [], rfl, Nat.le_refl _, Nat.zero_le _, fun j u hu => by simp [U8] at hu⟩
 · have hle : len ≤ zs.length := by rw [hz]; split <;> omega
   have hlen : ((zs.take len).map byteOf).length = len := by rw [List.length_map, List.length_take]; omega
   refine ⟨some a, cap, (zs.take len).map byteOf, by rw [hlen], by omega, by omega, fun j u hu => ⟨a, rfl, ?_⟩⟩
   have hj : j < len := by
     have := (List.getElem?_eq_some_iff.1 hu).1
     rwa [U8_len, hlen] at this
   rw [hcell j (by omega), ← hu]
   have hw := hwz _ (List.getElem_mem (show j < zs.length by omega))
   have hu2 : (U8 ((zs.take len).map byteOf))[j]? = some (.int .u8 ((byteOf (zs[j]'(by omega))).toNat : Int)) := by
     simp [U8, hj, show j < zs.length from by omega]
   rw [hu2, byteOf_eq hw]
   simp [List.getD_eq_getElem?_getD, show j < zs.length from by omega]
/-- A slice of slices of bytes. -/
theorem open_rows {t e q : TypeId} {fuel : Nat} {cs : List Value} {x : DataW H × List MemPlace} (ht : P.underlying t = some (.slice e)) (he : P.underlying e = some (.slice q)) (hq : P.underlying q = some (.int .u8)) (ce : P.cellsOf e = 1) (cq : P.cellsOf q = 1)
   (h : DataW.trod enc P w base spare held fuel t cs = some x) :
   ∃ (A : Option Addr) (c : Nat) (hs : List Hd) (ls : List (List UInt8)), cs = [.slice A ls.length c] ∧ hs.length = ls.length ∧ ls.length ≤ c ∧ ls.length ≤ maxLen ∧ (∀ i, (ls.getD i []).length ≤ maxLen) ∧ (Rd A (rowsV hs (B8 ls))).p w ∧ (KidsR hs (B8 ls)).p w := by
 rcases open_slice ht h with ⟨rfl, _⟩ | ⟨a, len, cap, m, n, D, Pl, rfl, _, hl, hm, hmm, _, hi⟩
 · exact ⟨none, 0, [], [], rfl, rfl, Nat.le_refl _, Nat.zero_le _, fun i => by simp, fun j u hu => by simp [rowsV] at hu, fun i h v hh => by simp at hh⟩
 · have hle : len ≤ m := by rw [hmm]; split <;> omega
   have each : ∀ i : Nat, ∃ r : Option Addr × Nat × List UInt8, i < len → (w.cell? (a.add i) = some (.slice r.1 r.2.2.length r.2.1) ∧ r.2.2.length ≤ maxLen ∧ (Rd r.1 (U8 r.2.2)).p w) := fun i => by
     by_cases h1 : i < len
     · obtain ⟨cs', hc, ht'⟩ := hi i (by omega)
       obtain ⟨A, c, l, rfl, _, h2, h3⟩ := open_U8 he hq cq ht'
       obtain ⟨_, hcl, hat⟩ := World.cells?_some hc
       have := hat 0 (by rw [ce]; decide)
       rw [ce, Nat.mul_one] at this
       refine ⟨(A, c, l), fun _ => ⟨?_, h2, h3⟩⟩
       rw [addadd, Nat.add_zero] at this
       exact this
     · exact ⟨(none, 0, []), fun h => absurd h h1⟩
   obtain ⟨F, hF⟩ := Classical.axiomOfChoice each
   have g1 : ∀ i, i < len → ((List.range len).map fun i => ((F i).1, (F i).2.1))[i]? = some ((F i).1, (F i).2.1) := fun i h => by simp [h]
   have g2 : ∀ i, i < len → ((List.range len).map fun i => (F i).2.2)[i]? = some (F i).2.2 := fun i h => by simp [h]
   refine ⟨some a, cap, (List.range len).map fun i => ((F i).1, (F i).2.1), (List.range len).map fun i => (F i).2.2, by simp, by simp, by simpa using hl, by simp; omega, fun i => ?_, fun j u hu => ⟨a, rfl, ?_⟩, fun i h v hh hv => ?_⟩
   · by_cases h1 : i < len
     · rw [List.getD_eq_getElem?_getD, g2 i h1]
       exact (hF i h1).2.1
     · rw [List.getD_eq_getElem?_getD, List.getElem?_eq_none (by simp; omega)]
       exact Nat.zero_le _
   · have hj : j < len := by
       have := (List.getElem?_eq_some_iff.1 hu).1
       rw [rowsV_len (by rw [B8_len]; simp), B8_len] at this
       simpa using this
     rw [rows8_get (by simp) (by simpa using hj)] at hu
     injection hu with hu
     subst hu
     rw [List.getD_eq_getElem?_getD, List.getD_eq_getElem?_getD, g1 j hj, g2 j hj]
     exact (hF j hj).1
   · have h1 : i < len := by
       have := (List.getElem?_eq_some_iff.1 hh).1
       simpa using this
     rw [g1 i h1] at hh
     injection hh with hh
     subst hh
     have : (B8 ((List.range len).map fun i => (F i).2.2))[i]? = some (U8 (F i).2.2) := by simp [B8, h1]
     rw [this] at hv
     injection hv with hv
     subst hv
     exact (hF i h1).2.2
end
end Go.Sl
end
/-
  Readings of sectors, as plain data.
-/
section
namespace Go.Sl

/-! ### Rows of numbers -/
/-! ### Numbers and lists of them -/
/-! ### Readings -/
def NotRd (n u : Nat) (row : List Int) (i : Nat) : Prop := row.getD i 0 < 0 ∨ (n : Int) ≤ row.getD i 0 ∨ row.getD i 0 = (u : Int) ∨ (0 < i ∧ row.getD i 0 ≤ row.getD (i - 1) 0)
instance (n u : Nat) (row : List Int) (i : Nat) : Decidable (NotRd n u row i) := by unfold NotRd; infer_instance
end Go.Sl
end
/-
  From the readings of a call's arguments to facts: numbers, slices of slices of numbers, small arrays.
-/
section
namespace Go.Sl
open Go.ChangeShapes Go.WideShapes Go.RowKit Go.Deep Go.Joins

section
variable {H : Type} {enc : TypeId × Value → H} {P : Program} {w : World} {base : Nat} {spare : Nat → Bool} {held : Bool}

/-- The cells of an array of small numbers. -/
theorem open_arr8 {n : Nat} {t e : TypeId} {fuel : Nat} {cs : List Value} {x : DataW H × List MemPlace} (ht : P.underlying t = some (.array n e)) (he : P.underlying e = some (.int .u8)) (ce : P.cellsOf e = 1) (hl : cs.length = n)
   (h : DataW.trod enc P w base spare held fuel t cs = some x) : ∀ i, i < n → ∃ y : UInt8, cs[i]? = some (.int .u8 (y.toNat : Int)) := by
 intro i hi
 obtain ⟨xs, m2, -, -, -, hxl, hg⟩ := DataW.trod_array ht h
 have g := hg i hi
 rw [ce, List.getElem?_eq_getElem (by rw [hxl]; exact hi)] at g
 have e1 : (cs.drop (i * 1)).take 1 = [cs[i]'(by omega)] := by
   rw [Nat.mul_one, List.drop_eq_getElem_cons (by omega), List.take_succ_cons, List.take_zero]
 rw [e1] at g
 obtain ⟨z, hz, -, wz⟩ := DataW.trod_int he g
 exact ⟨byteOf z, by rw [List.getElem?_eq_getElem (by omega), (List.cons.inj hz).1, byteOf_eq wz]⟩
end
end Go.Sl
end
