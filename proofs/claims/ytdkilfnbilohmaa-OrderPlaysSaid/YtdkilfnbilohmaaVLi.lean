/-
  From the readings of a call's arguments to the facts of the small separation logic.
-/
import Derived.ProofKit
import Derived.Deep.Slices
import Derived.Below
import Derived.OpenShut
import Derived.Lib.SmallJoins
import Derived.ChangeArms
import Derived.Test.YtdkilfnbilohmaaVSlH
namespace Go.Sl
open Go.ChangeShapes Go.WideShapes Go.RowKit Go.Deep

theorem cell_lt {w : World} {a : Addr} {v : Value} (h : w.cell? a = some v) : a.block < w.heap.size := by
 rcases Nat.lt_or_ge a.block w.heap.size with h1 | h1
 · exact h1
 · unfold World.cell? at h
   rw [Array.getElem?_eq_none h1] at h
   simp at h
theorem Rd.lt {w : World} {A : Option Addr} {xs : List Value} (h : (Rd A xs).p w) {k : Nat} (hk : (Rd A xs).fp k) : k < w.heap.size := by
 obtain ⟨hne, a, rfl, rfl⟩ := hk
 cases xs with
 | nil => exact absurd rfl hne
 | cons u us =>
   obtain ⟨b, hb, hc⟩ := h 0 u rfl
   cases hb
   have := cell_lt hc
   rwa [addblock] at this
theorem KidsR.lt {w : World} {hs : List Hd} {vss : List (List Value)} (h : (KidsR hs vss).p w) {k : Nat} (hk : (KidsR hs vss).fp k) : k < w.heap.size := by
 obtain ⟨i, hd, v, h1, h2, h3⟩ := hk
 exact Rd.lt (h i hd v h1 h2) h3

/-- The state at a call that owns nothing. -/
theorem Sat.start {w : World} {R : List Pr} (hr : ∀ r ∈ R, r.p w) (hf : ∀ r ∈ R, ∀ k, r.fp k → k < w.heap.size) : Sat (ownBase w R []) w R [] :=
 ⟨⟨rfl, rfl, rfl, Nat.le_refl _, fun _ _ _ => rfl⟩, hr, fun r h k hk => ⟨hf r h k hk, .inr (.inr ⟨r, h, hk⟩)⟩, fun i c h => by simp at h, fun i c h => by simp at h, fun i j c d h => by simp at h, fun r _ j c h => by simp at h⟩
theorem Sat.below {w w' : World} {R R' H' : List Pr} (h : Sat (ownBase w R []) w' R' H') : Below w.heap.size w w' :=
 ⟨h.ext.os, h.ext.tape, h.ext.output, h.ext.size, fun k hk => h.ext.block k hk (fun ⟨i, c, hi, _⟩ => by simp at hi)⟩

section
variable {H : Type} {enc : TypeId × Value → H} {P : Program} {w : World} {base : Nat} {spare : Nat → Bool} {held : Bool}

def byteOf (n : Int) : UInt8 := UInt8.ofNat n.toNat
theorem byteOf_eq {n : Int} (h : (Lit.int .u8 n).wf = true) : Value.int .u8 ((byteOf n).toNat : Int) = .int .u8 n := by
 have : 0 ≤ n ∧ n ≤ 255 := by
   simp [Lit.wf, IntKind.min, IntKind.max, IntKind.signed, IntKind.bits] at h
   omega
 unfold byteOf
 congr 1
 simp
 omega

/-- A slice of bytes. -/
theorem open_U8 {t e : TypeId} {fuel : Nat} {cs : List Value} {x : DataW H × List MemPlace} (ht : P.underlying t = some (.slice e)) (he : P.underlying e = some (.int .u8)) (hc : P.cellsOf e = 1) (h : DataW.trod enc P w base spare held fuel t cs = some x) :
   ∃ (A : Option Addr) (c : Nat) (l : List UInt8), cs = [.slice A l.length c] ∧ l.length ≤ c ∧ l.length ≤ maxLen ∧ (Rd A (U8 l)).p w := by
 rcases open_ints ht he hc h with ⟨rfl, _⟩ | ⟨a, len, cap, zs, rfl, _, hl, hm, hz, _, hcell, hwz⟩
 · exact ⟨none, 0, [], rfl, Nat.le_refl _, Nat.zero_le _, fun j u hu => by simp [U8] at hu⟩
 · have hle : len ≤ zs.length := by rw [hz]; split <;> omega
   have hlen : ((zs.take len).map byteOf).length = len := by rw [List.length_map, List.length_take]; omega
   refine ⟨some a, cap, (zs.take len).map byteOf, by rw [hlen], by omega, by omega, fun j u hu => ⟨a, rfl, ?_⟩⟩
   have hj : j < len := by
     have := (List.getElem?_eq_some_iff.1 hu).1
     rwa [U8_len, hlen] at this
   rw [hcell j (by omega), ← hu]
   have hw := hwz _ (List.getElem_mem (show j < zs.length by omega))
   have hu2 : (U8 ((zs.take len).map byteOf))[j]? = some (.int .u8 ((byteOf (zs[j]'(by omega))).toNat : Int)) := by
     simp [U8, hj, show j < zs.length from by omega]
   rw [hu2, byteOf_eq hw]
   simp [List.getD_eq_getElem?_getD, show j < zs.length from by omega]
end
end Go.Sl
