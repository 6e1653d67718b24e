/-
  From the readings of a call's arguments to the facts of the small separation logic.
-/
import Derived.ProofKit
import Derived.Deep.Slices
import Derived.Below
import Derived.OpenShut
import Derived.Lib.SmallJoins
import Derived.ChangeArms
import Derived.Test.YtkjhcjhfegakoaaVSlG
import Derived.Test.YtkjhcjhfegakoaaVSlI
import Derived.Test.YtkjhcjhfegakoaaVLaj
section
namespace Go.Sl
open Go.ChangeShapes Go.WideShapes Go.RowKit Go.Deep

theorem cell_lt {w : World} {a : Addr} {v : Value} (h : w.cell? a = some v) : a.block < w.heap.size := by
 rcases Nat.lt_or_ge a.block w.heap.size with h1 | h1
 · exact h1
 · unfold World.cell? at h
   rw [Array.getElem?_eq_none h1] at h
   simp at h
theorem Rd.lt {w : World} {A : Option Addr} {xs : List Value} (h : (Rd A xs).p w) {k : Nat} (hk : (Rd A xs).fp k) : k < w.heap.size := by
 obtain ⟨hne, a, rfl, rfl⟩ := hk
 cases xs with
 | nil => exact absurd rfl hne
 | cons u us =>
   obtain ⟨b, hb, hc⟩ := h 0 u rfl
   cases hb
   have := cell_lt hc
   rwa [addblock] at this
theorem KidsR.lt {w : World} {hs : List Hd} {vss : List (List Value)} (h : (KidsR hs vss).p w) {k : Nat} (hk : (KidsR hs vss).fp k) : k < w.heap.size := by
 obtain ⟨i, hd, v, h1, h2, h3⟩ := hk
 exact Rd.lt (h i hd v h1 h2) h3

/-- The state at a call that owns nothing. -/
theorem Sat.start {w : World} {R : List Pr} (hr : ∀ r ∈ R, r.p w) (hf : ∀ r ∈ R, ∀ k, r.fp k → k < w.heap.size) : Sat (ownBase w R []) w R [] :=
 ⟨⟨rfl, rfl, rfl, Nat.le_refl _, fun _ _ _ => rfl⟩, hr, fun r h k hk => ⟨hf r h k hk, .inr (.inr ⟨r, h, hk⟩)⟩, fun i c h => by simp at h, fun i c h => by simp at h, fun i j c d h => by simp at h, fun r _ j c h => by simp at h⟩
theorem Sat.below {w w' : World} {R R' H' : List Pr} (h : Sat (ownBase w R []) w' R' H') : Below w.heap.size w w' :=
 ⟨h.ext.os, h.ext.tape, h.ext.output, h.ext.size, fun k hk => h.ext.block k hk (fun ⟨i, c, hi, _⟩ => by simp at hi)⟩

section
variable {H : Type} {enc : TypeId × Value → H} {P : Program} {w : World} {base : Nat} {spare : Nat → Bool} {held : Bool}

def byteOf (n : Int) : UInt8 := UInt8.ofNat n.toNat
theorem byteOf_eq {n : Int} (h : (Lit.int .u8 n).wf = true) : Value.int .u8 ((byteOf n).toNat : Int) = .int .u8 n := by
 have : 0 ≤ n ∧ n ≤ 255 := by
   simp [Lit.wf, IntKind.min, IntKind.max, IntKind.signed, IntKind.bits] at h
   omega
 unfold byteOf
 congr 1
 simp
 omega

/-- A slice of bytes. -/
theorem open_U8 {t e : TypeId} {fuel : Nat} {cs : List Value} {x : DataW H × List MemPlace} (ht : P.underlying t = some (.slice e)) (he : P.underlying e = some (.int .u8)) (hc : P.cellsOf e = 1) (h : DataW.trod enc P w base spare held fuel t cs = some x) :
   ∃ (A : Option Addr) (c : Nat) (l : List UInt8), cs = [.slice A l.length c] ∧ l.length ≤ c ∧ l.length ≤ maxLen ∧ (Rd A (U8 l)).p w := by
 rcases open_ints ht he hc h with ⟨rfl, _⟩ | ⟨a, len, cap, zs, rfl, _, hl, hm, hz, _, hcell, hwz⟩
 · exact ⟨none, 0, [], rfl, Nat.le_refl _, Nat.zero_le _, fun j u hu => by simp [U8] at hu⟩
 · have hle : len ≤ zs.length := by rw [hz]; split <;> omega
   have hlen : ((zs.take len).map byteOf).length = len := by rw [List.length_map, List.length_take]; omega
   refine ⟨some a, cap, (zs.take len).map byteOf, by rw [hlen], by omega, by omega, fun j u hu => ⟨a, rfl, ?_⟩⟩
   have hj : j < len := by
     have := (List.getElem?_eq_some_iff.1 hu).1
     rwa [U8_len, hlen] at this
   rw [hcell j (by omega), ← hu]
   have hw := hwz _ (List.getElem_mem (show j < zs.length by omega))
   have hu2 : (U8 ((zs.take len).map byteOf))[j]? = some (.int .u8 ((byteOf (zs[j]'(by omega))).toNat : Int)) := by
     simp [U8, hj, show j < zs.length from by omega]
   rw [hu2, byteOf_eq hw]
   simp [List.getD_eq_getElem?_getD, show j < zs.length from by omega]
end
end Go.Sl
end
/-
  From the readings of a call's arguments to facts: three numbers, bytes, a script of steps.
-/
section
namespace Go.Sl
open Go.ChangeShapes Go.WideShapes Go.RowKit Go.Deep Go.Joins

section
variable {H : Type} {enc : TypeId × Value → H} {P : Program} {w : World} {base : Nat} {spare : Nat → Bool} {held : Bool}

/-- Bytes. -/
theorem open_bytesV {r : Reach} {b0 : Nat} {t e : TypeId} {v : Value} {d : DataW H} {ps : List MemPlace} (ht : P.underlying t = some (.slice e)) (he : P.underlying e = some (.int .u8)) (ce : P.cellsOf e = 1)
   (hv : Value.okWide P w r b0 t v) (h : DataW.Trod enc P w base spare held t v d ps) :
   ∃ (A : Option Addr) (c : Nat) (l : List UInt8), v = .slice A l.length c ∧ l.length ≤ c ∧ l.length ≤ maxLen ∧ (Rd A (U8 l)).p w := by
 obtain ⟨A, n, c, rfl⟩ := okWide_slice ht hv
 obtain ⟨fuel, hf⟩ := h
 obtain ⟨B, c', l, hcs, h1, h2, h3⟩ := open_U8 ht he ce hf
 have e : Value.slice A n c = .slice B l.length c' := (List.cons.inj (show [Value.slice A n c] = [.slice B l.length c'] from by simpa [Value.cells] using hcs)).1
 exact ⟨B, c', l, e, h1, h2, h3⟩
end
end Go.Sl
end
/-
  Flashes as plain data, and how they lie in memory.
-/
section
namespace Go.Sl

structure Fl where
 size : Nat
 data : List (List UInt8)
 wear : List Int
 limit : Int
 dead : List Bool
 deriving DecidableEq

/-- Where its parts lie. -/
structure Fa where
 D : Option Addr
 cD : Nat
 hs : List Hd
 W : Option Addr
 cW : Nat
 E : Option Addr
 cE : Nat

structure Fl.Ok (f : Fl) : Prop where
 s1 : 1 ≤ f.size
 s2 : f.size ≤ 4096
 n1 : 1 ≤ f.data.length
 n2 : f.data.length ≤ 64
 wl : f.wear.length = f.data.length
 dl : f.dead.length = f.data.length
 rows : ∀ i, i < f.data.length → (f.data.getD i []).length = f.size
 l1 : 1 ≤ f.limit
 l2 : f.limit ≤ 100000
 wear : ∀ i, i < f.data.length → 0 ≤ f.wear.getD i 0 ∧ f.wear.getD i 0 ≤ f.limit

structure Fl.Sm (f : Fl) : Prop where
 n : f.data.length ≤ 1000000
 w : f.wear.length ≤ 1000000
 d : f.dead.length ≤ 1000000
 r : ∀ i, (f.data.getD i []).length ≤ 1000000
/-! ### Operations -/
structure Fo where
 kind : Int
 sec : Int
 at_ : Int
 data : List UInt8
 deriving DecidableEq

section
variable {f : Fl} {x : Fo}
end

theorem getD_set_ne {α : Type} {l : List α} {i j : Nat} (h : i ≠ j) (x d : α) : (l.set i x).getD j d = l.getD j d := by simp [List.getD_eq_getElem?_getD, h]
/-! ### What an operation asks for -/
/-! ### The flash after an operation -/
end Go.Sl
end
/-
  Readings of sectors, as plain data.
-/
section
namespace Go.Sl

/-! ### Rows of numbers -/
/-! ### Numbers and lists of them -/
/-! ### Readings -/
def NotRd (n u : Nat) (row : List Int) (i : Nat) : Prop := row.getD i 0 < 0 ∨ (n : Int) ≤ row.getD i 0 ∨ row.getD i 0 = (u : Int) ∨ (0 < i ∧ row.getD i 0 ≤ row.getD (i - 1) 0)
instance (n u : Nat) (row : List Int) (i : Nat) : Decidable (NotRd n u row i) := by unfold NotRd; infer_instance
end Go.Sl
end
/-
  From the readings of a call's arguments to facts: numbers, slices of slices of numbers, small arrays.
-/
section
namespace Go.Sl
open Go.ChangeShapes Go.WideShapes Go.RowKit Go.Deep Go.Joins

section
variable {H : Type} {enc : TypeId × Value → H} {P : Program} {w : World} {base : Nat} {spare : Nat → Bool} {held : Bool}

/-- A slice of numbers. -/
theorem open_I64 {t e : TypeId} {fuel : Nat} {cs : List Value} {x : DataW H × List MemPlace} (ht : P.underlying t = some (.slice e)) (he : P.underlying e = some (.int .i64)) (hc : P.cellsOf e = 1) (h : DataW.trod enc P w base spare held fuel t cs = some x) :
   ∃ (A : Option Addr) (c : Nat) (l : List Int), cs = [.slice A l.length c] ∧ l.length ≤ c ∧ l.length ≤ maxLen ∧ (Rd A (I64 l)).p w := by
 rcases open_ints ht he hc h with ⟨rfl, _⟩ | ⟨a, len, cap, zs, rfl, _, hl, hm, hz, _, hcell, hwz⟩
 · exact ⟨none, 0, [], rfl, Nat.le_refl _, Nat.zero_le _, fun j u hu => by simp [I64] at hu⟩
 · have hle : len ≤ zs.length := by rw [hz]; split <;> omega
   have hlen : (zs.take len).length = len := by rw [List.length_take]; omega
   refine ⟨some a, cap, zs.take len, by rw [hlen], by omega, by omega, fun j u hu => ⟨a, rfl, ?_⟩⟩
   have hj : j < len := by
     have := (List.getElem?_eq_some_iff.1 hu).1
     rwa [I64_len, hlen] at this
   rw [hcell j (by omega), ← hu, I64_get (by omega)]
   simp [List.getD_eq_getElem?_getD, hj]
/-- The cells of an array of small numbers. -/
theorem open_arr8 {n : Nat} {t e : TypeId} {fuel : Nat} {cs : List Value} {x : DataW H × List MemPlace} (ht : P.underlying t = some (.array n e)) (he : P.underlying e = some (.int .u8)) (ce : P.cellsOf e = 1) (hl : cs.length = n)
   (h : DataW.trod enc P w base spare held fuel t cs = some x) : ∀ i, i < n → ∃ y : UInt8, cs[i]? = some (.int .u8 (y.toNat : Int)) := by
 intro i hi
 obtain ⟨xs, m2, -, -, -, hxl, hg⟩ := DataW.trod_array ht h
 have g := hg i hi
 rw [ce, List.getElem?_eq_getElem (by rw [hxl]; exact hi)] at g
 have e1 : (cs.drop (i * 1)).take 1 = [cs[i]'(by omega)] := by
   rw [Nat.mul_one, List.drop_eq_getElem_cons (by omega), List.take_succ_cons, List.take_zero]
 rw [e1] at g
 obtain ⟨z, hz, -, wz⟩ := DataW.trod_int he g
 exact ⟨byteOf z, by rw [List.getElem?_eq_getElem (by omega), (List.cons.inj hz).1, byteOf_eq wz]⟩
theorem open_arrV {n : Nat} {r : Reach} {b0 : Nat} {t e : TypeId} {v : Value} {d : DataW H} {ps : List MemPlace} (ht : P.underlying t = some (.array n e)) (he : P.underlying e = some (.int .u8)) (ce : P.cellsOf e = 1) (ct : P.cellsOf t = n)
   (hv : Value.okWide P w r b0 t v) (h : DataW.Trod enc P w base spare held t v d ps) : ∃ ls : List Value, v = .agg (List.toArray ls) ∧ ls.length = n ∧ ∀ i, i < n → ∃ y : UInt8, ls[i]? = some (.int .u8 (y.toNat : Int)) := by
 simp only [Value.okWide, ht] at hv
 obtain ⟨cs, rfl, hsz, -⟩ := hv
 rw [ct] at hsz
 obtain ⟨ls⟩ := cs
 obtain ⟨fuel, hf⟩ := h
 exact ⟨ls, rfl, hsz, open_arr8 ht he ce hsz hf⟩
/-- An array of two bytes, of three. -/
theorem open_u8x2 {r : Reach} {b0 : Nat} {t e : TypeId} {v : Value} {d : DataW H} {ps : List MemPlace} (ht : P.underlying t = some (.array 2 e)) (he : P.underlying e = some (.int .u8)) (ce : P.cellsOf e = 1) (ct : P.cellsOf t = 2)
   (hv : Value.okWide P w r b0 t v) (h : DataW.Trod enc P w base spare held t v d ps) : ∃ x y : UInt8, v = .agg (List.toArray [.int .u8 (x.toNat : Int), .int .u8 (y.toNat : Int)]) := by
 obtain ⟨ls, rfl, hl, hi⟩ := open_arrV ht he ce ct hv h
 obtain ⟨x, h0⟩ := hi 0 (by decide)
 obtain ⟨y, h1⟩ := hi 1 (by decide)
 match ls, hl, h0, h1 with
 | [a, b], _, h0, h1 =>
   simp at h0 h1
   exact ⟨x, y, by rw [h0, h1]⟩
theorem open_u8x3 {r : Reach} {b0 : Nat} {t e : TypeId} {v : Value} {d : DataW H} {ps : List MemPlace} (ht : P.underlying t = some (.array 3 e)) (he : P.underlying e = some (.int .u8)) (ce : P.cellsOf e = 1) (ct : P.cellsOf t = 3)
   (hv : Value.okWide P w r b0 t v) (h : DataW.Trod enc P w base spare held t v d ps) : ∃ x y z : UInt8, v = .agg (List.toArray [.int .u8 (x.toNat : Int), .int .u8 (y.toNat : Int), .int .u8 (z.toNat : Int)]) := by
 obtain ⟨ls, rfl, hl, hi⟩ := open_arrV ht he ce ct hv h
 obtain ⟨x, h0⟩ := hi 0 (by decide)
 obtain ⟨y, h1⟩ := hi 1 (by decide)
 obtain ⟨z, h2⟩ := hi 2 (by decide)
 match ls, hl, h0, h1, h2 with
 | [a, b, c], _, h0, h1, h2 =>
   simp at h0 h1 h2
   exact ⟨x, y, z, by rw [h0, h1, h2]⟩
end
end Go.Sl
end
/-
  From the readings of a call's arguments to facts: slices of arrays of four bytes, of words, of booleans; lifted code.
-/
section
namespace Go.Sl
open Go.ChangeShapes Go.WideShapes Go.RowKit Go.Deep Go.Joins

section
variable {H : Type} {enc : TypeId × Value → H} {P : Program} {w : World} {base : Nat} {spare : Nat → Bool} {held : Bool}

theorem wf_i8n {n : Int} (h : (Lit.int .i8 n).wf = true) : -128 ≤ n ∧ n ≤ 127 := by
 simp [Lit.wf, IntKind.min, IntKind.max, IntKind.signed, IntKind.bits] at h
 omega
theorem wf_u16n {n : Int} (h : (Lit.int .u16 n).wf = true) : 0 ≤ n ∧ n ≤ 65535 := by
 simp [Lit.wf, IntKind.min, IntKind.max, IntKind.signed, IntKind.bits] at h
 omega
theorem wf_u32n {n : Int} (h : (Lit.int .u32 n).wf = true) : 0 ≤ n ∧ n ≤ 4294967295 := by
 simp [Lit.wf, IntKind.min, IntKind.max, IntKind.signed, IntKind.bits] at h
 omega
theorem open_u4c {t e : TypeId} {fuel : Nat} {cs : List Value} {x : DataW H × List MemPlace} (ht : P.underlying t = some (.array 4 e)) (he : P.underlying e = some (.int .u8)) (ce : P.cellsOf e = 1) (hl : cs.length = 4)
   (h : DataW.trod enc P w base spare held fuel t cs = some x) : ∃ r : List UInt8, cs = u4 r := by
 have hi := open_arr8 ht he ce hl h
 obtain ⟨y0, h0⟩ := hi 0 (by decide)
 obtain ⟨y1, h1⟩ := hi 1 (by decide)
 obtain ⟨y2, h2⟩ := hi 2 (by decide)
 obtain ⟨y3, h3⟩ := hi 3 (by decide)
 match cs, hl, h0, h1, h2, h3 with
 | [a, b, c, d], _, h0, h1, h2, h3 =>
   simp at h0 h1 h2 h3
   exact ⟨[y0, y1, y2, y3], by rw [h0, h1, h2, h3]; rfl⟩
theorem open_fours {r : Reach} {b0 : Nat} {q t e : TypeId} {v : Value} {d : DataW H} {ps : List MemPlace} (hq : P.underlying q = some (.slice t)) (ht : P.underlying t = some (.array 4 e)) (he : P.underlying e = some (.int .u8)) (ce : P.cellsOf e = 1) (ct : P.cellsOf t = 4)
   (hv : Value.okWide P w r b0 q v) (h : DataW.Trod enc P w base spare held q v d ps) :
   ∃ (A : Option Addr) (c : Nat) (l : List (List UInt8)), v = .slice A l.length c ∧ l.length ≤ maxLen ∧ (Rd A (frV l)).p w := by
 obtain ⟨A, n, c, rfl⟩ := okWide_slice hq hv
 obtain ⟨fuel, hf⟩ := h
 have hf' : DataW.trod enc P w base spare held fuel q [.slice A n c] = some (d, ps) := by simpa [Value.cells] using hf
 rcases open_slice hq hf' with ⟨hcs, _⟩ | ⟨a, len, cap, m, k, D, Pl, hcs, _, hl, hm, hmm, _, hi⟩
 · exact ⟨none, 0, [], (List.cons.inj hcs).1, Nat.zero_le _, fun j u hu => by simp [frV] at hu⟩
 · have ee := (List.cons.inj hcs).1
   have hle : len ≤ m := by rw [hmm]; split <;> omega
   have each : ∀ i : Nat, ∃ x : List UInt8, i < len → ∀ j, j < 4 → w.cell? ((a.add (i * 4)).add j) = (u4 x)[j]? := fun i => by
     by_cases h1 : i < len
     · obtain ⟨cs', hc, htr⟩ := hi i (by omega)
       rw [ct] at hc
       obtain ⟨_, hcl, hat⟩ := World.cells?_some hc
       obtain ⟨y, rfl⟩ := open_u4c ht he ce (by simpa using hcl) htr
       exact ⟨y, fun _ j hj => hat j hj⟩
     · exact ⟨[], fun h => absurd h h1⟩
   obtain ⟨F, hF⟩ := Classical.axiomOfChoice each
   have hlen : ((List.range len).map F).length = len := by simp
   have get : ∀ i, i < len → ((List.range len).map F).getD i [] = F i := fun i h => by simp [h]
   refine ⟨some a, cap, (List.range len).map F, by rw [hlen]; exact ee, by rw [hlen]; omega, fun j u hu => ⟨a, rfl, ?_⟩⟩
   have hj : j < len * 4 := by
     have := (List.getElem?_eq_some_iff.1 hu).1
     rwa [frV_len, hlen] at this
   have hd : j / 4 < len := by omega
   have hu2 := hu
   have hq4 : (frV ((List.range len).map F))[j / 4 * 4 + j % 4]? = (u4 (F (j / 4)))[j % 4]? := by
     rw [frV_get _ (by rw [hlen]; exact hd) (by omega), get _ hd, u4_get _ (by omega)]
   rw [show j = j / 4 * 4 + j % 4 from by omega, hq4] at hu2
   rw [← hu2, ← hF _ hd (j % 4) (by omega), addadd]
   congr 2
   omega
/-- A slice of words. -/
theorem open_N32 {t e : TypeId} {fuel : Nat} {cs : List Value} {x : DataW H × List MemPlace} (ht : P.underlying t = some (.slice e)) (he : P.underlying e = some (.int .u32)) (hc : P.cellsOf e = 1) (h : DataW.trod enc P w base spare held fuel t cs = some x) :
   ∃ (A : Option Addr) (c : Nat) (l : List Nat), cs = [.slice A l.length c] ∧ l.length ≤ c ∧ l.length ≤ maxLen ∧ W32 l ∧ (Rd A (N32 l)).p w := by
 rcases open_ints ht he hc h with ⟨rfl, _⟩ | ⟨a, len, cap, zs, rfl, _, hl, hm, hz, _, hcell, hwz⟩
 · exact ⟨none, 0, [], rfl, Nat.le_refl _, Nat.zero_le _, fun i => by simp, fun j u hu => by simp [N32] at hu⟩
 · have hle : len ≤ zs.length := by rw [hz]; split <;> omega
   have hlen : ((zs.take len).map Int.toNat).length = len := by rw [List.length_map, List.length_take]; omega
   have hwf : ∀ n ∈ zs, 0 ≤ n ∧ n ≤ 4294967295 := fun n hn => wf_u32n (hwz n hn)
   refine ⟨some a, cap, (zs.take len).map Int.toNat, by rw [hlen], by omega, by omega, W32.of fun n hn => ?_, fun j u hu => ⟨a, rfl, ?_⟩⟩
   · obtain ⟨z, hz2, rfl⟩ := List.mem_map.1 hn
     have := hwf z (List.mem_of_mem_take hz2)
     omega
   · have hj : j < len := by
       have := (List.getElem?_eq_some_iff.1 hu).1
       rwa [N32_len, hlen] at this
     have hw := hwf _ (List.getElem_mem (show j < zs.length by omega))
     rw [hcell j (by omega), ← hu]
     have hu2 : (N32 ((zs.take len).map Int.toNat))[j]? = some (.int .u32 (((zs[j]'(by omega)).toNat : Nat) : Int)) := by
       simp [N32, hj, show j < zs.length from by omega]
     rw [hu2, Int.toNat_of_nonneg hw.1]
     simp [List.getD_eq_getElem?_getD, show j < zs.length from by omega]
theorem open_wordsV {r : Reach} {b0 : Nat} {t e : TypeId} {v : Value} {d : DataW H} {ps : List MemPlace} (ht : P.underlying t = some (.slice e)) (he : P.underlying e = some (.int .u32)) (ce : P.cellsOf e = 1)
   (hv : Value.okWide P w r b0 t v) (h : DataW.Trod enc P w base spare held t v d ps) :
   ∃ (A : Option Addr) (c : Nat) (l : List Nat), v = .slice A l.length c ∧ l.length ≤ c ∧ l.length ≤ maxLen ∧ W32 l ∧ (Rd A (N32 l)).p w := by
 obtain ⟨A, n, c, rfl⟩ := okWide_slice ht hv
 obtain ⟨fuel, hf⟩ := h
 obtain ⟨B, c', l, hcs, h1, h2, h3, h4⟩ := open_N32 ht he ce hf
 have e : Value.slice A n c = .slice B l.length c' := (List.cons.inj (show [Value.slice A n c] = [.slice B l.length c'] from by simpa [Value.cells] using hcs)).1
 exact ⟨B, c', l, e, h1, h2, h3, h4⟩
/-- A slice of booleans. -/
theorem open_Bs {t e : TypeId} {fuel : Nat} {cs : List Value} {x : DataW H × List MemPlace} (ht : P.underlying t = some (.slice e)) (he : P.underlying e = some .bool) (ce : P.cellsOf e = 1) (h : DataW.trod enc P w base spare held fuel t cs = some x) :
   ∃ (A : Option Addr) (c : Nat) (l : List Bool), cs = [.slice A l.length c] ∧ l.length ≤ c ∧ l.length ≤ maxLen ∧ (Rd A (Bs l)).p w := by
 rcases open_slice ht h with ⟨rfl, _⟩ | ⟨a, len, cap, m, k, D, Pl, rfl, _, hl, hm, hmm, _, hi⟩
 · exact ⟨none, 0, [], rfl, Nat.le_refl _, Nat.zero_le _, fun j u hu => by simp [Bs] at hu⟩
 · have hle : len ≤ m := by rw [hmm]; split <;> omega
   have each : ∀ i : Nat, ∃ b : Bool, i < len → w.cell? (a.add i) = some (.bool b) := fun i => by
     by_cases h1 : i < len
     · obtain ⟨cs', hc, htr⟩ := hi i (by omega)
       obtain ⟨_, hcl, hat⟩ := World.cells?_some hc
       have h0 := hat 0 (by rw [ce]; decide)
       rw [ce, Nat.mul_one, addadd, Nat.add_zero] at h0
       rw [ce] at hcl
       match cs', hcl with
       | [y], _ =>
         obtain ⟨b, hb, _⟩ := DataW.trod_bool he htr
         refine ⟨b, fun _ => ?_⟩
         rw [h0, hb]
         rfl
     · exact ⟨false, fun h => absurd h h1⟩
   obtain ⟨F, hF⟩ := Classical.axiomOfChoice each
   have hlen : ((List.range len).map F).length = len := by simp
   refine ⟨some a, cap, (List.range len).map F, by rw [hlen], by omega, by omega, fun j u hu => ⟨a, rfl, ?_⟩⟩
   have hj : j < len := by
     have := (List.getElem?_eq_some_iff.1 hu).1
     rwa [Bs_len, hlen] at this
   rw [hF j hj, ← hu]
   simp [Bs, hj]
theorem open_i8x2 {r : Reach} {b0 : Nat} {t e : TypeId} {v : Value} {d : DataW H} {ps : List MemPlace} (ht : P.underlying t = some (.array 2 e)) (he : P.underlying e = some (.int .i8)) (ce : P.cellsOf e = 1) (ct : P.cellsOf t = 2)
   (hv : Value.okWide P w r b0 t v) (h : DataW.Trod enc P w base spare held t v d ps) :
   ∃ x y : Int, v = .agg (List.toArray [.int .i8 x, .int .i8 y]) ∧ (-128 ≤ x ∧ x ≤ 127) ∧ (-128 ≤ y ∧ y ≤ 127) := by
 simp only [Value.okWide, ht] at hv
 obtain ⟨cs, rfl, hsz, -⟩ := hv
 rw [ct] at hsz
 obtain ⟨ls⟩ := cs
 obtain ⟨a0, a1, rfl⟩ : ∃ a0 a1, ls = [a0, a1] := by
   match ls, hsz with
   | [a, b], _ => exact ⟨a, b, rfl⟩
 obtain ⟨fuel, hf⟩ := h
 obtain ⟨xs, m2, -, -, -, hxl, hg⟩ := DataW.trod_array ht hf
 have g0 := hg 0 (by decide)
 have g1 := hg 1 (by decide)
 rw [ce, List.getElem?_eq_getElem (by rw [hxl]; decide)] at g0 g1
 obtain ⟨x, h0, -, w0⟩ := DataW.trod_int (cs := [a0]) he g0
 obtain ⟨y, h1, -, w1⟩ := DataW.trod_int (cs := [a1]) he g1
 obtain rfl := (List.cons.inj h0).1
 obtain rfl := (List.cons.inj h1).1
 exact ⟨x, y, rfl, wf_i8n w0, wf_i8n w1⟩
theorem open_u16x4 {r : Reach} {b0 : Nat} {t e : TypeId} {v : Value} {d : DataW H} {ps : List MemPlace} (ht : P.underlying t = some (.array 4 e)) (he : P.underlying e = some (.int .u16)) (ce : P.cellsOf e = 1) (ct : P.cellsOf t = 4)
   (hv : Value.okWide P w r b0 t v) (h : DataW.Trod enc P w base spare held t v d ps) :
   ∃ x y z u : Nat, v = .agg (List.toArray [.int .u16 (x : Int), .int .u16 (y : Int), .int .u16 (z : Int), .int .u16 (u : Int)]) ∧ x ≤ 65535 ∧ y ≤ 65535 ∧ z ≤ 65535 ∧ u ≤ 65535 := by
 simp only [Value.okWide, ht] at hv
 obtain ⟨cs, rfl, hsz, -⟩ := hv
 rw [ct] at hsz
 obtain ⟨ls⟩ := cs
 obtain ⟨a0, a1, a2, a3, rfl⟩ : ∃ a0 a1 a2 a3, ls = [a0, a1, a2, a3] := by
   match ls, hsz with
   | [a, b, c, d], _ => exact ⟨a, b, c, d, rfl⟩
 obtain ⟨fuel, hf⟩ := h
 obtain ⟨xs, m2, -, -, -, hxl, hg⟩ := DataW.trod_array ht hf
 have g0 := hg 0 (by decide)
 have g1 := hg 1 (by decide)
 have g2 := hg 2 (by decide)
 have g3 := hg 3 (by decide)
 rw [ce, List.getElem?_eq_getElem (by rw [hxl]; decide)] at g0 g1 g2 g3
 obtain ⟨x, h0, -, w0⟩ := DataW.trod_int (cs := [a0]) he g0
 obtain ⟨y, h1, -, w1⟩ := DataW.trod_int (cs := [a1]) he g1
 obtain ⟨z, h2, -, w2⟩ := DataW.trod_int (cs := [a2]) he g2
 obtain ⟨u, h3, -, w3⟩ := DataW.trod_int (cs := [a3]) he g3
 obtain rfl := (List.cons.inj h0).1
 obtain rfl := (List.cons.inj h1).1
 obtain rfl := (List.cons.inj h2).1
 obtain rfl := (List.cons.inj h3).1
 have e0 := wf_u16n w0
 have e1 := wf_u16n w1
 have e2 := wf_u16n w2
 have e3 := wf_u16n w3
 refine ⟨x.toNat, y.toNat, z.toNat, u.toNat, ?_, by omega, by omega, by omega, by omega⟩
 rw [Int.toNat_of_nonneg e0.1, Int.toNat_of_nonneg e1.1, Int.toNat_of_nonneg e2.1, Int.toNat_of_nonneg e3.1]
/-- Lifted code. -/
theorem open_lifted {r : Reach} {b0 : Nat} {t s0 s1 s2 e0 e1 e2 : TypeId} {f0 f1 f2 : Field} {v : Value} {d : DataW H} {ps : List MemPlace} (ht : P.underlying t = some (.struct #[f0, f1, f2])) (hone : oneCellFields P #[f0, f1, f2] = true) (hC : P.cellsOf t = 3)
   (t0 : f0.type = s0) (t1 : f1.type = s1) (t2 : f2.type = s2) (h0 : P.underlying s0 = some (.slice e0)) (h1 : P.underlying s1 = some (.slice e1)) (h2 : P.underlying s2 = some (.slice e2))
   (k0 : P.underlying e0 = some (.int .u32)) (k1 : P.underlying e1 = some .bool) (k2 : P.underlying e2 = some (.int .i64)) (c0 : P.cellsOf e0 = 1) (c1 : P.cellsOf e1 = 1) (c2 : P.cellsOf e2 = 1)
   (hv : Value.okWide P w r b0 t v) (h : DataW.Trod enc P w base spare held t v d ps) :
   ∃ (WA MA LA : Option Addr) (wc mc lc : Nat) (x : Lf), v = .agg (List.toArray [.slice WA x.ws.length wc, .slice MA x.ms.length mc, .slice LA x.ls.length lc]) ∧ (x.ws.length ≤ wc ∧ x.ms.length ≤ mc ∧ x.ls.length ≤ lc) ∧ W32 x.ws ∧
     (Rd WA (N32 x.ws)).p w ∧ (Rd MA (Bs x.ms)).p w ∧ (Rd LA (I64 x.ls)).p w := by
 obtain ⟨v0, v1, v2, y0, y1, y2, m0, rfl, -, -, g0, g1, g2⟩ := open_agg3 ht hone hC hv h
 rw [t0] at g0
 rw [t1] at g1
 rw [t2] at g2
 obtain ⟨WA, wc, ws, hw, hwc, -, hw32, fW⟩ := open_N32 h0 k0 c0 g0
 obtain ⟨MA, mc, ms, hm, hmc, -, fM⟩ := open_Bs h1 k1 c1 g1
 obtain ⟨LA, lc, ls, hls, hlc, -, fL⟩ := open_I64 h2 k2 c2 g2
 obtain rfl := (List.cons.inj hw).1
 obtain rfl := (List.cons.inj hm).1
 obtain rfl := (List.cons.inj hls).1
 exact ⟨WA, MA, LA, wc, mc, lc, ⟨ws, ms, ls⟩, rfl, ⟨hwc, hmc, hlc⟩, hw32, fW, fM, fL⟩
end
end Go.Sl
end
