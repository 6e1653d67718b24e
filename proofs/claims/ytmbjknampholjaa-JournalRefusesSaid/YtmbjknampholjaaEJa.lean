/-
  The journal as plain data: codes, slots, the log that is read, the next operation.
-/
import Derived.Test.YtmbjknampholjaaEPm
import Derived.Test.YtmbjknampholjaaESlK
namespace Go.Sl

/-! ### Codes -/
def codeB (l : List UInt8) : List UInt8 := l.flatMap fun b => [b, ~~~b]
def numB (n w : Nat) : List UInt8 := (List.range w).map fun i => UInt8.ofNat (n / 256 ^ (w - 1 - i))
def valB (l : List UInt8) : Nat := l.foldl (fun n b => 256 * n + b.toNat) 0
def pairOk (l : List UInt8) (i : Nat) : Bool := l.getD (2 * i) 0 == ~~~(l.getD (2 * i + 1) 0)
def codeTo (l : List UInt8) (k : Nat) : Bool := (List.range k).all (pairOk l)
def evenB (l : List UInt8) (k : Nat) : List UInt8 := (List.range k).map fun i => l.getD (2 * i) 0
def offs : List Nat := [0, 1, 3, 4, 8, 9, 10, 11, 13]
def wds : List Nat := [1, 2, 1, 4, 1, 1, 1, 2, 2]
def decS (b : List UInt8) : List Int := (offs.zip wds).map fun p => (valB ((b.drop p.1).take p.2) : Int)
def stateF (slot : List UInt8) : Option (List Int) := if codeTo slot 15 = true then some (decS (evenB slot 15)) else none
def fitW (x : Int) (w : Nat) : Bool := decide (0 ≤ x ∧ x < (256 ^ w : Nat))
def rightTo (s : List Int) (k : Nat) : Bool := (List.range k).all fun i => fitW (s.getD i 0) (wds.getD i 0)
def rightS (s : List Int) : Bool := rightTo s 9
def bytesTo (s : List Int) (k : Nat) : List UInt8 := (List.range k).flatMap fun i => numB (s.getD i 0).toNat (wds.getD i 0)
def slotF (s : List Int) : List UInt8 := if rightS s = true then codeB (bytesTo s 9) else []

theorem codeB_len (l : List UInt8) : (codeB l).length = 2 * l.length := by
 induction l with
 | nil => rfl
 | cons b l ih =>
   show ([b, ~~~b] ++ codeB l).length = _
   rw [List.length_append, ih]
   simp
   omega
theorem codeB_app (l m : List UInt8) : codeB (l ++ m) = codeB l ++ codeB m := by simp [codeB]
theorem codeB_one (b : UInt8) : codeB [b] = [b, ~~~b] := rfl
theorem numB_len (n w : Nat) : (numB n w).length = w := by simp [numB]
theorem numB_get {n w i : Nat} (h : i < w) : (numB n w).getD i 0 = UInt8.ofNat (n / 256 ^ (w - 1 - i)) := map_range_getD h 0
theorem sub255 (b : UInt8) : 255 - b = ~~~b := by
 apply UInt8.eq_of_toBitVec_eq
 rw [UInt8.toBitVec_sub, UInt8.toBitVec_not]
 exact BitVec.allOnes_sub_eq_not b.toBitVec
theorem codeTo_succ (l : List UInt8) (k : Nat) : codeTo l (k + 1) = (codeTo l k && pairOk l k) := by
 unfold codeTo
 rw [List.range_succ, List.all_append]
 simp
theorem codeTo_zero (l : List UInt8) : codeTo l 0 = true := rfl
theorem codeTo_no {l : List UInt8} {k n : Nat} (hk : k < n) (h : pairOk l k = false) : codeTo l n = false := by
 unfold codeTo
 rw [List.all_eq_false]
 exact ⟨k, List.mem_range.2 hk, by simp [h]⟩
theorem codeTo_get {l : List UInt8} {k n : Nat} (hk : k < n) (h : codeTo l n = true) : pairOk l k = true := by
 unfold codeTo at h
 rw [List.all_eq_true] at h
 exact h k (List.mem_range.2 hk)
theorem codeTo_le {l : List UInt8} {k n : Nat} (hk : k ≤ n) (h : codeTo l n = true) : codeTo l k = true := by
 unfold codeTo at *
 rw [List.all_eq_true] at *
 exact fun i hi => h i (List.mem_range.2 (by have := List.mem_range.1 hi; omega))
theorem codeTo_bad {l : List UInt8} {k n : Nat} (hk : k ≤ n) (h : codeTo l k = false) : codeTo l n = false := by
 cases hn : codeTo l n
 · rfl
 · rw [codeTo_le hk hn] at h; cases h
theorem evenB_len (l : List UInt8) (k : Nat) : (evenB l k).length = k := by simp [evenB]
theorem evenB_succ (l : List UInt8) (k : Nat) : evenB l (k + 1) = evenB l k ++ [l.getD (2 * k) 0] := by simp [evenB, List.range_succ]
theorem evenB_get {l : List UInt8} {k i : Nat} (h : i < k) : (evenB l k).getD i 0 = l.getD (2 * i) 0 := map_range_getD h 0
theorem valB_snoc (l : List UInt8) (b : UInt8) : valB (l ++ [b]) = 256 * valB l + b.toNat := by simp [valB]
theorem foldB_lt : ∀ (l : List UInt8) (a : Nat), l.foldl (fun n b => 256 * n + b.toNat) a < (a + 1) * 256 ^ l.length
 | [], a => by simp
 | b :: l, a => by
   have h := foldB_lt l (256 * a + b.toNat)
   rw [List.foldl_cons, List.length_cons, Nat.pow_succ']
   have hb := UInt8.toNat_lt b
   refine Nat.lt_of_lt_of_le h ?_
   rw [← Nat.mul_assoc]
   exact Nat.mul_le_mul_right _ (by omega)
theorem valB_lt (l : List UInt8) : valB l < 256 ^ l.length := by have := foldB_lt l 0; simpa [valB] using this
theorem getD_drop {α : Type} (l : List α) (k i : Nat) (d : α) : (l.drop k).getD i d = l.getD (k + i) d := by simp [List.getD_eq_getElem?_getD]
theorem pairOk_drop (l : List UInt8) (k i : Nat) : pairOk (l.drop (2 * k)) i = pairOk l (k + i) := by
 unfold pairOk
 rw [getD_drop, getD_drop, show 2 * k + 2 * i = 2 * (k + i) by omega, show 2 * k + (2 * i + 1) = 2 * (k + i) + 1 by omega]
theorem codeTo_drop {l : List UInt8} {k : Nat} (h : codeTo l k = true) (w : Nat) : codeTo (l.drop (2 * k)) w = codeTo l (k + w) := by
 induction w with
 | zero => rw [codeTo_zero, Nat.add_zero, h]
 | succ w ih => rw [codeTo_succ, ih, ← Nat.add_assoc, codeTo_succ, pairOk_drop]
theorem getD_take {α : Type} {l : List α} {k i : Nat} (h : i < k) (d : α) : (l.take k).getD i d = l.getD i d := by simp [List.getD_eq_getElem?_getD, h]
theorem evenB_drop {l : List UInt8} {k w n : Nat} (h : k + w ≤ n) : evenB (l.drop (2 * k)) w = ((evenB l n).drop k).take w := by
 refine ext_getD (d := 0) (by rw [evenB_len, List.length_take, List.length_drop, evenB_len]; omega) fun i hi => ?_
 rw [evenB_len] at hi
 rw [evenB_get hi, getD_drop, getD_take hi, getD_drop, evenB_get (by omega), show 2 * k + 2 * i = 2 * (k + i) by omega]
theorem pairOk_take {l : List UInt8} {i n : Nat} (h : 2 * i + 1 < n) : pairOk (l.take n) i = pairOk l i := by
 unfold pairOk
 rw [getD_take (by omega), getD_take h]
theorem codeTo_take {l : List UInt8} {k n : Nat} (h : 2 * k ≤ n) : codeTo (l.take n) k = codeTo l k := by
 induction k with
 | zero => rfl
 | succ k ih => rw [codeTo_succ, codeTo_succ, ih (by omega), pairOk_take (by omega)]
theorem evenB_take {l : List UInt8} {k n : Nat} (h : 2 * k ≤ n) : evenB (l.take n) k = evenB l k := by
 refine ext_getD (d := 0) (by rw [evenB_len, evenB_len]) fun i hi => ?_
 rw [evenB_len] at hi
 rw [evenB_get hi, evenB_get hi, getD_take (by omega)]
theorem rightTo_succ (s : List Int) (k : Nat) : rightTo s (k + 1) = (rightTo s k && fitW (s.getD k 0) (wds.getD k 0)) := by
 unfold rightTo
 rw [List.range_succ, List.all_append]
 simp
theorem rightTo_no {s : List Int} {k : Nat} (hk : k < 9) (h : fitW (s.getD k 0) (wds.getD k 0) = false) : rightS s = false := by
 unfold rightS rightTo
 rw [List.all_eq_false]
 exact ⟨k, List.mem_range.2 hk, by simp only [h, Bool.false_eq_true, not_false_eq_true]⟩
theorem rightS_get {s : List Int} (h : rightS s = true) {k : Nat} (hk : k < 9) : 0 ≤ s.getD k 0 ∧ s.getD k 0 < (256 ^ wds.getD k 0 : Nat) := by
 unfold rightS rightTo at h
 rw [List.all_eq_true] at h
 have := h k (List.mem_range.2 hk)
 unfold fitW at this
 exact of_decide_eq_true this
theorem bytesTo_succ (s : List Int) (k : Nat) : bytesTo s (k + 1) = bytesTo s k ++ numB (s.getD k 0).toNat (wds.getD k 0) := by simp [bytesTo, List.range_succ]
theorem bytesTo_le (s : List Int) {k : Nat} (h : k ≤ 9) : (bytesTo s k).length ≤ 15 := by
 have e : ∀ k, bytesTo s (k + 1) = bytesTo s k ++ numB (s.getD k 0).toNat (wds.getD k 0) := bytesTo_succ s
 match k, h with
 | 0, _ => exact Nat.zero_le _
 | 1, _ | 2, _ | 3, _ | 4, _ | 5, _ | 6, _ | 7, _ | 8, _ | 9, _ =>
   simp only [e, List.length_append, numB_len]
   rw [show (bytesTo s 0).length = 0 from rfl]
   decide
theorem bytesTo_nine (s : List Int) : (bytesTo s 9).length = 15 := by
 have e : ∀ k, bytesTo s (k + 1) = bytesTo s k ++ numB (s.getD k 0).toNat (wds.getD k 0) := bytesTo_succ s
 simp only [e, List.length_append, numB_len]
 rfl
theorem slotF_yes {s : List Int} (h : rightS s = true) : slotF s = codeB (bytesTo s 9) := if_pos h
theorem slotF_no {s : List Int} (h : rightS s = false) : slotF s = [] := if_neg (by rw [h]; exact Bool.false_ne_true)
theorem slotF_len {s : List Int} (h : rightS s = true) : (slotF s).length = 30 := by rw [slotF_yes h, codeB_len, bytesTo_nine]
theorem slotF_le (s : List Int) : (slotF s).length = 30 ∨ slotF s = [] := by
 cases h : rightS s
 · exact .inr (slotF_no h)
 · exact .inl (slotF_len h)
theorem decS_len (b : List UInt8) : (decS b).length = 9 := by simp [decS, offs, wds]

/-! ### The log -/
structure Lg where
 sec : Int
 oth : Int
 gen : Int
 s : List Int
 found : Bool
 free : Nat
 torn : Nat
def lg0 : Lg := ⟨0, 0, 0, List.replicate 9 0, false, 0, 0⟩
def slotAt (row : List UInt8) (i : Nat) : List UInt8 := (row.drop (8 + 30 * i)).take 30
def blankB (l : List UInt8) : Bool := l.all (· == 255)
def stepL (row : List UInt8) (x : Lg) (i : Nat) : Lg :=
 if blankB (slotAt row i) = true then x
 else match stateF (slotAt row i) with
   | some s => { x with free := i + 1, s := s, found := true }
   | none => { x with free := i + 1, torn := x.torn + 1 }
def scanL (row : List UInt8) (x : Lg) (k : Nat) : Lg := (List.range k).foldl (stepL row) x
def genF (row : List UInt8) : Int := if codeTo row 4 = true then (valB (evenB row 4) : Int) else -1
def plcs (f : Fl) : Nat := (f.size - 8) / 30
def secR (f : Fl) (s : Int) : List UInt8 := f.data.getD s.toNat []
def fitsF (f : Fl) (a b : Int) : Bool := decide (a ≠ b ∧ 0 ≤ a ∧ 0 ≤ b ∧ a < (f.data.length : Int) ∧ b < (f.data.length : Int) ∧ 38 ≤ f.size)
def pickL (f : Fl) (a b : Int) : Lg := if genF (secR f b) > genF (secR f a) then { lg0 with sec := b, oth := a, gen := genF (secR f b) } else { lg0 with sec := a, oth := b, gen := genF (secR f a) }
def findF (f : Fl) (a b : Int) : Lg := if fitsF f a b = true then (if (pickL f a b).gen < 0 then pickL f a b else scanL (secR f (pickL f a b).sec) (pickL f a b) (plcs f)) else lg0
/-- What the program's find hands back: nothing where no generation is right. -/
def findP (f : Fl) (a b : Int) : Lg := if fitsF f a b = true then (if (pickL f a b).gen < 0 then lg0 else scanL (secR f (pickL f a b).sec) (pickL f a b) (plcs f)) else lg0
theorem pickL_found (f : Fl) (a b : Int) : (pickL f a b).found = false := by unfold pickL; split <;> rfl
theorem findP_found (f : Fl) (a b : Int) : (findP f a b).found = (findF f a b).found := by
 unfold findP findF
 split
 · split
   · rw [pickL_found]; rfl
   · rfl
 · rfl
theorem findP_eq {f : Fl} {a b : Int} (h : (findF f a b).found = true) : findP f a b = findF f a b := by
 unfold findP
 unfold findF at h ⊢
 split
 · rename_i h1
   rw [if_pos h1] at h
   split
   · rename_i h2
     rw [if_pos h2, pickL_found] at h
     cases h
   · rfl
 · rfl
theorem scanL_succ (row : List UInt8) (x : Lg) (k : Nat) : scanL row x (k + 1) = stepL row (scanL row x k) k := by simp [scanL, List.range_succ]
theorem stepL_keep (row : List UInt8) (x : Lg) (i : Nat) : (stepL row x i).sec = x.sec ∧ (stepL row x i).oth = x.oth ∧ (stepL row x i).gen = x.gen := by
 unfold stepL
 split
 · exact ⟨rfl, rfl, rfl⟩
 · split <;> exact ⟨rfl, rfl, rfl⟩
theorem scanL_keep (row : List UInt8) (x : Lg) (k : Nat) : (scanL row x k).sec = x.sec ∧ (scanL row x k).oth = x.oth ∧ (scanL row x k).gen = x.gen := by
 induction k with
 | zero => exact ⟨rfl, rfl, rfl⟩
 | succ k ih =>
   rw [scanL_succ]
   obtain ⟨h1, h2, h3⟩ := stepL_keep row (scanL row x k) k
   exact ⟨h1.trans ih.1, h2.trans ih.2.1, h3.trans ih.2.2⟩
/-- The places that the program's find tells. -/
def lgP (f : Fl) (a b : Int) : Nat := if fitsF f a b = true then (if (pickL f a b).gen < 0 then 0 else plcs f) else 0
theorem lgP_eq {f : Fl} {a b : Int} (h : (findF f a b).found = true) : lgP f a b = plcs f := by
 unfold lgP
 unfold findF at h
 split
 · rename_i h1
   rw [if_pos h1] at h
   split
   · rename_i h2
     rw [if_pos h2, pickL_found] at h
     cases h
   · rfl
 · rename_i h1
   rw [if_neg h1] at h
   cases h
theorem fitsF_ok {f : Fl} {a b : Int} (h : fitsF f a b = true) : a ≠ b ∧ 0 ≤ a ∧ 0 ≤ b ∧ a < (f.data.length : Int) ∧ b < (f.data.length : Int) ∧ 38 ≤ f.size := of_decide_eq_true h
theorem pickL_sec {f : Fl} {a b : Int} (h : fitsF f a b = true) : 0 ≤ (pickL f a b).sec ∧ (pickL f a b).sec < (f.data.length : Int) ∧ 0 ≤ (pickL f a b).oth ∧ (pickL f a b).oth < (f.data.length : Int) := by
 have := fitsF_ok h
 unfold pickL
 split
 · exact ⟨this.2.2.1, this.2.2.2.2.1, this.2.1, this.2.2.2.1⟩
 · exact ⟨this.2.1, this.2.2.2.1, this.2.2.1, this.2.2.2.2.1⟩
/-- What Read tells: the state, the torn places, the error. -/
def readF (f : Fl) (a b : Int) : List Int × Nat × Int := if (findF f a b).found = true then ((findF f a b).s, (findF f a b).torn, 0) else (List.replicate 9 0, 0, 200)
theorem readF_yes {f : Fl} {a b : Int} (h : (findF f a b).found = true) : readF f a b = ((findF f a b).s, (findF f a b).torn, 0) := if_pos h
theorem readF_no {f : Fl} {a b : Int} (h : (findF f a b).found = false) : readF f a b = (List.replicate 9 0, 0, 200) := if_neg (by rw [h]; exact Bool.false_ne_true)
theorem plcs_pos {f : Fl} (h : 38 ≤ f.size) : 0 < plcs f := by unfold plcs; omega
/-- A layout, as it lies. -/
structure Ly where
 n : Int
 a : Int
 b : Int
 s0 : Int
 s1 : Int
 T : Option Addr
 tn : Nat
 tc : Nat
 U : Option Addr
 un : Nat
 uc : Nat
 V : Option Addr
 vn : Nat
 vc : Nat
theorem stepL_free {row : List UInt8} {x : Lg} {i : Nat} (h1 : x.free ≤ i) (h2 : x.torn ≤ i) : (stepL row x i).free ≤ i + 1 ∧ (stepL row x i).torn ≤ i + 1 := by
 unfold stepL
 split
 · exact ⟨by omega, by omega⟩
 · split <;> exact ⟨by dsimp only; omega, by dsimp only; omega⟩
theorem scanL_free {row : List UInt8} {x : Lg} (h1 : x.free = 0) (h2 : x.torn = 0) (k : Nat) : (scanL row x k).free ≤ k ∧ (scanL row x k).torn ≤ k := by
 induction k with
 | zero => exact ⟨Nat.le_of_eq h1, Nat.le_of_eq h2⟩
 | succ k ih => rw [scanL_succ]; exact stepL_free ih.1 ih.2
theorem pickL_free {f : Fl} {a b : Int} : (pickL f a b).free = 0 ∧ (pickL f a b).torn = 0 := by unfold pickL; split <;> exact ⟨rfl, rfl⟩
theorem plcs_le {f : Fl} (ok : f.Ok) : plcs f ≤ 137 := by
 have := ok.s2
 unfold plcs
 omega
theorem stateF_len {l : List UInt8} {s : List Int} (h : stateF l = some s) : s.length = 9 := by
 unfold stateF at h
 split at h
 · injection h with h; rw [← h, decS_len]
 · cases h
theorem stepL_len {row : List UInt8} {x : Lg} {i : Nat} (h : x.s.length = 9) : (stepL row x i).s.length = 9 := by
 unfold stepL
 split
 · exact h
 · split
   · next s hs => exact stateF_len hs
   · exact h
theorem pickL_len (f : Fl) (a b : Int) : (pickL f a b).s.length = 9 := by unfold pickL; split <;> rfl
theorem scanL_len {row : List UInt8} {x : Lg} (h : x.s.length = 9) (k : Nat) : (scanL row x k).s.length = 9 := by
 induction k with
 | zero => exact h
 | succ k ih => rw [scanL_succ]; exact stepL_len ih
theorem findP_len (f : Fl) (a b : Int) : (findP f a b).s.length = 9 := by
 unfold findP
 split
 · split
   · rfl
   · exact scanL_len (pickL_len ..) _
 · rfl
theorem stepL_b {row : List UInt8} {x : Lg} {i : Nat} (h : blankB (slotAt row i) = true) : stepL row x i = x := if_pos h
theorem stepL_s {row : List UInt8} {x : Lg} {i : Nat} {s : List Int} (h : blankB (slotAt row i) = false) (hs : stateF (slotAt row i) = some s) : stepL row x i = { x with free := i + 1, s := s, found := true } := by
 unfold stepL
 rw [if_neg (by rw [h]; exact Bool.false_ne_true), hs]
theorem stepL_t {row : List UInt8} {x : Lg} {i : Nat} (h : blankB (slotAt row i) = false) (hs : stateF (slotAt row i) = none) : stepL row x i = { x with free := i + 1, torn := x.torn + 1 } := by
 unfold stepL
 rw [if_neg (by rw [h]; exact Bool.false_ne_true), hs]
theorem blank_get {l : List UInt8} (h : blankB l = true) {i : Nat} (hi : i < l.length) : l.getD i 0 = 255 := by
 unfold blankB at h
 rw [List.all_eq_true] at h
 have := h (l.getD i 0) (by rw [List.getD_eq_getElem?_getD, List.getElem?_eq_getElem hi]; exact List.getElem_mem hi)
 simpa using this
theorem rep_blank (n : Nat) : blankB (List.replicate n 255) = true := by
 unfold blankB
 rw [List.all_eq_true]
 intro x hx
 rw [List.eq_of_mem_replicate hx]
 rfl
theorem count_blank (l : List UInt8) : (l.count 255 == l.length) = blankB l := by
 rw [Bool.eq_iff_iff, beq_iff_eq, List.count_eq_length]
 unfold blankB
 rw [List.all_eq_true]
 exact ⟨fun h b hb => by rw [← h b hb]; rfl, fun h b hb => (eq_of_beq (h b hb)).symm⟩
theorem blank_none {l : List UInt8} (hl : 2 ≤ l.length) (h : blankB l = true) : stateF l = none := by
 unfold stateF
 rw [if_neg]
 intro hc
 have := codeTo_get (show 0 < 15 by decide) hc
 unfold pairOk at this
 rw [blank_get h (by omega), blank_get h (by omega)] at this
 exact absurd this (by decide)
theorem slotAt_len {f : Fl} {row : List UInt8} {i : Nat} (hr : row.length = f.size) (hi : i < plcs f) : (slotAt row i).length = 30 ∧ 8 + 30 * i + 30 ≤ f.size := by
 unfold plcs at hi
 have h1 : 30 * (i + 1) ≤ f.size - 8 := by
   have := Nat.div_mul_le_self (f.size - 8) 30
   have h2 : (i + 1) * 30 ≤ (f.size - 8) / 30 * 30 := Nat.mul_le_mul_right _ hi
   omega
 unfold slotAt
 rw [List.length_take, List.length_drop, hr]
 omega

/-! ### The next operation -/
def aboveTo (b w : List UInt8) (k : Nat) : Bool := (List.range k).all fun i => b.getD i 0 &&& w.getD i 0 == w.getD i 0
def contF (n : Nat) (gen : Int) (slot : List UInt8) : List UInt8 :=
 (if 0 < gen then codeB (numB gen.toNat 4) else List.replicate 8 255) ++ slot ++ List.replicate (n - 8 - slot.length) 255
def progF (f : Fl) (x : Fo) : Nx := if f.dead.getD x.sec.toNat false = true then ⟨fo0, false, 171⟩ else ⟨x, false, 0⟩
def readyB (there want : List UInt8) : Bool := there.drop 8 == want.drop 8 && aboveTo there (want.take 8) 8
def nextF (f : Fl) (a b : Int) (s : List Int) : Nx :=
 if (findF f a b).found = false ∨ rightS s = false then ⟨fo0, false, 200⟩
 else if (findF f a b).s = s then ⟨fo0, true, 0⟩
 else if (findF f a b).free < plcs f then progF f ⟨2, (findF f a b).sec, 8 + 30 * ((findF f a b).free : Int), slotF s⟩
 else if readyB (secR f (findF f a b).oth) (contF f.size ((findF f a b).gen + 1) (slotF s)) = true then progF f ⟨2, (findF f a b).oth, 0, (contF f.size ((findF f a b).gen + 1) (slotF s)).take 8⟩
 else towN f (findF f a b).oth (contF f.size 0 (slotF s))
def reachF (sec : Int) (want : List UInt8) : Nat → Fl → Fl × Int
 | 0, f => (f, (towN f sec want).e)
 | k + 1, f => if (towN f sec want).done = true ∨ (towN f sec want).e ≠ 0 then (f, (towN f sec want).e) else reachF sec want k (cutR f (towN f sec want).x (fun _ => 255))
def formatF (f : Fl) (a b : Int) (s : List Int) : Fl × Int :=
 if fitsF f a b = false ∨ rightS s = false then (flz, 200)
 else if (reachF a (contF f.size 1 (slotF s)) 3 f).2 ≠ 0 then (flz, (reachF a (contF f.size 1 (slotF s)) 3 f).2)
 else if (reachF b (contF f.size 0 []) 3 (reachF a (contF f.size 1 (slotF s)) 3 f).1).2 ≠ 0 then (flz, (reachF b (contF f.size 0 []) 3 (reachF a (contF f.size 1 (slotF s)) 3 f).1).2)
 else ((reachF b (contF f.size 0 []) 3 (reachF a (contF f.size 1 (slotF s)) 3 f).1).1, 0)
theorem aboveTo_succ (b w : List UInt8) (k : Nat) : aboveTo b w (k + 1) = (aboveTo b w k && (b.getD k 0 &&& w.getD k 0 == w.getD k 0)) := by
 unfold aboveTo
 rw [List.range_succ, List.all_append]
 simp
theorem aboveTo_no {b w : List UInt8} {k n : Nat} (hk : k < n) (h : b.getD k 0 &&& w.getD k 0 ≠ w.getD k 0) : aboveTo b w n = false := by
 unfold aboveTo
 rw [List.all_eq_false]
 exact ⟨k, List.mem_range.2 hk, by simpa [-List.getD_eq_getElem?_getD] using h⟩
theorem contF_len {n : Nat} {gen : Int} {slot : List UInt8} (h : 8 + slot.length ≤ n) : (contF n gen slot).length = n := by
 unfold contF
 rw [List.length_append, List.length_append, List.length_replicate]
 split
 · rw [codeB_len, numB_len]; omega
 · rw [List.length_replicate]; omega

/-! ### A state, read field by field -/
def offK (k : Nat) : Nat := offs.getD k 15
theorem offK_succ {k : Nat} (h : k < 9) : offK (k + 1) = offK k + wds.getD k 0 := by
 match k, h with
 | 0, _ | 1, _ | 2, _ | 3, _ | 4, _ | 5, _ | 6, _ | 7, _ | 8, _ => rfl
theorem offK_le {k : Nat} (h : k < 9) : offK k + wds.getD k 0 ≤ 15 := by
 match k, h with
 | 0, _ | 1, _ | 2, _ | 3, _ | 4, _ | 5, _ | 6, _ | 7, _ | 8, _ => decide
theorem decS_get {b : List UInt8} {k : Nat} (h : k < 9) : (decS b).getD k 0 = (valB ((b.drop (offK k)).take (wds.getD k 0)) : Int) := by
 match k, h with
 | 0, _ | 1, _ | 2, _ | 3, _ | 4, _ | 5, _ | 6, _ | 7, _ | 8, _ => rfl
def decTo (l : List UInt8) (k : Nat) : List Int := (List.range 9).map fun i => if i < k then (decS (evenB l 15)).getD i 0 else 0
theorem decTo_len (l : List UInt8) (k : Nat) : (decTo l k).length = 9 := by simp [decTo]
theorem decTo_nine (l : List UInt8) : decTo l 9 = decS (evenB l 15) := by
 refine ext_getD (d := 0) (by rw [decTo_len, decS_len]) fun i hi => ?_
 rw [decTo_len] at hi
 unfold decTo
 rw [map_range_getD hi, if_pos hi]
theorem decTo_set {l : List UInt8} {k : Nat} (h : k < 9) : (decTo l k).set k (valB (evenB (l.drop (2 * offK k)) (wds.getD k 0)) : Int) = decTo l (k + 1) := by
 refine ext_getD (d := 0) (by rw [List.length_set, decTo_len, decTo_len]) fun i hi => ?_
 rw [List.length_set, decTo_len] at hi
 have e1 : (decTo l (k + 1)).getD i 0 = if i < k + 1 then (decS (evenB l 15)).getD i 0 else 0 := by unfold decTo; rw [map_range_getD hi]
 have e2 : (decTo l k).getD i 0 = if i < k then (decS (evenB l 15)).getD i 0 else 0 := by unfold decTo; rw [map_range_getD hi]
 rw [e1]
 by_cases hk : k = i
 · subst hk
   rw [getD_set_eq (by rw [decTo_len]; exact h), if_pos (Nat.lt_succ_self _), decS_get h, evenB_drop (offK_le h)]
 · rw [getD_set_ne hk, e2]
   by_cases h2 : i < k
   · rw [if_pos h2, if_pos (by omega)]
   · rw [if_neg h2, if_neg (by omega)]

/-! ### The reference's readings -/
def smI : List Nat := [0, 2, 4, 5, 6]
def lgI : List Nat := [1, 7, 8]
def smV (s : List Int) : List Value := [.int .i64 (s.getD 0 0), .int .i64 (s.getD 2 0), .int .i64 (s.getD 4 0), .int .i64 (s.getD 5 0), .int .i64 (s.getD 6 0)]
def lgV (s : List Int) : List Value := [.int .i64 (s.getD 1 0), .int .i64 (s.getD 7 0), .int .i64 (s.getD 8 0)]
theorem smV_get (s : List Int) {k : Nat} (h : k < 5) : (smV s)[k]? = some (.int .i64 (s.getD (smI.getD k 0) 0)) := by
 match k, h with
 | 0, _ | 1, _ | 2, _ | 3, _ | 4, _ => rfl
theorem lgV_get (s : List Int) {k : Nat} (h : k < 3) : (lgV s)[k]? = some (.int .i64 (s.getD (lgI.getD k 0) 0)) := by
 match k, h with
 | 0, _ | 1, _ | 2, _ => rfl
def small (s : List Int) (k : Nat) : Prop := ∀ j, j < k → 0 ≤ s.getD (smI.getD j 0) 0 ∧ s.getD (smI.getD j 0) 0 ≤ 255
def large (s : List Int) (k : Nat) : Prop := ∀ j, j < k → 0 ≤ s.getD (lgI.getD j 0) 0 ∧ s.getD (lgI.getD j 0) 0 ≤ 65535
theorem small_next {s : List Int} {k : Nat} (h : small s k) (h1 : 0 ≤ s.getD (smI.getD k 0) 0 ∧ s.getD (smI.getD k 0) 0 ≤ 255) : small s (k + 1) := fun j hj => by
 by_cases e : j = k
 · subst e; exact h1
 · exact h j (by omega)
theorem large_next {s : List Int} {k : Nat} (h : large s k) (h1 : 0 ≤ s.getD (lgI.getD k 0) 0 ∧ s.getD (lgI.getD k 0) 0 ≤ 65535) : large s (k + 1) := fun j hj => by
 by_cases e : j = k
 · subst e; exact h1
 · exact h j (by omega)
theorem right_all {s : List Int} : rightS s = true ↔ small s 5 ∧ large s 3 ∧ 0 ≤ s.getD 3 0 ∧ s.getD 3 0 ≤ 4294967295 := by
 constructor
 · intro h
   refine ⟨fun j hj => ?_, fun j hj => ?_, ?_⟩
   · match j, hj with
     | 0, _ => have := rightS_get h (show 0 < 9 by decide); simp only [show (256 ^ wds.getD 0 0 : Nat) = 256 from rfl] at this; exact ⟨this.1, by have := this.2; show s.getD 0 0 ≤ 255; omega⟩
     | 1, _ => have := rightS_get h (show 2 < 9 by decide); simp only [show (256 ^ wds.getD 2 0 : Nat) = 256 from rfl] at this; exact ⟨this.1, by have := this.2; show s.getD 2 0 ≤ 255; omega⟩
     | 2, _ => have := rightS_get h (show 4 < 9 by decide); simp only [show (256 ^ wds.getD 4 0 : Nat) = 256 from rfl] at this; exact ⟨this.1, by have := this.2; show s.getD 4 0 ≤ 255; omega⟩
     | 3, _ => have := rightS_get h (show 5 < 9 by decide); simp only [show (256 ^ wds.getD 5 0 : Nat) = 256 from rfl] at this; exact ⟨this.1, by have := this.2; show s.getD 5 0 ≤ 255; omega⟩
     | 4, _ => have := rightS_get h (show 6 < 9 by decide); simp only [show (256 ^ wds.getD 6 0 : Nat) = 256 from rfl] at this; exact ⟨this.1, by have := this.2; show s.getD 6 0 ≤ 255; omega⟩
   · match j, hj with
     | 0, _ => have := rightS_get h (show 1 < 9 by decide); simp only [show (256 ^ wds.getD 1 0 : Nat) = 65536 from rfl] at this; exact ⟨this.1, by have := this.2; show s.getD 1 0 ≤ 65535; omega⟩
     | 1, _ => have := rightS_get h (show 7 < 9 by decide); simp only [show (256 ^ wds.getD 7 0 : Nat) = 65536 from rfl] at this; exact ⟨this.1, by have := this.2; show s.getD 7 0 ≤ 65535; omega⟩
     | 2, _ => have := rightS_get h (show 8 < 9 by decide); simp only [show (256 ^ wds.getD 8 0 : Nat) = 65536 from rfl] at this; exact ⟨this.1, by have := this.2; show s.getD 8 0 ≤ 65535; omega⟩
   · have := rightS_get h (show 3 < 9 by decide); simp only [show (256 ^ wds.getD 3 0 : Nat) = 4294967296 from rfl] at this; omega
 · rintro ⟨h1, h2, h3⟩
   unfold rightS rightTo
   rw [List.all_eq_true]
   intro k hk
   replace hk := List.mem_range.1 hk
   unfold fitW
   refine decide_eq_true ?_
   match k, hk with
   | 0, _ => have := h1 0 (by decide); show 0 ≤ s.getD 0 0 ∧ s.getD 0 0 < 256; exact ⟨this.1, Int.lt_of_le_of_lt this.2 (by decide)⟩
   | 1, _ => have := h2 0 (by decide); show 0 ≤ s.getD 1 0 ∧ s.getD 1 0 < 65536; exact ⟨this.1, Int.lt_of_le_of_lt this.2 (by decide)⟩
   | 2, _ => have := h1 1 (by decide); show 0 ≤ s.getD 2 0 ∧ s.getD 2 0 < 256; exact ⟨this.1, Int.lt_of_le_of_lt this.2 (by decide)⟩
   | 3, _ => show 0 ≤ s.getD 3 0 ∧ s.getD 3 0 < 4294967296; exact ⟨h3.1, Int.lt_of_le_of_lt h3.2 (by decide)⟩
   | 4, _ => have := h1 2 (by decide); show 0 ≤ s.getD 4 0 ∧ s.getD 4 0 < 256; exact ⟨this.1, Int.lt_of_le_of_lt this.2 (by decide)⟩
   | 5, _ => have := h1 3 (by decide); show 0 ≤ s.getD 5 0 ∧ s.getD 5 0 < 256; exact ⟨this.1, Int.lt_of_le_of_lt this.2 (by decide)⟩
   | 6, _ => have := h1 4 (by decide); show 0 ≤ s.getD 6 0 ∧ s.getD 6 0 < 256; exact ⟨this.1, Int.lt_of_le_of_lt this.2 (by decide)⟩
   | 7, _ => have := h2 1 (by decide); show 0 ≤ s.getD 7 0 ∧ s.getD 7 0 < 65536; exact ⟨this.1, Int.lt_of_le_of_lt this.2 (by decide)⟩
   | 8, _ => have := h2 2 (by decide); show 0 ≤ s.getD 8 0 ∧ s.getD 8 0 < 65536; exact ⟨this.1, Int.lt_of_le_of_lt this.2 (by decide)⟩
def slot15 (s : List Int) : List UInt8 := [UInt8.ofInt (s.getD 0 0)] ++ numB (s.getD 1 0).toNat 2 ++ [UInt8.ofInt (s.getD 2 0)] ++ numB (s.getD 3 0).toNat 4 ++ [UInt8.ofInt (s.getD 4 0), UInt8.ofInt (s.getD 5 0), UInt8.ofInt (s.getD 6 0)] ++ numB (s.getD 7 0).toNat 2 ++ numB (s.getD 8 0).toNat 2
theorem numB_one {x : Int} (h : 0 ≤ x) : numB x.toNat 1 = [UInt8.ofInt x] := by
 have e : UInt8.ofInt x = UInt8.ofNat x.toNat := by
   conv => lhs; rw [← Int.toNat_of_nonneg h]
   apply UInt8.toNat_inj.1
   simp [UInt8.ofInt, UInt8.toNat_ofNat']
   omega
 show [UInt8.ofNat (x.toNat / 256 ^ 0)] = _
 rw [e, Nat.pow_zero, Nat.div_one]
theorem slot15_eq {s : List Int} (h : rightS s = true) : slot15 s = bytesTo s 9 := by
 have h0 := fun k (hk : k < 9) => (rightS_get h hk).1
 have e : ∀ k, bytesTo s (k + 1) = bytesTo s k ++ numB (s.getD k 0).toNat (wds.getD k 0) := bytesTo_succ s
 have w0 : numB (s.getD 0 0).toNat (wds.getD 0 0) = _ := numB_one (h0 0 (by decide))
 have w2 : numB (s.getD 2 0).toNat (wds.getD 2 0) = _ := numB_one (h0 2 (by decide))
 have w4 : numB (s.getD 4 0).toNat (wds.getD 4 0) = _ := numB_one (h0 4 (by decide))
 have w5 : numB (s.getD 5 0).toNat (wds.getD 5 0) = _ := numB_one (h0 5 (by decide))
 have w6 : numB (s.getD 6 0).toNat (wds.getD 6 0) = _ := numB_one (h0 6 (by decide))
 rw [e, e, e, e, e, e, e, e, e, w0, w2, w4, w5, w6, show bytesTo s 0 = [] from rfl, show wds.getD 1 0 = 2 from rfl, show wds.getD 3 0 = 4 from rfl, show wds.getD 7 0 = 2 from rfl, show wds.getD 8 0 = 2 from rfl]
 unfold slot15
 simp only [List.nil_append, List.append_assoc, List.cons_append]
/-! ### The fields of a state, as they lie -/
def fieldsV (S : Option Addr) : List Value := [ptrOf S 0, .int .i64 1, ptrOf S 1, .int .i64 2, ptrOf S 2, .int .i64 1, ptrOf S 3, .int .i64 4, ptrOf S 4, .int .i64 1, ptrOf S 5, .int .i64 1, ptrOf S 6, .int .i64 1, ptrOf S 7, .int .i64 2, ptrOf S 8, .int .i64 2]
theorem fieldsV_at (S : Option Addr) {k : Nat} (h : k < 9) : ((fieldsV S).drop (k * 2)).take 2 = [ptrOf S k, .int .i64 (wds.getD k 0 : Int)] := by
 match k, h with
 | 0, _ => rfl
 | 1, _ => rfl
 | 2, _ => rfl
 | 3, _ => rfl
 | 4, _ => rfl
 | 5, _ => rfl
 | 6, _ => rfl
 | 7, _ => rfl
 | 8, _ => rfl
theorem wds_le {k : Nat} (h : k < 9) : 1 ≤ wds.getD k 0 ∧ wds.getD k 0 ≤ 4 := by
 match k, h with
 | 0, _ => decide
 | 1, _ => decide
 | 2, _ => decide
 | 3, _ => decide
 | 4, _ => decide
 | 5, _ => decide
 | 6, _ => decide
 | 7, _ => decide
 | 8, _ => decide
end Go.Sl
