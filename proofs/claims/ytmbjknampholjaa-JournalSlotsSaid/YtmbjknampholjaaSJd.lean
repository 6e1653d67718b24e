/-
  The journal as plain data: slots read back; what lies above a code is no other code.
-/
import Derived.Test.YtmbjknampholjaaSJc
namespace Go.Sl

/-! ### Codes read back -/
theorem codeB_get (l : List UInt8) : ∀ (i : Nat), i < l.length → (codeB l).getD (2 * i) 0 = l.getD i 0 ∧ (codeB l).getD (2 * i + 1) 0 = ~~~(l.getD i 0) := by
  induction l with
  | nil => intro i hi; cases hi
  | cons b l ih =>
    intro i hi
    have e : codeB (b :: l) = b :: ~~~b :: codeB l := rfl
    rw [e]
    cases i with
    | zero => exact ⟨rfl, rfl⟩
    | succ i =>
      have := ih i (by simpa using hi)
      rw [show 2 * (i + 1) = 2 * i + 1 + 1 by omega, show 2 * i + 1 + 1 + 1 = (2 * i + 1) + 1 + 1 by omega]
      simpa using this
theorem not_not8 (b : UInt8) : ~~~(~~~b) = b := by
  apply UInt8.eq_of_toBitVec_eq
  simp
theorem codeB_pair {l : List UInt8} {i : Nat} (h : i < l.length) : pairOk (codeB l) i = true := by
  unfold pairOk
  rw [(codeB_get l i h).1, (codeB_get l i h).2, not_not8]
  exact beq_self_eq_true _
theorem codeB_to (l : List UInt8) {k : Nat} (h : k ≤ l.length) : codeTo (codeB l) k = true := by
  unfold codeTo
  rw [List.all_eq_true]
  exact fun i hi => codeB_pair (by have := List.mem_range.1 hi; omega)
theorem evenB_code (l : List UInt8) : evenB (codeB l) l.length = l := by
  refine ext_getD (d := 0) (evenB_len _ _) fun i hi => ?_
  rw [evenB_len] at hi
  rw [evenB_get hi, (codeB_get l i hi).1]
theorem numB_snoc (n w : Nat) : numB n (w + 1) = numB (n / 256) w ++ [UInt8.ofNat n] := by
  unfold numB
  rw [List.range_succ, List.map_append, List.map_singleton, show w + 1 - 1 - w = 0 by omega, Nat.pow_zero, Nat.div_one]
  congr 1
  refine List.map_congr_left fun i hi => ?_
  have := List.mem_range.1 hi
  rw [Nat.div_div_eq_div_mul, ← Nat.pow_succ', show (w - 1 - i).succ = w + 1 - 1 - i by omega]
theorem valB_numB : ∀ (w n : Nat), n < 256 ^ w → valB (numB n w) = n
  | 0, n, h => by
    have : n = 0 := by simpa using h
    subst this
    rfl
  | w + 1, n, h => by
    rw [numB_snoc, valB_snoc, valB_numB w (n / 256) (by rw [Nat.div_lt_iff_lt_mul (by decide), ← Nat.pow_succ]; exact h)]
    rw [UInt8.toNat_ofNat']
    omega
theorem bytesTo_off (s : List Int) {k : Nat} (h : k ≤ 9) : (bytesTo s k).length = offK k := by
  have e : ∀ k, bytesTo s (k + 1) = bytesTo s k ++ numB (s.getD k 0).toNat (wds.getD k 0) := bytesTo_succ s
  match k, h with
  | 0, _ => rfl
  | 1, _ | 2, _ | 3, _ | 4, _ | 5, _ | 6, _ | 7, _ | 8, _ | 9, _ =>
    simp only [e, List.length_append, numB_len]
    rw [show (bytesTo s 0).length = 0 from rfl]
    rfl
theorem bytesTo_more (s : List Int) (k m : Nat) : ∃ r, bytesTo s (k + m) = bytesTo s k ++ r := by
  induction m with
  | zero => exact ⟨[], by simp⟩
  | succ m ih =>
    obtain ⟨r, hr⟩ := ih
    exact ⟨r ++ numB (s.getD (k + m) 0).toNat (wds.getD (k + m) 0), by rw [← Nat.add_assoc, bytesTo_succ, hr, List.append_assoc]⟩
theorem bytesTo_field (s : List Int) {k : Nat} (h : k < 9) : ((bytesTo s 9).drop (offK k)).take (wds.getD k 0) = numB (s.getD k 0).toNat (wds.getD k 0) := by
  obtain ⟨r, hr⟩ := bytesTo_more s (k + 1) (9 - (k + 1))
  rw [show k + 1 + (9 - (k + 1)) = 9 by omega, bytesTo_succ s k, List.append_assoc] at hr
  rw [hr, ← bytesTo_off s (show k ≤ 9 by omega), List.drop_append_of_le_length (Nat.le_refl _), List.drop_length, List.nil_append]
  have := numB_len (s.getD k 0).toNat (wds.getD k 0)
  rw [List.take_append_of_le_length (by omega), List.take_of_length_le (by omega)]
theorem decS_bytes {s : List Int} (hs : s.length = 9) (h : rightS s = true) : decS (bytesTo s 9) = s := by
  refine ext_getD (d := 0) (by rw [decS_len, hs]) fun i hi => ?_
  rw [decS_len] at hi
  have hr := rightS_get h hi
  rw [decS_get hi, bytesTo_field s hi, valB_numB _ _ (by omega)]
  omega
theorem stateF_slot {s : List Int} (hs : s.length = 9) (h : rightS s = true) : stateF (slotF s) = some s := by
  have hl := bytesTo_nine s
  have e : evenB (codeB (bytesTo s 9)) 15 = bytesTo s 9 := by
    have := evenB_code (bytesTo s 9)
    rwa [hl] at this
  rw [slotF_yes h]
  unfold stateF
  rw [if_pos (codeB_to _ (by omega)), e, decS_bytes hs h]
theorem slotF_inj {s t : List Int} (hs : s.length = 9) (ht : t.length = 9) (h : rightS s = true) (h' : rightS t = true) (e : slotF s = slotF t) : s = t := by
  have h1 := stateF_slot hs h
  rw [e, stateF_slot ht h'] at h1
  injection h1 with h1
  exact h1.symm
theorem slot_code {s : List Int} (h : rightS s = true) : codeTo (slotF s) 15 = true := by
  rw [slotF_yes h]
  exact codeB_to _ (by rw [bytesTo_nine]; exact Nat.le_refl _)

/-! ### What lies above a code -/
theorem above_pair {p q b : UInt8} (h1 : p = ~~~q) (h2 : p &&& ~~~b = ~~~b) (h3 : q &&& b = b) : q = b := by
  subst h1
  refine bits8 fun i hi => ?_
  have g2 := congrArg (fun x : UInt8 => x.toBitVec[i]) h2
  have g3 := congrArg (fun x : UInt8 => x.toBitVec[i]) h3
  simp at g2 g3 ⊢
  cases hq : q.toBitVec[i] <;> cases hb : b.toBitVec[i] <;> simp_all
theorem aboveTo_get {b w : List UInt8} {k n : Nat} (hk : k < n) (h : aboveTo b w n = true) : b.getD k 0 &&& w.getD k 0 = w.getD k 0 := by
  unfold aboveTo at h
  rw [List.all_eq_true] at h
  simpa [-List.getD_eq_getElem?_getD] using h k (List.mem_range.2 hk)
theorem above_code {l w : List UInt8} {n : Nat} (hl : l.length = 2 * n) (hw : w.length = 2 * n) (ha : aboveTo l w (2 * n) = true) (hc : codeTo w n = true) (h : codeTo l n = true) : l = w := by
  have get : ∀ i, i < n → l.getD (2 * i) 0 = w.getD (2 * i) 0 ∧ l.getD (2 * i + 1) 0 = w.getD (2 * i + 1) 0 := by
    intro i hi
    have c1 := codeTo_get hi hc
    have c2 := codeTo_get hi h
    unfold pairOk at c1 c2
    replace c1 := eq_of_beq c1
    replace c2 := eq_of_beq c2
    have a1 := aboveTo_get (k := 2 * i) (by omega) ha
    have a2 := aboveTo_get (k := 2 * i + 1) (by omega) ha
    have e := above_pair (p := l.getD (2 * i) 0) (q := l.getD (2 * i + 1) 0) (b := w.getD (2 * i + 1) 0) c2 (by rw [← c1]; exact a1) a2
    exact ⟨by rw [c2, c1, e], e⟩
  refine ext_getD (d := 0) (by omega) fun i hi => ?_
  rw [hl] at hi
  rcases Nat.mod_two_eq_zero_or_one i with h0 | h0
  · have := (get (i / 2) (by omega)).1
    rwa [show 2 * (i / 2) = i by omega] at this
  · have := (get (i / 2) (by omega)).2
    rwa [show 2 * (i / 2) + 1 = i by omega] at this

/-! ### The law of slots -/
theorem made_right (r : List UInt8) : rightS (madeS r) = true := by
  have h : ∀ i, (r.getD i 0).toNat < 256 := fun i => UInt8.toNat_lt _
  refine right_all.2 ⟨fun j hj => ?_, fun j hj => ?_, ?_⟩
  · match j, hj with
    | 0, _ => have := h 0; show 0 ≤ ((r.getD 0 0).toNat : Int) ∧ ((r.getD 0 0).toNat : Int) ≤ 255; omega
    | 1, _ => have := h 2; show 0 ≤ ((r.getD 2 0).toNat : Int) ∧ ((r.getD 2 0).toNat : Int) ≤ 255; omega
    | 2, _ => have := h 4; show 0 ≤ ((r.getD 4 0).toNat : Int) ∧ ((r.getD 4 0).toNat : Int) ≤ 255; omega
    | 3, _ => have := h 5; show 0 ≤ ((r.getD 5 0).toNat : Int) ∧ ((r.getD 5 0).toNat : Int) ≤ 255; omega
    | 4, _ => have := h 6; show 0 ≤ ((r.getD 6 0).toNat : Int) ∧ ((r.getD 6 0).toNat : Int) ≤ 255; omega
  · match j, hj with
    | 0, _ => have := h 1; show 0 ≤ 257 * ((r.getD 1 0).toNat : Int) ∧ 257 * ((r.getD 1 0).toNat : Int) ≤ 65535; omega
    | 1, _ => have := h 7; show 0 ≤ 256 + ((r.getD 7 0).toNat : Int) ∧ 256 + ((r.getD 7 0).toNat : Int) ≤ 65535; omega
    | 2, _ => have := h 8; show 0 ≤ ((r.getD 8 0).toNat : Int) ∧ ((r.getD 8 0).toNat : Int) ≤ 65535; omega
  · have := h 3
    show 0 ≤ 16777216 * ((r.getD 3 0).toNat : Int) ∧ 16777216 * ((r.getD 3 0).toNat : Int) ≤ 4294967295
    omega
theorem made_len (r : List UInt8) : (madeS r).length = 9 := rfl
theorem slots_same (r q : List UInt8) : (slotF (madeS r) == slotF (madeS q)) = (madeS r == madeS q) := by
  rw [Bool.eq_iff_iff, beq_iff_eq, beq_iff_eq]
  exact ⟨fun h => slotF_inj (made_len r) (made_len q) (made_right r) (made_right q) h, fun h => by rw [h]⟩
def partP (slot ms : List UInt8) (k : Nat) : List UInt8 := (List.range 30).map fun i => if i < k then slot.getD i 0 ||| ~~~(ms.getD i 0) else 255
theorem partP_len (slot ms : List UInt8) (k : Nat) : (partP slot ms k).length = 30 := by simp [partP]
theorem partP_zero (slot ms : List UInt8) : partP slot ms 0 = List.replicate 30 255 := by
  refine ext_getD (d := 0) (by rw [partP_len, List.length_replicate]) fun i hi => ?_
  rw [partP_len] at hi
  unfold partP
  rw [map_range_getD hi, if_neg (Nat.not_lt_zero _), getD_rep _ _ _ _ hi]
theorem partP_set {slot ms : List UInt8} {k : Nat} (h : k < 30) : (partP slot ms k).set k (slot.getD k 0 ||| ~~~(ms.getD k 0)) = partP slot ms (k + 1) := by
  refine ext_getD (d := 0) (by rw [List.length_set, partP_len, partP_len]) fun i hi => ?_
  rw [List.length_set, partP_len] at hi
  have e : ∀ j, (partP slot ms j).getD i 0 = if i < j then slot.getD i 0 ||| ~~~(ms.getD i 0) else 255 := fun j => by unfold partP; rw [map_range_getD hi]
  rw [e]
  by_cases hk : k = i
  · subst hk
    rw [getD_set_eq (by rw [partP_len]; exact h), if_pos (Nat.lt_succ_self _)]
  · rw [getD_set_ne hk, e]
    by_cases h2 : i < k
    · rw [if_pos h2, if_pos (by omega)]
    · rw [if_neg h2, if_neg (by omega)]
theorem or_and (b m : UInt8) : (b ||| m) &&& b = b := by
  refine bits8 fun i hi => ?_
  simp
  exact .inl
theorem ones_and (b : UInt8) : (255 : UInt8) &&& b = b := by
  apply UInt8.eq_of_toBitVec_eq
  rw [UInt8.toBitVec_and]
  show BitVec.allOnes 8 &&& b.toBitVec = _
  rw [BitVec.allOnes_and]
theorem partP_above (slot ms : List UInt8) (k : Nat) : aboveTo (partP slot ms k) slot 30 = true := by
  unfold aboveTo
  rw [List.all_eq_true]
  intro i hi
  have hi := List.mem_range.1 hi
  have e : (partP slot ms k).getD i 0 = if i < k then slot.getD i 0 ||| ~~~(ms.getD i 0) else 255 := by unfold partP; rw [map_range_getD hi]
  rw [e, beq_iff_eq]
  split
  · exact or_and _ _
  · exact ones_and _
theorem slots_part (r ms : List UInt8) (k : Nat) : (stateF (partP (slotF (madeS r)) ms k)).isSome = (partP (slotF (madeS r)) ms k == slotF (madeS r)) := by
  have hr := made_right r
  rw [Bool.eq_iff_iff, beq_iff_eq]
  constructor
  · intro h
    refine above_code (n := 15) (partP_len ..) (slotF_len hr) (partP_above ..) (slot_code hr) ?_
    unfold stateF at h
    split at h
    · assumption
    · cases h
  · intro h
    rw [h, stateF_slot (made_len r) hr]
    rfl
end Go.Sl
