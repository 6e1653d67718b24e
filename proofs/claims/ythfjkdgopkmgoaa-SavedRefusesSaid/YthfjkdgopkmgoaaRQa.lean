/-
  What following Toward does, as plain data.
-/
import Derived.Test.YthfjkdgopkmgoaaRPy
namespace Go.Sl

theorem mixB_self (o m : UInt8) : mixB o o m = o := by
  apply UInt8.eq_of_toBitVec_eq
  unfold mixB
  ext i hi
  simp only [UInt8.toBitVec_or, UInt8.toBitVec_and, UInt8.toBitVec_not, BitVec.getElem_or, BitVec.getElem_and, BitVec.getElem_not]
  cases o.toBitVec[i] <;> cases m.toBitVec[i] <;> rfl
theorem mixB_sub {o d m : UInt8} (h : o &&& d = d) : mixB o (o &&& d) m &&& d = d := by
  rw [h]
  apply UInt8.eq_of_toBitVec_eq
  unfold mixB
  ext i hi
  have h' := congrArg (fun x : UInt8 => x.toBitVec[i]) h
  simp only [UInt8.toBitVec_or, UInt8.toBitVec_and, UInt8.toBitVec_not, BitVec.getElem_or, BitVec.getElem_and, BitVec.getElem_not] at h' ⊢
  cases ho : o.toBitVec[i] <;> cases hd : d.toBitVec[i] <;> cases m.toBitVec[i] <;> rw [ho, hd] at h' <;> first | rfl | cases h'
theorem and255 (x : UInt8) : 255 &&& x = x := by
  apply UInt8.eq_of_toBitVec_eq
  show (BitVec.allOnes 8) &&& x.toBitVec = x.toBitVec
  exact BitVec.allOnes_and
def byt (g : Fl) (us : List Int) (s k : Nat) : UInt8 := (g.data.getD (us.getD s 0).toNat []).getD k 0
def UDist (us : List Int) : Prop := ∀ s t, s < us.length → t < us.length → (us.getD s 0).toNat = (us.getD t 0).toNat → s = t
structure Tw (f : Fl) (us : List Int) (p : Nat) (b : List UInt8) (g : Fl) : Prop where
  ok : g.Ok
  size : g.size = f.size
  wear : g.wear = f.wear
  limit : g.limit = f.limit
  dead : g.dead = f.dead
  dl : g.data.length = f.data.length
  out : ∀ i, (∀ s, s < us.length → (us.getD s 0).toNat ≠ i) → g.data.getD i [] = f.data.getD i []
  inn : ∀ s k, s < us.length → k < f.size → p ≤ s * f.size + k → s * f.size + k < p + b.length → byt g us s k &&& b.getD (s * f.size + k - p) 0 = b.getD (s * f.size + k - p) 0
  oth : ∀ s k, s < us.length → k < f.size → ¬(p ≤ s * f.size + k ∧ s * f.size + k < p + b.length) → byt g us s k = byt f us s k
section
variable {f g : Fl} {us : List Int} {p : Nat} {b : List UInt8}
theorem place {z p n m : Nat} (hz : 1 ≤ z) (h : p + n ≤ m * z) {i : Nat} (hi : i < n) : (p + i) / z < m ∧ (p + i) % z < z ∧ (p + i) / z * z + (p + i) % z = p + i := by
  have h1 := Nat.div_add_mod (p + i) z
  rw [Nat.mul_comm] at h1
  exact ⟨(Nat.div_lt_iff_lt_mul (by omega)).2 (by omega), Nat.mod_lt _ (by omega), h1⟩
theorem Tw.okN (h : Tw f us p b g) (hu : UOk f us) (hr : p + b.length ≤ us.length * f.size) : okN (area g us) b p b.length = true := by
  have hz := h.ok.s1
  rw [h.size] at hz
  simp only [Sl.okN, List.all_eq_true, List.mem_range, beq_iff_eq]
  intro i hi
  obtain ⟨h1, h2, h3⟩ := place hz hr hi
  have := h.inn _ _ h1 h2 (by omega) (by omega)
  rw [byt, ← area_get h.ok (hu.of h.dl) h1 (by rw [h.size]; exact h2), h.size, h3, show p + i - p = i from by omega] at this
  exact this
theorem Tw.bad (h : Tw f us p b g) (hr : p + b.length ≤ us.length * f.size) : ¬TowBad g us (p : Int) b := by
  unfold TowBad
  rw [h.size]
  omega
theorem Tw.step (h : Tw f us p b g) (hu : UOk f us) (nd : UDist us) (hd : ∀ i, f.dead.getD i false = false) {s : Nat} (hs : s < us.length) (hf : frm p f.size s < too p f.size b.length s) (mk : Nat → UInt8) :
    checkE g (towA g us b p s) = 0 ∧ Tw f us p b (cutF g (towA g us b p s) mk) ∧
      (∀ t k, t < us.length → k < f.size → byt (cutF g (towA g us b p s) mk) us t k = if s = t ∧ p ≤ s * f.size + k ∧ s * f.size + k < p + b.length then mixB (byt g us s k) (b.getD (s * f.size + k - p) 0) (mk k) else byt g us t k) := by
  have hz := h.ok.s1
  have hus := hu.r s hs
  have hsz := h.size
  have hcl := chunk_len (b := b) (p := p) (z := f.size) (s := s) (by omega)
  have hfr : s * f.size ≤ frm p f.size s ∧ p ≤ frm p f.size s ∧ too p f.size b.length s ≤ s * f.size + f.size ∧ too p f.size b.length s ≤ p + b.length := by
    unfold frm too
    rw [Nat.succ_mul]
    omega
  have eX : towA g us b p s = ⟨2, us.getD s 0, ((frm p f.size s - s * f.size : Nat) : Int), chunk b p f.size s⟩ := by unfold towA; rw [hsz]
  have hE : checkE g (towA g us b p s) = 0 := by
    rw [eX]
    refine checkE_0 (.inr rfl) ⟨hus.1, ?_, fun _ => ⟨?_, ?_, ?_⟩⟩ ?_ ?_
    · rw [h.dl]; dsimp only; omega
    · dsimp only; omega
    · dsimp only; rw [hsz]; omega
    · dsimp only; rw [hsz, hcl]; omega
    · rw [h.dead]; exact hd _
    · rintro ⟨h1, _⟩; cases h1
  have hgl : (us.getD s 0).toNat < g.data.length := by rw [h.dl]; omega
  have hby : ∀ t k, t < us.length → k < f.size → byt (cutF g (towA g us b p s) mk) us t k = if s = t ∧ p ≤ s * f.size + k ∧ s * f.size + k < p + b.length then mixB (byt g us s k) (b.getD (s * f.size + k - p) 0) (mk k) else byt g us t k := by
    intro t k ht hk
    by_cases hst : s = t
    · subst hst
      have e1 : byt (cutF g (towA g us b p s) mk) us s k = mixB (byt g us s k) (askB (towA g us b p s) k (byt g us s k)) (mk k) := by
        show ((g.data.set (towA g us b p s).sec.toNat (rowF g (towA g us b p s) mk)).getD (us.getD s 0).toNat []).getD k 0 = _
        rw [show (towA g us b p s).sec = us.getD s 0 from rfl, getD_set_eq hgl, rowF, map_range_getD (by omega)]
        rfl
      rw [e1, eX]
      by_cases hq : p ≤ s * f.size + k ∧ s * f.size + k < p + b.length
      · have hq2 : frm p f.size s ≤ s * f.size + k ∧ s * f.size + k < too p f.size b.length s := by
          unfold frm too
          rw [Nat.succ_mul]
          omega
        rw [if_pos ⟨rfl, hq⟩, askB_in (by show (2 : Int) ≠ 1; decide) (by dsimp only; omega)]
        dsimp only
        rw [show ((k : Int) - ((frm p f.size s - s * f.size : Nat) : Int)).toNat = s * f.size + k - frm p f.size s from by omega, chunk_get (by omega), show frm p f.size s - p + (s * f.size + k - frm p f.size s) = s * f.size + k - p from by omega, h.inn s k hs hk hq.1 hq.2]
      · rw [if_neg (by rintro ⟨_, h1⟩; exact hq h1), askB_out (by show (2 : Int) ≠ 1; decide) (by
          dsimp only
          unfold frm too at *
          rw [Nat.succ_mul] at *
          omega), mixB_self]
    · rw [if_neg (by rintro ⟨h1, _⟩; exact hst h1)]
      show ((g.data.set (us.getD s 0).toNat (rowF g (towA g us b p s) mk)).getD (us.getD t 0).toNat []).getD k 0 = _
      rw [getD_set_ne (fun e => hst (nd s t hs ht e))]
      rfl
  refine ⟨hE, ⟨cutF_ok h.ok hE mk, h.size, ?_, h.limit, h.dead, by rw [cutF_data]; exact h.dl, fun i hi => ?_, fun t k ht hk h1 h2 => ?_, fun t k ht hk h1 => ?_⟩, hby⟩
  · show (if (towA g us b p s).kind = 1 then g.wear.set (towA g us b p s).sec.toNat (g.wear.getD (towA g us b p s).sec.toNat 0 + 1) else g.wear) = _
    rw [if_neg (by show ¬(2 : Int) = 1; decide)]
    exact h.wear
  · rw [← h.out i hi]
    show (g.data.set (us.getD s 0).toNat (rowF g (towA g us b p s) mk)).getD i [] = _
    rw [getD_set_ne (hi s hs)]
  · rw [hby t k ht hk]
    split
    · rename_i h3
      obtain ⟨rfl, _⟩ := h3
      have := h.inn s k hs hk h1 h2
      conv => lhs; lhs; arg 2; rw [← this]
      exact mixB_sub this
    · exact h.inn t k ht hk h1 h2
  · rw [hby t k ht hk, if_neg (by rintro ⟨rfl, h3⟩; exact h1 h3)]
    exact h.oth t k ht hk h1
theorem Tw.start (ok : f.Ok) (h : ∀ s k, s < us.length → k < f.size → byt f us s k = 255) : Tw f us p b f :=
  ⟨ok, rfl, rfl, rfl, rfl, rfl, fun _ _ => rfl, fun s k hs hk _ _ => by rw [h s k hs hk]; exact and255 _, fun _ _ _ _ _ => rfl⟩
end
end Go.Sl
