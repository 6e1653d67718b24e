/-
  What following Toward does, as plain data.
-/
import Derived.Test.YthfjkdgopkmgoaaTPx
namespace Go.Sl

theorem mixB_self (o m : UInt8) : mixB o o m = o := by
  apply UInt8.eq_of_toBitVec_eq
  unfold mixB
  ext i hi
  simp only [UInt8.toBitVec_or, UInt8.toBitVec_and, UInt8.toBitVec_not, BitVec.getElem_or, BitVec.getElem_and, BitVec.getElem_not]
  cases o.toBitVec[i] <;> cases m.toBitVec[i] <;> rfl
theorem mixB_sub {o d m : UInt8} (h : o &&& d = d) : mixB o (o &&& d) m &&& d = d := by
  rw [h]
  apply UInt8.eq_of_toBitVec_eq
  unfold mixB
  ext i hi
  have h' := congrArg (fun x : UInt8 => x.toBitVec[i]) h
  simp only [UInt8.toBitVec_or, UInt8.toBitVec_and, UInt8.toBitVec_not, BitVec.getElem_or, BitVec.getElem_and, BitVec.getElem_not] at h' ⊢
  cases ho : o.toBitVec[i] <;> cases hd : d.toBitVec[i] <;> cases m.toBitVec[i] <;> rw [ho, hd] at h' <;> first | rfl | cases h'
theorem find_before {p : Nat → Bool} {m t s : Nat} (h : (List.range m).find? p = some t) (hs : s < t) : p s = false := by
  cases hp : p s with
  | false => rfl
  | true =>
    have htm := (find_lt h).1
    cases hf : (List.range (s + 1)).find? p with
    | none => exact absurd hp (List.find?_eq_none.1 hf s (List.mem_range.2 (by omega)))
    | some t' =>
      have h1 := (find_lt hf).1
      rw [find_mono hf (by omega)] at h
      injection h with h
      omega
theorem and255 (x : UInt8) : 255 &&& x = x := by
  apply UInt8.eq_of_toBitVec_eq
  show (BitVec.allOnes 8) &&& x.toBitVec = x.toBitVec
  exact BitVec.allOnes_and
def byt (g : Fl) (us : List Int) (s k : Nat) : UInt8 := (g.data.getD (us.getD s 0).toNat []).getD k 0
def UDist (us : List Int) : Prop := ∀ s t, s < us.length → t < us.length → (us.getD s 0).toNat = (us.getD t 0).toNat → s = t
theorem diffB_iff {g : Fl} {us : List Int} {p s : Nat} {b : List UInt8} (ok : g.Ok) (hu : UOk g us) (hs : s < us.length) :
    diffB (area g us) b p g.size s = false ↔ ∀ k, k < g.size → p ≤ s * g.size + k → s * g.size + k < p + b.length → byt g us s k = b.getD (s * g.size + k - p) 0 := by
  have hA := area_len ok hu
  have hm : (s + 1) * g.size ≤ us.length * g.size := Nat.mul_le_mul_right _ hs
  have e1 : (s + 1) * g.size = s * g.size + g.size := Nat.succ_mul _ _
  by_cases hf : frm p g.size s < too p g.size b.length s
  · have hcl := chunk_len (b := b) (p := p) (z := g.size) (s := s) (by omega)
    have hfr : s * g.size ≤ frm p g.size s ∧ p ≤ frm p g.size s ∧ too p g.size b.length s ≤ s * g.size + g.size ∧ too p g.size b.length s ≤ p + b.length := by unfold frm too; omega
    constructor
    · intro h k hk h1 h2
      have he : ((area g us).drop (frm p g.size s)).take (too p g.size b.length s - frm p g.size s) = chunk b p g.size s := by
        by_cases hc : ((area g us).drop (frm p g.size s)).take (too p g.size b.length s - frm p g.size s) = chunk b p g.size s
        · exact hc
        · rw [diffB_yes hf hc] at h; cases h
      have hq : frm p g.size s ≤ s * g.size + k ∧ s * g.size + k < too p g.size b.length s := by unfold frm too; omega
      have e := congrArg (fun l => l.getD (s * g.size + k - frm p g.size s) (0 : UInt8)) he
      rw [chunk_get (by omega)] at e
      rw [show frm p g.size s - p + (s * g.size + k - frm p g.size s) = s * g.size + k - p from by omega] at e
      rw [← e, byt, ← area_get ok hu hs hk]
      simp only [List.getD_eq_getElem?_getD, List.getElem?_take, List.getElem?_drop]
      rw [if_pos (by omega), show frm p g.size s + (s * g.size + k - frm p g.size s) = s * g.size + k from by omega]
    · intro h
      refine diffB_no2 (ext_getD (d := 0) (by rw [hcl, List.length_take, List.length_drop]; omega) (fun j hj => ?_))
      rw [List.length_take, List.length_drop] at hj
      rw [chunk_get (by omega)]
      have := h (frm p g.size s + j - s * g.size) (by omega) (by omega) (by omega)
      rw [byt, ← area_get ok hu hs (by omega), show s * g.size + (frm p g.size s + j - s * g.size) = frm p g.size s + j from by omega, show frm p g.size s + j - p = frm p g.size s - p + j from by omega] at this
      rw [← this]
      simp only [List.getD_eq_getElem?_getD, List.getElem?_take, List.getElem?_drop]
      rw [if_pos (by omega)]
  · refine ⟨fun _ k hk h1 h2 => absurd ?_ hf, fun _ => diffB_no1 hf⟩
    unfold frm too
    omega
structure Tw (f : Fl) (us : List Int) (p : Nat) (b : List UInt8) (g : Fl) : Prop where
  ok : g.Ok
  size : g.size = f.size
  wear : g.wear = f.wear
  limit : g.limit = f.limit
  dead : g.dead = f.dead
  dl : g.data.length = f.data.length
  out : ∀ i, (∀ s, s < us.length → (us.getD s 0).toNat ≠ i) → g.data.getD i [] = f.data.getD i []
  inn : ∀ s k, s < us.length → k < f.size → p ≤ s * f.size + k → s * f.size + k < p + b.length → byt g us s k &&& b.getD (s * f.size + k - p) 0 = b.getD (s * f.size + k - p) 0
  oth : ∀ s k, s < us.length → k < f.size → ¬(p ≤ s * f.size + k ∧ s * f.size + k < p + b.length) → byt g us s k = byt f us s k
section
variable {f g : Fl} {us : List Int} {p : Nat} {b : List UInt8}
theorem place {z p n m : Nat} (hz : 1 ≤ z) (h : p + n ≤ m * z) {i : Nat} (hi : i < n) : (p + i) / z < m ∧ (p + i) % z < z ∧ (p + i) / z * z + (p + i) % z = p + i := by
  have h1 := Nat.div_add_mod (p + i) z
  rw [Nat.mul_comm] at h1
  exact ⟨(Nat.div_lt_iff_lt_mul (by omega)).2 (by omega), Nat.mod_lt _ (by omega), h1⟩
theorem Tw.okN (h : Tw f us p b g) (hu : UOk f us) (hr : p + b.length ≤ us.length * f.size) : okN (area g us) b p b.length = true := by
  have hz := h.ok.s1
  rw [h.size] at hz
  simp only [Sl.okN, List.all_eq_true, List.mem_range, beq_iff_eq]
  intro i hi
  obtain ⟨h1, h2, h3⟩ := place hz hr hi
  have := h.inn _ _ h1 h2 (by omega) (by omega)
  rw [byt, ← area_get h.ok (hu.of h.dl) h1 (by rw [h.size]; exact h2), h.size, h3, show p + i - p = i from by omega] at this
  exact this
theorem Tw.bad (h : Tw f us p b g) (hr : p + b.length ≤ us.length * f.size) : ¬TowBad g us (p : Int) b := by
  unfold TowBad
  rw [h.size]
  omega
theorem Tw.step (h : Tw f us p b g) (hu : UOk f us) (nd : UDist us) (hd : ∀ i, f.dead.getD i false = false) {s : Nat} (hs : s < us.length) (hf : frm p f.size s < too p f.size b.length s) (mk : Nat → UInt8) :
    checkE g (towA g us b p s) = 0 ∧ Tw f us p b (cutF g (towA g us b p s) mk) ∧
      (∀ t k, t < us.length → k < f.size → byt (cutF g (towA g us b p s) mk) us t k = if s = t ∧ p ≤ s * f.size + k ∧ s * f.size + k < p + b.length then mixB (byt g us s k) (b.getD (s * f.size + k - p) 0) (mk k) else byt g us t k) := by
  have hz := h.ok.s1
  have hus := hu.r s hs
  have hsz := h.size
  have hcl := chunk_len (b := b) (p := p) (z := f.size) (s := s) (by omega)
  have hfr : s * f.size ≤ frm p f.size s ∧ p ≤ frm p f.size s ∧ too p f.size b.length s ≤ s * f.size + f.size ∧ too p f.size b.length s ≤ p + b.length := by
    unfold frm too
    rw [Nat.succ_mul]
    omega
  have eX : towA g us b p s = ⟨2, us.getD s 0, ((frm p f.size s - s * f.size : Nat) : Int), chunk b p f.size s⟩ := by unfold towA; rw [hsz]
  have hE : checkE g (towA g us b p s) = 0 := by
    rw [eX]
    refine checkE_0 (.inr rfl) ⟨hus.1, ?_, fun _ => ⟨?_, ?_, ?_⟩⟩ ?_ ?_
    · rw [h.dl]; dsimp only; omega
    · dsimp only; omega
    · dsimp only; rw [hsz]; omega
    · dsimp only; rw [hsz, hcl]; omega
    · rw [h.dead]; exact hd _
    · rintro ⟨h1, _⟩; cases h1
  have hgl : (us.getD s 0).toNat < g.data.length := by rw [h.dl]; omega
  have hby : ∀ t k, t < us.length → k < f.size → byt (cutF g (towA g us b p s) mk) us t k = if s = t ∧ p ≤ s * f.size + k ∧ s * f.size + k < p + b.length then mixB (byt g us s k) (b.getD (s * f.size + k - p) 0) (mk k) else byt g us t k := by
    intro t k ht hk
    by_cases hst : s = t
    · subst hst
      have e1 : byt (cutF g (towA g us b p s) mk) us s k = mixB (byt g us s k) (askB (towA g us b p s) k (byt g us s k)) (mk k) := by
        show ((g.data.set (towA g us b p s).sec.toNat (rowF g (towA g us b p s) mk)).getD (us.getD s 0).toNat []).getD k 0 = _
        rw [show (towA g us b p s).sec = us.getD s 0 from rfl, getD_set_eq hgl, rowF, map_range_getD (by omega)]
        rfl
      rw [e1, eX]
      by_cases hq : p ≤ s * f.size + k ∧ s * f.size + k < p + b.length
      · have hq2 : frm p f.size s ≤ s * f.size + k ∧ s * f.size + k < too p f.size b.length s := by
          unfold frm too
          rw [Nat.succ_mul]
          omega
        rw [if_pos ⟨rfl, hq⟩, askB_in (by show (2 : Int) ≠ 1; decide) (by dsimp only; omega)]
        dsimp only
        rw [show ((k : Int) - ((frm p f.size s - s * f.size : Nat) : Int)).toNat = s * f.size + k - frm p f.size s from by omega, chunk_get (by omega), show frm p f.size s - p + (s * f.size + k - frm p f.size s) = s * f.size + k - p from by omega, h.inn s k hs hk hq.1 hq.2]
      · rw [if_neg (by rintro ⟨_, h1⟩; exact hq h1), askB_out (by show (2 : Int) ≠ 1; decide) (by
          dsimp only
          unfold frm too at *
          rw [Nat.succ_mul] at *
          omega), mixB_self]
    · rw [if_neg (by rintro ⟨h1, _⟩; exact hst h1)]
      show ((g.data.set (us.getD s 0).toNat (rowF g (towA g us b p s) mk)).getD (us.getD t 0).toNat []).getD k 0 = _
      rw [getD_set_ne (fun e => hst (nd s t hs ht e))]
      rfl
  refine ⟨hE, ⟨cutF_ok h.ok hE mk, h.size, ?_, h.limit, h.dead, by rw [cutF_data]; exact h.dl, fun i hi => ?_, fun t k ht hk h1 h2 => ?_, fun t k ht hk h1 => ?_⟩, hby⟩
  · show (if (towA g us b p s).kind = 1 then g.wear.set (towA g us b p s).sec.toNat (g.wear.getD (towA g us b p s).sec.toNat 0 + 1) else g.wear) = _
    rw [if_neg (by show ¬(2 : Int) = 1; decide)]
    exact h.wear
  · rw [← h.out i hi]
    show (g.data.set (us.getD s 0).toNat (rowF g (towA g us b p s) mk)).getD i [] = _
    rw [getD_set_ne (hi s hs)]
  · rw [hby t k ht hk]
    split
    · rename_i h3
      obtain ⟨rfl, _⟩ := h3
      have := h.inn s k hs hk h1 h2
      conv => lhs; lhs; arg 2; rw [← this]
      exact mixB_sub this
    · exact h.inn t k ht hk h1 h2
  · rw [hby t k ht hk, if_neg (by rintro ⟨rfl, h3⟩; exact h1 h3)]
    exact h.oth t k ht hk h1
/-- A whole operation settles its sector. -/
theorem Tw.done1 (h : Tw f us p b g) (hu : UOk f us) (nd : UDist us) (hd : ∀ i, f.dead.getD i false = false) {s : Nat} (hs : s < us.length) (hn : (List.range us.length).find? (diffB (area g us) b p g.size) = some s) :
    (List.range (s + 1)).find? (diffB (area (cutF g (towA g us b p s) (fun _ => 255)) us) b p g.size) = none := by
  have hsz := h.size
  have hf : frm p f.size s < too p f.size b.length s := by
    have := (find_lt hn).2
    rw [← hsz]
    by_cases hc : frm p g.size s < too p g.size b.length s
    · exact hc
    · rw [diffB_no1 hc] at this; cases this
  obtain ⟨h1, h2, h3⟩ := h.step hu nd hd hs hf (fun _ => 255)
  rw [List.find?_eq_none]
  intro t ht
  have ht' := List.mem_range.1 ht
  have ht2 : t < us.length := by omega
  have key := (diffB_iff (p := p) (b := b) h2.ok (hu.of h2.dl) ht2).2 (fun k hk hq1 hq2 => by
    have hk' : k < f.size := by rw [← hsz]; exact hk
    rw [h3 t k ht2 hk']
    by_cases hst : s = t
    · subst hst
      have hq1' : p ≤ s * f.size + k := by rw [← hsz]; exact hq1
      have hq2' : s * f.size + k < p + b.length := by rw [← hsz]; exact hq2
      rw [if_pos ⟨rfl, hq1', hq2'⟩, mixB_ones, ← hsz]
      rfl
    · rw [if_neg (by rintro ⟨h4, _⟩; exact hst h4)]
      have hno : diffB (area g us) b p g.size t = false := by
        have := find_before hn (by omega : t < s)
        exact this
      exact (diffB_iff h.ok (hu.of h.dl) ht2).1 hno k (by rw [hsz]; exact hk') hq1 hq2)
  rw [show (cutF g (towA g us b p s) (fun _ => 255)).size = g.size from rfl] at key
  rw [key]
  decide
theorem Tw.start (ok : f.Ok) (h : ∀ s k, s < us.length → k < f.size → byt f us s k = 255) : Tw f us p b f :=
  ⟨ok, rfl, rfl, rfl, rfl, rfl, fun _ _ => rfl, fun s k hs hk _ _ => by rw [h s k hs hk]; exact and255 _, fun _ _ _ _ _ => rfl⟩
/-- What Toward says on the way. -/
theorem Tw.tow (h : Tw f us p b g) (hu : UOk f us) (hd : ∀ i, f.dead.getD i false = false) (hr : p + b.length ≤ us.length * f.size) :
    ((List.range us.length).find? (diffB (area g us) b p g.size) = none ∧ towS g us (p : Int) b = ⟨fo0, true, 0⟩) ∨
    ∃ s, s < us.length ∧ frm p f.size s < too p f.size b.length s ∧ (List.range us.length).find? (diffB (area g us) b p g.size) = some s ∧ towS g us (p : Int) b = ⟨towA g us b p s, false, 0⟩ := by
  have h1 := h.bad hr
  have h2 := h.okN hu hr
  cases hn : (List.range us.length).find? (diffB (area g us) b p g.size) with
  | none => exact .inl ⟨rfl, towS_3 h1 h2 hn⟩
  | some s =>
    refine .inr ⟨s, (find_lt hn).1, ?_, rfl, towS_5 h1 h2 hn (by rw [h.dead]; exact hd _)⟩
    have := (find_lt hn).2
    rw [← h.size]
    by_cases hc : frm p g.size s < too p g.size b.length s
    · exact hc
    · rw [diffB_no1 hc] at this; cases this
def wrD (d : List (List UInt8)) (us : List Int) (z p : Nat) (b : List UInt8) : Nat → List (List UInt8)
  | 0 => d
  | k + 1 => (wrD d us z p b k).set (us.getD ((p + k) / z) 0).toNat (((wrD d us z p b k).getD (us.getD ((p + k) / z) 0).toNat []).set ((p + k) % z) (b.getD k 0))
theorem wrD_len (d : List (List UInt8)) (us : List Int) (z p : Nat) (b : List UInt8) : ∀ k, (wrD d us z p b k).length = d.length
  | 0 => rfl
  | k + 1 => by rw [wrD, List.length_set, wrD_len d us z p b k]
theorem wrD_row (d : List (List UInt8)) (us : List Int) (z p : Nat) (b : List UInt8) : ∀ k i, ((wrD d us z p b k).getD i []).length = (d.getD i []).length
  | 0, _ => rfl
  | k + 1, i => by
    have ih := wrD_row d us z p b k
    rw [wrD]
    by_cases h : (us.getD ((p + k) / z) 0).toNat = i
    · subst h
      by_cases h2 : (us.getD ((p + k) / z) 0).toNat < (wrD d us z p b k).length
      · rw [getD_set_eq h2, List.length_set, ih]
      · rw [getD_ge (by rw [List.length_set]; omega), ← ih, getD_ge (by omega)]
    · rw [getD_set_ne h, ih]
theorem wrD_rows {hs : List Hd} (h : hs.length = f.data.length) (k : Nat) (z : Nat) : rowsV hs (B8 (wrD f.data us z p b k)) = rowsV hs (B8 f.data) := by
  refine List.ext_getElem? fun i => ?_
  by_cases hi : i < f.data.length
  · rw [rows8_get (by rw [wrD_len]; exact h) (by rw [wrD_len]; exact hi), rows8_get h hi, wrD_row]
  · rw [List.getElem?_eq_none (by rw [rowsV_len (by rw [B8_len, wrD_len]; exact h), B8_len, wrD_len]; omega), List.getElem?_eq_none (by rw [rowsV_len (by rw [B8_len]; exact h), B8_len]; omega)]
def wrF (f : Fl) (us : List Int) (p : Nat) (b : List UInt8) (k : Nat) : Fl := ⟨f.size, wrD f.data us f.size p b k, f.wear, f.limit, f.dead⟩
theorem wrD_spec (ok : f.Ok) (hu : UOk f us) (nd : UDist us) (hr : p + b.length ≤ us.length * f.size) : ∀ k, k ≤ b.length →
    (∀ i, (∀ s, s < us.length → (us.getD s 0).toNat ≠ i) → (wrD f.data us f.size p b k).getD i [] = f.data.getD i []) ∧
    (∀ s j, s < us.length → j < f.size → byt (wrF f us p b k) us s j = if p ≤ s * f.size + j ∧ s * f.size + j < p + k then b.getD (s * f.size + j - p) 0 else byt f us s j)
  | 0, _ => ⟨fun _ _ => rfl, fun s j _ _ => by rw [if_neg (by omega)]; rfl⟩
  | k + 1, hk => by
    obtain ⟨h1, h2⟩ := wrD_spec ok hu nd hr k (by omega)
    obtain ⟨q1, q2, q3⟩ := place ok.s1 hr (by omega : k < b.length)
    have hus := hu.r _ q1
    refine ⟨fun i hi => ?_, fun s j hs hj => ?_⟩
    · rw [wrD, getD_set_ne (hi _ q1)]
      exact h1 i hi
    · have e0 := h2 s j hs hj
      by_cases hst : (p + k) / f.size = s
      · have eb : byt (wrF f us p b (k + 1)) us s j = (((wrD f.data us f.size p b k).getD (us.getD s 0).toNat []).set ((p + k) % f.size) (b.getD k 0)).getD j 0 := by
          show ((wrD f.data us f.size p b (k + 1)).getD (us.getD s 0).toNat []).getD j 0 = _
          rw [wrD, hst, getD_set_eq (by rw [wrD_len]; rw [hst] at hus; omega)]
        rw [eb]
        rw [hst] at q3
        by_cases hj2 : (p + k) % f.size = j
        · rw [hj2] at q3
          rw [hj2, getD_set_eq (by rw [wrD_row, ok.rows _ (by rw [hst] at hus; omega)]; exact hj), if_pos (by omega), show s * f.size + j - p = k from by omega]
        · rw [getD_set_ne hj2]
          have e1 : ((wrD f.data us f.size p b k).getD (us.getD s 0).toNat []).getD j 0 = byt (wrF f us p b k) us s j := rfl
          rw [e1, e0]
          by_cases hc : p ≤ s * f.size + j ∧ s * f.size + j < p + k
          · rw [if_pos hc, if_pos (by omega)]
          · rw [if_neg hc, if_neg (by omega)]
      · have eb : byt (wrF f us p b (k + 1)) us s j = byt (wrF f us p b k) us s j := by
          show ((wrD f.data us f.size p b (k + 1)).getD (us.getD s 0).toNat []).getD j 0 = _
          rw [wrD, getD_set_ne (fun e => hst (nd _ _ q1 hs e))]
          rfl
        rw [eb, e0]
        have hne : s * f.size + j ≠ p + k := by
          intro e
          refine hst ?_
          rw [← e, Nat.mul_comm, Nat.mul_add_div (by omega), Nat.div_eq_of_lt hj, Nat.add_zero]
        by_cases hc : p ≤ s * f.size + j ∧ s * f.size + j < p + k
        · rw [if_pos hc, if_pos (by omega)]
        · rw [if_neg hc, if_neg (by omega)]
/-- Nothing is left to do: everything is at its place. -/
theorem Tw.fin (h : Tw f us p b g) (ok : f.Ok) (hu : UOk f us) (nd : UDist us) (hr : p + b.length ≤ us.length * f.size) (hn : (List.range us.length).find? (diffB (area g us) b p g.size) = none) : g = wrF f us p b b.length := by
  obtain ⟨h1, h2⟩ := wrD_spec ok hu nd hr b.length (Nat.le_refl _)
  have hd : g.data = wrD f.data us f.size p b b.length := by
    refine ext_getD (d := []) (by rw [wrD_len]; exact h.dl) (fun i hi => ?_)
    rw [h.dl] at hi
    by_cases hc : ∃ s, s < us.length ∧ (us.getD s 0).toNat = i
    · obtain ⟨s, hs, rfl⟩ := hc
      have hg := h.ok.rows _ (by rw [h.dl]; exact hi)
      rw [h.size] at hg
      refine ext_getD (d := 0) (by rw [wrD_row, hg, ok.rows _ hi]) (fun j hj => ?_)
      rw [hg] at hj
      show byt g us s j = byt (wrF f us p b b.length) us s j
      rw [h2 s j hs hj]
      by_cases hq : p ≤ s * f.size + j ∧ s * f.size + j < p + b.length
      · rw [if_pos hq]
        have hno : diffB (area g us) b p g.size s = false := by
          have := List.find?_eq_none.1 hn s (List.mem_range.2 hs)
          simpa using this
        have := (diffB_iff h.ok (hu.of h.dl) hs).1 hno j (by rw [h.size]; exact hj) (by rw [h.size]; exact hq.1) (by rw [h.size]; exact hq.2)
        rw [h.size] at this
        exact this
      · rw [if_neg hq]
        exact h.oth s j hs hj hq
    · rw [h1 i (fun s hs e => hc ⟨s, hs, e⟩)]
      exact h.out i (fun s hs e => hc ⟨s, hs, e⟩)
  have e2 := h.size; have e3 := h.wear; have e4 := h.limit; have e5 := h.dead
  cases g
  simp only at hd e2 e3 e4 e5
  unfold wrF
  rw [hd, e2, e3, e4, e5]
end
end Go.Sl
