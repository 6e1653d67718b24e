/-
  The undo area, Toward and Last, as plain data.
-/
import Derived.Test.YthfjkdgopkmgoaaRPu
import Derived.Test.YthfjkdgopkmgoaaRPm
namespace Go.Sl

structure UOk (f : Fl) (us : List Int) : Prop where
  l : us.length ≤ 64
  r : ∀ s, s < us.length → 0 ≤ us.getD s 0 ∧ us.getD s 0 < (f.data.length : Int)
/-- The capacities of the rows. -/
def Caps (f : Fl) (a : Fa) : Prop := ∀ i, i < f.data.length → f.size ≤ (a.hs.getD i (none, 0)).2
def area (f : Fl) (us : List Int) : List UInt8 := us.flatMap fun u => f.data.getD u.toNat []
theorem area_snoc (f : Fl) (us : List Int) (u : Int) : area f (us ++ [u]) = area f us ++ f.data.getD u.toNat [] := by simp [area]
theorem area_len_of {f : Fl} (ok : f.Ok) : ∀ (us : List Int), (∀ u ∈ us, 0 ≤ u ∧ u < (f.data.length : Int)) → (area f us).length = us.length * f.size
  | [], _ => by simp [area]
  | u :: us, h => by
    have ih := area_len_of ok us (fun x hx => h x (List.mem_cons_of_mem _ hx))
    have h0 := h u (List.mem_cons_self ..)
    have hr := ok.rows u.toNat (by omega)
    unfold area at ih ⊢
    rw [List.flatMap_cons, List.length_append, ih, hr, List.length_cons, Nat.succ_mul]
    omega
theorem UOk.mem {f : Fl} {us : List Int} (h : UOk f us) : ∀ u ∈ us, 0 ≤ u ∧ u < (f.data.length : Int) := by
  intro u hu
  obtain ⟨i, hi, rfl⟩ := List.mem_iff_getElem.1 hu
  have := h.r i hi
  simpa [List.getD_eq_getElem?_getD, hi] using this
theorem area_len {f : Fl} {us : List Int} (ok : f.Ok) (h : UOk f us) : (area f us).length = us.length * f.size := area_len_of ok us h.mem
theorem area_take_len {f : Fl} {us : List Int} (ok : f.Ok) (h : UOk f us) (k : Nat) (hk : k ≤ us.length) : (area f (us.take k)).length = k * f.size := by
  rw [area_len_of ok _ (fun u hu => h.mem u (List.mem_of_mem_take hu)), List.length_take, Nat.min_eq_left hk]
theorem area_split {f : Fl} {us : List Int} {s : Nat} (hs : s < us.length) : area f us = area f (us.take s) ++ (f.data.getD (us.getD s 0).toNat [] ++ area f (us.drop (s + 1))) := by
  have e : us = us.take s ++ (us.getD s 0 :: us.drop (s + 1)) := by
    conv => lhs; rw [← List.take_append_drop s us]
    rw [List.drop_eq_getElem_cons hs]
    simp [List.getD_eq_getElem?_getD, hs]
  conv => lhs; rw [e]
  simp [area]
/-- A part of a sector's row in the area. -/
theorem area_part {f : Fl} {us : List Int} (ok : f.Ok) (h : UOk f us) {s k m : Nat} (hs : s < us.length) (hk : k + m ≤ f.size) : ((area f us).drop (s * f.size + k)).take m = ((f.data.getD (us.getD s 0).toNat []).drop k).take m := by
  have hu := h.r s hs
  have hr := ok.rows (us.getD s 0).toNat (by omega)
  have hl := area_take_len ok h s (by omega)
  rw [area_split hs, ← List.drop_drop, List.drop_left' hl, List.drop_append_of_le_length (by omega), List.take_append_of_le_length (by rw [List.length_drop]; omega)]
theorem area_get {f : Fl} {us : List Int} (ok : f.Ok) (h : UOk f us) {s k : Nat} (hs : s < us.length) (hk : k < f.size) : (area f us).getD (s * f.size + k) 0 = (f.data.getD (us.getD s 0).toNat []).getD k 0 := by
  have := area_part ok h (k := k) (m := 1) hs (by omega)
  have e := congrArg (fun l => l.getD 0 (0 : UInt8)) this
  simpa [List.getD_eq_getElem?_getD] using e
def okN (A b : List UInt8) (p k : Nat) : Bool := (List.range k).all fun i => A.getD (p + i) 0 &&& b.getD i 0 == b.getD i 0
theorem okN_zero (A b : List UInt8) (p : Nat) : okN A b p 0 = true := rfl
theorem okN_succ (A b : List UInt8) (p k : Nat) : okN A b p (k + 1) = (okN A b p k && (A.getD (p + k) 0 &&& b.getD k 0 == b.getD k 0)) := by simp [okN, List.range_succ]
theorem okN_no {A b : List UInt8} {p k n : Nat} (hk : k < n) (h : A.getD (p + k) 0 &&& b.getD k 0 ≠ b.getD k 0) : okN A b p n = false := by
  simp only [okN, List.all_eq_false, List.mem_range]
  exact ⟨k, hk, by simpa using h⟩
def frm (p z s : Nat) : Nat := max p (s * z)
def too (p z n s : Nat) : Nat := min (p + n) ((s + 1) * z)
def chunk (b : List UInt8) (p z s : Nat) : List UInt8 := (b.drop (frm p z s - p)).take (too p z b.length s - frm p z s)
def diffB (A b : List UInt8) (p z s : Nat) : Bool := decide (frm p z s < too p z b.length s) && !((A.drop (frm p z s)).take (too p z b.length s - frm p z s) == chunk b p z s)
theorem diffB_no1 {A b : List UInt8} {p z s : Nat} (h : ¬frm p z s < too p z b.length s) : diffB A b p z s = false := by
  unfold diffB
  rw [decide_eq_false h]
  rfl
theorem diffB_no2 {A b : List UInt8} {p z s : Nat} (h : (A.drop (frm p z s)).take (too p z b.length s - frm p z s) = chunk b p z s) : diffB A b p z s = false := by
  unfold diffB
  rw [h]
  simp
theorem diffB_yes {A b : List UInt8} {p z s : Nat} (h1 : frm p z s < too p z b.length s) (h : (A.drop (frm p z s)).take (too p z b.length s - frm p z s) ≠ chunk b p z s) : diffB A b p z s = true := by
  unfold diffB
  rw [decide_eq_true h1, beq_eq_false_iff_ne.2 h]
  rfl
theorem find_no {p : Nat → Bool} {s : Nat} (h : (List.range s).find? p = none) (h2 : p s = false) : (List.range (s + 1)).find? p = none := by
  rw [List.range_succ, List.find?_append, h]
  simp [h2]
theorem find_yes {p : Nat → Bool} {s : Nat} (h : (List.range s).find? p = none) (h2 : p s = true) : (List.range (s + 1)).find? p = some s := by
  rw [List.range_succ, List.find?_append, h]
  simp [h2]
theorem find_keep {p : Nat → Bool} {s t : Nat} (h : (List.range s).find? p = some t) : (List.range (s + 1)).find? p = some t := by
  rw [List.range_succ, List.find?_append, h]
  rfl
theorem find_mono {p : Nat → Bool} {s t m : Nat} (h : (List.range s).find? p = some t) (hm : s ≤ m) : (List.range m).find? p = some t := by
  obtain ⟨d, rfl⟩ := Nat.exists_eq_add_of_le hm
  clear hm
  induction d with
  | zero => exact h
  | succ d ih => exact find_keep ih
theorem find_rest {p : Nat → Bool} {s m : Nat} (h : (List.range s).find? p = none) (hm : s ≤ m) (h2 : ∀ t, s ≤ t → p t = false) : (List.range m).find? p = none := by
  obtain ⟨d, rfl⟩ := Nat.exists_eq_add_of_le hm
  clear hm
  induction d with
  | zero => exact h
  | succ d ih => exact find_no ih (h2 _ (Nat.le_add_right s d))
theorem find_lt {p : Nat → Bool} {s t : Nat} (h : (List.range s).find? p = some t) : t < s ∧ p t = true := by
  exact ⟨List.mem_range.1 (List.mem_of_find?_eq_some h), List.find?_some h⟩
def towA (f : Fl) (us : List Int) (b : List UInt8) (p s : Nat) : Fo := ⟨2, us.getD s 0, ((frm p f.size s - s * f.size : Nat) : Int), chunk b p f.size s⟩
def TowBad (f : Fl) (us : List Int) (at_ : Int) (b : List UInt8) : Prop := at_ < 0 ∨ at_ > ((us.length * f.size : Nat) : Int) ∨ (b.length : Int) > ((us.length * f.size : Nat) : Int) - at_
instance (f : Fl) (us : List Int) (at_ : Int) (b : List UInt8) : Decidable (TowBad f us at_ b) := by unfold TowBad; infer_instance
def towS (f : Fl) (us : List Int) (at_ : Int) (b : List UInt8) : Nx :=
  if TowBad f us at_ b then ⟨fo0, false, 210⟩
  else if okN (area f us) b at_.toNat b.length = false then ⟨fo0, false, 210⟩
  else match (List.range us.length).find? (diffB (area f us) b at_.toNat f.size) with
    | none => ⟨fo0, true, 0⟩
    | some s => if f.dead.getD (us.getD s 0).toNat false = true then ⟨fo0, false, 171⟩ else ⟨towA f us b at_.toNat s, false, 0⟩
section
variable {f : Fl} {us : List Int} {at_ : Int} {b : List UInt8}
theorem towS_1 (h : TowBad f us at_ b) : towS f us at_ b = ⟨fo0, false, 210⟩ := if_pos h
theorem towS_2 (h : ¬TowBad f us at_ b) (h2 : okN (area f us) b at_.toNat b.length = false) : towS f us at_ b = ⟨fo0, false, 210⟩ := by unfold towS; rw [if_neg h, if_pos h2]
theorem towS_3 (h : ¬TowBad f us at_ b) (h2 : okN (area f us) b at_.toNat b.length = true) (h3 : (List.range us.length).find? (diffB (area f us) b at_.toNat f.size) = none) : towS f us at_ b = ⟨fo0, true, 0⟩ := by
  unfold towS; rw [if_neg h, if_neg (by rw [h2]; decide), h3]
theorem towS_4 {s : Nat} (h : ¬TowBad f us at_ b) (h2 : okN (area f us) b at_.toNat b.length = true) (h3 : (List.range us.length).find? (diffB (area f us) b at_.toNat f.size) = some s) (h4 : f.dead.getD (us.getD s 0).toNat false = true) : towS f us at_ b = ⟨fo0, false, 171⟩ := by
  unfold towS; rw [if_neg h, if_neg (by rw [h2]; decide), h3]; exact if_pos h4
theorem towS_5 {s : Nat} (h : ¬TowBad f us at_ b) (h2 : okN (area f us) b at_.toNat b.length = true) (h3 : (List.range us.length).find? (diffB (area f us) b at_.toNat f.size) = some s) (h4 : f.dead.getD (us.getD s 0).toNat false = false) : towS f us at_ b = ⟨towA f us b at_.toNat s, false, 0⟩ := by
  unfold towS; rw [if_neg h, if_neg (by rw [h2]; decide), h3]; exact if_neg (by rw [h4]; decide)
end
theorem chunk_len {b : List UInt8} {p z s : Nat} (h : frm p z s ≤ too p z b.length s) : (chunk b p z s).length = too p z b.length s - frm p z s := by
  unfold chunk too frm at *
  rw [List.length_take, List.length_drop]
  omega
/-- Where the program stands. -/
def ffr (p n z s : Nat) : Nat := min (p + n) (max p (s * z))
theorem ffr_in {p n z s : Nat} (hz : 0 < z) (hp : p < s * z + z) (h : ffr p n z s < p + n) : ffr p n z s = frm p z s ∧ s * z ≤ ffr p n z s ∧ ffr p n z s < s * z + z ∧ p ≤ ffr p n z s ∧ frm p z s < too p z n s ∧ too p z n s ≤ s * z + z ∧ too p z n s ≤ p + n := by
  unfold ffr frm too at *
  rw [Nat.succ_mul]
  omega
theorem ffr_next {p n z s : Nat} (hp : p < s * z + z) : ffr p n z (s + 1) = too p z n s ∧ p < (s + 1) * z + z := by
  unfold ffr too at *
  rw [Nat.succ_mul]
  omega
theorem ffr_first (p n z : Nat) (hz : 0 < z) : ffr p n z (p / z) = p ∧ p < p / z * z + z := by
  have h1 := Nat.div_mul_le_self p z
  have h2 := Nat.lt_div_mul_add (a := p) hz
  unfold ffr
  omega
theorem ffr_div {p n z s : Nat} (hz : 0 < z) (hp : p < s * z + z) (h : ffr p n z s < p + n) : ffr p n z s / z = s ∧ ffr p n z s % z = ffr p n z s - s * z := by
  obtain ⟨_, h1, h2, _⟩ := ffr_in hz hp h
  have hd : ffr p n z s / z = s := Nat.div_eq_of_lt_le h1 (by rw [Nat.succ_mul]; exact h2)
  have hm := Nat.div_add_mod (ffr p n z s) z
  rw [hd, Nat.mul_comm] at hm
  exact ⟨hd, by omega⟩
theorem ffr_lt {p n z s m : Nat} (hz : 0 < z) (hp : p < s * z + z) (h : ffr p n z s < p + n) (hr : p + n ≤ m * z) : s < m := by
  obtain ⟨_, h1, _⟩ := ffr_in hz hp h
  exact Nat.lt_of_mul_lt_mul_right (a := z) (by omega)
theorem ffr_before {A b : List UInt8} {p z t : Nat} (h : t < p / z) : diffB A b p z t = false := by
  have h1 := Nat.div_mul_le_self p z
  have h2 : (t + 1) * z ≤ p / z * z := Nat.mul_le_mul_right z h
  refine diffB_no1 ?_
  unfold frm too
  omega
theorem ffr_after {A b : List UInt8} {p z s t : Nat} (h : ¬ffr p b.length z s < p + b.length) (ht : s ≤ t) : diffB A b p z t = false := by
  have h2 : s * z ≤ t * z := Nat.mul_le_mul_right z ht
  refine diffB_no1 ?_
  unfold ffr frm too at *
  omega
theorem find_first (A b : List UInt8) (p z : Nat) : (List.range (p / z)).find? (diffB A b p z) = none := by
  rw [List.find?_eq_none]
  intro t ht
  rw [ffr_before (List.mem_range.1 ht)]
  decide
/-- What the program has found. -/
def NextIs (A : List UInt8) (us : List Int) (b : List UInt8) (p z : Nat) (W : Option Addr) (wc s : Nat) (N : Option Addr) (n : Nat) (cs : List Value) : Prop :=
  ((List.range s).find? (diffB A b p z) = none ∧ N = none ∧ n = 0 ∧ cs = []) ∨
  ∃ t, (List.range s).find? (diffB A b p z) = some t ∧ N.isSome = true ∧ n = 1 ∧ cs = [.int .i64 2, .int .i64 (us.getD t 0), .int .i64 ((frm p z t - t * z : Nat) : Int), .slice (subA W wc (frm p z t - p) 1) (chunk b p z t).length (wc - (frm p z t - p))]
theorem NextIs.none {A : List UInt8} {us : List Int} {b : List UInt8} {p z : Nat} {W : Option Addr} {wc s : Nat} {N : Option Addr} {n : Nat} {cs : List Value} (h : NextIs A us b p z W wc s N n cs) (hN : N.isNone = true) : (List.range s).find? (diffB A b p z) = none ∧ N = none ∧ n = 0 ∧ cs = [] := by
  rcases h with h | ⟨t, _, h2, _⟩
  · exact h
  · rw [Option.isSome_iff_ne_none] at h2
    simp at hN
    exact absurd hN h2
theorem NextIs.some {A : List UInt8} {us : List Int} {b : List UInt8} {p z : Nat} {W : Option Addr} {wc s : Nat} {N : Option Addr} {n : Nat} {cs : List Value} (h : NextIs A us b p z W wc s N n cs) (hN : N.isNone = false) :
    ∃ t, (List.range s).find? (diffB A b p z) = some t ∧ n = 1 ∧ cs = [.int .i64 2, .int .i64 (us.getD t 0), .int .i64 ((frm p z t - t * z : Nat) : Int), .slice (subA W wc (frm p z t - p) 1) (chunk b p z t).length (wc - (frm p z t - p))] := by
  rcases h with ⟨_, h, _⟩ | ⟨t, h1, _, h2⟩
  · subst h; cases hN
  · exact ⟨t, h1, h2⟩
theorem NextIs.keep {A : List UInt8} {us : List Int} {b : List UInt8} {p z : Nat} {W : Option Addr} {wc s : Nat} {N : Option Addr} {n : Nat} {cs : List Value} (h : NextIs A us b p z W wc s N n cs) (hN : N.isNone = false) : NextIs A us b p z W wc (s + 1) N n cs := by
  rcases h with ⟨_, h, _⟩ | ⟨t, h1, h2⟩
  · subst h; cases hN
  · exact .inr ⟨t, find_keep h1, h2⟩

theorem chunk_get {b : List UInt8} {p z s j : Nat} (h : j < (chunk b p z s).length) : (chunk b p z s).getD j 0 = b.getD (frm p z s - p + j) 0 := by
  unfold chunk at *
  rw [List.length_take] at h
  simp only [List.getD_eq_getElem?_getD, List.getElem?_take, List.getElem?_drop]
  rw [if_pos (by omega)]
theorem row_get {f : Fl} {us : List Int} (ok : f.Ok) (h : UOk f us) {p s j : Nat} (hs : s < us.length) (h1 : s * f.size ≤ frm p f.size s) (h2 : frm p f.size s + j < s * f.size + f.size) (h3 : p ≤ frm p f.size s) :
    ((f.data.getD (us.getD s 0).toNat []).drop (frm p f.size s - s * f.size)).getD j 0 = (area f us).getD (p + (frm p f.size s - p + j)) 0 := by
  have := area_get ok h (s := s) (k := frm p f.size s - s * f.size + j) hs (by omega)
  rw [show p + (frm p f.size s - p + j) = s * f.size + (frm p f.size s - s * f.size + j) from by omega, this]
  simp only [List.getD_eq_getElem?_getD, List.getElem?_drop]
theorem row_part {f : Fl} {us : List Int} (ok : f.Ok) (h : UOk f us) {b : List UInt8} {p s : Nat} (hs : s < us.length) (h1 : s * f.size ≤ frm p f.size s) (h2 : too p f.size b.length s ≤ s * f.size + f.size) (h3 : frm p f.size s < too p f.size b.length s) :
    ((area f us).drop (frm p f.size s)).take (too p f.size b.length s - frm p f.size s) = ((f.data.getD (us.getD s 0).toNat []).drop (frm p f.size s - s * f.size)).take (chunk b p f.size s).length := by
  have := area_part ok h (s := s) (k := frm p f.size s - s * f.size) (m := too p f.size b.length s - frm p f.size s) hs (by omega)
  rw [show s * f.size + (frm p f.size s - s * f.size) = frm p f.size s from by omega] at this
  rw [this, chunk_len (by omega)]

/-! ### Last -/
structure Fnd where
  b : List UInt8
  at_ : Int
  e : Int
  deriving DecidableEq
def lastB (A : List UInt8) (e : Nat) : List UInt8 := (A.drop (e - be2 (A.drop (e - 2)))).take (be2 (A.drop (e - 2)))
def LastBad (A : List UInt8) (z e : Int) : Prop := e < 2 ∨ e > (A.length : Int) ∨ ((be2 (A.drop (e.toNat - 2)) : Nat) : Int) > e ∨ parseS (lastB A e.toNat) z = none
instance (A : List UInt8) (z e : Int) : Decidable (LastBad A z e) := by unfold LastBad; infer_instance
def lastS (A : List UInt8) (z e : Int) : Fnd := if LastBad A z e then ⟨[], 0, 210⟩ else ⟨lastB A e.toNat, e - ((be2 (A.drop (e.toNat - 2)) : Nat) : Int), 0⟩
theorem lastS_bad {A : List UInt8} {z e : Int} (h : LastBad A z e) : lastS A z e = ⟨[], 0, 210⟩ := if_pos h
theorem lastS_ok {A : List UInt8} {z e : Int} (h : ¬LastBad A z e) : lastS A z e = ⟨lastB A e.toNat, e - ((be2 (A.drop (e.toNat - 2)) : Nat) : Int), 0⟩ := if_neg h
theorem lastB_len {A : List UInt8} {e : Nat} (h : e ≤ A.length) (h2 : be2 (A.drop (e - 2)) ≤ e) : (lastB A e).length = be2 (A.drop (e - 2)) := by
  unfold lastB
  rw [List.length_take, List.length_drop]
  omega

section
variable {X : Cx} {β : Base} {n : Nat} {ds : List Deferred} {ops : Array Oper} {Q : Exit → Act → World → Prop} {Γ : Env} {R H : List Pr} {rest : List Oper}
theorem run_equalIn_nilP {P : Program} (w : World) (d : Nat) {t e : Nat} (A : Option Addr) (h : P.underlying t = some (.pointer e)) : (Op.equalIn (d + 1) t (ptrOf A 0) (.pointer none)).run P w = .ok A.isNone w := by
  cases A <;> simp [Op.equalIn, run_underlying h, ptrOf]
/-- A pointer held against nil. -/
theorem Ev.eqNilP {t ty e : Nat} {x y : Operand} {A : Option Addr} {i : Ti} (ht : tlook t X.tab = some i) (hd : i.desc = .pointer e) (hx : ev Γ x = some (ptrOf A 0)) (hy : ev Γ y = some (.pointer none)) : Ev X β Γ R H (.binOp .eql t x y ty) (.bool A.isNone) := by
  intro ρ w hρ hw o ho
  have e1 := (X.ok _ _ ht).und
  rw [hd] at e1
  have hg : (eqGuard .eql t x y (ptrOf A 0) (.pointer none)).run X.P w = .ok () w := by unfold eqGuard; rfl
  have hr : (Op.equal t (ptrOf A 0) (.pointer none)).run X.P w = .ok A.isNone w := run_equalIn_nilP w 9999 A e1
  have hb : (binOp .eql t (ptrOf A 0) (.pointer none)).run X.P w = .ok (.bool A.isNone) w := by
    simp only [binOp]
    simp [hr]
  simp [execOp, ho, hρ _ _ hx, hρ _ _ hy, hg, hb]
theorem Own.some_of {e : TypeId} {sz m c : Nat} {A : Option Addr} {xs : List Value} {w : World} (h : (Own e sz A m c xs).p w) (h0 : 0 < xs.length) : A.isSome = true := by
  obtain ⟨g, cur, rfl, _⟩ := Own.form h h0
  rfl
theorem C.someA {c : Code} (j : Nat) {e sz m cc : Nat} {A : Option Addr} {xs : List Value} (hj : H[j]? = some (Own e sz A m cc xs)) (h0 : 0 < xs.length) (h : A.isSome = true → C X β n ds Q c Γ R H) : C X β n ds Q c Γ R H :=
  fun a w hf hs => h (Own.some_of (hs.own j _ hj) h0) a w hf hs
theorem QE.someA {x : Exit} (j : Nat) {e sz m cc : Nat} {A : Option Addr} {xs : List Value} (hj : H[j]? = some (Own e sz A m cc xs)) (h0 : 0 < xs.length) (h : A.isSome = true → QE β n ds Q x Γ R H) : QE β n ds Q x Γ R H :=
  fun a w hf hs => h (Own.some_of (hs.own j _ hj) h0) a w hf hs
theorem L.someA (j : Nat) {e sz m cc : Nat} {A : Option Addr} {xs : List Value} (hj : H[j]? = some (Own e sz A m cc xs)) (h0 : 0 < xs.length) (h : A.isSome = true → L X β n ds ops Q rest Γ R H) : L X β n ds ops Q rest Γ R H :=
  fun a w hf hs => h (Own.some_of (hs.own j _ hj) h0) a w hf hs
end
end Go.Sl
