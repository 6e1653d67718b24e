/-
  Reading a record by its places, as the reference does, and restoring.
-/
import Derived.Test.YtmbjknampholjaaSPt
import Derived.Test.YtmbjknampholjaaSPm
section
namespace Go.Sl

/-! ### Restore -/
def ResBad (b rec : List UInt8) : Prop := parseS rec (b.length : Int) = none ∨ b.length < 1 ∨ 4096 < b.length
instance (b rec : List UInt8) : Decidable (ResBad b rec) := by unfold ResBad; infer_instance
def resS (b rec : List UInt8) : List UInt8 := if ResBad b rec then [] else applyP b ((parseS rec (b.length : Int)).getD [])
def resE (b rec : List UInt8) : Int := if ResBad b rec then 210 else 0
theorem ResBad.no {b rec : List UInt8} {ps : List Pc} (h : parseS rec (b.length : Int) = some ps) (h1 : 1 ≤ b.length) (h2 : b.length ≤ 4096) : ¬ResBad b rec := by
  unfold ResBad
  rw [h]
  rintro (hx | hx)
  · cases hx
  · omega
theorem resS_ok {b rec : List UInt8} {ps : List Pc} (h : parseS rec (b.length : Int) = some ps) (h1 : 1 ≤ b.length) (h2 : b.length ≤ 4096) : resS b rec = applyP b ps := by
  unfold resS
  rw [if_neg (ResBad.no h h1 h2), h]
  rfl
theorem resE_ok {b rec : List UInt8} {ps : List Pc} (h : parseS rec (b.length : Int) = some ps) (h1 : 1 ≤ b.length) (h2 : b.length ≤ 4096) : resE b rec = 0 := by
  unfold resE
  rw [if_neg (ResBad.no h h1 h2)]
/-- The record of a change restores. -/
theorem res_rec {sec : Int} {a b : List UInt8} (h : ¬RecBad sec a b) : resS b (recS sec a b) = a ∧ resE b (recS sec a b) = 0 := by
  have h' := h
  unfold RecBad at h'
  have hx : (UInt8.ofInt sec).toNat < 64 := by
    simp [UInt8.ofInt, UInt8.toNat_ofNat']
    omega
  have hp := parse_rec (b := b) hx (a := a) (by omega) (size := b.length) (by omega) (by omega)
  rw [recS_ok h]
  rw [resS_ok hp (by omega) (by omega), resE_ok hp (by omega) (by omega)]
  exact ⟨apply_rec (by omega), rfl⟩
end Go.Sl
end
/-
  The undo area, Toward and Last, as plain data.
-/
section
namespace Go.Sl

structure UOk (f : Fl) (us : List Int) : Prop where
  l : us.length ≤ 64
  r : ∀ s, s < us.length → 0 ≤ us.getD s 0 ∧ us.getD s 0 < (f.data.length : Int)
/-- The capacities of the rows. -/
def Caps (f : Fl) (a : Fa) : Prop := ∀ i, i < f.data.length → f.size ≤ (a.hs.getD i (none, 0)).2
theorem UOk.mem {f : Fl} {us : List Int} (h : UOk f us) : ∀ u ∈ us, 0 ≤ u ∧ u < (f.data.length : Int) := by
  intro u hu
  obtain ⟨i, hi, rfl⟩ := List.mem_iff_getElem.1 hu
  have := h.r i hi
  simpa [List.getD_eq_getElem?_getD, hi] using this
def frm (p z s : Nat) : Nat := max p (s * z)
def too (p z n s : Nat) : Nat := min (p + n) ((s + 1) * z)
def chunk (b : List UInt8) (p z s : Nat) : List UInt8 := (b.drop (frm p z s - p)).take (too p z b.length s - frm p z s)
def diffB (A b : List UInt8) (p z s : Nat) : Bool := decide (frm p z s < too p z b.length s) && !((A.drop (frm p z s)).take (too p z b.length s - frm p z s) == chunk b p z s)
def TowBad (f : Fl) (us : List Int) (at_ : Int) (b : List UInt8) : Prop := at_ < 0 ∨ at_ > ((us.length * f.size : Nat) : Int) ∨ (b.length : Int) > ((us.length * f.size : Nat) : Int) - at_
instance (f : Fl) (us : List Int) (at_ : Int) (b : List UInt8) : Decidable (TowBad f us at_ b) := by unfold TowBad; infer_instance
section
variable {f : Fl} {us : List Int} {at_ : Int} {b : List UInt8}
end
/-- What the program has found. -/
def NextIs (A : List UInt8) (us : List Int) (b : List UInt8) (p z : Nat) (W : Option Addr) (wc s : Nat) (N : Option Addr) (n : Nat) (cs : List Value) : Prop :=
  ((List.range s).find? (diffB A b p z) = none ∧ N = none ∧ n = 0 ∧ cs = []) ∨
  ∃ t, (List.range s).find? (diffB A b p z) = some t ∧ N.isSome = true ∧ n = 1 ∧ cs = [.int .i64 2, .int .i64 (us.getD t 0), .int .i64 ((frm p z t - t * z : Nat) : Int), .slice (subA W wc (frm p z t - p) 1) (chunk b p z t).length (wc - (frm p z t - p))]
theorem NextIs.none {A : List UInt8} {us : List Int} {b : List UInt8} {p z : Nat} {W : Option Addr} {wc s : Nat} {N : Option Addr} {n : Nat} {cs : List Value} (h : NextIs A us b p z W wc s N n cs) (hN : N.isNone = true) : (List.range s).find? (diffB A b p z) = none ∧ N = none ∧ n = 0 ∧ cs = [] := by
  rcases h with h | ⟨t, _, h2, _⟩
  · exact h
  · rw [Option.isSome_iff_ne_none] at h2
    simp at hN
    exact absurd hN h2
theorem NextIs.some {A : List UInt8} {us : List Int} {b : List UInt8} {p z : Nat} {W : Option Addr} {wc s : Nat} {N : Option Addr} {n : Nat} {cs : List Value} (h : NextIs A us b p z W wc s N n cs) (hN : N.isNone = false) :
    ∃ t, (List.range s).find? (diffB A b p z) = some t ∧ n = 1 ∧ cs = [.int .i64 2, .int .i64 (us.getD t 0), .int .i64 ((frm p z t - t * z : Nat) : Int), .slice (subA W wc (frm p z t - p) 1) (chunk b p z t).length (wc - (frm p z t - p))] := by
  rcases h with ⟨_, h, _⟩ | ⟨t, h1, _, h2⟩
  · subst h; cases hN
  · exact ⟨t, h1, h2⟩
/-! ### Last -/
structure Fnd where
  b : List UInt8
  at_ : Int
  e : Int
  deriving DecidableEq
def lastB (A : List UInt8) (e : Nat) : List UInt8 := (A.drop (e - be2 (A.drop (e - 2)))).take (be2 (A.drop (e - 2)))
def LastBad (A : List UInt8) (z e : Int) : Prop := e < 2 ∨ e > (A.length : Int) ∨ ((be2 (A.drop (e.toNat - 2)) : Nat) : Int) > e ∨ parseS (lastB A e.toNat) z = none
instance (A : List UInt8) (z e : Int) : Decidable (LastBad A z e) := by unfold LastBad; infer_instance
section
variable {X : Cx} {β : Base} {n : Nat} {ds : List Deferred} {ops : Array Oper} {Q : Exit → Act → World → Prop} {Γ : Env} {R H : List Pr} {rest : List Oper}
end
end Go.Sl
end
/-
  What the laws of saved records say, as plain data.
-/
section
namespace Go.Sl

theorem recB_head (x : UInt8) (old : List UInt8) (s : List (Nat × Nat)) : (recB x old s).getD 0 0 = x := rfl
theorem ofInt_lt {sec : Nat} (h : sec < 64) : (UInt8.ofInt (sec : Int)).toNat = sec := by
  simp [UInt8.ofInt, UInt8.toNat_ofNat']
  omega
structure RecIs (sec : Nat) (a b r : List UInt8) : Prop where
  eq : recS (sec : Int) a b = r
  e : recE (sec : Int) a b = 0
  head : (r.getD 0 0).toNat = sec
  len : r.length = 5 + 4 * (chgN a b a.length).length + diffN a b a.length
  le : r.length ≤ 20485
  res : resS b r = a
  resE : resE b r = 0
theorem RecIs.of {sec : Nat} {a b r : List UInt8} (hr : r = recS (sec : Int) a b) (h : sec < 64) (hl : a.length = b.length) (h1 : 1 ≤ a.length) (h2 : a.length ≤ 4096) : RecIs sec a b r := by
  subst hr
  have hB : ¬RecBad (sec : Int) a b := by unfold RecBad; omega
  obtain ⟨h3, h4⟩ := res_rec hB
  refine ⟨rfl, recE_ok hB, ?_, ?_, recS_len _ _ _, h3, h4⟩
  · rw [recS_ok hB, recB_head, ofInt_lt h]
  · rw [recS_ok hB, recB_len]
theorem diffN_same (a : List UInt8) : ∀ k, diffN a a k = 0
  | 0 => rfl
  | k + 1 => by rw [diffN, if_pos rfl, diffN_same a k]
theorem chgN_same (a : List UInt8) : ∀ k, chgN a a k = []
  | 0 => rfl
  | k + 1 => by rw [chgN, if_pos rfl, chgN_same a k]
theorem RecIs.same {sec : Nat} {a r : List UInt8} (h : RecIs sec a a r) : r.length = 5 := by rw [h.len, chgN_same, diffN_same]; rfl
end Go.Sl
end
/-
  A flash whose first bytes of a sector are others; two elements of some cells.
-/
section
namespace Go.Sl

section
variable {X : Cx} {β : Base} {n : Nat} {ds : List Deferred} {ops : Array Oper} {Q : Exit → Act → World → Prop} {Γ : Env} {R H : List Pr} {rest : List Oper}
end

theorem UOk.of {f g : Fl} {us : List Int} (h : UOk f us) (hl : g.data.length = f.data.length) : UOk g us := ⟨h.l, fun s hs => by rw [hl]; exact h.r s hs⟩
theorem Caps.of {f g : Fl} {a : Fa} (h : Caps f a) (hl : g.data.length = f.data.length) (hz : g.size = f.size) : Caps g a := fun i hi => by rw [hz]; exact h i (by rwa [hl] at hi)
end Go.Sl
end
