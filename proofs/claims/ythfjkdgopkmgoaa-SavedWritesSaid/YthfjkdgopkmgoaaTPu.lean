/-
  Reading a record by its places, as the reference does, and restoring.
-/
import Derived.Test.YthfjkdgopkmgoaaTPt
namespace Go.Sl

/-! ### Restore -/
def ResBad (b rec : List UInt8) : Prop := parseS rec (b.length : Int) = none ∨ b.length < 1 ∨ 4096 < b.length
instance (b rec : List UInt8) : Decidable (ResBad b rec) := by unfold ResBad; infer_instance
def resS (b rec : List UInt8) : List UInt8 := if ResBad b rec then [] else applyP b ((parseS rec (b.length : Int)).getD [])
def resE (b rec : List UInt8) : Int := if ResBad b rec then 210 else 0
theorem resS_bad {b rec : List UInt8} (h : ResBad b rec) : resS b rec = [] := if_pos h
theorem resE_bad {b rec : List UInt8} (h : ResBad b rec) : resE b rec = 210 := if_pos h
theorem ResBad.no {b rec : List UInt8} {ps : List Pc} (h : parseS rec (b.length : Int) = some ps) (h1 : 1 ≤ b.length) (h2 : b.length ≤ 4096) : ¬ResBad b rec := by
  unfold ResBad
  rw [h]
  rintro (hx | hx)
  · cases hx
  · omega
theorem resS_ok {b rec : List UInt8} {ps : List Pc} (h : parseS rec (b.length : Int) = some ps) (h1 : 1 ≤ b.length) (h2 : b.length ≤ 4096) : resS b rec = applyP b ps := by
  unfold resS
  rw [if_neg (ResBad.no h h1 h2), h]
  rfl
theorem resE_ok {b rec : List UInt8} {ps : List Pc} (h : parseS rec (b.length : Int) = some ps) (h1 : 1 ≤ b.length) (h2 : b.length ≤ 4096) : resE b rec = 0 := by
  unfold resE
  rw [if_neg (ResBad.no h h1 h2)]
/-- The record of a change restores. -/
theorem res_rec {sec : Int} {a b : List UInt8} (h : ¬RecBad sec a b) : resS b (recS sec a b) = a ∧ resE b (recS sec a b) = 0 := by
  have h' := h
  unfold RecBad at h'
  have hx : (UInt8.ofInt sec).toNat < 64 := by
    simp [UInt8.ofInt, UInt8.toNat_ofNat']
    omega
  have hp := parse_rec (b := b) hx (a := a) (by omega) (size := b.length) (by omega) (by omega)
  rw [recS_ok h]
  rw [resS_ok hp (by omega) (by omega), resE_ok hp (by omega) (by omega)]
  exact ⟨apply_rec (by omega), rfl⟩
end Go.Sl
