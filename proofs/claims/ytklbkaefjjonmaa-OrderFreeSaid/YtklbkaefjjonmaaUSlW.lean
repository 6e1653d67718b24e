/-
  Shifts of a small number.
-/
import Derived.Test.YtklbkaefjjonmaaUSlV
namespace Go.Sl

section
variable {X : Cx} {β : Base} {Γ : Env} {R H : List Pr}
theorem Ev.shl8 {t ty : Nat} {x y : Operand} {yk : IntKind} {m k : Nat} (hx : ev Γ x = some (.int .u8 (m : Int))) (hy : ev Γ y = some (.int yk (k : Int))) (hk : k ≤ 8) (hm : m * 2 ^ k < 256) : Ev X β Γ R H (.binOp .shl t x y ty) (.int .u8 ((m * 2 ^ k : Nat) : Int)) := by
  intro ρ w hρ hw o ho
  have hg : (eqGuard .shl t x y (.int .u8 (m : Int)) (.int yk (k : Int))).run X.P w = .ok () w := by unfold eqGuard; rfl
  have hb : ¬ (k : Int) < 0 := by omega
  have e : IntKind.u8.wrap ((m : Int) * 2 ^ min (k : Int).toNat 8) = ((m * 2 ^ k : Nat) : Int) := by
    rw [Int.toNat_natCast, Nat.min_eq_left hk, wrap_u8, show (m : Int) * 2 ^ k = ((m * 2 ^ k : Nat) : Int) by rw [Int.natCast_mul, Int.natCast_pow]; rfl]
    omega
  simp only [execOp, ho, hρ _ _ hx, hρ _ _ hy, Sem.run_bind, hg, Result.andThen_ok, binOp_shl, Op.shift, if_neg hb, Sem.run_pure, IntKind.bits]
  rw [← e]
end
theorem U8_take (l : List UInt8) (m : Nat) : (U8 l).take m = U8 (l.take m) := by simp [U8, List.map_take]
theorem take_six (l : List UInt8) (m : Nat) : l.take (min l.length m) = l.take m := by rw [Nat.min_comm, ← List.take_take, List.take_length]
theorem u8_bit {a : UInt8} {t : Nat} (h : 8 ≤ t) : a.toNat.testBit t = false :=
  Nat.testBit_lt_two_pow (Nat.lt_of_lt_of_le (UInt8.toNat_lt a) (Nat.pow_le_pow_right (n := 2) (by decide) h))
theorem andNot_bit (a c : UInt8) (t : Nat) : (a &&& ~~~c).toNat.testBit t = (a.toNat.testBit t && !c.toNat.testBit t) := by
  rw [UInt8.toNat_and, Nat.testBit_and]
  rcases Nat.lt_or_ge t 8 with h | h
  · congr 1
    rw [UInt8.toNat_not, show UInt8.size - 1 - c.toNat = 2 ^ 8 - (c.toNat + 1) from by have := UInt8.toNat_lt c; unfold UInt8.size; omega, Nat.testBit_two_pow_sub_succ (UInt8.toNat_lt c), decide_eq_true h, Bool.true_and]
  · rw [u8_bit h]; rfl
end Go.Sl
