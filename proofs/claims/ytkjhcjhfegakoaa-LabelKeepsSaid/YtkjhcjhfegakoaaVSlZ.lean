/-
  The small separation logic: words of 32 bits, shifts and masks of whole numbers.
-/
import Derived.Test.YtkjhcjhfegakoaaVSlI
import Derived.Test.YtkjhcjhfegakoaaVSlP
section
namespace Go.Sl

theorem wrap_u32 (m : Int) : IntKind.u32.wrap m = m % 4294967296 := by
 unfold IntKind.wrap
 simp [IntKind.bits, IntKind.signed]
theorem wrap32 {m : Nat} (h : m < 4294967296) : IntKind.u32.wrap (m : Int) = (m : Int) := by rw [wrap_u32]; omega
theorem ofInt32 {m : Nat} (h : m < 4294967296) : (BitVec.ofInt 32 (m : Int)).toNat = m := by
 rw [BitVec.ofInt_natCast, BitVec.toNat_ofNat]
 omega
theorem bop32_and {a b : Nat} (ha : a < 4294967296) (hb : b < 4294967296) : bop .and .u32 (a : Int) (b : Int) = ((a &&& b : Nat) : Int) := by
 show IntKind.u32.wrap ((BitVec.ofInt 32 (a : Int) &&& BitVec.ofInt 32 (b : Int)).toNat : Int) = _
 rw [BitVec.toNat_and, ofInt32 ha, ofInt32 hb, wrap32 (Nat.lt_of_le_of_lt Nat.and_le_left ha)]
theorem bop32_or {a b : Nat} (ha : a < 4294967296) (hb : b < 4294967296) : bop .or .u32 (a : Int) (b : Int) = ((a ||| b : Nat) : Int) := by
 show IntKind.u32.wrap ((BitVec.ofInt 32 (a : Int) ||| BitVec.ofInt 32 (b : Int)).toNat : Int) = _
 rw [BitVec.toNat_or, ofInt32 ha, ofInt32 hb, wrap32 (Nat.or_lt_two_pow (n := 32) ha hb)]
theorem bop32_xor {a b : Nat} (ha : a < 4294967296) (hb : b < 4294967296) : bop .xor .u32 (a : Int) (b : Int) = ((a ^^^ b : Nat) : Int) := by
 show IntKind.u32.wrap ((BitVec.ofInt 32 (a : Int) ^^^ BitVec.ofInt 32 (b : Int)).toNat : Int) = _
 rw [BitVec.toNat_xor, ofInt32 ha, ofInt32 hb, wrap32 (Nat.xor_lt_two_pow (n := 32) ha hb)]
/-- The bits above a mask. -/
theorem clr_bits {a k : Nat} (hk : k ≤ 32) (ha : a < 4294967296) : (BitVec.ofNat 32 a &&& ~~~BitVec.ofNat 32 (2 ^ k - 1)).toNat = a / 2 ^ k * 2 ^ k := by
 apply Nat.eq_of_testBit_eq
 intro i
 rw [BitVec.testBit_toNat, BitVec.getLsbD_and, BitVec.getLsbD_not, BitVec.getLsbD_ofNat, BitVec.getLsbD_ofNat, Nat.testBit_two_pow_sub_one, Nat.testBit_mul_two_pow, Nat.testBit_div_two_pow]
 by_cases hi : i < 32
 · by_cases hik : i < k
   · simp [hi, hik, show ¬ k ≤ i by omega]
   · simp [hi, hik, show k ≤ i by omega]
 · have h1 : a.testBit i = false := Nat.testBit_lt_two_pow (by
     have := Nat.pow_le_pow_right (n := 2) (by decide) (show 32 ≤ i by omega)
     omega)
   simp [hi, show k ≤ i by omega, Nat.sub_add_cancel (show k ≤ i by omega), h1]
theorem bop32_clr {a b k : Nat} (ha : a < 4294967296) (hk : k ≤ 32) (hb : b = 2 ^ k - 1) : bop .andNot .u32 (a : Int) (b : Int) = ((a / 2 ^ k * 2 ^ k : Nat) : Int) := by
 subst hb
 show IntKind.u32.wrap ((BitVec.ofInt 32 (a : Int) &&& ~~~BitVec.ofInt 32 ((2 ^ k - 1 : Nat) : Int)).toNat : Int) = _
 rw [BitVec.ofInt_natCast, BitVec.ofInt_natCast, wrap32 (BitVec.isLt _), clr_bits hk ha]
theorem mask_mod (a k : Nat) : a &&& (2 ^ k - 1) = a % 2 ^ k := Nat.and_two_pow_sub_one_eq_mod a k
theorem or_add {k b : Nat} (a : Nat) (hb : b < 2 ^ k) : (a * 2 ^ k) ||| b = a * 2 ^ k + b := by
 rw [Nat.mul_comm, ← Nat.two_pow_add_eq_or_of_lt hb]

/-- A whole number of 64 bits behind a mask. -/
theorem bopI_mask {b k : Nat} (a : Int) (hk : k ≤ 62) (hb : b = 2 ^ k - 1) : bop .and .i64 a (b : Int) = a % ((2 ^ k : Nat) : Int) := by
 subst hb
 have hp : 0 < 2 ^ k := Nat.pow_pos (by decide)
 have hle : (2 : Nat) ^ k ≤ 2 ^ 62 := Nat.pow_le_pow_right (by decide) hk
 have h62 : (2 : Nat) ^ 62 = 4611686018427387904 := by decide
 have e1 : ∀ m : Nat, m < 2 ^ 64 → (BitVec.ofInt 64 (m : Int)).toNat = m := by
   intro m hm
   rw [BitVec.ofInt_natCast, BitVec.toNat_ofNat, Nat.mod_eq_of_lt hm]
 have e2 : ((BitVec.ofInt 64 a).toNat : Int) = a % 18446744073709551616 := by
   rw [BitVec.toNat_ofInt]
   have h0 : 0 ≤ a % 18446744073709551616 := Int.emod_nonneg _ (by decide)
   exact Int.toNat_of_nonneg h0
 have e3 : (BitVec.ofInt 64 a &&& BitVec.ofInt 64 ((2 ^ k - 1 : Nat) : Int)).toNat = (BitVec.ofInt 64 a).toNat % 2 ^ k := by
   rw [BitVec.toNat_and, e1 _ (by omega), mask_mod]
 have hd : ((2 ^ k : Nat) : Int) ∣ 18446744073709551616 := by
   have : (2 : Nat) ^ k ∣ 18446744073709551616 := by
     rw [show 18446744073709551616 = 2 ^ 64 by decide]
     exact Nat.pow_dvd_pow 2 (by omega)
   exact Int.natCast_dvd_natCast.2 this
 show IntKind.i64.wrap ((BitVec.ofInt 64 a &&& BitVec.ofInt 64 ((2 ^ k - 1 : Nat) : Int)).toNat : Int) = _
 rw [e3, Int.natCast_emod, e2, Int.emod_emod_of_dvd _ hd, IntKind.wrap_i64]
 have h1 := Int.emod_nonneg a (show ((2 ^ k : Nat) : Int) ≠ 0 by omega)
 have h2 := Int.emod_lt_of_pos a (show (0 : Int) < ((2 ^ k : Nat) : Int) by omega)
 omega

section
variable {X : Cx} {β : Base} {Γ : Env} {R H : List Pr}
theorem Ev.shr32 {t ty : Nat} {x y : Operand} {yk : IntKind} {m k q : Nat} {z : Int} (hx : ev Γ x = some (.int .u32 (m : Int))) (hy : ev Γ y = some (.int yk z)) (hz : z = (k : Int)) (hk : k ≤ 32) (hq : m / 2 ^ k = q) : Ev X β Γ R H (.binOp .shr t x y ty) (.int .u32 (q : Int)) := by
 intro ρ w hρ hw o ho
 subst hz
 have hg : (eqGuard .shr t x y (.int .u32 (m : Int)) (.int yk (k : Int))).run X.P w = .ok () w := by unfold eqGuard; rfl
 have hb : ¬ (k : Int) < 0 := by omega
 have e : (m : Int).fdiv (2 ^ min (k : Int).toNat 32) = (q : Int) := by
   rw [Int.toNat_natCast, Nat.min_eq_left hk, Int.fdiv_eq_ediv_of_nonneg _ (Int.pow_nonneg (by decide)), ← hq, Int.natCast_ediv, Int.natCast_pow]
   rfl
 simp only [execOp, ho, hρ _ _ hx, hρ _ _ hy, Sem.run_bind, hg, Result.andThen_ok, binOp_shr, Op.shift, if_neg hb, Sem.run_pure, IntKind.bits]
 rw [← e]
theorem Ev.shl32 {t ty : Nat} {x y : Operand} {yk : IntKind} {m k q : Nat} {z : Int} (hx : ev Γ x = some (.int .u32 (m : Int))) (hy : ev Γ y = some (.int yk z)) (hz : z = (k : Int)) (hk : k ≤ 32) (hq : m * 2 ^ k = q) (hm : q < 4294967296) : Ev X β Γ R H (.binOp .shl t x y ty) (.int .u32 (q : Int)) := by
 intro ρ w hρ hw o ho
 subst hz
 have hg : (eqGuard .shl t x y (.int .u32 (m : Int)) (.int yk (k : Int))).run X.P w = .ok () w := by unfold eqGuard; rfl
 have hb : ¬ (k : Int) < 0 := by omega
 have e : IntKind.u32.wrap ((m : Int) * 2 ^ min (k : Int).toNat 32) = (q : Int) := by
   rw [Int.toNat_natCast, Nat.min_eq_left hk, ← wrap32 hm, ← hq, Int.natCast_mul, Int.natCast_pow]
   rfl
 simp only [execOp, ho, hρ _ _ hx, hρ _ _ hy, Sem.run_bind, hg, Result.andThen_ok, binOp_shl, Op.shift, if_neg hb, Sem.run_pure, IntKind.bits]
 rw [← e]
theorem Ev.and32 {t ty : Nat} {x y : Operand} {a b q : Nat} {z : Int} (hx : ev Γ x = some (.int .u32 (a : Int))) (hy : ev Γ y = some (.int .u32 z)) (hz : z = (b : Int)) (ha : a < 4294967296) (hb : b < 4294967296) (hq : a &&& b = q) : Ev X β Γ R H (.binOp .and t x y ty) (.int .u32 (q : Int)) :=
 (Ev.pure (v := .int .u32 (bop .and .u32 (a : Int) (b : Int))) (by simp [pev, hx, hy, hz, pint])).cast (by rw [bop32_and ha hb, hq])
/-- The low bits of a word. -/
theorem Ev.low32 {t ty : Nat} {x y : Operand} {a q : Nat} (k : Nat) {z : Int} (hx : ev Γ x = some (.int .u32 (a : Int))) (hy : ev Γ y = some (.int .u32 z)) (hz : z = ((2 ^ k - 1 : Nat) : Int)) (ha : a < 4294967296) (hk : k ≤ 32) (hq : a % 2 ^ k = q) : Ev X β Γ R H (.binOp .and t x y ty) (.int .u32 (q : Int)) :=
 Ev.and32 hx hy hz ha (by have : (2 : Nat) ^ k ≤ 2 ^ 32 := Nat.pow_le_pow_right (by decide) hk; omega) (by rw [mask_mod, hq])
theorem Ev.or32 {t ty : Nat} {x y : Operand} {a b q : Nat} (hx : ev Γ x = some (.int .u32 (a : Int))) (hy : ev Γ y = some (.int .u32 (b : Int))) (ha : a < 4294967296) (hb : b < 4294967296) (hq : a ||| b = q) : Ev X β Γ R H (.binOp .or t x y ty) (.int .u32 (q : Int)) :=
 (Ev.pure (v := .int .u32 (bop .or .u32 (a : Int) (b : Int))) (by simp [pev, hx, hy, pint])).cast (by rw [bop32_or ha hb, hq])
/-- Bits beside those of another word. -/
theorem Ev.beside32 {t ty : Nat} {x y : Operand} {a b c q p : Nat} (k : Nat) (hp : 2 ^ k = p) (hx : ev Γ x = some (.int .u32 (a : Int))) (hy : ev Γ y = some (.int .u32 (b : Int))) (hc : a = c * p) (ha : a < 4294967296) (hk : b < p) (hb : b < 4294967296) (hq : a + b = q) : Ev X β Γ R H (.binOp .or t x y ty) (.int .u32 (q : Int)) :=
 Ev.or32 hx hy ha hb (by subst hc hp; rw [or_add c hk, hq])
theorem Ev.xor32 {t ty : Nat} {x y : Operand} {a b q : Nat} (hx : ev Γ x = some (.int .u32 (a : Int))) (hy : ev Γ y = some (.int .u32 (b : Int))) (ha : a < 4294967296) (hb : b < 4294967296) (hq : a ^^^ b = q) : Ev X β Γ R H (.binOp .xor t x y ty) (.int .u32 (q : Int)) :=
 (Ev.pure (v := .int .u32 (bop .xor .u32 (a : Int) (b : Int))) (by simp [pev, hx, hy, pint])).cast (by rw [bop32_xor ha hb, hq])
/-- The high bits of a word. -/
theorem Ev.high32 {t ty : Nat} {x y : Operand} {a b q : Nat} (k : Nat) (hx : ev Γ x = some (.int .u32 (a : Int))) (hy : ev Γ y = some (.int .u32 (b : Int))) (hb : b = 2 ^ k - 1) (ha : a < 4294967296) (hk : k ≤ 32) (hq : a / 2 ^ k * 2 ^ k = q) : Ev X β Γ R H (.binOp .andNot t x y ty) (.int .u32 (q : Int)) :=
 (Ev.pure (v := .int .u32 (bop .andNot .u32 (a : Int) (b : Int))) (by simp [pev, hx, hy, pint])).cast (by rw [bop32_clr ha hk hb, hq])
theorem Ev.toU32 {s d : Nat} {x : Operand} {k : IntKind} {m : Int} {q : Nat} {i j : Ti} (hs : tlook s X.tab = some i) (hd : tlook d X.tab = some j) (hj : j.desc = .int .u32) (hx : ev Γ x = some (.int k m)) (hq : m % 4294967296 = (q : Int)) : Ev X β Γ R H (.convert s d x) (.int .u32 (q : Int)) :=
 (Ev.pure (v := .int .u32 (IntKind.u32.wrap m)) (by simp [pev, hs, hd, hj, hx])).cast (by rw [wrap_u32, hq])
/-- A byte of a number. -/
theorem Ev.toU8 {s d : Nat} {x : Operand} {k : IntKind} {m : Int} {q : Nat} {i j : Ti} (hs : tlook s X.tab = some i) (hd : tlook d X.tab = some j) (hj : j.desc = .int .u8) (hx : ev Γ x = some (.int k m)) (hq : m % 256 = (q : Int)) : Ev X β Γ R H (.convert s d x) (.int .u8 (q : Int)) :=
 (Ev.pure (v := .int .u8 (IntKind.u8.wrap m)) (by simp [pev, hs, hd, hj, hx])).cast (by rw [wrap_u8, hq])
theorem Ev.maskI {t ty : Nat} {x y : Operand} {a z q : Int} (k : Nat) (hx : ev Γ x = some (.int .i64 a)) (hy : ev Γ y = some (.int .i64 z)) (hz : z = ((2 ^ k - 1 : Nat) : Int)) (hk : k ≤ 62) (hq : a % ((2 ^ k : Nat) : Int) = q) : Ev X β Γ R H (.binOp .and t x y ty) (.int .i64 q) :=
 (Ev.pure (v := .int .i64 (bop .and .i64 a z)) (by simp [pev, hx, hy, pint])).cast (by rw [hz, bopI_mask a hk rfl, hq])
/-- A shift of any number to the right. -/
theorem Ev.shrA {t ty : Nat} {x y : Operand} {yk : IntKind} {a q : Int} {k : Nat} {z : Int} (hx : ev Γ x = some (.int .i64 a)) (hy : ev Γ y = some (.int yk z)) (hz : z = (k : Int)) (hk : k ≤ 64) (hq : a / ((2 ^ k : Nat) : Int) = q) : Ev X β Γ R H (.binOp .shr t x y ty) (.int .i64 q) := by
 intro ρ w hρ hw o ho
 subst hz
 have hg : (eqGuard .shr t x y (.int .i64 a) (.int yk (k : Int))).run X.P w = .ok () w := by unfold eqGuard; rfl
 have hb : ¬ (k : Int) < 0 := by omega
 have e : a.fdiv (2 ^ min (k : Int).toNat 64) = q := by
   rw [Int.toNat_natCast, Nat.min_eq_left hk, Int.fdiv_eq_ediv_of_nonneg _ (Int.pow_nonneg (by decide)), ← hq, Int.natCast_pow]
   rfl
 simp only [execOp, ho, hρ _ _ hx, hρ _ _ hy, Sem.run_bind, hg, Result.andThen_ok, binOp_shr, Op.shift, if_neg hb, Sem.run_pure, IntKind.bits]
 rw [← e]
/-- A quotient, whatever its sign. -/
theorem Ev.quoT {t ty : Nat} {x y : Operand} {a b : Int} (hx : ev Γ x = some (.int .i64 a)) (hy : ev Γ y = some (.int .i64 b)) (h0 : b = 4) (h1 : -9223372036854775808 ≤ a) (h2 : a ≤ 9223372036854775807) :
   Ev X β Γ R H (.binOp .quo t x y ty) (.int .i64 (a.tdiv b)) := by
 intro ρ w hρ hs o ho
 subst h0
 have hb : ¬ (4 : Int) = 0 := by decide
 have h3 : a.tdiv 4 ≤ 9223372036854775807 ∧ -9223372036854775808 ≤ a.tdiv 4 := by
   have h4 : (a.tdiv 4).natAbs = a.natAbs / 4 := Int.natAbs_tdiv a 4
   omega
 simp [execOp, ho, hρ _ _ hx, hρ _ _ hy, run_guard, binOp, Op.intDiv, wrap_in (a := a.tdiv 4) h3.2 h3.1]
/-- Two numbers, one minus the other, whatever they are. -/
theorem Ev.subW {t ty : Nat} {x y : Operand} {a b : Int} (hx : ev Γ x = some (.int .i64 a)) (hy : ev Γ y = some (.int .i64 b)) : Ev X β Γ R H (.binOp .sub t x y ty) (.int .i64 (IntKind.i64.wrap (a - b))) :=
 Ev.pure (by simp [pev, hx, hy, pint])
/-- cs[k] of an array of structs. -/
theorem Ev.indexA {t e k n : Nat} {x y : Operand} {kd : IntKind} {q : Int} {i ei : Ti} {cs vs : List Value} (ht : tlook t X.tab = some i) (hd : i.desc = .array n e) (he : tlook e X.tab = some ei) (ha : aggD ei.desc = true)
   (hx : ev Γ x = some (.agg (List.toArray cs))) (hy : ev Γ y = some (.int kd q)) (hq : q = (k : Int)) (hk : k < n) (hv : (cs.drop (k * ei.size)).take ei.size = vs) : Ev X β Γ R H (.index t x y) (.agg (List.toArray vs)) := by
 intro ρ w hρ hw o ho
 have e1 := (X.ok _ _ ht).und
 rw [hd] at e1
 have hS := run_sizeOf' (P := X.P) w (X.ok _ _ he)
 have hp := run_part (P := X.P) w (X.ok _ _ he) (List.toArray cs) (k * ei.size) (.agg (List.toArray vs)) (by rw [ha, if_pos rfl, ← hv])
 subst hq
 simp [execOp, ho, hρ _ _ hx, hρ _ _ hy, Instr.index, asIntOf, run_underlying e1, hS, hk, hp]
end

theorem bop8_or2 {a b : Nat} (ha : a < 256) (hb : b < 256) : bop .or .u8 (a : Int) (b : Int) = ((a ||| b : Nat) : Int) := by
 have e : ∀ m : Nat, m < 256 → (BitVec.ofInt 8 (m : Int)).toNat = m := by
   intro m hm
   rw [BitVec.ofInt_natCast, BitVec.toNat_ofNat]
   omega
 show IntKind.u8.wrap ((BitVec.ofInt 8 (a : Int) ||| BitVec.ofInt 8 (b : Int)).toNat : Int) = _
 have hlt := Nat.or_lt_two_pow (n := 8) ha hb
 rw [BitVec.toNat_or, e a ha, e b hb, wrap_u8]
 omega
theorem bop8_and2 {a b : Nat} (ha : a < 256) (hb : b < 256) : bop .and .u8 (a : Int) (b : Int) = ((a &&& b : Nat) : Int) := bop8N ha hb
section
variable {X : Cx} {β : Base} {Γ : Env} {R H : List Pr}
theorem Ev.shr8q {t ty : Nat} {x y : Operand} {yk : IntKind} {m k q : Nat} {z : Int} (hx : ev Γ x = some (.int .u8 (m : Int))) (hy : ev Γ y = some (.int yk z)) (hz : z = (k : Int)) (hk : k ≤ 8) (hq : m / 2 ^ k = q) : Ev X β Γ R H (.binOp .shr t x y ty) (.int .u8 (q : Int)) := by
 subst hz hq
 exact (Ev.shr8N hx hy hk).cast (by rw [Nat.shiftRight_eq_div_pow])
theorem Ev.low8 {t ty : Nat} {x y : Operand} {a q : Nat} (k : Nat) {z : Int} (hx : ev Γ x = some (.int .u8 (a : Int))) (hy : ev Γ y = some (.int .u8 z)) (hz : z = ((2 ^ k - 1 : Nat) : Int)) (ha : a < 256) (hk : k ≤ 8) (hq : a % 2 ^ k = q) : Ev X β Γ R H (.binOp .and t x y ty) (.int .u8 (q : Int)) :=
 (Ev.pure (v := .int .u8 (bop .and .u8 (a : Int) ((2 ^ k - 1 : Nat) : Int))) (by simp [pev, hx, hy, hz, pint])).cast (by
   have : (2 : Nat) ^ k ≤ 2 ^ 8 := Nat.pow_le_pow_right (by decide) hk
   rw [bop8_and2 ha (by omega), mask_mod, hq])
/-- One bit more, above all others. -/
theorem Ev.bit8 {t ty : Nat} {x y : Operand} {a b q : Nat} (k : Nat) (hx : ev Γ x = some (.int .u8 (a : Int))) (hy : ev Γ y = some (.int .u8 (b : Int))) (hb : b = 1 * 2 ^ k) (ha : a < 2 ^ k) (hk : k < 8) (hq : a + 2 ^ k = q) : Ev X β Γ R H (.binOp .or t x y ty) (.int .u8 (q : Int)) :=
 (Ev.pure (v := .int .u8 (bop .or .u8 (a : Int) (b : Int))) (by simp [pev, hx, hy, pint])).cast (by
   have h1 : (2 : Nat) ^ k ≤ 2 ^ 7 := Nat.pow_le_pow_right (by decide) (by omega)
   rw [bop8_or2 (by omega) (by omega), Nat.or_comm, hb, or_add 1 ha, ← hq, Nat.one_mul, Nat.add_comm])
/-- s[l:h:m] -/
theorem Ev.sliceLHM {t e n c l h m : Nat} {x y z u : Operand} {kd kd' kd2 : IntKind} {q q' q2 : Int} {i ei : Ti} {A : Option Addr} (ht : tlook t X.tab = some i) (hd : i.desc = .slice e) (he : tlook e X.tab = some ei) (hx : ev Γ x = some (.slice A n c))
   (hy : ev Γ y = some (.int kd q)) (hz : ev Γ z = some (.int kd' q')) (hu : ev Γ u = some (.int kd2 q2)) (hq : q = (l : Int)) (hq' : q' = (h : Int)) (hq2 : q2 = (m : Int)) (hl : l ≤ h) (hh : h ≤ m) (hm : m ≤ c) : Ev X β Γ R H (.slice t x (some y) (some z) (some u)) (.slice (subA A m l ei.size) (h - l) (m - l)) := by
 intro ρ w hρ hw o ho
 have e1 := (X.ok _ _ ht).und
 rw [hd] at e1
 have hS := run_sizeOf' (P := X.P) w (X.ok _ _ he)
 subst hq hq' hq2
 simp [execOp, ho, hρ _ _ hx, hρ _ _ hy, hρ _ _ hz, hρ _ _ hu, Instr.sliceAt, Instr.slice, Instr.sliceBounds, Instr.sliceBound, asIntOf, run_underlying e1, hS, hl, hh, hm, subA]
end
/-- A part of what is read. -/
theorem Has.part {R H : List Pr} {A : Option Addr} {xs : List Value} (h : Has R H (Rd A xs)) (c l m : Nat) (hm : l + m ≤ c) : Has R H (Rd (subA A c l 1) ((xs.drop l).take m)) := by
 have hx : ∀ j u, ((xs.drop l).take m)[j]? = some u → j < m ∧ xs[l + j]? = some u := by
   intro j u hu
   rw [List.getElem?_take] at hu
   split at hu
   · rw [List.getElem?_drop] at hu
     exact ⟨by assumption, hu⟩
   · cases hu
 refine ⟨fun β w hs j u hu => ?_, fun k hk => h.2 k ?_⟩
 · obtain ⟨hj, hu'⟩ := hx j u hu
   obtain ⟨a, ha, hc⟩ := h.1 β w hs (l + j) u hu'
   refine ⟨a.add (l * 1), ?_, ?_⟩
   · unfold subA
     rw [if_neg (by omega), ha]
     rfl
   · rw [addadd, Nat.mul_one]
     exact hc
 · obtain ⟨h1, a, ha, hk⟩ := hk
   refine ⟨fun e => h1 (by rw [e]; simp), ?_⟩
   unfold subA at ha
   split at ha
   · exact ⟨a, ha, hk⟩
   · cases hA : A with
     | none => rw [hA] at ha; cases ha
     | some a0 =>
       rw [hA] at ha
       injection ha with ha
       exact ⟨a0, rfl, by rw [← hk, ← ha, addblock]⟩
theorem beq_one (q : Nat) : ((q : Int) == 1) = decide (q = 1) := by
 rw [Bool.eq_iff_iff, beq_iff_eq, decide_eq_true_iff]
 omega

theorem own_eq2 {e sz n n' c : Nat} {A : Option Addr} {xs ys : List Value} (hn : n = n') (h : xs = ys) : Own e sz A n c xs = Own e sz A n' c ys := by rw [h, hn]
theorem Has.dropU2 {R H : List Pr} {A : Option Addr} {l : List UInt8} (h : Has R H (Rd A (U8 l))) (c k : Nat) (hc : l.length ≤ c) : Has R H (Rd (subA A c k 1) (U8 (l.drop k))) := by
 have h1 := h.sub c k 1 l.length (by rw [U8_len, Nat.mul_one]; exact hc)
 rw [Nat.mul_one, U8_drop] at h1
 refine h1.cast ?_
 rw [List.take_of_length_le (by rw [U8_len, List.length_drop]; omega)]

/-! ### Rows of words -/
def N32 (l : List Nat) : List Value := l.map fun (x : Nat) => .int .u32 (x : Int)
def W32 (l : List Nat) : Prop := ∀ i, l.getD i 0 < 4294967296
theorem N32_len (l : List Nat) : (N32 l).length = l.length := by simp [N32]
theorem N32_get {l : List Nat} {k : Nat} (h : k < l.length) : (N32 l)[k]? = some (.int .u32 ((l.getD k 0 : Nat) : Int)) := by simp [N32, h]
theorem N32_set (l : List Nat) (k x : Nat) : (N32 l).set k (.int .u32 (x : Int)) = N32 (l.set k x) := by simp [N32, List.map_set]
theorem N32_app (a b : List Nat) : N32 a ++ N32 b = N32 (a ++ b) := by simp [N32]
theorem N32_take (l : List Nat) (m : Nat) : (N32 l).take m = N32 (l.take m) := by simp [N32, List.map_take]
theorem N32_drop (l : List Nat) (m : Nat) : (N32 l).drop m = N32 (l.drop m) := by simp [N32, List.map_drop]
theorem N32_rep (m : Nat) : N32 (List.replicate m 0) = List.replicate m (.int .u32 0) := by simp [N32]
theorem Bs_rep2 (m : Nat) : Bs (List.replicate m false) = List.replicate m (.bool false) := by simp [Bs]
theorem N32_one : ∀ (l : List Nat), ∀ v ∈ N32 l, v.oneCell' = true := by
 intro l v hv
 simp [N32] at hv
 obtain ⟨x, _, rfl⟩ := hv
 rfl
theorem W32.mem {l : List Nat} (h : W32 l) : ∀ x ∈ l, x < 4294967296 := by
 intro x hx
 obtain ⟨i, hi, rfl⟩ := List.getElem_of_mem hx
 have := h i
 rwa [List.getD_eq_getElem?_getD, List.getElem?_eq_getElem hi] at this
theorem W32.of {l : List Nat} (h : ∀ x ∈ l, x < 4294967296) : W32 l := by
 intro i
 rw [List.getD_eq_getElem?_getD]
 cases hi : l[i]? with
 | none => simp
 | some x => exact h x (List.mem_of_getElem? hi)
theorem W32.take {l : List Nat} (h : W32 l) (k : Nat) : W32 (l.take k) := W32.of fun x hx => h.mem x (List.mem_of_mem_take hx)
theorem W32.drop {l : List Nat} (h : W32 l) (k : Nat) : W32 (l.drop k) := W32.of fun x hx => h.mem x (List.mem_of_mem_drop hx)
theorem W32.app {a b : List Nat} (h : W32 a) (g : W32 b) : W32 (a ++ b) := W32.of fun x hx => by
 rcases List.mem_append.1 hx with k | k
 · exact h.mem x k
 · exact g.mem x k
theorem W32.set {l : List Nat} (h : W32 l) (k : Nat) {x : Nat} (hx : x < 4294967296) : W32 (l.set k x) := W32.of fun y hy => by
 rcases List.mem_or_eq_of_mem_set hy with g | g
 · exact h.mem y g
 · exact g ▸ hx
theorem W32.rep (m : Nat) : W32 (List.replicate m 0) := W32.of fun x hx => by
 rw [(List.mem_replicate.1 hx).2]
 decide
end Go.Sl
end
/-
  Instructions as plain data: words, what is decoded, what is encoded.
-/
section
namespace Go.Sl

structure Ins where
 op : Int
 a : Int
 b : Int
 c : Int
 n : Int
theorem Ins.ext' {x y : Ins} (h1 : x.op = y.op) (h2 : x.a = y.a) (h3 : x.b = y.b) (h4 : x.c = y.c) (h5 : x.n = y.n) : x = y := by
 cases x; cases y; simp_all
instance : DecidableEq Ins := fun x y =>
 if h : x.op = y.op ∧ x.a = y.a ∧ x.b = y.b ∧ x.c = y.c ∧ x.n = y.n then isTrue (Ins.ext' h.1 h.2.1 h.2.2.1 h.2.2.2.1 h.2.2.2.2) else isFalse fun e => h (by rw [e]; exact ⟨rfl, rfl, rfl, rfl, rfl⟩)
/-- The numbers of an instruction, one by one. -/
def Ins.l (x : Ins) : List Int := [x.op, x.a, x.b, x.c, x.n]
def in5 (x : Ins) : List Value := [.int .i64 x.op, .int .i64 x.a, .int .i64 x.b, .int .i64 x.c, .int .i64 x.n]
theorem Ins.l_inj {x y : Ins} : (x.l == y.l) = decide (x = y) := by
 rw [Bool.eq_iff_iff, beq_iff_eq, decide_eq_true_iff]
 refine ⟨fun h => ?_, fun h => by rw [h]⟩
 unfold Ins.l at h
 simp only [List.cons.injEq, and_true] at h
 exact Ins.ext' h.1 h.2.1 h.2.2.1 h.2.2.2.1 h.2.2.2.2

/-- A number of some bits, with a sign. -/
def sgn (n h : Nat) : Int := if h ≤ n then (n : Int) - 2 * (h : Int) else (n : Int)
def datI (w : Nat) : Ins := ⟨0, 0, 0, 0, (w : Int)⟩
/-- What a word is at a place. -/
def decF (w : Nat) (t : Int) : Ins :=
 if w / 16777216 = 1 ∨ w / 16777216 = 3 ∨ w / 16777216 = 4 then
   if w / 65536 % 256 ≤ 15 ∧ w / 256 % 256 ≤ 15 ∧ w % 256 ≤ 15 then ⟨(w / 16777216 : Nat), (w / 65536 % 256 : Nat), (w / 256 % 256 : Nat), (w % 256 : Nat), 0⟩ else datI w
 else if w / 16777216 = 5 ∨ w / 16777216 = 6 then ⟨(w / 16777216 : Nat), 0, 0, 0, t + 4 * sgn (w % 16777216) 8388608⟩
 else if w / 16777216 = 2 then (if w / 65536 % 256 ≤ 15 then ⟨2, (w / 65536 % 256 : Nat), 0, 0, (w % 65536 : Nat)⟩ else datI w)
 else if w / 16777216 = 7 then (if w / 65536 % 256 ≤ 15 then ⟨7, (w / 65536 % 256 : Nat), 0, 0, t + 4 * sgn (w % 65536) 32768⟩ else datI w)
 else if w / 16777216 = 8 then (if w / 65536 % 256 ≤ 15 then ⟨8, (w / 65536 % 256 : Nat), 0, 0, t + 4 * (w % 65536 : Nat)⟩ else datI w)
 else datI w
/-- The word that an instruction may be at a place. -/
def encW (x : Ins) (t : Int) : Nat :=
 if x.op = 0 then (x.n % 4294967296).toNat
 else if x.op = 1 ∨ x.op = 3 ∨ x.op = 4 then (x.op * 16777216 + x.a * 65536 + x.b * 256 + x.c).toNat
 else if x.op = 2 then (x.op * 16777216 + x.a * 65536 + x.n).toNat
 else if x.op = 5 ∨ x.op = 6 then (x.op * 16777216 + ((x.n - t) / 4) % 16777216).toNat
 else (x.op * 16777216 + x.a * 65536 + ((x.n - t) / 4) % 65536).toNat
/-- An instruction has one word at most. -/
theorem enc_dec {w : Nat} (h : w < 4294967296) (t : Int) : encW (decF w t) t = w := by
 have hd : encW (datI w) t = w := by
   unfold encW datI
   rw [if_pos rfl]
   dsimp only
   omega
 unfold decF
 split
 · split
   · unfold encW
     dsimp only
     rw [if_neg (by omega), if_pos (by omega)]
     omega
   · exact hd
 · split
   · unfold encW sgn
     dsimp only
     rw [if_neg (by omega), if_neg (by omega), if_neg (by omega), if_pos (by omega)]
     split <;> omega
   · split
     · split
       · unfold encW
         dsimp only
         rw [if_neg (by decide), if_neg (by decide), if_pos rfl]
         omega
       · exact hd
     · split
       · split
         · unfold encW sgn
           dsimp only
           rw [if_neg (by decide), if_neg (by decide), if_neg (by decide), if_neg (by decide)]
           split <;> omega
         · exact hd
       · split
         · split
           · unfold encW
             dsimp only
             rw [if_neg (by decide), if_neg (by decide), if_neg (by decide), if_neg (by decide)]
             omega
           · exact hd
         · exact hd
/-! ### How a program decodes -/
def octN (w i : Nat) : Nat := w / 2 ^ (24 - 8 * i) % 256
def lowI (w k : Nat) (s : Bool) : Int := if s = true then sgn (w % 2 ^ k) (2 ^ (k - 1)) else ((w % 2 ^ k : Nat) : Int)
def regsF (k : Nat) : Nat := [0, 3, 1, 3, 3, 0, 0, 1, 1].getD k 0
def bitsF (k : Nat) : Nat := [0, 0, 16, 0, 0, 24, 24, 16, 16].getD k 0
def signF (k : Nat) : Bool := [false, false, false, false, false, true, true, true, false].getD k false
def targF (k : Nat) : Bool := [false, false, false, false, false, true, true, true, true].getD k false
def kindV (s : List ByteArray) (k : Nat) : List Value := [.string (s.getD k ByteArray.empty), .int .i64 (regsF k : Int), .int .i64 (bitsF k : Int), .bool (signF k), .bool (targF k)]
def kindsV (s : List ByteArray) : List Value := (List.range 9).flatMap (kindV s)
theorem kindsV_get (s : List ByteArray) {k : Nat} (h : k < 9) : ((kindsV s).drop (k * 5)).take 5 = kindV s k := by
 rcases (by omega : k = 0 ∨ k = 1 ∨ k = 2 ∨ k = 3 ∨ k = 4 ∨ k = 5 ∨ k = 6 ∨ k = 7 ∨ k = 8) with rfl | rfl | rfl | rfl | rfl | rfl | rfl | rfl | rfl <;> rfl
theorem regs_le (k : Nat) : regsF k ≤ 3 := by
 by_cases h : k < 9
 · rcases (by omega : k = 0 ∨ k = 1 ∨ k = 2 ∨ k = 3 ∨ k = 4 ∨ k = 5 ∨ k = 6 ∨ k = 7 ∨ k = 8) with rfl | rfl | rfl | rfl | rfl | rfl | rfl | rfl | rfl <;> decide
 · unfold regsF
   rw [List.getD_eq_getElem?_getD, List.getElem?_eq_none (by simp; omega)]
   decide
/-- The registers that are read so far. -/
def regN (w i j : Nat) : Int := if j ≤ i then (octN w j : Int) else 0
def regV (w i : Nat) (op n : Int) : List Value := [.int .i64 op, .int .i64 (regN w i 1), .int .i64 (regN w i 2), .int .i64 (regN w i 3), .int .i64 n]
theorem regV_set (w i : Nat) (op n : Int) (h : i < 3) : (regV w i op n).set (i + 1) (.int .i64 (octN w (i + 1) : Int)) = regV w (i + 1) op n := by
 rcases (by omega : i = 0 ∨ i = 1 ∨ i = 2) with rfl | rfl | rfl <;> rfl
theorem regV_at (w i : Nat) (op n : Int) (h : i < 3) : (regV w (i + 1) op n)[i + 1]? = some (.int .i64 (octN w (i + 1) : Int)) := by
 rcases (by omega : i = 0 ∨ i = 1 ∨ i = 2) with rfl | rfl | rfl <;> rfl
theorem regV_num (w i : Nat) (op n : Int) (h : i < 3) : ∃ m : Int, (regV w i op n)[i + 1]? = some (.int .i64 m) := by
 rcases (by omega : i = 0 ∨ i = 1 ∨ i = 2) with rfl | rfl | rfl <;> exact ⟨_, rfl⟩
theorem ptrs_at (A : Option Addr) {i : Nat} (h : i < 3) : (#[ptrOf A 1, ptrOf A 2, ptrOf A 3] : Array Value)[i]? = some (ptrOf A (i + 1)) := by
 rcases (by omega : i = 0 ∨ i = 1 ∨ i = 2) with rfl | rfl | rfl <;> rfl
theorem octN_lt (w i : Nat) : octN w i < 256 := Nat.mod_lt _ (by decide)
theorem oct0 (w : Nat) (h : w < 4294967296) : octN w 0 = w / 16777216 := by
 unfold octN
 rw [show 2 ^ (24 - 8 * 0) = 16777216 by decide]
 omega
theorem oct1 (w : Nat) : octN w 1 = w / 65536 % 256 := rfl
theorem oct2 (w : Nat) : octN w 2 = w / 256 % 256 := rfl
theorem oct3 (w : Nat) : octN w 3 = w % 256 := by
 unfold octN
 rw [show 2 ^ (24 - 8 * 3) = 1 by decide, Nat.div_one]
/-- The number of an instruction, whatever its kind. -/
def numF (w op : Nat) (t : Int) : Int :=
 if targF op = true then t + 4 * (if 0 < bitsF op then lowI w (bitsF op) (signF op) else 0) else (if 0 < bitsF op then lowI w (bitsF op) (signF op) else 0)
theorem dec_data {w : Nat} (hw : w < 4294967296) {t : Int} (h : octN w 0 = 0 ∨ 8 < octN w 0) : decF w t = datI w := by
 rw [oct0 w hw] at h
 unfold decF
 rw [if_neg (by omega), if_neg (by omega), if_neg (by omega), if_neg (by omega), if_neg (by omega)]
theorem dec_bad {w : Nat} (hw : w < 4294967296) {t : Int} {i : Nat} (h0 : 0 < octN w 0) (h8 : octN w 0 ≤ 8) (hi : i < regsF (octN w 0)) (hb : 15 < octN w (i + 1)) : decF w t = datI w := by
 rw [oct0 w hw] at h0 h8 hi
 have e1 := oct1 w
 have e2 := oct2 w
 have e3 := oct3 w
 generalize hk : w / 16777216 = k at h0 h8 hi
 unfold decF
 rw [hk]
 rcases (by omega : k = 1 ∨ k = 2 ∨ k = 3 ∨ k = 4 ∨ k = 5 ∨ k = 6 ∨ k = 7 ∨ k = 8) with rfl | rfl | rfl | rfl | rfl | rfl | rfl | rfl <;>
   simp only [regsF, List.getD_cons_succ, List.getD_cons_zero] at hi
 · rcases (by omega : i = 0 ∨ i = 1 ∨ i = 2) with rfl | rfl | rfl <;> simp only [Nat.reduceAdd] at hb <;> rw [if_pos (by decide), if_neg (by omega)]
 · obtain rfl : i = 0 := by omega
   simp only [Nat.reduceAdd] at hb
   rw [if_neg (by decide), if_neg (by decide), if_pos (by decide), if_neg (by omega)]
 · rcases (by omega : i = 0 ∨ i = 1 ∨ i = 2) with rfl | rfl | rfl <;> simp only [Nat.reduceAdd] at hb <;> rw [if_pos (by decide), if_neg (by omega)]
 · rcases (by omega : i = 0 ∨ i = 1 ∨ i = 2) with rfl | rfl | rfl <;> simp only [Nat.reduceAdd] at hb <;> rw [if_pos (by decide), if_neg (by omega)]
 · omega
 · omega
 · obtain rfl : i = 0 := by omega
   simp only [Nat.reduceAdd] at hb
   rw [if_neg (by decide), if_neg (by decide), if_neg (by decide), if_pos (by decide), if_neg (by omega)]
 · obtain rfl : i = 0 := by omega
   simp only [Nat.reduceAdd] at hb
   rw [if_neg (by decide), if_neg (by decide), if_neg (by decide), if_neg (by decide), if_pos (by decide), if_neg (by omega)]
theorem dec_good {w : Nat} (hw : w < 4294967296) {t : Int} (h0 : 0 < octN w 0) (h8 : octN w 0 ≤ 8) (hg : ∀ j, j < regsF (octN w 0) → octN w (j + 1) ≤ 15) :
   decF w t = ⟨(octN w 0 : Int), regN w (regsF (octN w 0)) 1, regN w (regsF (octN w 0)) 2, regN w (regsF (octN w 0)) 3, numF w (octN w 0) t⟩ := by
 rw [oct0 w hw] at h0 h8 hg ⊢
 have e1 := oct1 w
 have e2 := oct2 w
 have e3 := oct3 w
 generalize hk : w / 16777216 = k at h0 h8 hg
 unfold decF
 rw [hk]
 have g1 := hg 0
 have g2 := hg 1
 have g3 := hg 2
 clear hg
 rcases (by omega : k = 1 ∨ k = 2 ∨ k = 3 ∨ k = 4 ∨ k = 5 ∨ k = 6 ∨ k = 7 ∨ k = 8) with rfl | rfl | rfl | rfl | rfl | rfl | rfl | rfl <;>
   simp only [regsF, List.getD_cons_succ, List.getD_cons_zero, Nat.reduceAdd] at g1 g2 g3
 · rw [if_pos (by decide), if_pos (by omega)]
   unfold regN
   rw [← e1, ← e2, ← e3]
   rfl
 · rw [if_neg (by decide), if_neg (by decide), if_pos (by decide), if_pos (by omega)]
   unfold regN
   rw [← e1]
   rfl
 · rw [if_pos (by decide), if_pos (by omega)]
   unfold regN
   rw [← e1, ← e2, ← e3]
   rfl
 · rw [if_pos (by decide), if_pos (by omega)]
   unfold regN
   rw [← e1, ← e2, ← e3]
   rfl
 · rw [if_neg (by decide), if_pos (by decide)]
   rfl
 · rw [if_neg (by decide), if_pos (by decide)]
   rfl
 · rw [if_neg (by decide), if_neg (by decide), if_neg (by decide), if_pos (by decide), if_pos (by omega)]
   unfold regN
   rw [← e1]
   rfl
 · rw [if_neg (by decide), if_neg (by decide), if_neg (by decide), if_neg (by decide), if_pos (by decide), if_pos (by omega)]
   unfold regN
   rw [← e1]
   rfl
theorem low_le (w k : Nat) (s : Bool) (hk : k ≤ 32) : -4294967296 ≤ lowI w k s ∧ lowI w k s ≤ 4294967296 := by
 have h1 : w % 2 ^ k < 2 ^ k := Nat.mod_lt _ (Nat.pow_pos (by decide))
 have h2 : (2 : Nat) ^ k ≤ 2 ^ 32 := Nat.pow_le_pow_right (by decide) hk
 have h3 : (2 : Nat) ^ (k - 1) ≤ 2 ^ 31 := Nat.pow_le_pow_right (by decide) (by omega)
 unfold lowI sgn
 generalize (2 : Nat) ^ (k - 1) = q at h3
 generalize w % 2 ^ k = r at h1
 split
 · split <;> omega
 · omega
theorem bits_le (k : Nat) : bitsF k ≤ 24 := by
 by_cases h : k < 9
 · rcases (by omega : k = 0 ∨ k = 1 ∨ k = 2 ∨ k = 3 ∨ k = 4 ∨ k = 5 ∨ k = 6 ∨ k = 7 ∨ k = 8) with rfl | rfl | rfl | rfl | rfl | rfl | rfl | rfl | rfl <;> decide
 · unfold bitsF
   rw [List.getD_eq_getElem?_getD, List.getElem?_eq_none (by simp; omega)]
   decide

/-- The word of an instruction, if it has one. -/
def encF (x : Ins) (t : Int) : Option Nat := if encW x t < 4294967296 ∧ decF (encW x t) t = x then some (encW x t) else none
theorem encF_dec {w : Nat} (h : w < 4294967296) (t : Int) : encF (decF w t) t = some w := by
 unfold encF
 rw [enc_dec h t, if_pos ⟨h, rfl⟩]
theorem encF_some {x : Ins} {t : Int} {w : Nat} (h : encF x t = some w) : w < 4294967296 ∧ decF w t = x := by
 unfold encF at h
 split at h
 · injection h with h
   subst h
   assumption
 · cases h
/-- Whatever word is guessed: it is the word if it is decoded to the instruction. -/
theorem encF_guess {x : Ins} {t : Int} {w : Nat} (h : w < 4294967296) (g : (∃ v, encF x t = some v) → w = encW x t) : encF x t = if decF w t = x then some w else none := by
 by_cases e : decF w t = x
 · rw [if_pos e, ← e]
   exact encF_dec h t
 · rw [if_neg e]
   cases hx : encF x t with
   | none => rfl
   | some v =>
     exfalso
     have h1 := g ⟨v, hx⟩
     have h2 := encF_some hx
     have h3 : encW x t = v := by rw [← h2.2]; exact enc_dec h2.1 t
     rw [h3] at h1
     subst h1
     exact e h2.2
end Go.Sl
end
/-
  How the program reads a word: its bytes, its low bits, the kinds.
-/
section
namespace Go.Proofs.Ytkjhcjhfegakoaa
open Go.Sl

theorem octet_c (w i : Nat) (hw : w < 4294967296) (hi : i ≤ 3) :
   Ctr X 55 [.int .u32 (w : Int), .int .i64 (i : Int)] [] [] (fun v R' H' => v = .int .i64 (octN w i : Int) ∧ R' = [] ∧ H' = []) := by
 refine Ctr.of (X := X) (fn := Try.f55) Try.func55 rfl (by kernel_rfl) rfl ?_
 intro β
 refine C.seq (C.region ?_); refine Lpu rfl rfl ?_; refine L.nil (QE.seq (C.seq (C.region ?_))); refine Lpu rfl rfl ?_; refine Lpu rfl rfl ?_; refine L.step (Ev.mul rfl rfl (by omega) (by omega)) rfl ?_; refine L.step (Ev.sub rfl rfl (by omega) (by omega)) rfl ?_; refine L.step (Ev.shr32 (k := 24 - 8 * i) (q := w / 2 ^ (24 - 8 * i)) rfl rfl (by omega) (by omega) rfl) rfl ?_; refine L.step (Ev.low32 8 (q := octN w i) rfl rfl rfl (Nat.lt_of_le_of_lt (Nat.div_le_self _ _) hw) (by decide) rfl) rfl ?_; refine L.step (Ev.toInt rfl rfl rfl rfl (by omega) (by have := octN_lt w i; omega)) rfl ?_; refine Lpu rfl rfl ?_; refine L.nil (QE.seq (C.ret ?_)); refine QE.ret (js := []) (hs := []) (vs := [_]) rfl ⟨rfl, trivial⟩ (by decide) ?_
 exact ⟨rfl, rfl, rfl⟩

theorem low_c (w k : Nat) (s : Bool) (hw : w < 4294967296) (h1 : 1 ≤ k) (hk : k ≤ 24) :
   Ctr X 57 [.int .u32 (w : Int), .int .i64 (k : Int), .bool s] [] [] (fun v R' H' => v = .int .i64 (lowI w k s) ∧ R' = [] ∧ H' = []) := by
 have e2 : 2 ^ k = 2 * 2 ^ (k - 1) := by rw [Nat.mul_comm, ← Nat.pow_succ]; congr 1; omega
 have hp : 0 < 2 ^ (k - 1) := Nat.pow_pos (by decide)
 have hle : 2 ^ k ≤ 2 ^ 24 := Nat.pow_le_pow_right (by decide) hk
 have hm : w % 2 ^ k < 2 ^ k := Nat.mod_lt _ (by omega)
 refine Ctr.of (X := X) (fn := Try.f57) Try.func57 rfl (by kernel_rfl) rfl ?_
 intro β
 refine C.seq (C.region ?_); refine Lpu rfl rfl ?_; refine L.nil (QE.seq (C.seq (C.region ?_))); refine Lpu rfl rfl ?_; refine L.step (Ev.toInt rfl rfl rfl rfl (by omega) (by omega)) rfl ?_; refine Lpu rfl rfl ?_; refine L.step (Ev.cast (u := .int .i64 ((2 ^ k : Nat) : Int)) (Ev.shlI (m := 1) (k := k) rfl rfl (by omega) (by omega)) (congrArg (Value.int .i64) (by rw [Nat.one_mul]))) rfl ?_; refine L.step (Ev.cast (u := .int .i64 ((2 ^ k - 1 : Nat) : Int)) (Ev.sub rfl rfl (by omega) (by omega)) (congrArg (Value.int .i64) (by omega))) rfl ?_; refine L.step (Ev.maskI (q := ((w % 2 ^ k : Nat) : Int)) k rfl rfl rfl (by omega) (by rw [Int.natCast_emod])) rfl ?_; refine Lpu rfl rfl ?_; refine L.nil (QE.seq (C.seq (C.seq (C.region ?_)))); refine Lpu rfl rfl ?_; refine Lpu rfl rfl ?_
 refine L.bool 15 rfl (fun hg15 => ?_) (fun hg15 => ?_)
 · skip
   refine L.yes rfl ?_; refine Lpu rfl rfl ?_; refine L.yes rfl ?_; refine Lpu rfl rfl ?_; refine L.yes rfl ?_; refine L.step (Ev.cast (u := .int .i64 ((k - 1 : Nat) : Int)) (Ev.sub rfl rfl (by omega) (by omega)) (congrArg (Value.int .i64) (by omega))) rfl ?_; refine L.yes rfl ?_; refine L.step (Ev.shrI (m := w % 2 ^ k) (k := k - 1) rfl rfl (by omega)) rfl ?_; refine L.yes rfl ?_; refine Lpu rfl rfl ?_; refine Lpu rfl rfl ?_; refine L.nil (QE.seq ?_)
   refine C.condB 21 rfl (fun hc21 => ?_) (fun hc21 => ?_)
   · skip
     replace hc21 := i_eq hc21
     refine C.region ?_; refine Lpu rfl rfl ?_; refine Lpu rfl rfl ?_; refine L.step (Ev.cast (u := .int .i64 ((2 ^ k : Nat) : Int)) (Ev.shlI (m := 1) (k := k) rfl rfl (by omega) (by omega)) (congrArg (Value.int .i64) (by rw [Nat.one_mul]))) rfl ?_; refine L.step (Ev.sub rfl rfl (by omega) (by omega)) rfl ?_; refine Lpu rfl rfl ?_; refine L.nil (QE.seq (C.seq (C.region ?_))); refine Lpu rfl rfl ?_; refine Lpu rfl rfl ?_; refine L.nil (QE.seq (C.ret ?_)); refine QE.ret (js := []) (hs := []) (vs := [_]) rfl ⟨rfl, trivial⟩ (by decide) ?_
     refine ⟨?_, rfl, rfl⟩
     refine congrArg (Value.int .i64) ?_
     have hd : 2 ^ (k - 1) ≤ w % 2 ^ k := Nat.le_of_not_lt fun h => by rw [Nat.div_eq_of_lt h] at hc21; cases hc21
     unfold lowI sgn
     rw [if_pos hg15, if_pos hd]
     omega
   · skip
     replace hc21 := i_ne hc21
     refine C.skip (QE.seq (C.seq (C.region ?_))); refine Lpu rfl rfl ?_; refine Lpu rfl rfl ?_; refine L.nil (QE.seq (C.ret ?_)); refine QE.ret (js := []) (hs := []) (vs := [_]) rfl ⟨rfl, trivial⟩ (by decide) ?_
     refine ⟨?_, rfl, rfl⟩
     refine congrArg (Value.int .i64) ?_
     have hd : ¬ 2 ^ (k - 1) ≤ w % 2 ^ k := fun h => hc21 (congrArg Int.ofNat (Nat.div_eq_of_lt_le (by rw [Nat.one_mul]; exact h) (by rw [show 1 + 1 = 2 from rfl, ← e2]; exact hm)))
     unfold lowI sgn
     rw [if_pos hg15, if_neg hd]
 · skip
   refine L.no rfl rfl rfl ?_; refine L.no rfl rfl rfl ?_; refine L.no rfl rfl rfl ?_; refine L.no rfl rfl rfl ?_; refine L.no rfl rfl rfl ?_; refine Lpu rfl rfl ?_; refine L.nil (QE.seq ?_)
   refine C.cond rfl (fun h => by cases h) (fun _ => ?_)
   refine C.skip (QE.seq (C.seq (C.region ?_))); refine Lpu rfl rfl ?_; refine Lpu rfl rfl ?_; refine L.nil (QE.seq (C.ret ?_)); refine QE.ret (js := []) (hs := []) (vs := [_]) rfl ⟨rfl, trivial⟩ (by decide) ?_
   refine ⟨?_, rfl, rfl⟩
   refine congrArg (Value.int .i64) ?_
   unfold lowI
   rw [if_neg (by rw [hg15]; decide)]

theorem kinds_c  :
   Ctr X 56 [] [] [] (fun v R' H' => ∃ s : List ByteArray, v = .agg (List.toArray (kindsV s)) ∧ R' = [] ∧ H' = []) := by
 refine Ctr.of (X := X) (fn := Try.f56) Try.func56 rfl (by kernel_rfl) rfl ?_
 intro β
 refine C.seq (C.region ?_)
 refine L.alloc rfl rfl rfl (fun A0 => ?_)
 refine L.nil (QE.seq (C.seq (C.region ?_))); refine L.step (Ev.build rfl rfl rfl rfl rfl rfl rfl) rfl ?_; refine L.step (Ev.build rfl rfl rfl rfl rfl rfl rfl) rfl ?_; refine L.step (Ev.build rfl rfl rfl rfl rfl rfl rfl) rfl ?_; refine L.step (Ev.build rfl rfl rfl rfl rfl rfl rfl) rfl ?_; refine L.step (Ev.build rfl rfl rfl rfl rfl rfl rfl) rfl ?_; refine L.step (Ev.build rfl rfl rfl rfl rfl rfl rfl) rfl ?_; refine L.step (Ev.build rfl rfl rfl rfl rfl rfl rfl) rfl ?_; refine L.step (Ev.build rfl rfl rfl rfl rfl rfl rfl) rfl ?_; refine L.step (Ev.build rfl rfl rfl rfl rfl rfl rfl) rfl ?_; refine L.step (Ev.buildArr rfl rfl rfl rfl rfl rfl rfl) rfl ?_; refine L.storeA (j := 0) rfl rfl rfl rfl rfl (Nat.zero_lt_succ _) rfl rfl ?_; refine L.nil (QE.seq (C.ret ?_)); refine QE.ret (js := []) (hs := []) (vs := [_]) rfl ⟨⟨_, _, 0, _, rfl, rfl, Src.o 0 rfl, .inl ⟨rfl, by decide, _, rfl, rfl, rfl⟩⟩, trivial⟩ (by decide) ?_
 exact ⟨[_, _, _, _, _, _, _, _, _], rfl, rfl, rfl⟩

end Go.Proofs.Ytkjhcjhfegakoaa
end
