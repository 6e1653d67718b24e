/-
  The small separation logic: words of 32 bits, shifts and masks of whole numbers.
-/
import Derived.Test.YtbkmahjhhncfcaaGreatQOg
namespace Go.Sl

theorem wrap_u32 (m : Int) : IntKind.u32.wrap m = m % 4294967296 := by
 unfold IntKind.wrap
 simp [IntKind.bits, IntKind.signed]
theorem wrap32 {m : Nat} (h : m < 4294967296) : IntKind.u32.wrap (m : Int) = (m : Int) := by rw [wrap_u32]; omega
theorem ofInt32 {m : Nat} (h : m < 4294967296) : (BitVec.ofInt 32 (m : Int)).toNat = m := by
 rw [BitVec.ofInt_natCast, BitVec.toNat_ofNat]
 omega
theorem bop32_and {a b : Nat} (ha : a < 4294967296) (hb : b < 4294967296) : bop .and .u32 (a : Int) (b : Int) = ((a &&& b : Nat) : Int) := by
 show IntKind.u32.wrap ((BitVec.ofInt 32 (a : Int) &&& BitVec.ofInt 32 (b : Int)).toNat : Int) = _
 rw [BitVec.toNat_and, ofInt32 ha, ofInt32 hb, wrap32 (Nat.lt_of_le_of_lt Nat.and_le_left ha)]
theorem bop32_or {a b : Nat} (ha : a < 4294967296) (hb : b < 4294967296) : bop .or .u32 (a : Int) (b : Int) = ((a ||| b : Nat) : Int) := by
 show IntKind.u32.wrap ((BitVec.ofInt 32 (a : Int) ||| BitVec.ofInt 32 (b : Int)).toNat : Int) = _
 rw [BitVec.toNat_or, ofInt32 ha, ofInt32 hb, wrap32 (Nat.or_lt_two_pow (n := 32) ha hb)]
/-- The bits above a mask. -/
theorem clr_bits {a k : Nat} (hk : k ≤ 32) (ha : a < 4294967296) : (BitVec.ofNat 32 a &&& ~~~BitVec.ofNat 32 (2 ^ k - 1)).toNat = a / 2 ^ k * 2 ^ k := by
 apply Nat.eq_of_testBit_eq
 intro i
 rw [BitVec.testBit_toNat, BitVec.getLsbD_and, BitVec.getLsbD_not, BitVec.getLsbD_ofNat, BitVec.getLsbD_ofNat, Nat.testBit_two_pow_sub_one, Nat.testBit_mul_two_pow, Nat.testBit_div_two_pow]
 by_cases hi : i < 32
 · by_cases hik : i < k
   · simp [hi, hik, show ¬ k ≤ i by omega]
   · simp [hi, hik, show k ≤ i by omega]
 · have h1 : a.testBit i = false := Nat.testBit_lt_two_pow (by
     have := Nat.pow_le_pow_right (n := 2) (by decide) (show 32 ≤ i by omega)
     omega)
   simp [hi, show k ≤ i by omega, Nat.sub_add_cancel (show k ≤ i by omega), h1]
theorem bop32_clr {a b k : Nat} (ha : a < 4294967296) (hk : k ≤ 32) (hb : b = 2 ^ k - 1) : bop .andNot .u32 (a : Int) (b : Int) = ((a / 2 ^ k * 2 ^ k : Nat) : Int) := by
 subst hb
 show IntKind.u32.wrap ((BitVec.ofInt 32 (a : Int) &&& ~~~BitVec.ofInt 32 ((2 ^ k - 1 : Nat) : Int)).toNat : Int) = _
 rw [BitVec.ofInt_natCast, BitVec.ofInt_natCast, wrap32 (BitVec.isLt _), clr_bits hk ha]
theorem mask_mod (a k : Nat) : a &&& (2 ^ k - 1) = a % 2 ^ k := Nat.and_two_pow_sub_one_eq_mod a k
theorem or_add {k b : Nat} (a : Nat) (hb : b < 2 ^ k) : (a * 2 ^ k) ||| b = a * 2 ^ k + b := by
 rw [Nat.mul_comm, ← Nat.two_pow_add_eq_or_of_lt hb]

/-- A whole number of 64 bits behind a mask. -/
theorem bopI_mask {b k : Nat} (a : Int) (hk : k ≤ 62) (hb : b = 2 ^ k - 1) : bop .and .i64 a (b : Int) = a % ((2 ^ k : Nat) : Int) := by
 subst hb
 have hp : 0 < 2 ^ k := Nat.pow_pos (by decide)
 have hle : (2 : Nat) ^ k ≤ 2 ^ 62 := Nat.pow_le_pow_right (by decide) hk
 have h62 : (2 : Nat) ^ 62 = 4611686018427387904 := by decide
 have e1 : ∀ m : Nat, m < 2 ^ 64 → (BitVec.ofInt 64 (m : Int)).toNat = m := by
   intro m hm
   rw [BitVec.ofInt_natCast, BitVec.toNat_ofNat, Nat.mod_eq_of_lt hm]
 have e2 : ((BitVec.ofInt 64 a).toNat : Int) = a % 18446744073709551616 := by
   rw [BitVec.toNat_ofInt]
   have h0 : 0 ≤ a % 18446744073709551616 := Int.emod_nonneg _ (by decide)
   exact Int.toNat_of_nonneg h0
 have e3 : (BitVec.ofInt 64 a &&& BitVec.ofInt 64 ((2 ^ k - 1 : Nat) : Int)).toNat = (BitVec.ofInt 64 a).toNat % 2 ^ k := by
   rw [BitVec.toNat_and, e1 _ (by omega), mask_mod]
 have hd : ((2 ^ k : Nat) : Int) ∣ 18446744073709551616 := by
   have : (2 : Nat) ^ k ∣ 18446744073709551616 := by
     rw [show 18446744073709551616 = 2 ^ 64 by decide]
     exact Nat.pow_dvd_pow 2 (by omega)
   exact Int.natCast_dvd_natCast.2 this
 show IntKind.i64.wrap ((BitVec.ofInt 64 a &&& BitVec.ofInt 64 ((2 ^ k - 1 : Nat) : Int)).toNat : Int) = _
 rw [e3, Int.natCast_emod, e2, Int.emod_emod_of_dvd _ hd, IntKind.wrap_i64]
 have h1 := Int.emod_nonneg a (show ((2 ^ k : Nat) : Int) ≠ 0 by omega)
 have h2 := Int.emod_lt_of_pos a (show (0 : Int) < ((2 ^ k : Nat) : Int) by omega)
 omega

section
variable {X : Cx} {β : Base} {Γ : Env} {R H : List Pr}
theorem Ev.shr32 {t ty : Nat} {x y : Operand} {yk : IntKind} {m k q : Nat} {z : Int} (hx : ev Γ x = some (.int .u32 (m : Int))) (hy : ev Γ y = some (.int yk z)) (hz : z = (k : Int)) (hk : k ≤ 32) (hq : m / 2 ^ k = q) : Ev X β Γ R H (.binOp .shr t x y ty) (.int .u32 (q : Int)) := by
 intro ρ w hρ hw o ho
 subst hz
 have hg : (eqGuard .shr t x y (.int .u32 (m : Int)) (.int yk (k : Int))).run X.P w = .ok () w := by unfold eqGuard; rfl
 have hb : ¬ (k : Int) < 0 := by omega
 have e : (m : Int).fdiv (2 ^ min (k : Int).toNat 32) = (q : Int) := by
   rw [Int.toNat_natCast, Nat.min_eq_left hk, Int.fdiv_eq_ediv_of_nonneg _ (Int.pow_nonneg (by decide)), ← hq, Int.natCast_ediv, Int.natCast_pow]
   rfl
 simp only [execOp, ho, hρ _ _ hx, hρ _ _ hy, Sem.run_bind, hg, Result.andThen_ok, binOp_shr, Op.shift, if_neg hb, Sem.run_pure, IntKind.bits]
 rw [← e]
theorem Ev.shl32 {t ty : Nat} {x y : Operand} {yk : IntKind} {m k q : Nat} {z : Int} (hx : ev Γ x = some (.int .u32 (m : Int))) (hy : ev Γ y = some (.int yk z)) (hz : z = (k : Int)) (hk : k ≤ 32) (hq : m * 2 ^ k = q) (hm : q < 4294967296) : Ev X β Γ R H (.binOp .shl t x y ty) (.int .u32 (q : Int)) := by
 intro ρ w hρ hw o ho
 subst hz
 have hg : (eqGuard .shl t x y (.int .u32 (m : Int)) (.int yk (k : Int))).run X.P w = .ok () w := by unfold eqGuard; rfl
 have hb : ¬ (k : Int) < 0 := by omega
 have e : IntKind.u32.wrap ((m : Int) * 2 ^ min (k : Int).toNat 32) = (q : Int) := by
   rw [Int.toNat_natCast, Nat.min_eq_left hk, ← wrap32 hm, ← hq, Int.natCast_mul, Int.natCast_pow]
   rfl
 simp only [execOp, ho, hρ _ _ hx, hρ _ _ hy, Sem.run_bind, hg, Result.andThen_ok, binOp_shl, Op.shift, if_neg hb, Sem.run_pure, IntKind.bits]
 rw [← e]
theorem Ev.and32 {t ty : Nat} {x y : Operand} {a b q : Nat} {z : Int} (hx : ev Γ x = some (.int .u32 (a : Int))) (hy : ev Γ y = some (.int .u32 z)) (hz : z = (b : Int)) (ha : a < 4294967296) (hb : b < 4294967296) (hq : a &&& b = q) : Ev X β Γ R H (.binOp .and t x y ty) (.int .u32 (q : Int)) :=
 (Ev.pure (v := .int .u32 (bop .and .u32 (a : Int) (b : Int))) (by simp [pev, hx, hy, hz, pint])).cast (by rw [bop32_and ha hb, hq])
/-- The low bits of a word. -/
theorem Ev.low32 {t ty : Nat} {x y : Operand} {a q : Nat} (k : Nat) {z : Int} (hx : ev Γ x = some (.int .u32 (a : Int))) (hy : ev Γ y = some (.int .u32 z)) (hz : z = ((2 ^ k - 1 : Nat) : Int)) (ha : a < 4294967296) (hk : k ≤ 32) (hq : a % 2 ^ k = q) : Ev X β Γ R H (.binOp .and t x y ty) (.int .u32 (q : Int)) :=
 Ev.and32 hx hy hz ha (by have : (2 : Nat) ^ k ≤ 2 ^ 32 := Nat.pow_le_pow_right (by decide) hk; omega) (by rw [mask_mod, hq])
theorem Ev.or32 {t ty : Nat} {x y : Operand} {a b q : Nat} (hx : ev Γ x = some (.int .u32 (a : Int))) (hy : ev Γ y = some (.int .u32 (b : Int))) (ha : a < 4294967296) (hb : b < 4294967296) (hq : a ||| b = q) : Ev X β Γ R H (.binOp .or t x y ty) (.int .u32 (q : Int)) :=
 (Ev.pure (v := .int .u32 (bop .or .u32 (a : Int) (b : Int))) (by simp [pev, hx, hy, pint])).cast (by rw [bop32_or ha hb, hq])
/-- Bits beside those of another word. -/
theorem Ev.beside32 {t ty : Nat} {x y : Operand} {a b c q p : Nat} (k : Nat) (hp : 2 ^ k = p) (hx : ev Γ x = some (.int .u32 (a : Int))) (hy : ev Γ y = some (.int .u32 (b : Int))) (hc : a = c * p) (ha : a < 4294967296) (hk : b < p) (hb : b < 4294967296) (hq : a + b = q) : Ev X β Γ R H (.binOp .or t x y ty) (.int .u32 (q : Int)) :=
 Ev.or32 hx hy ha hb (by subst hc hp; rw [or_add c hk, hq])
/-- The high bits of a word. -/
theorem Ev.high32 {t ty : Nat} {x y : Operand} {a b q : Nat} (k : Nat) (hx : ev Γ x = some (.int .u32 (a : Int))) (hy : ev Γ y = some (.int .u32 (b : Int))) (hb : b = 2 ^ k - 1) (ha : a < 4294967296) (hk : k ≤ 32) (hq : a / 2 ^ k * 2 ^ k = q) : Ev X β Γ R H (.binOp .andNot t x y ty) (.int .u32 (q : Int)) :=
 (Ev.pure (v := .int .u32 (bop .andNot .u32 (a : Int) (b : Int))) (by simp [pev, hx, hy, pint])).cast (by rw [bop32_clr ha hk hb, hq])
theorem Ev.toU32 {s d : Nat} {x : Operand} {k : IntKind} {m : Int} {q : Nat} {i j : Ti} (hs : tlook s X.tab = some i) (hd : tlook d X.tab = some j) (hj : j.desc = .int .u32) (hx : ev Γ x = some (.int k m)) (hq : m % 4294967296 = (q : Int)) : Ev X β Γ R H (.convert s d x) (.int .u32 (q : Int)) :=
 (Ev.pure (v := .int .u32 (IntKind.u32.wrap m)) (by simp [pev, hs, hd, hj, hx])).cast (by rw [wrap_u32, hq])
/-- A byte of a number. -/
theorem Ev.toU8 {s d : Nat} {x : Operand} {k : IntKind} {m : Int} {q : Nat} {i j : Ti} (hs : tlook s X.tab = some i) (hd : tlook d X.tab = some j) (hj : j.desc = .int .u8) (hx : ev Γ x = some (.int k m)) (hq : m % 256 = (q : Int)) : Ev X β Γ R H (.convert s d x) (.int .u8 (q : Int)) :=
 (Ev.pure (v := .int .u8 (IntKind.u8.wrap m)) (by simp [pev, hs, hd, hj, hx])).cast (by rw [wrap_u8, hq])
theorem Ev.maskI {t ty : Nat} {x y : Operand} {a z q : Int} (k : Nat) (hx : ev Γ x = some (.int .i64 a)) (hy : ev Γ y = some (.int .i64 z)) (hz : z = ((2 ^ k - 1 : Nat) : Int)) (hk : k ≤ 62) (hq : a % ((2 ^ k : Nat) : Int) = q) : Ev X β Γ R H (.binOp .and t x y ty) (.int .i64 q) :=
 (Ev.pure (v := .int .i64 (bop .and .i64 a z)) (by simp [pev, hx, hy, pint])).cast (by rw [hz, bopI_mask a hk rfl, hq])
/-- A shift of any number to the right. -/
theorem Ev.shrA {t ty : Nat} {x y : Operand} {yk : IntKind} {a q : Int} {k : Nat} {z : Int} (hx : ev Γ x = some (.int .i64 a)) (hy : ev Γ y = some (.int yk z)) (hz : z = (k : Int)) (hk : k ≤ 64) (hq : a / ((2 ^ k : Nat) : Int) = q) : Ev X β Γ R H (.binOp .shr t x y ty) (.int .i64 q) := by
 intro ρ w hρ hw o ho
 subst hz
 have hg : (eqGuard .shr t x y (.int .i64 a) (.int yk (k : Int))).run X.P w = .ok () w := by unfold eqGuard; rfl
 have hb : ¬ (k : Int) < 0 := by omega
 have e : a.fdiv (2 ^ min (k : Int).toNat 64) = q := by
   rw [Int.toNat_natCast, Nat.min_eq_left hk, Int.fdiv_eq_ediv_of_nonneg _ (Int.pow_nonneg (by decide)), ← hq, Int.natCast_pow]
   rfl
 simp only [execOp, ho, hρ _ _ hx, hρ _ _ hy, Sem.run_bind, hg, Result.andThen_ok, binOp_shr, Op.shift, if_neg hb, Sem.run_pure, IntKind.bits]
 rw [← e]
/-- A quotient, whatever its sign. -/
theorem Ev.quoT {t ty : Nat} {x y : Operand} {a b : Int} (hx : ev Γ x = some (.int .i64 a)) (hy : ev Γ y = some (.int .i64 b)) (h0 : b = 4) (h1 : -9223372036854775808 ≤ a) (h2 : a ≤ 9223372036854775807) :
   Ev X β Γ R H (.binOp .quo t x y ty) (.int .i64 (a.tdiv b)) := by
 intro ρ w hρ hs o ho
 subst h0
 have hb : ¬ (4 : Int) = 0 := by decide
 have h3 : a.tdiv 4 ≤ 9223372036854775807 ∧ -9223372036854775808 ≤ a.tdiv 4 := by
   have h4 : (a.tdiv 4).natAbs = a.natAbs / 4 := Int.natAbs_tdiv a 4
   omega
 simp [execOp, ho, hρ _ _ hx, hρ _ _ hy, run_guard, binOp, Op.intDiv, wrap_in (a := a.tdiv 4) h3.2 h3.1]
/-- Two numbers, one minus the other, whatever they are. -/
theorem Ev.subW {t ty : Nat} {x y : Operand} {a b : Int} (hx : ev Γ x = some (.int .i64 a)) (hy : ev Γ y = some (.int .i64 b)) : Ev X β Γ R H (.binOp .sub t x y ty) (.int .i64 (IntKind.i64.wrap (a - b))) :=
 Ev.pure (by simp [pev, hx, hy, pint])
/-- cs[k] of an array of structs. -/
theorem Ev.indexA {t e k n : Nat} {x y : Operand} {kd : IntKind} {q : Int} {i ei : Ti} {cs vs : List Value} (ht : tlook t X.tab = some i) (hd : i.desc = .array n e) (he : tlook e X.tab = some ei) (ha : aggD ei.desc = true)
   (hx : ev Γ x = some (.agg (List.toArray cs))) (hy : ev Γ y = some (.int kd q)) (hq : q = (k : Int)) (hk : k < n) (hv : (cs.drop (k * ei.size)).take ei.size = vs) : Ev X β Γ R H (.index t x y) (.agg (List.toArray vs)) := by
 intro ρ w hρ hw o ho
 have e1 := (X.ok _ _ ht).und
 rw [hd] at e1
 have hS := run_sizeOf' (P := X.P) w (X.ok _ _ he)
 have hp := run_part (P := X.P) w (X.ok _ _ he) (List.toArray cs) (k * ei.size) (.agg (List.toArray vs)) (by rw [ha, if_pos rfl, ← hv])
 subst hq
 simp [execOp, ho, hρ _ _ hx, hρ _ _ hy, Instr.index, asIntOf, run_underlying e1, hS, hk, hp]
end

theorem bop8_or2 {a b : Nat} (ha : a < 256) (hb : b < 256) : bop .or .u8 (a : Int) (b : Int) = ((a ||| b : Nat) : Int) := by
 have e : ∀ m : Nat, m < 256 → (BitVec.ofInt 8 (m : Int)).toNat = m := by
   intro m hm
   rw [BitVec.ofInt_natCast, BitVec.toNat_ofNat]
   omega
 show IntKind.u8.wrap ((BitVec.ofInt 8 (a : Int) ||| BitVec.ofInt 8 (b : Int)).toNat : Int) = _
 have hlt := Nat.or_lt_two_pow (n := 8) ha hb
 rw [BitVec.toNat_or, e a ha, e b hb, wrap_u8]
 omega
theorem bop8_and2 {a b : Nat} (ha : a < 256) (hb : b < 256) : bop .and .u8 (a : Int) (b : Int) = ((a &&& b : Nat) : Int) := bop8N ha hb
section
variable {X : Cx} {β : Base} {Γ : Env} {R H : List Pr}
theorem Ev.shr8q {t ty : Nat} {x y : Operand} {yk : IntKind} {m k q : Nat} {z : Int} (hx : ev Γ x = some (.int .u8 (m : Int))) (hy : ev Γ y = some (.int yk z)) (hz : z = (k : Int)) (hk : k ≤ 8) (hq : m / 2 ^ k = q) : Ev X β Γ R H (.binOp .shr t x y ty) (.int .u8 (q : Int)) := by
 subst hz hq
 exact (Ev.shr8N hx hy hk).cast (by rw [Nat.shiftRight_eq_div_pow])
theorem Ev.low8 {t ty : Nat} {x y : Operand} {a q : Nat} (k : Nat) {z : Int} (hx : ev Γ x = some (.int .u8 (a : Int))) (hy : ev Γ y = some (.int .u8 z)) (hz : z = ((2 ^ k - 1 : Nat) : Int)) (ha : a < 256) (hk : k ≤ 8) (hq : a % 2 ^ k = q) : Ev X β Γ R H (.binOp .and t x y ty) (.int .u8 (q : Int)) :=
 (Ev.pure (v := .int .u8 (bop .and .u8 (a : Int) ((2 ^ k - 1 : Nat) : Int))) (by simp [pev, hx, hy, hz, pint])).cast (by
   have : (2 : Nat) ^ k ≤ 2 ^ 8 := Nat.pow_le_pow_right (by decide) hk
   rw [bop8_and2 ha (by omega), mask_mod, hq])
/-- One bit more, above all others. -/
theorem Ev.bit8 {t ty : Nat} {x y : Operand} {a b q : Nat} (k : Nat) (hx : ev Γ x = some (.int .u8 (a : Int))) (hy : ev Γ y = some (.int .u8 (b : Int))) (hb : b = 1 * 2 ^ k) (ha : a < 2 ^ k) (hk : k < 8) (hq : a + 2 ^ k = q) : Ev X β Γ R H (.binOp .or t x y ty) (.int .u8 (q : Int)) :=
 (Ev.pure (v := .int .u8 (bop .or .u8 (a : Int) (b : Int))) (by simp [pev, hx, hy, pint])).cast (by
   have h1 : (2 : Nat) ^ k ≤ 2 ^ 7 := Nat.pow_le_pow_right (by decide) (by omega)
   rw [bop8_or2 (by omega) (by omega), Nat.or_comm, hb, or_add 1 ha, ← hq, Nat.one_mul, Nat.add_comm])
/-- s[l:h:m] -/
theorem Ev.sliceLHM {t e n c l h m : Nat} {x y z u : Operand} {kd kd' kd2 : IntKind} {q q' q2 : Int} {i ei : Ti} {A : Option Addr} (ht : tlook t X.tab = some i) (hd : i.desc = .slice e) (he : tlook e X.tab = some ei) (hx : ev Γ x = some (.slice A n c))
   (hy : ev Γ y = some (.int kd q)) (hz : ev Γ z = some (.int kd' q')) (hu : ev Γ u = some (.int kd2 q2)) (hq : q = (l : Int)) (hq' : q' = (h : Int)) (hq2 : q2 = (m : Int)) (hl : l ≤ h) (hh : h ≤ m) (hm : m ≤ c) : Ev X β Γ R H (.slice t x (some y) (some z) (some u)) (.slice (subA A m l ei.size) (h - l) (m - l)) := by
 intro ρ w hρ hw o ho
 have e1 := (X.ok _ _ ht).und
 rw [hd] at e1
 have hS := run_sizeOf' (P := X.P) w (X.ok _ _ he)
 subst hq hq' hq2
 simp [execOp, ho, hρ _ _ hx, hρ _ _ hy, hρ _ _ hz, hρ _ _ hu, Instr.sliceAt, Instr.slice, Instr.sliceBounds, Instr.sliceBound, asIntOf, run_underlying e1, hS, hl, hh, hm, subA]
end
/-- A part of what is read. -/
theorem Has.part {R H : List Pr} {A : Option Addr} {xs : List Value} (h : Has R H (Rd A xs)) (c l m : Nat) (hm : l + m ≤ c) : Has R H (Rd (subA A c l 1) ((xs.drop l).take m)) := by
 have hx : ∀ j u, ((xs.drop l).take m)[j]? = some u → j < m ∧ xs[l + j]? = some u := by
   intro j u hu
   rw [List.getElem?_take] at hu
   split at hu
   · rw [List.getElem?_drop] at hu
     exact ⟨by assumption, hu⟩
   · cases hu
 refine ⟨fun β w hs j u hu => ?_, fun k hk => h.2 k ?_⟩
 · obtain ⟨hj, hu'⟩ := hx j u hu
   obtain ⟨a, ha, hc⟩ := h.1 β w hs (l + j) u hu'
   refine ⟨a.add (l * 1), ?_, ?_⟩
   · unfold subA
     rw [if_neg (by omega), ha]
     rfl
   · rw [addadd, Nat.mul_one]
     exact hc
 · obtain ⟨h1, a, ha, hk⟩ := hk
   refine ⟨fun e => h1 (by rw [e]; simp), ?_⟩
   unfold subA at ha
   split at ha
   · exact ⟨a, ha, hk⟩
   · cases hA : A with
     | none => rw [hA] at ha; cases ha
     | some a0 =>
       rw [hA] at ha
       injection ha with ha
       exact ⟨a0, rfl, by rw [← hk, ← ha, addblock]⟩
theorem beq_one (q : Nat) : ((q : Int) == 1) = decide (q = 1) := by
 rw [Bool.eq_iff_iff, beq_iff_eq, decide_eq_true_iff]
 omega

theorem own_eq2 {e sz n n' c : Nat} {A : Option Addr} {xs ys : List Value} (hn : n = n') (h : xs = ys) : Own e sz A n c xs = Own e sz A n' c ys := by rw [h, hn]
theorem Has.dropU2 {R H : List Pr} {A : Option Addr} {l : List UInt8} (h : Has R H (Rd A (U8 l))) (c k : Nat) (hc : l.length ≤ c) : Has R H (Rd (subA A c k 1) (U8 (l.drop k))) := by
 have h1 := h.sub c k 1 l.length (by rw [U8_len, Nat.mul_one]; exact hc)
 rw [Nat.mul_one, U8_drop] at h1
 refine h1.cast ?_
 rw [List.take_of_length_le (by rw [U8_len, List.length_drop]; omega)]

/-! ### Rows of words -/
def N32 (l : List Nat) : List Value := l.map fun (x : Nat) => .int .u32 (x : Int)
def W32 (l : List Nat) : Prop := ∀ i, l.getD i 0 < 4294967296
theorem N32_len (l : List Nat) : (N32 l).length = l.length := by simp [N32]
theorem N32_get {l : List Nat} {k : Nat} (h : k < l.length) : (N32 l)[k]? = some (.int .u32 ((l.getD k 0 : Nat) : Int)) := by simp [N32, h]
theorem N32_set (l : List Nat) (k x : Nat) : (N32 l).set k (.int .u32 (x : Int)) = N32 (l.set k x) := by simp [N32, List.map_set]
theorem N32_app (a b : List Nat) : N32 a ++ N32 b = N32 (a ++ b) := by simp [N32]
theorem N32_take (l : List Nat) (m : Nat) : (N32 l).take m = N32 (l.take m) := by simp [N32, List.map_take]
theorem N32_drop (l : List Nat) (m : Nat) : (N32 l).drop m = N32 (l.drop m) := by simp [N32, List.map_drop]
theorem N32_rep (m : Nat) : N32 (List.replicate m 0) = List.replicate m (.int .u32 0) := by simp [N32]
theorem Bs_rep2 (m : Nat) : Bs (List.replicate m false) = List.replicate m (.bool false) := by simp [Bs]
theorem N32_one : ∀ (l : List Nat), ∀ v ∈ N32 l, v.oneCell' = true := by
 intro l v hv
 simp [N32] at hv
 obtain ⟨x, _, rfl⟩ := hv
 rfl
theorem W32.mem {l : List Nat} (h : W32 l) : ∀ x ∈ l, x < 4294967296 := by
 intro x hx
 obtain ⟨i, hi, rfl⟩ := List.getElem_of_mem hx
 have := h i
 rwa [List.getD_eq_getElem?_getD, List.getElem?_eq_getElem hi] at this
theorem W32.of {l : List Nat} (h : ∀ x ∈ l, x < 4294967296) : W32 l := by
 intro i
 rw [List.getD_eq_getElem?_getD]
 cases hi : l[i]? with
 | none => simp
 | some x => exact h x (List.mem_of_getElem? hi)
theorem W32.take {l : List Nat} (h : W32 l) (k : Nat) : W32 (l.take k) := W32.of fun x hx => h.mem x (List.mem_of_mem_take hx)
theorem W32.drop {l : List Nat} (h : W32 l) (k : Nat) : W32 (l.drop k) := W32.of fun x hx => h.mem x (List.mem_of_mem_drop hx)
theorem W32.app {a b : List Nat} (h : W32 a) (g : W32 b) : W32 (a ++ b) := W32.of fun x hx => by
 rcases List.mem_append.1 hx with k | k
 · exact h.mem x k
 · exact g.mem x k
theorem W32.set {l : List Nat} (h : W32 l) (k : Nat) {x : Nat} (hx : x < 4294967296) : W32 (l.set k x) := W32.of fun y hy => by
 rcases List.mem_or_eq_of_mem_set hy with g | g
 · exact h.mem y g
 · exact g ▸ hx
theorem W32.rep (m : Nat) : W32 (List.replicate m 0) := W32.of fun x hx => by
 rw [(List.mem_replicate.1 hx).2]
 decide
end Go.Sl
