/-
  Who reads whom in a patch, as plain data.
-/
import Derived.Lib.Overlaps
import Derived.Lib.AppendZeros
import Derived.Lib.BytesEntry
import Derived.Laws.StructEq
import Derived.Test.YtbkmahjhhncfcaaGreatVPl
import Derived.Test.YtbkmahjhhncfcaaGreatVMd
import Derived.Test.YtbkmahjhhncfcaaGreatVMi
import Derived.Test.YtbkmahjhhncfcaaGreatVSlI
section
namespace Go.Sl

def Srt (x : List Int) : Prop := ∀ i j, i < j → j < x.length → x.getD i 0 < x.getD j 0
theorem Srt.snoc {x : List Int} {t : Int} (h : Srt x) (ht : ∀ q, q < x.length → x.getD q 0 < t) : Srt (x ++ [t]) := by
 intro i j hij hj
 rw [List.length_append] at hj
 have lo : ∀ q, q < x.length → (x ++ [t]).getD q 0 = x.getD q 0 := fun q hq => by simp only [List.getD_eq_getElem?_getD, List.getElem?_append_left hq]
 have hi : (x ++ [t]).getD x.length 0 = t := by simp [List.getD_eq_getElem?_getD]
 have hj' : j < x.length + 1 := hj
 by_cases hq : j < x.length
 · rw [lo i (by omega), lo j hq]
   exact h i j hij hq
 · obtain rfl : j = x.length := by omega
   rw [lo i hij, hi]
   exact ht i hij
/-! ### The readings of a patch -/
section
variable {ch : List Bool} {S n k : Nat} {l : List Sy}
end
section
variable {X : Cx} {β : Base} {n : Nat} {ds : List Deferred} {Q : Exit → Act → World → Prop} {Γ : Env} {R H : List Pr}
end
section
variable {lf : Bool} {inn out size : Int} {ops : List Po}
end
end Go.Sl
end
/-
  Right orders, as plain data.
-/
section
namespace Go.Sl

def atL (n : Nat) (seq : List Int) : Nat → List Int
 | 0 => List.replicate n (-1)
 | i + 1 => (atL n seq i).set (seq.getD i 0).toNat (i : Int)
def badS (n : Nat) (seq : List Int) (i : Nat) : Prop := seq.getD i 0 < 0 ∨ (n : Int) ≤ seq.getD i 0 ∨ 0 ≤ (atL n seq i).getD (seq.getD i 0).toNat 0
instance (n : Nat) (seq : List Int) (i : Nat) : Decidable (badS n seq i) := by unfold badS; infer_instance
end Go.Sl
end
/-
  Patches of blocks, as plain data.
-/
section
namespace Go.Sl

abbrev T3 := UInt8 × UInt8 × UInt8
def triC (x : T3) : List Value := [.int .u8 (x.1.toNat : Int), .int .u8 (x.2.1.toNat : Int), .int .u8 (x.2.2.toNat : Int)]
def triV (l : List T3) : List Value := l.flatMap triC
theorem triV_len (l : List T3) : (triV l).length = l.length * 3 := by
 induction l with
 | nil => rfl
 | cons r l ih => rw [show triV (r :: l) = triC r ++ triV l from rfl, List.length_append, ih]; simp [triC]; omega
theorem triV_at : ∀ (l : List T3) (k : Nat), k < l.length → ((triV l).drop (k * 3)).take 3 = triC (l.getD k (0, 0, 0))
 | [], _, h => absurd h (Nat.not_lt_zero _)
 | _ :: _, 0, _ => rfl
 | _ :: l, k + 1, h => by
   rw [show (k + 1) * 3 = k * 3 + 3 from by omega]
   exact triV_at l k (by simpa using h)
theorem tri_pos {l : List T3} {k : Nat} (hk : k < l.length) : 0 < (triV l).length := by rw [triV_len]; omega
theorem triV_get {l : List T3} {i j : Nat} (hi : i < l.length) (hj : j < 3) : (triV l)[i * 3 + j]? = (triC (l.getD i (0, 0, 0)))[j]? := by
 rw [← triV_at l i hi, List.getElem?_take, if_pos hj, List.getElem?_drop]
end Go.Sl
end
/-
  Images made of parts of an old one and other bytes.
-/
section
namespace Go.Sl

structure Mx where
 out : List UInt8
 n0 : Nat
 n1 : Nat
 n2 : Nat
 oth : Bool
def mxB (x : UInt8) (m : Nat) : List UInt8 := (List.range m).map fun k => x + UInt8.ofNat (k * k % 256)
theorem mxB_succ (x : UInt8) (m : Nat) : mxB x (m + 1) = mxB x m ++ [x + UInt8.ofNat (m * m % 256)] := by simp [mxB, List.range_succ]
theorem mxB_len (x : UInt8) (m : Nat) : (mxB x m).length = m := by simp [mxB]
def mxF (b : List UInt8) (x : T3) : Nat := x.2.1.toNat % b.length
def mxL (b : List UInt8) (x : T3) : Nat := 1 + x.2.2.toNat % (b.length - mxF b x)
def mxS (b : List UInt8) (s : Mx) (x : T3) : Mx :=
 if x.1.toNat % 3 = 0 then ⟨s.out ++ mxB x.2.2 (x.2.1.toNat % 6 + 1), s.n0, if s.oth = true then s.n1 else s.n1 + 1, s.n2 + (x.2.1.toNat % 6 + 1), true⟩
 else if b.length = 0 then s else ⟨s.out ++ (b.drop (mxF b x)).take (mxL b x), s.n0 + 1, s.n1, s.n2, false⟩
def mxN (b : List UInt8) (l : List T3) : Nat → Mx
 | 0 => ⟨[], 0, 0, 0, false⟩
 | k + 1 => mxS b (mxN b l k) (l.getD k (0, 0, 0))
def mxA (b : List UInt8) (l : List T3) : Mx := mxN b l (min l.length 8)
theorem mxF_lt {b : List UInt8} (h : b.length ≠ 0) (x : T3) : mxF b x < b.length ∧ mxF b x + mxL b x ≤ b.length ∧ 1 ≤ mxL b x := by
 have h1 : mxF b x < b.length := Nat.mod_lt _ (by omega)
 have h2 : x.2.2.toNat % (b.length - mxF b x) < b.length - mxF b x := Nat.mod_lt _ (by omega)
 unfold mxL
 omega
theorem mx_le (b : List UInt8) (l : List T3) : ∀ k, (mxN b l k).out.length ≤ k * (b.length + 6) ∧ (mxN b l k).n0 ≤ k ∧ (mxN b l k).n1 ≤ k ∧ (mxN b l k).n2 ≤ 6 * k
 | 0 => ⟨Nat.zero_le _, Nat.le_refl _, Nat.le_refl _, Nat.le_refl _⟩
 | k + 1 => by
   have ih := mx_le b l k
   have e : (k + 1) * (b.length + 6) = k * (b.length + 6) + (b.length + 6) := Nat.succ_mul _ _
   rw [e, mxN, mxS]
   split
   · have : (l.getD k (0, 0, 0)).2.1.toNat % 6 < 6 := Nat.mod_lt _ (by decide)
     refine ⟨by dsimp only; rw [List.length_append, mxB_len]; omega, by dsimp only; omega, ?_, by dsimp only; omega⟩
     dsimp only
     split <;> omega
   · split
     · omega
     · rename_i hb
       have := mxF_lt hb (l.getD k (0, 0, 0))
       refine ⟨by dsimp only; rw [List.length_append, List.length_take, List.length_drop]; omega, by dsimp only; omega, by dsimp only; omega, by dsimp only; omega⟩
theorem Has.takeU {R H : List Pr} {A : Option Addr} {l : List UInt8} (h : Has R H (Rd A (U8 l))) (m : Nat) : Has R H (Rd A (U8 (l.take m))) := by
 have e : U8 (l.take m) = (U8 l).take m := by unfold U8; rw [List.map_take]
 rw [e]
 refine ⟨fun β w hw j u hu => h.1 β w hw j u ?_, fun k hk => h.2 k ⟨fun h0 => hk.1 (by rw [h0, List.take_nil]), hk.2⟩⟩
 rw [List.getElem?_take] at hu
 split at hu
 · exact hu
 · cases hu
end Go.Sl
end
/-
  Shifts of a small number.
-/
section
namespace Go.Sl

section
variable {X : Cx} {β : Base} {Γ : Env} {R H : List Pr}
theorem Ev.shl8W {t ty : Nat} {x y : Operand} {yk : IntKind} {m k : Nat} (hx : ev Γ x = some (.int .u8 (m : Int))) (hy : ev Γ y = some (.int yk (k : Int))) (hk : k ≤ 8) (hm : m * 2 ^ k < 256) : Ev X β Γ R H (.binOp .shl t x y ty) (.int .u8 ((m * 2 ^ k : Nat) : Int)) := by
 intro ρ w hρ hw o ho
 have hg : (eqGuard .shl t x y (.int .u8 (m : Int)) (.int yk (k : Int))).run X.P w = .ok () w := by unfold eqGuard; rfl
 have hb : ¬ (k : Int) < 0 := by omega
 have e : IntKind.u8.wrap ((m : Int) * 2 ^ min (k : Int).toNat 8) = ((m * 2 ^ k : Nat) : Int) := by
   rw [Int.toNat_natCast, Nat.min_eq_left hk, wrap_u8, show (m : Int) * 2 ^ k = ((m * 2 ^ k : Nat) : Int) by rw [Int.natCast_mul, Int.natCast_pow]; rfl]
   omega
 simp only [execOp, ho, hρ _ _ hx, hρ _ _ hy, Sem.run_bind, hg, Result.andThen_ok, binOp_shl, Op.shift, if_neg hb, Sem.run_pure, IntKind.bits]
 rw [← e]
end
end Go.Sl
end
/-
  slices.Insert in the middle: room behind a slice, append of a made slice, slices.overlaps.
-/
section
namespace Go.Sl

section
variable {X : Cx} {β : Base} {n : Nat} {ds : List Deferred} {ops : Array Oper} {Q : Exit → Act → World → Prop} {rest : List Oper} {Γ : Env} {R H : List Pr}
theorem Own.spare {w : World} {e m c : Nat} {A : Option Addr} {xs : List Value} (h : (Own e 1 A m c xs).p w) (hc : m + 1 ≤ c) : ∃ u, (Own e 1 A (m + 1) c (xs ++ [u])).p w := by
 rcases h.2 with ⟨hv, _⟩ | ⟨g, cap, cur, hv, hb, hh, h3, h4, h5, h6⟩
 · injection hv with _ _ h9
   omega
 · injection hv with h7 h8 h9
   subst h7 h9
   rw [Nat.mul_one] at h5 h6
   have hm : m < cur.toList.length := by rw [Array.length_toList]; omega
   refine ⟨cur.toList[m], by have := h.1; rw [List.length_append, this]; rfl, .inr ⟨g, c, cur, rfl, hb, hh, hc, h4, by omega, ?_⟩⟩
   rw [Nat.mul_one, List.take_succ_eq_append_getElem hm, h6]
/-- One place more of the room behind a slice. -/
theorem C.spare {x : Code} {e m c : Nat} {A : Option Addr} {xs : List Value} {H' : List Pr} (hc : m + 1 ≤ c) (h : ∀ u, C X β n ds Q x Γ R (Own e 1 A (m + 1) c (xs ++ [u]) :: H')) : C X β n ds Q x Γ R (Own e 1 A m c xs :: H') := by
 intro a w hf hs
 obtain ⟨u, hu⟩ := Own.spare (hs.own 0 _ rfl) hc
 exact h u a w hf (hs.repl (fun _ => hu) (fun k hk => hk))

end
end Go.Sl
end
/-
  An empty slice of structs.
-/
section
namespace Go.Sl

section
variable {X : Cx} {β : Base} {n : Nat} {ds : List Deferred} {ops : Array Oper} {Q : Exit → Act → World → Prop} {rest : List Oper} {Γ : Env} {R H : List Pr}
theorem L.lit0S {d t e ty : Nat} {pos : String} {af : Array Edge} {i ei : Ti} (ht : tlook t X.tab = some i) (hdesc : i.desc = .slice e) (he : tlook e X.tab = some ei) (hd : Nat.blt d n = true)
   (k : ∀ A, L X β n ds ops Q rest ((d, .slice A 0 0) :: Γ) R (H ++ [Own e ei.size A 0 0 []])) : L X β n ds ops Q (⟨some d, .buildSlice t 0 #[], ty, pos, af, none⟩ :: rest) Γ R H := by
 refine L.mk hd e ei.size 0 [] (by unfold maxLen; omega) (by simp) (fun A => .slice A 0 0) ?_ k
 intro ρ w hρ hs o ho
 obtain ⟨e1, _⟩ := X.ok _ _ ht
 rw [hdesc] at e1
 have hS := run_sizeOf' (P := X.P) w (X.ok _ _ he)
 simp only [execOp, ho, Instr.buildSlice, Sem.run_bind, run_underlying e1, Result.andThen_ok, hS]
 simp [Instr.fill, newRow, Array.range_zero']
end
end Go.Sl
end
/-
  The small separation logic: shifts and or of whole numbers, structs of numbers that are compared, one byte that is counted, rows of structs, closures that may panic, a deferred closure over one cell.
-/
section
namespace Go.Sl

section
variable {X : Cx} {β : Base} {n : Nat} {ds : List Deferred} {ops : Array Oper} {Q : Exit → Act → World → Prop} {rest : List Oper} {Γ : Env} {R H : List Pr}

theorem wrap63 {m : Nat} (h : m < 9223372036854775808) : IntKind.i64.wrap (m : Int) = (m : Int) := by rw [IntKind.wrap_i64]; omega
theorem Ev.shlI {t ty : Nat} {x y : Operand} {yk : IntKind} {m k : Nat} (hx : ev Γ x = some (.int .i64 (m : Int))) (hy : ev Γ y = some (.int yk (k : Int))) (hk : k ≤ 64) (hm : m * 2 ^ k < 9223372036854775808) : Ev X β Γ R H (.binOp .shl t x y ty) (.int .i64 ((m * 2 ^ k : Nat) : Int)) := by
 intro ρ w hρ hw o ho
 have hg : (eqGuard .shl t x y (.int .i64 (m : Int)) (.int yk (k : Int))).run X.P w = .ok () w := by unfold eqGuard; rfl
 have hb : ¬ (k : Int) < 0 := by omega
 have e : IntKind.i64.wrap ((m : Int) * 2 ^ min (k : Int).toNat 64) = ((m * 2 ^ k : Nat) : Int) := by
   rw [Int.toNat_natCast, Nat.min_eq_left hk, show (m : Int) * 2 ^ k = ((m * 2 ^ k : Nat) : Int) by rw [Int.natCast_mul, Int.natCast_pow]; rfl, wrap63 hm]
 simp only [execOp, ho, hρ _ _ hx, hρ _ _ hy, Sem.run_bind, hg, Result.andThen_ok, binOp_shl, Op.shift, if_neg hb, Sem.run_pure, IntKind.bits]
 rw [← e]
theorem Ev.shrI {t ty : Nat} {x y : Operand} {yk : IntKind} {m k : Nat} (hx : ev Γ x = some (.int .i64 (m : Int))) (hy : ev Γ y = some (.int yk (k : Int))) (hk : k ≤ 64) : Ev X β Γ R H (.binOp .shr t x y ty) (.int .i64 ((m / 2 ^ k : Nat) : Int)) := by
 intro ρ w hρ hw o ho
 have hg : (eqGuard .shr t x y (.int .i64 (m : Int)) (.int yk (k : Int))).run X.P w = .ok () w := by unfold eqGuard; rfl
 have hb : ¬ (k : Int) < 0 := by omega
 have e : (m : Int).fdiv (2 ^ min (k : Int).toNat 64) = ((m / 2 ^ k : Nat) : Int) := by
   rw [Int.toNat_natCast, Nat.min_eq_left hk, Int.fdiv_eq_ediv_of_nonneg _ (Int.pow_nonneg (by decide)), Int.natCast_ediv, Int.natCast_pow]
   rfl
 simp only [execOp, ho, hρ _ _ hx, hρ _ _ hy, Sem.run_bind, hg, Result.andThen_ok, binOp_shr, Op.shift, if_neg hb, Sem.run_pure, IntKind.bits]
 rw [← e]
theorem bopI_or {a b : Nat} (ha : a < 9223372036854775808) (hb : b < 9223372036854775808) : bop .or .i64 (a : Int) (b : Int) = ((a ||| b : Nat) : Int) := by
 have e : ∀ m : Nat, m < 9223372036854775808 → (BitVec.ofInt 64 (m : Int)).toNat = m := by
   intro m hm
   rw [BitVec.ofInt_natCast, BitVec.toNat_ofNat]
   omega
 have e2 : (BitVec.ofInt 64 (a : Int) ||| BitVec.ofInt 64 (b : Int)).toNat = a ||| b := by rw [BitVec.toNat_or, e a ha, e b hb]
 show IntKind.i64.wrap ((BitVec.ofInt 64 (a : Int) ||| BitVec.ofInt 64 (b : Int)).toNat : Int) = _
 rw [e2]
 exact wrap63 (Nat.or_lt_two_pow (n := 63) (by omega) (by omega))
theorem Ev.orI {t ty : Nat} {x y : Operand} {a b : Nat} (hx : ev Γ x = some (.int .i64 (a : Int))) (hy : ev Γ y = some (.int .i64 (b : Int))) (ha : a < 9223372036854775808) (hb : b < 9223372036854775808) : Ev X β Γ R H (.binOp .or t x y ty) (.int .i64 ((a ||| b : Nat) : Int)) :=
 (Ev.pure (v := .int .i64 (bop .or .i64 (a : Int) (b : Int))) (by simp [pev, hx, hy, pint])).cast (by rw [bopI_or ha hb])
/-! ### Structs of numbers, compared -/
def intFs (T : List (Nat × Ti)) : Nat → List Field → Bool
 | _, [] => true
 | k, f :: fs => f.offset == k && f.name != "_" && (match tlook f.type T with | some i => (match i.desc with | .int .i64 => true | _ => false) | none => false) && intFs T (k + 1) fs
theorem run_eqInts {w : World} {xs ys : List Int} (d : Nat) : ∀ (fs : List Field) (k : Nat), intFs X.tab k fs = true → xs.length = k + fs.length → ys.length = k + fs.length →
   (Op.eqFields (d + 1) (List.toArray (I64 xs)) (List.toArray (I64 ys)) fs).run X.P w = .ok (xs.drop k == ys.drop k) w
 | [], k, _, h1, h2 => by
   rw [List.drop_eq_nil_of_le (by simp at h1; omega), List.drop_eq_nil_of_le (by simp at h2; omega)]
   rfl
 | f :: fs, k, h, h1, h2 => by
   simp only [intFs, Bool.and_eq_true, beq_iff_eq, bne_iff_ne, ne_eq] at h
   obtain ⟨⟨⟨hk, hn⟩, ht⟩, hfs⟩ := h
   simp only [List.length_cons] at h1 h2
   split at ht
   · rename_i i hi
     split at ht
     · rename_i hdesc
       have hx := run_part (P := X.P) w (X.ok _ _ hi) (List.toArray (I64 xs)) f.offset (.int .i64 (xs.getD k 0)) (by rw [hdesc, hk, if_neg (by simp [aggD])]; exact I64_get (by omega))
       have hy := run_part (P := X.P) w (X.ok _ _ hi) (List.toArray (I64 ys)) f.offset (.int .i64 (ys.getD k 0)) (by rw [hdesc, hk, if_neg (by simp [aggD])]; exact I64_get (by omega))
       have hu := (X.ok _ _ hi).und
       rw [hdesc] at hu
       have ih := run_eqInts d fs (k + 1) hfs (by omega) (by omega) (w := w) (xs := xs) (ys := ys)
       have e1 : xs.drop k = xs.getD k 0 :: xs.drop (k + 1) := by rw [List.drop_eq_getElem_cons (by omega)]; simp [List.getD_eq_getElem?_getD, List.getElem?_eq_getElem (show k < xs.length by omega)]
       have e2 : ys.drop k = ys.getD k 0 :: ys.drop (k + 1) := by rw [List.drop_eq_getElem_cons (by omega)]; simp [List.getD_eq_getElem?_getD, List.getElem?_eq_getElem (show k < ys.length by omega)]
       rw [e1, e2]
       simp only [Op.eqFields, ne_eq, hn, not_false_eq_true, if_true, Sem.run_bind, hx, hy, Result.andThen_ok, run_equalIn_int w d f.type .i64 .i64 _ _ hu]
       cases hb : (xs.getD k 0 == ys.getD k 0)
       · simp only [Bool.not_false, if_true, Sem.run_pure, List.cons_beq_cons, hb, Bool.false_and]
       · simp only [Bool.not_true, Bool.false_eq_true, if_false, ih, List.cons_beq_cons, hb, Bool.true_and]
     · cases ht
   · cases ht
/-! ### One byte, counted -/
/-! ### Rows of structs -/
/-! ### Closures that may panic -/
/-! ### A deferred closure over one cell, which lays false there if it recovers -/
structure RecC (P : Program) (f : FuncId) (e : TypeId) (v : Value) : Prop where
 fn : ∀ p w, (invoke (.fn (.func f) #[p]) #[]).run P w = .ok (.enter f #[p]) w
 idle : ∀ p w, CallsD P f #[p] .returning w fun e u' w' => e = .returned (.tuple #[]) ∧ u' = .returning ∧ Stp w w' (fun _ => False)
 caught : ∀ A w, (Own e 1 A 1 1 [.bool false]).p w → CallsD P f #[ptrOf A 0] (.panicking [{ v := v, recovered := false }]) w fun e u' w' => e = .returned (.tuple #[]) ∧ u' = .panicking [{ v := v, recovered := true }] ∧ Stp w w' (fun _ => False)
end
end Go.Sl
end
