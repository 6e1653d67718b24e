/-
  Who reads whom in a patch, as plain data.
-/
import Derived.Lib.Overlaps
import Derived.Lib.AppendZeros
import Derived.Lib.BytesEntry
import Derived.Laws.StructEq
import Derived.Test.YtbkmahjhhncfcaaGreatUPl
import Derived.Test.YtbkmahjhhncfcaaGreatUMj
import Derived.Test.YtbkmahjhhncfcaaGreatUMi
import Derived.Test.YtbkmahjhhncfcaaGreatUSlI
section
namespace Go.Sl

def Srt (x : List Int) : Prop := ∀ i j, i < j → j < x.length → x.getD i 0 < x.getD j 0
theorem Srt.snoc {x : List Int} {t : Int} (h : Srt x) (ht : ∀ q, q < x.length → x.getD q 0 < t) : Srt (x ++ [t]) := by
 intro i j hij hj
 rw [List.length_append] at hj
 have lo : ∀ q, q < x.length → (x ++ [t]).getD q 0 = x.getD q 0 := fun q hq => by simp only [List.getD_eq_getElem?_getD, List.getElem?_append_left hq]
 have hi : (x ++ [t]).getD x.length 0 = t := by simp [List.getD_eq_getElem?_getD]
 have hj' : j < x.length + 1 := hj
 by_cases hq : j < x.length
 · rw [lo i (by omega), lo j hq]
   exact h i j hij hq
 · obtain rfl : j = x.length := by omega
   rw [lo i hij, hi]
   exact ht i hij
/-! ### The readings of a patch -/
section
variable {ch : List Bool} {S n k : Nat} {l : List Sy}
end
section
variable {X : Cx} {β : Base} {n : Nat} {ds : List Deferred} {Q : Exit → Act → World → Prop} {Γ : Env} {R H : List Pr}
end
section
variable {lf : Bool} {inn out size : Int} {ops : List Po}
end
end Go.Sl
end
/-
  Right orders, as plain data.
-/
section
namespace Go.Sl

def atL (n : Nat) (seq : List Int) : Nat → List Int
 | 0 => List.replicate n (-1)
 | i + 1 => (atL n seq i).set (seq.getD i 0).toNat (i : Int)
def badS (n : Nat) (seq : List Int) (i : Nat) : Prop := seq.getD i 0 < 0 ∨ (n : Int) ≤ seq.getD i 0 ∨ 0 ≤ (atL n seq i).getD (seq.getD i 0).toNat 0
instance (n : Nat) (seq : List Int) (i : Nat) : Decidable (badS n seq i) := by unfold badS; infer_instance
end Go.Sl
end
/-
  The reference's readings of a patch, as plain data.
-/
section
namespace Go.Sl

theorem symsV_get {l : List Sy} {i j : Nat} (hi : i < l.length) (hj : j < 3) : (symsV l)[i * 3 + j]? = (l.getD i Sy.zero).cells[j]? := by
 rw [← symsV_at l i hi, List.getElem?_take, if_pos hj, List.getElem?_drop]
section
variable {l : List Sy} {inn out : Int} {S n k u t : Nat}
end
end Go.Sl
end
/-
  Images made of parts of an old one and other bytes.
-/
section
namespace Go.Sl

structure Mx where
 out : List UInt8
 n0 : Nat
 n1 : Nat
 n2 : Nat
 oth : Bool
theorem Has.takeU {R H : List Pr} {A : Option Addr} {l : List UInt8} (h : Has R H (Rd A (U8 l))) (m : Nat) : Has R H (Rd A (U8 (l.take m))) := by
 have e : U8 (l.take m) = (U8 l).take m := by unfold U8; rw [List.map_take]
 rw [e]
 refine ⟨fun β w hw j u hu => h.1 β w hw j u ?_, fun k hk => h.2 k ⟨fun h0 => hk.1 (by rw [h0, List.take_nil]), hk.2⟩⟩
 rw [List.getElem?_take] at hu
 split at hu
 · exact hu
 · cases hu
end Go.Sl
end
/-
  Shifts of a small number.
-/
section
namespace Go.Sl

section
variable {X : Cx} {β : Base} {Γ : Env} {R H : List Pr}
theorem Ev.shl8W {t ty : Nat} {x y : Operand} {yk : IntKind} {m k : Nat} (hx : ev Γ x = some (.int .u8 (m : Int))) (hy : ev Γ y = some (.int yk (k : Int))) (hk : k ≤ 8) (hm : m * 2 ^ k < 256) : Ev X β Γ R H (.binOp .shl t x y ty) (.int .u8 ((m * 2 ^ k : Nat) : Int)) := by
 intro ρ w hρ hw o ho
 have hg : (eqGuard .shl t x y (.int .u8 (m : Int)) (.int yk (k : Int))).run X.P w = .ok () w := by unfold eqGuard; rfl
 have hb : ¬ (k : Int) < 0 := by omega
 have e : IntKind.u8.wrap ((m : Int) * 2 ^ min (k : Int).toNat 8) = ((m * 2 ^ k : Nat) : Int) := by
   rw [Int.toNat_natCast, Nat.min_eq_left hk, wrap_u8, show (m : Int) * 2 ^ k = ((m * 2 ^ k : Nat) : Int) by rw [Int.natCast_mul, Int.natCast_pow]; rfl]
   omega
 simp only [execOp, ho, hρ _ _ hx, hρ _ _ hy, Sem.run_bind, hg, Result.andThen_ok, binOp_shl, Op.shift, if_neg hb, Sem.run_pure, IntKind.bits]
 rw [← e]
end
end Go.Sl
end
/-
  slices.Insert in the middle: room behind a slice, append of a made slice, slices.overlaps.
-/
section
namespace Go.Sl

section
variable {X : Cx} {β : Base} {n : Nat} {ds : List Deferred} {ops : Array Oper} {Q : Exit → Act → World → Prop} {rest : List Oper} {Γ : Env} {R H : List Pr}
theorem Own.spare {w : World} {e m c : Nat} {A : Option Addr} {xs : List Value} (h : (Own e 1 A m c xs).p w) (hc : m + 1 ≤ c) : ∃ u, (Own e 1 A (m + 1) c (xs ++ [u])).p w := by
 rcases h.2 with ⟨hv, _⟩ | ⟨g, cap, cur, hv, hb, hh, h3, h4, h5, h6⟩
 · injection hv with _ _ h9
   omega
 · injection hv with h7 h8 h9
   subst h7 h9
   rw [Nat.mul_one] at h5 h6
   have hm : m < cur.toList.length := by rw [Array.length_toList]; omega
   refine ⟨cur.toList[m], by have := h.1; rw [List.length_append, this]; rfl, .inr ⟨g, c, cur, rfl, hb, hh, hc, h4, by omega, ?_⟩⟩
   rw [Nat.mul_one, List.take_succ_eq_append_getElem hm, h6]
/-- One place more of the room behind a slice. -/
theorem C.spare {x : Code} {e m c : Nat} {A : Option Addr} {xs : List Value} {H' : List Pr} (hc : m + 1 ≤ c) (h : ∀ u, C X β n ds Q x Γ R (Own e 1 A (m + 1) c (xs ++ [u]) :: H')) : C X β n ds Q x Γ R (Own e 1 A m c xs :: H') := by
 intro a w hf hs
 obtain ⟨u, hu⟩ := Own.spare (hs.own 0 _ rfl) hc
 exact h u a w hf (hs.repl (fun _ => hu) (fun k hk => hk))

end
end Go.Sl
end
/-
  An empty slice of structs.
-/
section
namespace Go.Sl

section
variable {X : Cx} {β : Base} {n : Nat} {ds : List Deferred} {ops : Array Oper} {Q : Exit → Act → World → Prop} {rest : List Oper} {Γ : Env} {R H : List Pr}
theorem L.lit0S {d t e ty : Nat} {pos : String} {af : Array Edge} {i ei : Ti} (ht : tlook t X.tab = some i) (hdesc : i.desc = .slice e) (he : tlook e X.tab = some ei) (hd : Nat.blt d n = true)
   (k : ∀ A, L X β n ds ops Q rest ((d, .slice A 0 0) :: Γ) R (H ++ [Own e ei.size A 0 0 []])) : L X β n ds ops Q (⟨some d, .buildSlice t 0 #[], ty, pos, af, none⟩ :: rest) Γ R H := by
 refine L.mk hd e ei.size 0 [] (by unfold maxLen; omega) (by simp) (fun A => .slice A 0 0) ?_ k
 intro ρ w hρ hs o ho
 obtain ⟨e1, _⟩ := X.ok _ _ ht
 rw [hdesc] at e1
 have hS := run_sizeOf' (P := X.P) w (X.ok _ _ he)
 simp only [execOp, ho, Instr.buildSlice, Sem.run_bind, run_underlying e1, Result.andThen_ok, hS]
 simp [Instr.fill, newRow, Array.range_zero']
end
end Go.Sl
end
/-
  The small separation logic: shifts and or of whole numbers, structs of numbers that are compared, one byte that is counted, rows of structs, closures that may panic, a deferred closure over one cell.
-/
section
namespace Go.Sl

section
variable {X : Cx} {β : Base} {n : Nat} {ds : List Deferred} {ops : Array Oper} {Q : Exit → Act → World → Prop} {rest : List Oper} {Γ : Env} {R H : List Pr}

theorem wrap63 {m : Nat} (h : m < 9223372036854775808) : IntKind.i64.wrap (m : Int) = (m : Int) := by rw [IntKind.wrap_i64]; omega
theorem Ev.shlI {t ty : Nat} {x y : Operand} {yk : IntKind} {m k : Nat} (hx : ev Γ x = some (.int .i64 (m : Int))) (hy : ev Γ y = some (.int yk (k : Int))) (hk : k ≤ 64) (hm : m * 2 ^ k < 9223372036854775808) : Ev X β Γ R H (.binOp .shl t x y ty) (.int .i64 ((m * 2 ^ k : Nat) : Int)) := by
 intro ρ w hρ hw o ho
 have hg : (eqGuard .shl t x y (.int .i64 (m : Int)) (.int yk (k : Int))).run X.P w = .ok () w := by unfold eqGuard; rfl
 have hb : ¬ (k : Int) < 0 := by omega
 have e : IntKind.i64.wrap ((m : Int) * 2 ^ min (k : Int).toNat 64) = ((m * 2 ^ k : Nat) : Int) := by
   rw [Int.toNat_natCast, Nat.min_eq_left hk, show (m : Int) * 2 ^ k = ((m * 2 ^ k : Nat) : Int) by rw [Int.natCast_mul, Int.natCast_pow]; rfl, wrap63 hm]
 simp only [execOp, ho, hρ _ _ hx, hρ _ _ hy, Sem.run_bind, hg, Result.andThen_ok, binOp_shl, Op.shift, if_neg hb, Sem.run_pure, IntKind.bits]
 rw [← e]
theorem Ev.shrI {t ty : Nat} {x y : Operand} {yk : IntKind} {m k : Nat} (hx : ev Γ x = some (.int .i64 (m : Int))) (hy : ev Γ y = some (.int yk (k : Int))) (hk : k ≤ 64) : Ev X β Γ R H (.binOp .shr t x y ty) (.int .i64 ((m / 2 ^ k : Nat) : Int)) := by
 intro ρ w hρ hw o ho
 have hg : (eqGuard .shr t x y (.int .i64 (m : Int)) (.int yk (k : Int))).run X.P w = .ok () w := by unfold eqGuard; rfl
 have hb : ¬ (k : Int) < 0 := by omega
 have e : (m : Int).fdiv (2 ^ min (k : Int).toNat 64) = ((m / 2 ^ k : Nat) : Int) := by
   rw [Int.toNat_natCast, Nat.min_eq_left hk, Int.fdiv_eq_ediv_of_nonneg _ (Int.pow_nonneg (by decide)), Int.natCast_ediv, Int.natCast_pow]
   rfl
 simp only [execOp, ho, hρ _ _ hx, hρ _ _ hy, Sem.run_bind, hg, Result.andThen_ok, binOp_shr, Op.shift, if_neg hb, Sem.run_pure, IntKind.bits]
 rw [← e]
theorem ofInt_natK (m : Nat) : UInt8.ofInt (m : Int) = UInt8.ofNat m := by
 apply UInt8.toNat_inj.1
 simp [UInt8.ofInt, UInt8.toNat_ofNat']
 omega
theorem Ev.toByteN {s d : Nat} {x : Operand} {k : IntKind} {m : Nat} {i j : Ti} (hs : tlook s X.tab = some i) (hd : tlook d X.tab = some j) (hj : j.desc = .int .u8) (hx : ev Γ x = some (.int k (m : Int))) :
   Ev X β Γ R H (.convert s d x) (.int .u8 ((UInt8.ofNat m).toNat : Int)) := (Ev.toByte hs hd hj hx).cast (by rw [ofInt_natK])

/-! ### Structs of numbers, compared -/
/-! ### One byte, counted -/
/-! ### Rows of structs -/
/-! ### Closures that may panic -/
/-! ### A deferred closure over one cell, which lays false there if it recovers -/
structure RecC (P : Program) (f : FuncId) (e : TypeId) (v : Value) : Prop where
 fn : ∀ p w, (invoke (.fn (.func f) #[p]) #[]).run P w = .ok (.enter f #[p]) w
 idle : ∀ p w, CallsD P f #[p] .returning w fun e u' w' => e = .returned (.tuple #[]) ∧ u' = .returning ∧ Stp w w' (fun _ => False)
 caught : ∀ A w, (Own e 1 A 1 1 [.bool false]).p w → CallsD P f #[ptrOf A 0] (.panicking [{ v := v, recovered := false }]) w fun e u' w' => e = .returned (.tuple #[]) ∧ u' = .panicking [{ v := v, recovered := true }] ∧ Stp w w' (fun _ => False)
end
end Go.Sl
end
