/-
  The small separation logic: shifts and or of whole numbers, structs of numbers that are compared, one byte that is counted, rows of structs, closures that may panic, a deferred closure over one cell.
-/
import Derived.Lib.BytesEntry
import Derived.Laws.StructEq
import Derived.Test.YtpccfdnmnnnboaaGreatRSlN
import Derived.Test.YtpccfdnmnnnboaaGreatRSlP
section
namespace Go.Sl

section
variable {X : Cx} {β : Base} {n : Nat} {ds : List Deferred} {ops : Array Oper} {Q : Exit → Act → World → Prop} {rest : List Oper} {Γ : Env} {R H : List Pr}

/-! ### Structs of numbers, compared -/
def intFs (T : List (Nat × Ti)) : Nat → List Field → Bool
 | _, [] => true
 | k, f :: fs => f.offset == k && f.name != "_" && (match tlook f.type T with | some i => (match i.desc with | .int .i64 => true | _ => false) | none => false) && intFs T (k + 1) fs
theorem run_eqInts {w : World} {xs ys : List Int} (d : Nat) : ∀ (fs : List Field) (k : Nat), intFs X.tab k fs = true → xs.length = k + fs.length → ys.length = k + fs.length →
   (Op.eqFields (d + 1) (List.toArray (I64 xs)) (List.toArray (I64 ys)) fs).run X.P w = .ok (xs.drop k == ys.drop k) w
 | [], k, _, h1, h2 => by
   rw [List.drop_eq_nil_of_le (by simp at h1; omega), List.drop_eq_nil_of_le (by simp at h2; omega)]
   rfl
 | f :: fs, k, h, h1, h2 => by
   simp only [intFs, Bool.and_eq_true, beq_iff_eq, bne_iff_ne, ne_eq] at h
   obtain ⟨⟨⟨hk, hn⟩, ht⟩, hfs⟩ := h
   simp only [List.length_cons] at h1 h2
   split at ht
   · rename_i i hi
     split at ht
     · rename_i hdesc
       have hx := run_part (P := X.P) w (X.ok _ _ hi) (List.toArray (I64 xs)) f.offset (.int .i64 (xs.getD k 0)) (by rw [hdesc, hk, if_neg (by simp [aggD])]; exact I64_get (by omega))
       have hy := run_part (P := X.P) w (X.ok _ _ hi) (List.toArray (I64 ys)) f.offset (.int .i64 (ys.getD k 0)) (by rw [hdesc, hk, if_neg (by simp [aggD])]; exact I64_get (by omega))
       have hu := (X.ok _ _ hi).und
       rw [hdesc] at hu
       have ih := run_eqInts d fs (k + 1) hfs (by omega) (by omega) (w := w) (xs := xs) (ys := ys)
       have e1 : xs.drop k = xs.getD k 0 :: xs.drop (k + 1) := by rw [List.drop_eq_getElem_cons (by omega)]; simp [List.getD_eq_getElem?_getD, List.getElem?_eq_getElem (show k < xs.length by omega)]
       have e2 : ys.drop k = ys.getD k 0 :: ys.drop (k + 1) := by rw [List.drop_eq_getElem_cons (by omega)]; simp [List.getD_eq_getElem?_getD, List.getElem?_eq_getElem (show k < ys.length by omega)]
       rw [e1, e2]
       simp only [Op.eqFields, ne_eq, hn, not_false_eq_true, if_true, Sem.run_bind, hx, hy, Result.andThen_ok, run_equalIn_int w d f.type .i64 .i64 _ _ hu]
       cases hb : (xs.getD k 0 == ys.getD k 0)
       · simp only [Bool.not_false, if_true, Sem.run_pure, List.cons_beq_cons, hb, Bool.false_and]
       · simp only [Bool.not_true, Bool.false_eq_true, if_false, ih, List.cons_beq_cons, hb, Bool.true_and]
     · cases ht
   · cases ht
theorem Ev.eqS {t ty : Nat} {x y : Operand} {xs ys : List Int} {i : Ti} {fs : List Field} (ht : tlook t X.tab = some i) (hd : i.desc = .struct (List.toArray fs)) (hp : X.P.stoodInHeld t = false) (hm : X.P.eqGuardType X.P.depth t = false) (hf : intFs X.tab 0 fs = true)
   (hx : ev Γ x = some (.agg (List.toArray (I64 xs)))) (hy : ev Γ y = some (.agg (List.toArray (I64 ys)))) (h1 : xs.length = fs.length) (h2 : ys.length = fs.length) : Ev X β Γ R H (.binOp .eql t x y ty) (.bool (xs == ys)) := by
 intro ρ w hρ hw o ho
 have hu := (X.ok _ _ ht).und
 rw [hd] at hu
 have hF : X.P.fieldsOf t = List.toArray fs := by unfold Program.fieldsOf; rw [hu]
 have hq : (Op.equalIn 10000 t (.agg (List.toArray (I64 xs))) (.agg (List.toArray (I64 ys)))).run X.P w = .ok (xs == ys) w := by
   rw [run_equalIn_struct w 9999 t _ _ (by rw [hF]; exact hu) hp, hF]
   simpa using run_eqInts (X := X) (w := w) (xs := xs) (ys := ys) 9998 fs 0 hf (by omega) (by omega)
 have hg := run_eqGuard_agg (P := X.P) w .eql t x y (List.toArray (I64 xs)) (List.toArray (I64 ys)) hm
 have hb := run_eql_struct (P := X.P) w t (List.toArray (I64 xs)) (List.toArray (I64 ys))
 rw [hq] at hb
 simp [execOp, ho, hρ _ _ hx, hρ _ _ hy, hg, hb]
/-! ### One byte, counted -/
/-! ### Rows of structs -/
/-! ### Closures that may panic -/
/-! ### A deferred closure over one cell, which lays false there if it recovers -/
structure RecC (P : Program) (f : FuncId) (e : TypeId) (v : Value) : Prop where
 fn : ∀ p w, (invoke (.fn (.func f) #[p]) #[]).run P w = .ok (.enter f #[p]) w
 idle : ∀ p w, CallsD P f #[p] .returning w fun e u' w' => e = .returned (.tuple #[]) ∧ u' = .returning ∧ Stp w w' (fun _ => False)
 caught : ∀ A w, (Own e 1 A 1 1 [.bool false]).p w → CallsD P f #[ptrOf A 0] (.panicking [{ v := v, recovered := false }]) w fun e u' w' => e = .returned (.tuple #[]) ∧ u' = .panicking [{ v := v, recovered := true }] ∧ Stp w w' (fun _ => False)
theorem QE.someI {x : Exit} (j : Nat) {e sz m cc : Nat} {A : Option Addr} {xs : List Value} (hj : H[j]? = some (Own e sz A m cc xs)) (h : (0 < xs.length → A.isSome = true) → QE β n ds Q x Γ R H) : QE β n ds Q x Γ R H := by
 intro a w hf hs
 refine h (fun hp => ?_) a w hf hs
 obtain ⟨g, _, rfl, _⟩ := Own.form (hs.own j _ hj) hp
 rfl
end
end Go.Sl
end
/-
  The small separation logic: structs of numbers that are compared, equal or not.
-/
section
namespace Go.Sl

section
variable {X : Cx} {β : Base} {Γ : Env} {R H : List Pr}
theorem Ev.neSt {t ty : Nat} {x y : Operand} {xs ys : List Int} {i : Ti} {fs : List Field} (ht : tlook t X.tab = some i) (hd : i.desc = .struct (List.toArray fs)) (hp : X.P.stoodInHeld t = false) (hm : X.P.eqGuardType X.P.depth t = false) (hf : intFs X.tab 0 fs = true)
   (hx : ev Γ x = some (.agg (List.toArray (I64 xs)))) (hy : ev Γ y = some (.agg (List.toArray (I64 ys)))) (h1 : xs.length = fs.length) (h2 : ys.length = fs.length) : Ev X β Γ R H (.binOp .neq t x y ty) (.bool (xs != ys)) := by
 intro ρ w hρ hw o ho
 have hu := (X.ok _ _ ht).und
 rw [hd] at hu
 have hF : X.P.fieldsOf t = List.toArray fs := by unfold Program.fieldsOf; rw [hu]
 have hq : (Op.equalIn 10000 t (.agg (List.toArray (I64 xs))) (.agg (List.toArray (I64 ys)))).run X.P w = .ok (xs == ys) w := by
   rw [run_equalIn_struct w 9999 t _ _ (by rw [hF]; exact hu) hp, hF]
   simpa using run_eqInts (X := X) (w := w) (xs := xs) (ys := ys) 9998 fs 0 hf (by omega) (by omega)
 have hg := run_eqGuard_agg (P := X.P) w .neq t x y (List.toArray (I64 xs)) (List.toArray (I64 ys)) hm
 have hb := run_neq_struct (P := X.P) w t (List.toArray (I64 xs)) (List.toArray (I64 ys))
 rw [hq] at hb
 simp [execOp, ho, hρ _ _ hx, hρ _ _ hy, hg, hb, bne]
end

/-! ### Choices of a drawn region, told shortly -/
section
variable {X : Cx} {β : Base} {n : Nat} {ds : List Deferred} {Q : Exit → Act → World → Prop} {Γ : Env} {R H Rc : List Pr} {ops o : Array Oper} {fuel : Nat} {listed : Array Bool}
theorem LM.a2 (i j : Nat) {a b : Oper} (hr : Region.ready .any ops listed = [i, j]) (hc : Hass R H Rc) (h1 : ops[i]? = some a) (h2 : ops[j]? = some b)
   (k1 : L X β n ds ops (QM X β ops Rc Q fuel (listed.setIfInBounds i true)) [a] Γ R H) (k2 : L X β n ds ops (QM X β ops Rc Q fuel (listed.setIfInBounds j true)) [b] Γ R H) : LM X β n ds ops Rc Q (fuel + 1) listed Γ R H :=
 LM.alt [i, j] hr (by simp) hc ⟨⟨a, h1, k1⟩, ⟨b, h2, k2⟩, trivial⟩
theorem LM.a3 (i j k : Nat) {a b c : Oper} (hr : Region.ready .any ops listed = [i, j, k]) (hc : Hass R H Rc) (h1 : ops[i]? = some a) (h2 : ops[j]? = some b) (h3 : ops[k]? = some c)
   (k1 : L X β n ds ops (QM X β ops Rc Q fuel (listed.setIfInBounds i true)) [a] Γ R H) (k2 : L X β n ds ops (QM X β ops Rc Q fuel (listed.setIfInBounds j true)) [b] Γ R H) (k3 : L X β n ds ops (QM X β ops Rc Q fuel (listed.setIfInBounds k true)) [c] Γ R H) : LM X β n ds ops Rc Q (fuel + 1) listed Γ R H :=
 LM.alt [i, j, k] hr (by simp) hc ⟨⟨a, h1, k1⟩, ⟨b, h2, k2⟩, ⟨c, h3, k3⟩, trivial⟩
theorem LM.a4 (i j k l : Nat) {a b c d : Oper} (hr : Region.ready .any ops listed = [i, j, k, l]) (hc : Hass R H Rc) (h1 : ops[i]? = some a) (h2 : ops[j]? = some b) (h3 : ops[k]? = some c) (h4 : ops[l]? = some d)
   (k1 : L X β n ds ops (QM X β ops Rc Q fuel (listed.setIfInBounds i true)) [a] Γ R H) (k2 : L X β n ds ops (QM X β ops Rc Q fuel (listed.setIfInBounds j true)) [b] Γ R H) (k3 : L X β n ds ops (QM X β ops Rc Q fuel (listed.setIfInBounds k true)) [c] Γ R H) (k4 : L X β n ds ops (QM X β ops Rc Q fuel (listed.setIfInBounds l true)) [d] Γ R H) : LM X β n ds ops Rc Q (fuel + 1) listed Γ R H :=
 LM.alt [i, j, k, l] hr (by simp) hc ⟨⟨a, h1, k1⟩, ⟨b, h2, k2⟩, ⟨c, h3, k3⟩, ⟨d, h4, k4⟩, trivial⟩
end
end Go.Sl
end
