/-
  The small separation logic: shifts and or of whole numbers, structs of numbers that are compared, one byte that is counted, rows of structs, closures that may panic, a deferred closure over one cell.
-/
import Derived.Lib.BytesEntry
import Derived.Laws.StructEq
import Derived.Test.YtmbjknampholjaaESlI
import Derived.Test.YtmbjknampholjaaESlP
namespace Go.Sl

section
variable {X : Cx} {β : Base} {n : Nat} {ds : List Deferred} {ops : Array Oper} {Q : Exit → Act → World → Prop} {rest : List Oper} {Γ : Env} {R H : List Pr}

theorem wrap63 {m : Nat} (h : m < 9223372036854775808) : IntKind.i64.wrap (m : Int) = (m : Int) := by rw [IntKind.wrap_i64]; omega
theorem Ev.shlI {t ty : Nat} {x y : Operand} {yk : IntKind} {m k : Nat} (hx : ev Γ x = some (.int .i64 (m : Int))) (hy : ev Γ y = some (.int yk (k : Int))) (hk : k ≤ 64) (hm : m * 2 ^ k < 9223372036854775808) : Ev X β Γ R H (.binOp .shl t x y ty) (.int .i64 ((m * 2 ^ k : Nat) : Int)) := by
 intro ρ w hρ hw o ho
 have hg : (eqGuard .shl t x y (.int .i64 (m : Int)) (.int yk (k : Int))).run X.P w = .ok () w := by unfold eqGuard; rfl
 have hb : ¬ (k : Int) < 0 := by omega
 have e : IntKind.i64.wrap ((m : Int) * 2 ^ min (k : Int).toNat 64) = ((m * 2 ^ k : Nat) : Int) := by
   rw [Int.toNat_natCast, Nat.min_eq_left hk, show (m : Int) * 2 ^ k = ((m * 2 ^ k : Nat) : Int) by rw [Int.natCast_mul, Int.natCast_pow]; rfl, wrap63 hm]
 simp only [execOp, ho, hρ _ _ hx, hρ _ _ hy, Sem.run_bind, hg, Result.andThen_ok, binOp_shl, Op.shift, if_neg hb, Sem.run_pure, IntKind.bits]
 rw [← e]
theorem Ev.shrI {t ty : Nat} {x y : Operand} {yk : IntKind} {m k : Nat} (hx : ev Γ x = some (.int .i64 (m : Int))) (hy : ev Γ y = some (.int yk (k : Int))) (hk : k ≤ 64) : Ev X β Γ R H (.binOp .shr t x y ty) (.int .i64 ((m / 2 ^ k : Nat) : Int)) := by
 intro ρ w hρ hw o ho
 have hg : (eqGuard .shr t x y (.int .i64 (m : Int)) (.int yk (k : Int))).run X.P w = .ok () w := by unfold eqGuard; rfl
 have hb : ¬ (k : Int) < 0 := by omega
 have e : (m : Int).fdiv (2 ^ min (k : Int).toNat 64) = ((m / 2 ^ k : Nat) : Int) := by
   rw [Int.toNat_natCast, Nat.min_eq_left hk, Int.fdiv_eq_ediv_of_nonneg _ (Int.pow_nonneg (by decide)), Int.natCast_ediv, Int.natCast_pow]
   rfl
 simp only [execOp, ho, hρ _ _ hx, hρ _ _ hy, Sem.run_bind, hg, Result.andThen_ok, binOp_shr, Op.shift, if_neg hb, Sem.run_pure, IntKind.bits]
 rw [← e]
theorem bopI_or {a b : Nat} (ha : a < 9223372036854775808) (hb : b < 9223372036854775808) : bop .or .i64 (a : Int) (b : Int) = ((a ||| b : Nat) : Int) := by
 have e : ∀ m : Nat, m < 9223372036854775808 → (BitVec.ofInt 64 (m : Int)).toNat = m := by
   intro m hm
   rw [BitVec.ofInt_natCast, BitVec.toNat_ofNat]
   omega
 have e2 : (BitVec.ofInt 64 (a : Int) ||| BitVec.ofInt 64 (b : Int)).toNat = a ||| b := by rw [BitVec.toNat_or, e a ha, e b hb]
 show IntKind.i64.wrap ((BitVec.ofInt 64 (a : Int) ||| BitVec.ofInt 64 (b : Int)).toNat : Int) = _
 rw [e2]
 exact wrap63 (Nat.or_lt_two_pow (n := 63) (by omega) (by omega))
theorem Ev.orI {t ty : Nat} {x y : Operand} {a b : Nat} (hx : ev Γ x = some (.int .i64 (a : Int))) (hy : ev Γ y = some (.int .i64 (b : Int))) (ha : a < 9223372036854775808) (hb : b < 9223372036854775808) : Ev X β Γ R H (.binOp .or t x y ty) (.int .i64 ((a ||| b : Nat) : Int)) :=
 (Ev.pure (v := .int .i64 (bop .or .i64 (a : Int) (b : Int))) (by simp [pev, hx, hy, pint])).cast (by rw [bopI_or ha hb])
theorem or_byte {a b : Nat} (hb : b < 256) : (a * 2 ^ 8) ||| b = a * 256 + b := by
 rw [show a * 2 ^ 8 = 2 ^ 8 * a from Nat.mul_comm .., ← Nat.two_pow_add_eq_or_of_lt (by omega)]
theorem Ev.shrOr {t ty : Nat} {x y : Operand} {a b : Nat} (hx : ev Γ x = some (.int .i64 ((a * 2 ^ 8 : Nat) : Int))) (hy : ev Γ y = some (.int .i64 (b : Int))) (ha : a < 4294967296) (hb : b < 256) : Ev X β Γ R H (.binOp .or t x y ty) (.int .i64 ((a * 256 + b : Nat) : Int)) :=
 (Ev.orI hx hy (by omega) (by omega)).cast (by rw [or_byte hb])

theorem not8_nat (b : UInt8) : (~~~b).toNat = 255 - b.toNat := by rw [UInt8.toNat_not]; rfl
theorem Ev.com8 {t : Nat} {x : Operand} {b : UInt8} (hx : ev Γ x = some (.int .u8 (b.toNat : Int))) : Ev X β Γ R H (.unOp .xor t x) (.int .u8 ((~~~b).toNat : Int)) := by
 intro ρ w hρ hw o ho
 have e : (Op.unary .xor (.int .u8 (b.toNat : Int))).run X.P w = .ok (.int .u8 (bop .xor .u8 (((255 : UInt8).toNat : Nat) : Int) (b.toNat : Int))) w := rfl
 rw [bop8_xor] at e
 have e2 : (255 : UInt8) ^^^ b = ~~~b := by
   apply UInt8.eq_of_toBitVec_eq
   rw [UInt8.toBitVec_xor, UInt8.toBitVec_not]
   show BitVec.allOnes 8 ^^^ b.toBitVec = _
   rw [BitVec.allOnes_xor]
 rw [e2] at e
 simp [execOp, ho, hρ _ _ hx, e]
theorem Ev.sub255 {t ty : Nat} {y : Operand} {b : UInt8} (hy : ev Γ y = some (.int .u8 (b.toNat : Int))) : Ev X β Γ R H (.binOp .sub t (.const (.int .u8 255)) y ty) (.int .u8 ((~~~b).toNat : Int)) :=
 (Ev.pure (v := .int .u8 (IntKind.u8.wrap (255 - (b.toNat : Int)))) (by have h0 : ev Γ (.const (.int .u8 255)) = some (.int .u8 255) := rfl; simp [pev, hy, h0, pint])).cast (by
   have := UInt8.toNat_lt b
   rw [wrap_u8, not8_nat]
   congr 1
   omega)
theorem ofInt_nat (m : Nat) : UInt8.ofInt (m : Int) = UInt8.ofNat m := by
 apply UInt8.toNat_inj.1
 simp [UInt8.ofInt, UInt8.toNat_ofNat']
 omega
theorem Ev.toByteN {s d : Nat} {x : Operand} {k : IntKind} {m : Nat} {i j : Ti} (hs : tlook s X.tab = some i) (hd : tlook d X.tab = some j) (hj : j.desc = .int .u8) (hx : ev Γ x = some (.int k (m : Int))) :
   Ev X β Γ R H (.convert s d x) (.int .u8 ((UInt8.ofNat m).toNat : Int)) := (Ev.toByte hs hd hj hx).cast (by rw [ofInt_nat])

/-! ### Structs of numbers, compared -/
def intFs (T : List (Nat × Ti)) : Nat → List Field → Bool
 | _, [] => true
 | k, f :: fs => f.offset == k && f.name != "_" && (match tlook f.type T with | some i => (match i.desc with | .int .i64 => true | _ => false) | none => false) && intFs T (k + 1) fs
theorem run_eqInts {w : World} {xs ys : List Int} (d : Nat) : ∀ (fs : List Field) (k : Nat), intFs X.tab k fs = true → xs.length = k + fs.length → ys.length = k + fs.length →
   (Op.eqFields (d + 1) (List.toArray (I64 xs)) (List.toArray (I64 ys)) fs).run X.P w = .ok (xs.drop k == ys.drop k) w
 | [], k, _, h1, h2 => by
   rw [List.drop_eq_nil_of_le (by simp at h1; omega), List.drop_eq_nil_of_le (by simp at h2; omega)]
   rfl
 | f :: fs, k, h, h1, h2 => by
   simp only [intFs, Bool.and_eq_true, beq_iff_eq, bne_iff_ne, ne_eq] at h
   obtain ⟨⟨⟨hk, hn⟩, ht⟩, hfs⟩ := h
   simp only [List.length_cons] at h1 h2
   split at ht
   · rename_i i hi
     split at ht
     · rename_i hdesc
       have hx := run_part (P := X.P) w (X.ok _ _ hi) (List.toArray (I64 xs)) f.offset (.int .i64 (xs.getD k 0)) (by rw [hdesc, hk, if_neg (by simp [aggD])]; exact I64_get (by omega))
       have hy := run_part (P := X.P) w (X.ok _ _ hi) (List.toArray (I64 ys)) f.offset (.int .i64 (ys.getD k 0)) (by rw [hdesc, hk, if_neg (by simp [aggD])]; exact I64_get (by omega))
       have hu := (X.ok _ _ hi).und
       rw [hdesc] at hu
       have ih := run_eqInts d fs (k + 1) hfs (by omega) (by omega) (w := w) (xs := xs) (ys := ys)
       have e1 : xs.drop k = xs.getD k 0 :: xs.drop (k + 1) := by rw [List.drop_eq_getElem_cons (by omega)]; simp [List.getD_eq_getElem?_getD, List.getElem?_eq_getElem (show k < xs.length by omega)]
       have e2 : ys.drop k = ys.getD k 0 :: ys.drop (k + 1) := by rw [List.drop_eq_getElem_cons (by omega)]; simp [List.getD_eq_getElem?_getD, List.getElem?_eq_getElem (show k < ys.length by omega)]
       rw [e1, e2]
       simp only [Op.eqFields, ne_eq, hn, not_false_eq_true, if_true, Sem.run_bind, hx, hy, Result.andThen_ok, run_equalIn_int w d f.type .i64 .i64 _ _ hu]
       cases hb : (xs.getD k 0 == ys.getD k 0)
       · simp only [Bool.not_false, if_true, Sem.run_pure, List.cons_beq_cons, hb, Bool.false_and]
       · simp only [Bool.not_true, Bool.false_eq_true, if_false, ih, List.cons_beq_cons, hb, Bool.true_and]
     · cases ht
   · cases ht
/-- The same behind a struct of numbers at the place 0. -/
theorem run_eqFirst {w : World} {xs ys : List Int} (d : Nat) (g : Field) (fs gs : List Field) (i : Ti) (hi : tlook g.type X.tab = some i) (hd : i.desc = .struct (List.toArray gs)) (ho : g.offset = 0) (hname : g.name ≠ "_") (hsz : i.size = gs.length) (hp : X.P.stoodInHeld g.type = false)
   (hgs : intFs X.tab 0 gs = true) (hfs : intFs X.tab gs.length fs = true) (h1 : xs.length = gs.length + fs.length) (h2 : ys.length = gs.length + fs.length) :
   (Op.eqFields (d + 2) (List.toArray (I64 xs)) (List.toArray (I64 ys)) (g :: fs)).run X.P w = .ok (xs == ys) w := by
 have hu := (X.ok _ _ hi).und
 rw [hd] at hu
 have hF : X.P.fieldsOf g.type = List.toArray gs := by unfold Program.fieldsOf; rw [hu]
 have part1 : ∀ zs : List Int, (part g.type (List.toArray (I64 zs)) g.offset).run X.P w = .ok (.agg (List.toArray (I64 (zs.take gs.length)))) w := fun zs =>
   run_part (P := X.P) w (X.ok _ _ hi) (List.toArray (I64 zs)) g.offset _ (by rw [hd, ho, hsz]; simp [aggD, I64, List.map_take])
 have hq : (Op.equalIn (d + 2) g.type (.agg (List.toArray (I64 (xs.take gs.length)))) (.agg (List.toArray (I64 (ys.take gs.length))))).run X.P w = .ok (xs.take gs.length == ys.take gs.length) w := by
   rw [run_equalIn_struct w (d + 1) g.type _ _ (by rw [hF]; exact hu) hp, hF]
   have := run_eqInts (X := X) (w := w) (xs := xs.take gs.length) (ys := ys.take gs.length) d gs 0 hgs (by rw [List.length_take]; omega) (by rw [List.length_take]; omega)
   simpa using this
 have ht := run_eqInts (X := X) (w := w) (xs := xs) (ys := ys) (d + 1) fs gs.length hfs h1 h2
 simp only [Op.eqFields, ne_eq, hname, not_false_eq_true, if_true, Sem.run_bind, part1, Result.andThen_ok, hq]
 have e : (xs == ys) = ((xs.take gs.length == ys.take gs.length) && (xs.drop gs.length == ys.drop gs.length)) := by
   rw [Bool.eq_iff_iff, Bool.and_eq_true, beq_iff_eq, beq_iff_eq, beq_iff_eq]
   refine ⟨fun h => by rw [h]; exact ⟨rfl, rfl⟩, fun ⟨h3, h4⟩ => ?_⟩
   rw [← List.take_append_drop gs.length xs, h3, h4, List.take_append_drop]
 rw [e]
 cases (xs.take gs.length == ys.take gs.length)
 · simp
 · simpa using ht
theorem Ev.eqS {t ty : Nat} {x y : Operand} {xs ys : List Int} {i : Ti} {fs : List Field} (ht : tlook t X.tab = some i) (hd : i.desc = .struct (List.toArray fs)) (hp : X.P.stoodInHeld t = false) (hm : X.P.eqGuardType X.P.depth t = false) (hf : intFs X.tab 0 fs = true)
   (hx : ev Γ x = some (.agg (List.toArray (I64 xs)))) (hy : ev Γ y = some (.agg (List.toArray (I64 ys)))) (h1 : xs.length = fs.length) (h2 : ys.length = fs.length) : Ev X β Γ R H (.binOp .eql t x y ty) (.bool (xs == ys)) := by
 intro ρ w hρ hw o ho
 have hu := (X.ok _ _ ht).und
 rw [hd] at hu
 have hF : X.P.fieldsOf t = List.toArray fs := by unfold Program.fieldsOf; rw [hu]
 have hq : (Op.equalIn 10000 t (.agg (List.toArray (I64 xs))) (.agg (List.toArray (I64 ys)))).run X.P w = .ok (xs == ys) w := by
   rw [run_equalIn_struct w 9999 t _ _ (by rw [hF]; exact hu) hp, hF]
   simpa using run_eqInts (X := X) (w := w) (xs := xs) (ys := ys) 9998 fs 0 hf (by omega) (by omega)
 have hg := run_eqGuard_agg (P := X.P) w .eql t x y (List.toArray (I64 xs)) (List.toArray (I64 ys)) hm
 have hb := run_eql_struct (P := X.P) w t (List.toArray (I64 xs)) (List.toArray (I64 ys))
 rw [hq] at hb
 simp [execOp, ho, hρ _ _ hx, hρ _ _ hy, hg, hb]
theorem Ev.neS2 {t ty : Nat} {x y : Operand} {xs ys : List Int} {i gi : Ti} {g : Field} {fs gs : List Field} (ht : tlook t X.tab = some i) (hd : i.desc = .struct (List.toArray (g :: fs))) (hp : X.P.stoodInHeld t = false) (hm : X.P.eqGuardType X.P.depth t = false)
   (hi : tlook g.type X.tab = some gi) (hgd : gi.desc = .struct (List.toArray gs)) (hgo : g.offset = 0) (hname : (g.name == "_") = false) (hsz : gi.size = gs.length) (hp2 : X.P.stoodInHeld g.type = false) (hgs : intFs X.tab 0 gs = true) (hfs : intFs X.tab gs.length fs = true)
   (hx : ev Γ x = some (.agg (List.toArray (I64 xs)))) (hy : ev Γ y = some (.agg (List.toArray (I64 ys)))) (h1 : xs.length = gs.length + fs.length) (h2 : ys.length = gs.length + fs.length) : Ev X β Γ R H (.binOp .neq t x y ty) (.bool (xs != ys)) := by
 intro ρ w hρ hw o ho
 have hu := (X.ok _ _ ht).und
 rw [hd] at hu
 have hF : X.P.fieldsOf t = List.toArray (g :: fs) := by unfold Program.fieldsOf; rw [hu]
 have hq : (Op.equalIn 10000 t (.agg (List.toArray (I64 xs))) (.agg (List.toArray (I64 ys)))).run X.P w = .ok (xs == ys) w := by
   rw [run_equalIn_struct w 9999 t _ _ (by rw [hF]; exact hu) hp, hF]
   exact run_eqFirst (X := X) (w := w) 9997 g fs gs gi hi hgd hgo (by simpa using hname) hsz hp2 hgs hfs h1 h2
 have hg := run_eqGuard_agg (P := X.P) w .neq t x y (List.toArray (I64 xs)) (List.toArray (I64 ys)) hm
 have hb := run_neq_struct (P := X.P) w t (List.toArray (I64 xs)) (List.toArray (I64 ys))
 rw [hq] at hb
 simp [execOp, ho, hρ _ _ hx, hρ _ _ hy, hg, hb, bne]

/-- Nine numbers, one by one. -/
def st9 (s : List Int) : List Value := [.int .i64 (s.getD 0 0), .int .i64 (s.getD 1 0), .int .i64 (s.getD 2 0), .int .i64 (s.getD 3 0), .int .i64 (s.getD 4 0), .int .i64 (s.getD 5 0), .int .i64 (s.getD 6 0), .int .i64 (s.getD 7 0), .int .i64 (s.getD 8 0)]
theorem st9_eq {s : List Int} (h : s.length = 9) : I64 s = st9 s := by
 match s, h with
 | [_, _, _, _, _, _, _, _, _], _ => rfl
theorem Ev.eqS9 {t ty : Nat} {x y : Operand} {xs ys : List Int} {i : Ti} {fs : List Field} (ht : tlook t X.tab = some i) (hd : i.desc = .struct (List.toArray fs)) (hp : X.P.stoodInHeld t = false) (hm : X.P.eqGuardType X.P.depth t = false) (hf : intFs X.tab 0 fs = true) (h9 : fs.length = 9)
   (hx : ev Γ x = some (.agg (List.toArray (st9 xs)))) (hy : ev Γ y = some (.agg (List.toArray (st9 ys)))) (h1 : xs.length = 9) (h2 : ys.length = 9) : Ev X β Γ R H (.binOp .eql t x y ty) (.bool (xs == ys)) := by
 rw [← st9_eq h1] at hx
 rw [← st9_eq h2] at hy
 exact Ev.eqS ht hd hp hm hf hx hy (by omega) (by omega)

/-! ### One byte, counted -/
theorem bytesOf_u8 (l : List UInt8) : Lib.bytesOf (l.map fun u => (u.toNat : Int)) = l := by
 unfold Lib.bytesOf
 rw [List.map_map]
 conv => rhs; rw [← List.map_id l]
 refine List.map_congr_left fun u _ => ?_
 simp
theorem run_count8 {P : Program} (w : World) (A : Option Addr) (c : Nat) (xs : List UInt8) (b : UInt8) (hr : ∀ (j : Nat) u, (U8 xs)[j]? = some u → ∃ a, A = some a ∧ w.cell? (a.add j) = some u) :
   (Extern.BytealgCount.count #[.slice A xs.length c, .int .u8 (b.toNat : Int)]).run P w = .ok (.int .i64 ((xs.count b : Nat) : Int)) w := by
 have hs := Lib.run_countString (P := P) ⟨xs.toArray⟩ (b.toNat : Int) w
 have e1 : ((b.toNat : Int).toNat.toUInt8) = b := by simp
 rw [e1] at hs
 have hb : (Extern.Bytes.bytesOf (.slice A xs.length c)).run P w = .ok ⟨xs.toArray⟩ w := by
   cases A with
   | none =>
     have h0 : xs = [] := by
       cases xs with
       | nil => rfl
       | cons u us =>
         obtain ⟨a, ha, _⟩ := hr 0 (.int .u8 (u.toNat : Int)) rfl
         cases ha
     subst h0
     rfl
   | some a =>
     have hl := Lib.run_loadBytesX (P := P) w (xs.map fun u => (u.toNat : Int)) a .empty (fun j x hj => by
       have hj' : (U8 xs)[j]? = some (.int .u8 x) := by
         rw [List.getElem?_map] at hj
         cases hx : xs[j]? with
         | none => rw [hx] at hj; cases hj
         | some u =>
           rw [hx] at hj
           injection hj with hj
           subst hj
           simp [U8, hx]
       obtain ⟨a', ha, h⟩ := hr j _ hj'
       cases ha
       exact h)
     rw [List.length_map, bytesOf_u8] at hl
     show (Extern.Bytes.loadBytes a xs.length .empty).run P w = _
     rw [hl]
     congr 1
     apply ByteArray.ext
     show (#[] : Array UInt8) ++ xs.toArray = xs.toArray
     simp
 change Sem.run P (do
   let q ← Extern.Bytes.bytesOf (.slice A xs.length c)
   let c' ← Extern.Bytes.asByte (.int .u8 (b.toNat : Int))
   pure (goInt (q.foldl (fun n x => if x == c' then n + 1 else n) (0 : Nat)))) w = _
 change Sem.run P (do
   let q ← Extern.Bytes.bytesOf (.string ⟨xs.toArray⟩)
   let c' ← Extern.Bytes.asByte (.int .u8 (b.toNat : Int))
   pure (goInt (q.foldl (fun n x => if x == c' then n + 1 else n) (0 : Nat)))) w = _ at hs
 have hb2 : (Extern.Bytes.bytesOf (.string ⟨xs.toArray⟩)).run P w = .ok ⟨xs.toArray⟩ w := rfl
 rw [Sem.run_bind, hb2, Result.andThen_ok] at hs
 rw [Sem.run_bind, hb, Result.andThen_ok]
 exact hs

theorem exec_ext {f : Nat} {fn : Func} {tys : Array TypeId} {as : List Operand} {args : List Value} {o : Oper} {ρ : Operand → Value} {w w' : World} {v : Value} {e : Array Value → Sem Value} (hf : X.P.funcs[f]? = some fn) (hname : (fn.name == "runtime.NumGoroutine") = false) (hb : fn.body.isNone = true)
   (hn : Extern.findNext fn = none) (hex : Extern.find fn = some e) (hρ : ∀ x u, ev Γ x = some u → ρ x = u) (ha : evs Γ as = some args) (hr : (e (List.toArray args)).run X.P w = .ok v w') (ho : o.op = .call ⟨.value (.func f), List.toArray as, tys⟩) :
   (execOp ρ o).run X.P w = .ok (.value v) w' := by
 have hfv := hρ (.func f) (.func (.func f) #[] #[]) rfl
 have e1 := evs_eval hρ ha
 have e2 : (List.toArray as).map ρ = List.toArray args := by apply Array.ext'; simpa using e1
 have hc := run_callFunc_extern hf hname hb hn hex (List.toArray args) w
 rw [hr] at hc
 simp only [execOp, ho, resolve, hfv, Deferred.ofValue, invoke, Sem.run_bind, Sem.run_pure, Result.andThen_ok, e2]
 simpa using hc
/-- bytealg.Count of a byte. -/
theorem Ev.count8 {f c : Nat} {x y : Operand} {fn : Func} {tys : Array TypeId} {A : Option Addr} {xs : List UInt8} {b : UInt8} (hf : X.P.funcs[f]? = some fn) (hname : (fn.name == "runtime.NumGoroutine") = false) (hb : fn.body.isNone = true) (hn : Extern.findNext fn = none)
   (hex : Extern.find fn = some Extern.BytealgCount.count) (hx : ev Γ x = some (.slice A xs.length c)) (hr : Src R H A (U8 xs)) (hy : ev Γ y = some (.int .u8 (b.toNat : Int))) : Ev X β Γ R H (.call ⟨.value (.func f), #[x, y], tys⟩) (.int .i64 ((xs.count b : Nat) : Int)) := by
 intro ρ w hρ hw o ho
 exact exec_ext hf hname hb hn hex hρ (as := [x, y]) (by simp [evs, hx, hy]) (run_count8 w A c xs b (hr β w hw)) ho

/-! ### Rows of structs -/
theorem L.litS {d t e ty m sz : Nat} {pos : String} {af : Array Edge} {parts : Array (Nat × Operand)} {vs : List (Nat × Value)} {cs : List Value} {i ei : Ti} (ht : tlook t X.tab = some i) (hdesc : i.desc = .slice e) (he : tlook e X.tab = some ei) (hsz : ei.size = sz) (hx : evp Γ parts.toList = some vs)
   (hs : bfill (fun i => some (i * sz, sz)) ((List.range (m * sz)).map fun i => ei.zero.cells[i % ei.zero.cells.size]!) vs = some cs) (hl : cs.length = m * sz) (hpos : Nat.blt 0 (m * sz) = true) (hsmall : Nat.ble (m * sz) 1000 = true) (hm : Nat.ble m 1000 = true) (hd : Nat.blt d n = true)
   (k : ∀ A, L X β n ds ops Q rest ((d, .slice A m m) :: Γ) R (H ++ [Own e sz A m m cs])) : L X β n ds ops Q (⟨some d, .buildSlice t m parts, ty, pos, af, none⟩ :: rest) Γ R H := by
 have hm' : m ≤ 1000 := by simpa using hm
 have hsm : m * sz ≤ 1000 := by simpa using hsmall
 have hps : 0 < m * sz := by simpa using hpos
 refine L.mk hd e sz m cs (by unfold maxLen; omega) hl (fun A => .slice A m m) ?_ k
 intro ρ w hρ _ o ho
 obtain ⟨e1, _⟩ := X.ok _ _ ht
 rw [hdesc] at e1
 have hS := run_sizeOf' (P := X.P) w (X.ok _ _ he)
 obtain ⟨_, j, hj, q1, q2, q3⟩ := X.ok _ _ he
 have hz : (zeroValue e).run X.P w = .ok ei.zero w := by simp [zeroValue, typeInfo, hj, q3]
 have hbig : ¬ (m * sz > 2 ^ 24) := by omega
 have hz1 : ¬ (m * sz = 0) := by omega
 have hf : Instr.fill (fun i => some (i * sz, sz)) ((Array.range (m * sz)).map (ei.zero.cells[· % ei.zero.cells.size]!)) (vs.toArray.toList) = some (List.toArray cs) := by
   have e : (Array.range (m * sz)).map (ei.zero.cells[· % ei.zero.cells.size]!) = List.toArray ((List.range (m * sz)).map fun i => ei.zero.cells[i % ei.zero.cells.size]!) := by
     apply Array.ext'
     simp
   rw [e]
   exact bfill_ok _ _ _ hs
 have hp : (parts.map fun (i, x) => (i, ρ x)) = List.toArray vs := by
   apply Array.ext'
   rw [Array.toList_map]
   exact evp_eval hρ hx
 simp only [execOp, ho, Instr.buildSlice, Sem.run_bind, run_underlying e1, Result.andThen_ok, hS, hsz, if_neg hbig, if_neg hz1, hz, Sem.run_pure, hp, hf]
 simp [newRow]

/-! ### Closures that may panic -/
theorem L.callvE {d ty : Nat} {pos : String} {af : Array Edge} {f : Nat} {g : Operand} {as : List Operand} {tys : Array TypeId} {args all : List Value} {first cap : Array Value} {Rf Hf Hr : List Pr} {js js' : List Nat} {ch : List PanicEntry} {Φ : Value → List Pr → List Pr → Prop} {Ψ : List Pr → List Pr → Prop}
   (hfn : CtrE X f all Rf Hf (EndsBy ch Φ Ψ)) (hg : ev Γ g = some (.func (.func f) first cap)) (ha : evs Γ as = some args) (hall : first.toList ++ args ++ cap.toList = all) (hj : sel H js = Hf) (hj' : sel H js' = Hr) (hn : (js ++ js').Nodup) (hR : Hass R Hr Rf) (hd : Nat.blt d n = true)
   (k : ∀ v R' H', Φ v R' H' → L X β n ds ops Q rest ((d, v) :: Γ) R (H' ++ Hr)) (kp : ∀ R' H', Ψ R' H' → QE β n ds Q (.panic ch) Γ R (H' ++ Hr)) :
   L X β n ds ops Q (⟨some d, .call ⟨.value g, List.toArray as, tys⟩, ty, pos, af, none⟩ :: rest) Γ R H := by
 intro a w hf hs
 refine wpList_plain rfl fun K hK => ?_
 unfold Oper.wp
 rw [exec_callv hfn.1 hf.agree hg ha _ rfl, hall]
 refine (hfn.use hj hj' hn hR hs).mono ?_
 rintro e w' ⟨R', H', hΦ, hs'⟩
 cases e with
 | returned v => exact hK _ _ (k v R' H' hΦ _ _ (hf.put (by simpa [Nat.blt_eq] using hd) v) hs')
 | panicked c =>
   obtain ⟨rfl, hΨ⟩ := hΦ
   exact kp R' H' hΨ _ _ hf hs'
 | outgrown => exact hΦ.elim

theorem look_mem {s : Nat} {v : Value} : ∀ {Γ : Env}, look s Γ = some v → (s, v) ∈ Γ
 | [], h => by cases h
 | (t, u) :: Γ, h => by
   unfold look at h
   cases hs : Nat.beq s t with
   | true =>
     rw [hs] at h
     injection h with h
     subst h
     have := Nat.eq_of_beq_eq_true hs
     subst this
     exact List.mem_cons_self ..
   | false =>
     rw [hs] at h
     exact List.mem_cons_of_mem _ (look_mem h)
theorem Fr.of3 {T : Array Value} {i j k : Nat} {x y z : Value} (hs : T.size = n) (h1 : T[i]? = some x) (h2 : T[j]? = some y) (h3 : T[k]? = some z) : Fr n [] { tmps := T, defers := [] } [(i, x), (j, y), (k, z)] := by
 refine ⟨hs, rfl, fun s v h => ?_⟩
 have := look_mem h
 simp only [List.mem_cons, Prod.mk.injEq, List.not_mem_nil, or_false] at this
 rcases this with ⟨rfl, rfl⟩ | ⟨rfl, rfl⟩ | ⟨rfl, rfl⟩ <;> assumption
/-! ### A deferred closure over one cell, which lays false there if it recovers -/
def dfc (f : FuncId) (p : Value) : Deferred := { target := .fn (.func f) #[p], args := #[] }
structure RecC (P : Program) (f : FuncId) (e : TypeId) (v : Value) : Prop where
 fn : ∀ p w, (invoke (.fn (.func f) #[p]) #[]).run P w = .ok (.enter f #[p]) w
 idle : ∀ p w, CallsD P f #[p] .returning w fun e u' w' => e = .returned (.tuple #[]) ∧ u' = .returning ∧ Stp w w' (fun _ => False)
 caught : ∀ A w, (Own e 1 A 1 1 [.bool false]).p w → CallsD P f #[ptrOf A 0] (.panicking [{ v := v, recovered := false }]) w fun e u' w' => e = .returned (.tuple #[]) ∧ u' = .panicking [{ v := v, recovered := true }] ∧ Stp w w' (fun _ => False)
theorem QE.retC {fn : Func} {f : FuncId} {e : TypeId} {pv p : Value} {Φ : Value → List Pr → List Pr → Prop} {rs : List ResultVar} {vs : List Value} {js hs : List Nat} (hrec : RecC X.P f e pv) (hrs : fn.results = List.toArray rs) (hr : Ress X Γ R H rs vs) (hn : hs.Nodup)
   (hΦ : Φ (tup vs) (sel R js) (sel H hs)) : QE β n [dfc f p] (postD X β fn Φ) .ret Γ R H := by
 intro a w hf hsat
 show Leaves X.P fn a.tmps _ a.defers .returning w
 rw [hf.dfs]
 refine ⟨by simp, .func f, #[p], f, #[p], rfl, hrec.fn p w, ?_⟩
 intro c cs hc
 obtain ⟨e, u', w', fr, ⟨rfl, rfl, hst⟩, r⟩ := hrec.idle p w c cs hc
 replace hsat := hsat.same hst
 exact ⟨.returned (.tuple #[]), .returning, _, fr, ⟨tup vs, run_results hrs hf hsat hr, tup vs, _, _, hΦ, rfl, (hsat.selR js).sel hn⟩, r⟩
theorem QE.panC {fn : Func} {f : FuncId} {e : TypeId} {pv : Value} {A : Option Addr} {Φ : Value → List Pr → List Pr → Prop} {rs : List ResultVar} {vs : List Value} {js hs : List Nat} (j : Nat) (hj : H[j]? = some (Own e 1 A 1 1 [.bool false])) (hrec : RecC X.P f e pv) (hrs : fn.results = List.toArray rs)
   (hr : Ress X Γ R H rs vs) (hn : hs.Nodup) (hΦ : Φ (tup vs) (sel R js) (sel H hs)) : QE β n [dfc f (ptrOf A 0)] (postD X β fn Φ) (.panic [{ v := pv, recovered := false }]) Γ R H := by
 intro a w hf hsat
 show Leaves X.P fn a.tmps _ a.defers (.panicking [{ v := pv, recovered := false }]) w
 rw [hf.dfs]
 refine ⟨by simp, .func f, #[ptrOf A 0], f, #[ptrOf A 0], rfl, hrec.fn _ w, ?_⟩
 intro c cs hc
 obtain ⟨e, u', w', fr, ⟨rfl, rfl, hst⟩, r⟩ := hrec.caught A w (hsat.own j _ hj) c cs hc
 replace hsat := hsat.same hst
 exact ⟨.returned (.tuple #[]), (.panicking [{ v := pv, recovered := true }]), _, fr, ⟨tup vs, run_results hrs hf hsat hr, tup vs, _, _, hΦ, rfl, (hsat.selR js).sel hn⟩, r⟩
theorem L.deferC {ty f : Nat} {pos : String} {af : Array Edge} {tys : Array TypeId} {x : Operand} {p : Value} {rest : List Oper} (hx : ev Γ x = some (.func (.func f) #[] #[p])) (h : L X β n (dfc f p :: ds) ops Q rest Γ R H) : L X β n ds ops Q (⟨none, .defer ⟨.value x, #[], tys⟩, ty, pos, af, none⟩ :: rest) Γ R H := by
 intro a w hf hs
 refine wpList_plain rfl fun K hK => ?_
 unfold Oper.wp
 have e : (execOp a.eval ⟨none, .defer ⟨.value x, #[], tys⟩, ty, pos, af, none⟩).run X.P w = .ok (.defer (dfc f p)) w := by
   simp [execOp, resolve, hf.agree x _ hx, Deferred.ofValue, dfc]
 rw [e]
 refine hK _ _ (h _ _ ?_ hs)
 exact ⟨hf.size, by simp [Act.put, hf.dfs], fun s v hv => hf.vals s v hv⟩
theorem QE.someI {x : Exit} (j : Nat) {e sz m cc : Nat} {A : Option Addr} {xs : List Value} (hj : H[j]? = some (Own e sz A m cc xs)) (h : (0 < xs.length → A.isSome = true) → QE β n ds Q x Γ R H) : QE β n ds Q x Γ R H := by
 intro a w hf hs
 refine h (fun hp => ?_) a w hf hs
 obtain ⟨g, _, rfl, _⟩ := Own.form (hs.own j _ hj) hp
 rfl
/-- Owned rows have room for what they hold. -/
theorem Sat.kcaps {w : World} (h : Sat β w R H) {j e : Nat} {hs : List Hd} {ls : List (List UInt8)} (hj : H[j]? = some (OwnKids e hs (B8 ls))) : ∀ i, i < ls.length → (ls.getD i []).length ≤ (hs.getD i (none, 0)).2 := by
 intro i hi
 have hp := h.own j _ hj
 have hl : hs.length = ls.length := by have := hp.1; rwa [B8_len] at this
 have := (Own.cap (hp.2.1 i (hs.getD i (none, 0)) ((B8 ls).getD i []) (getD_some (by omega)) (getD_some (by rw [B8_len]; exact hi)))).1
 rwa [B8_get, U8_len] at this
theorem L.kcaps (j : Nat) {e : Nat} {hs : List Hd} {ls : List (List UInt8)} (hj : H[j]? = some (OwnKids e hs (B8 ls))) (k : (∀ i, i < ls.length → (ls.getD i []).length ≤ (hs.getD i (none, 0)).2) → L X β n ds ops Q rest Γ R H) : L X β n ds ops Q rest Γ R H := fun a w hf hs' => k (hs'.kcaps hj) a w hf hs'
theorem C.kcaps {c : Code} (j : Nat) {e : Nat} {hs : List Hd} {ls : List (List UInt8)} (hj : H[j]? = some (OwnKids e hs (B8 ls))) (k : (∀ i, i < ls.length → (ls.getD i []).length ≤ (hs.getD i (none, 0)).2) → C X β n ds Q c Γ R H) : C X β n ds Q c Γ R H := fun a w hf hs' => k (hs'.kcaps hj) a w hf hs'
theorem QE.kcaps {x : Exit} (j : Nat) {e : Nat} {hs : List Hd} {ls : List (List UInt8)} (hj : H[j]? = some (OwnKids e hs (B8 ls))) (k : (∀ i, i < ls.length → (ls.getD i []).length ≤ (hs.getD i (none, 0)).2) → QE β n ds Q x Γ R H) : QE β n ds Q x Γ R H := fun a w hf hs' => k (hs'.kcaps hj) a w hf hs'
/-- v.(T), with its Bool, where T is the type that v has. -/
theorem Ev.isT {t s : Nat} {x : Operand} {v : Value} {i : Ti} (ht : tlook t X.tab = some i) (hd : isIface i.desc = false) (hx : ev Γ x = some (.iface t v)) : Ev X β Γ R H (.typeAssert x s t true) (.tuple #[v, .bool true]) := by
 intro ρ w hρ hw o ho
 have hu := (X.ok _ _ ht).und
 cases hdesc : i.desc <;> rw [hdesc] at hd hu <;> first | (cases hd; done) | simp [execOp, ho, hρ _ _ hx, Instr.typeAssert, run_underlying hu]
/-- A store of nothing. -/
theorem L.store0 {t ty k j e m : Nat} {pos : String} {af : Array Edge} {x y : Operand} {i : Ti} {A : Option Addr} (ht : tlook t X.tab = some i) (hz : i.size = 0) (hx : ev Γ x = some (ptrOf A k)) (hy : ev Γ y = some (.agg #[])) (hj : H[j]? = some (Own e 0 A (m + 1) (m + 1) [])) (hh : L X β n ds ops Q rest Γ R H) :
   L X β n ds ops Q (⟨none, .store t x y, ty, pos, af, none⟩ :: rest) Γ R H := by
 intro a w hf hs
 refine wpList_plain rfl fun K hK => ?_
 have hown := hs.own j _ hj
 have hA : ∃ g, A = some ⟨g, 0, none⟩ := by
   rcases hown.2 with ⟨h, _⟩ | ⟨g, _, _, hv, _⟩
   · injection h with _ h2; omega
   · injection hv with h7; exact ⟨g, h7⟩
 obtain ⟨g, rfl⟩ := hA
 have hx' : a.eval x = .pointer (some ⟨g, k, none⟩) := by rw [hf.eval hx, ptrOf, Option.map_some, adz]
 have hS := run_sizeOf' (P := X.P) w (X.ok _ _ ht)
 unfold Oper.wp
 have hrun : (execOp a.eval ⟨none, .store t x y, ty, pos, af, none⟩).run X.P w = .ok .skip w := by
   simp [execOp, hx', hf.eval hy, Instr.storeAt, Instr.sureAddr, storeVar, Value.cells, hS, hz, storeCells]
 rw [hrun]
 exact hK _ _ (hh _ _ (hf.put_none _) hs)
end
end Go.Sl
