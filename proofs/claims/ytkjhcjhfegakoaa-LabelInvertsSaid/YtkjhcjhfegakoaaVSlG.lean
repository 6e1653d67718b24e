/-
  The small separation logic, eighth text: structs by value, bytes to numbers, copy, arrays in variables, owned things that are only read from now on.
-/
import Derived.Test.YtkjhcjhfegakoaaChecked
import Derived.KernelRfl
import Derived.Test.YtkjhcjhfegakoaaVSlF
section
namespace Go.Sl

section
variable {X : Cx} {β : Base} {n : Nat} {ds : List Deferred} {ops : Array Oper} {Q : Exit → Act → World → Prop} {rest : List Oper} {Γ : Env} {R H : List Pr}

theorem Ev.byteInt {s d : Nat} {x : Operand} {b : UInt8} {i j : Ti} (hs : tlook s X.tab = some i) (hd : tlook d X.tab = some j) (hj : j.desc = .int .i64) (hx : ev Γ x = some (.int .u8 (b.toNat : Int))) :
   Ev X β Γ R H (.convert s d x) (.int .i64 (b.toNat : Int)) := by
 have := u8_lt b
 exact Ev.toInt hs hd hj hx (by omega) (by omega)

theorem wrap_u8 (m : Int) : IntKind.u8.wrap m = m % 256 := by
 unfold IntKind.wrap
 simp [IntKind.bits, IntKind.signed]

theorem ofInt8 (a : UInt8) : BitVec.ofInt 8 (a.toNat : Int) = a.toBitVec := by
 have := u8_lt a
 apply BitVec.eq_of_toNat_eq
 rw [BitVec.ofInt_natCast, BitVec.toNat_ofNat]
 exact Nat.mod_eq_of_lt (by omega)
theorem wrap8 (x : BitVec 8) : IntKind.u8.wrap (x.toNat : Int) = (x.toNat : Int) := by
 have := x.isLt
 rw [wrap_u8]
 omega
theorem bop8_xor (a b : UInt8) : bop .xor .u8 (a.toNat : Int) (b.toNat : Int) = ((a ^^^ b).toNat : Int) := by
 show IntKind.u8.wrap ((BitVec.ofInt 8 (a.toNat : Int) ^^^ BitVec.ofInt 8 (b.toNat : Int)).toNat : Int) = _
 rw [ofInt8, ofInt8, wrap8]; rfl
section
variable {t ty : Nat} {x y : Operand} {a b : UInt8} (hx : ev Γ x = some (.int .u8 (a.toNat : Int))) (hy : ev Γ y = some (.int .u8 (b.toNat : Int)))
include hx hy
theorem Ev.xor8 : Ev X β Γ R H (.binOp .xor t x y ty) (.int .u8 ((a ^^^ b).toNat : Int)) := (Ev.pure (v := .int .u8 (bop .xor .u8 (a.toNat : Int) (b.toNat : Int))) (by simp [pev, hx, hy, pint])).cast (by rw [bop8_xor])
end

/-! ### Equality of Bools, with nil, of strings; strings of bytes -/
theorem Ev.neBool {t ty : Nat} {x y : Operand} {a b : Bool} {i : Ti} (ht : tlook t X.tab = some i) (hd : i.desc = .bool) (hx : ev Γ x = some (.bool a)) (hy : ev Γ y = some (.bool b)) : Ev X β Γ R H (.binOp .neq t x y ty) (.bool (!(a == b))) := by
 intro ρ w hρ hw o ho
 have e1 := (X.ok _ _ ht).und
 rw [hd] at e1
 have hg : (eqGuard .neq t x y (.bool a) (.bool b)).run X.P w = .ok () w := by unfold eqGuard; rfl
 simp [execOp, ho, hρ _ _ hx, hρ _ _ hy, hg, run_neq_bool w t a b e1]
theorem run_equalIn_nilS {P : Program} (w : World) (d : Nat) {t e : Nat} (A : Option Addr) (n c n' c' : Nat) (h : P.underlying t = some (.slice e)) : (Op.equalIn (d + 1) t (.slice A n c) (.slice none n' c')).run P w = .ok A.isNone w := by
 cases A <;> simp [Op.equalIn, run_underlying h]
/-- s == nil. -/
theorem Ev.eqNil {t ty e n c n' c' : Nat} {x y : Operand} {A : Option Addr} {i : Ti} (ht : tlook t X.tab = some i) (hd : i.desc = .slice e) (hx : ev Γ x = some (.slice A n c)) (hy : ev Γ y = some (.slice none n' c')) : Ev X β Γ R H (.binOp .eql t x y ty) (.bool A.isNone) := by
 intro ρ w hρ hw o ho
 have e1 := (X.ok _ _ ht).und
 rw [hd] at e1
 have hg : (eqGuard .eql t x y (.slice A n c) (.slice none n' c')).run X.P w = .ok () w := by unfold eqGuard; rfl
 have hr : (Op.equal t (.slice A n c) (.slice none n' c')).run X.P w = .ok A.isNone w := run_equalIn_nilS w 9999 A n c n' c' e1
 have hb : (binOp .eql t (.slice A n c) (.slice none n' c')).run X.P w = .ok (.bool A.isNone) w := by
   simp only [binOp]
   simp [hr]
 simp [execOp, ho, hρ _ _ hx, hρ _ _ hy, hg, hb]
/-! ### Struct and array values -/
def putCells (cs : List Value) (off : Nat) (vs : List Value) : List Value := cs.take off ++ vs ++ cs.drop (off + vs.length)

def bfill (place : Nat → Option (Nat × Nat)) (cells : List Value) : List (Nat × Value) → Option (List Value)
 | [] => some cells
 | (i, v) :: rest => match place i with
   | none => none
   | some (off, size) => match v with
     | .agg cs => if cs.toList.length = size then (if off + size ≤ cells.length then bfill place (putCells cells off cs.toList) rest else none) else none
     | u => if size = 1 then (if off + 1 ≤ cells.length then bfill place (cells.set off u) rest else none) else none

def evp (Γ : Env) : List (Nat × Operand) → Option (List (Nat × Value))
 | [] => some []
 | (i, x) :: xs => match ev Γ x, evp Γ xs with
   | some v, some vs => some ((i, v) :: vs)
   | _, _ => none

theorem evp_eval {ρ : Operand → Value} (h : ∀ x u, ev Γ x = some u → ρ x = u) : ∀ {xs : List (Nat × Operand)} {vs : List (Nat × Value)}, evp Γ xs = some vs → (xs.map fun (i, x) => (i, ρ x)) = vs
 | [], vs, e => by injection e
 | (i, x) :: xs, vs, e => by
   simp only [evp] at e
   split at e
   · rename_i v us h1 h2
     injection e with e
     subst e
     rw [List.map_cons, evp_eval h h2]
     simp only [h _ _ h1]
   · cases e

theorem fold_set : ∀ (vs : List Value) (cells : List Value) (off j : Nat), off + j + vs.length ≤ cells.length →
   ((vs.zipIdx j).foldl (fun (cs : Array Value) (p : Value × Nat) => cs.setIfInBounds (off + p.2) p.1) (List.toArray cells)) = List.toArray (putCells cells (off + j) vs)
 | [], cells, off, j, _ => by simp [putCells]
 | v :: vs, cells, off, j, h => by
   rw [List.zipIdx_cons, List.foldl_cons]
   have h' : off + (j + 1) + vs.length ≤ (cells.set (off + j) v).length := by simp at h ⊢; omega
   have := fold_set vs (cells.set (off + j) v) off (j + 1) h'
   rw [show (List.toArray cells).setIfInBounds (off + j) v = List.toArray (cells.set (off + j) v) from by apply Array.ext'; simp]
   rw [this]
   congr 1
   unfold putCells
   simp only [List.length_cons] at h
   apply List.ext_getElem?
   intro q
   simp only [List.getElem?_append, List.getElem?_take, List.getElem?_drop, List.length_append, List.length_take, List.length_set, List.length_cons, List.getElem?_set]
   have e1 : min (off + (j + 1)) cells.length = off + j + 1 := by omega
   have e2 : min (off + j) cells.length = off + j := by omega
   rw [e1, e2]
   by_cases c1 : q < off + j
   · have : off + j ≠ q := by omega
     simp [c1, this, show q < off + j + 1 + vs.length by omega, show q < off + j + 1 by omega, show q < off + j + (vs.length + 1) by omega, show q < off + (j + 1) by omega]
   · by_cases c2 : q = off + j
     · subst c2
       simp [show off + j < cells.length by omega, show off + j < off + (j + 1) by omega, show off + j < off + j + 1 + vs.length by omega]
     · have c3 : off + j ≠ q := fun h => c2 h.symm
       by_cases c4 : q < off + j + 1 + vs.length
       · simp [c1, c4, show ¬ q < off + j + 1 by omega, show q < off + j + (vs.length + 1) by omega]
         rw [show q - (off + j) = (q - (off + j + 1)) + 1 by omega, List.getElem?_cons_succ]
       · simp [c4, show ¬ q < off + j + (vs.length + 1) by omega, show off + j ≠ off + (j + 1) + vs.length + (q - (off + j + 1 + vs.length)) by omega]
         congr 1
         omega

theorem bfill_ok {place : Nat → Option (Nat × Nat)} : ∀ (ps : List (Nat × Value)) (cells out : List Value), bfill place cells ps = some out → Instr.fill place (List.toArray cells) ps = some (List.toArray out)
 | [], cells, out, h => by
   simp only [bfill, Option.some.injEq] at h
   subst h
   rfl
 | (i, v) :: rest, cells, out, h => by
   simp only [bfill] at h
   simp only [Instr.fill]
   cases hp : place i with
   | none => rw [hp] at h; cases h
   | some os =>
     obtain ⟨off, size⟩ := os
     rw [hp] at h
     simp only at h ⊢
     have one : ∀ u : Value, u.cells = #[u] → size = 1 → off + 1 ≤ cells.length → bfill place (cells.set off u) rest = some out →
         (if u.cells.size ≠ size || off + u.cells.size > (List.toArray cells).size then none else Instr.fill place (u.cells.zipIdx.foldl (fun cs (c, j) => cs.setIfInBounds (off + j) c) (List.toArray cells)) rest) = some (List.toArray out) := by
       intro u hu hs ho hf
       subst hs
       have ih := bfill_ok rest _ out hf
       simp only [hu]
       rw [if_neg (by simp; omega)]
       simpa using ih
     cases v with
     | agg cs =>
       simp only at h
       split at h
       · rename_i hl
         split at h
         · rename_i ho
           have ih := bfill_ok rest _ out h
           have hcs : cs.size = size := by simpa using hl
           have hvc : (Value.agg cs).cells = cs := rfl
           simp only [hvc]
           rw [if_neg (by simp [hcs]; omega)]
           rw [← ih]
           congr 1
           have := fold_set cs.toList cells off 0 (by simp [hcs]; omega)
           simp only [Nat.add_zero] at this
           rw [← this, ← Array.foldl_toList]
           simp
         · cases h
       · cases h
     | _ =>
       simp only at h
       split at h
       · rename_i hs
         split at h
         · rename_i ho
           exact one _ rfl hs ho h
         · cases h
       · cases h

def places (T : List (Nat × Ti)) : List Field → Option (List (Nat × Nat))
 | [] => some []
 | f :: fs => match tlook f.type T, places T fs with
   | some i, some ps => some ((f.offset, i.size) :: ps)
   | _, _ => none

theorem places_ok : ∀ (fs : List Field) (ps : List (Nat × Nat)), places X.tab fs = some ps → fs.mapM (fun f => (X.P.info? f.type).map fun i => (f.offset, i.size)) = some ps
 | [], ps, h => by injection h with h; subst h; rfl
 | f :: fs, ps, h => by
   simp only [places] at h
   split at h
   · rename_i i qs h1 h2
     injection h with h
     subst h
     obtain ⟨_, j, hj, g1, _⟩ := X.ok _ _ h1
     rw [List.mapM_cons, hj, places_ok fs qs h2]
     simp [g1]
   · cases h

/-- T{..}: a struct's value. -/
theorem Ev.build {t : Nat} {parts : Array (Nat × Operand)} {i : Ti} {fs : Array Field} {pl : List (Nat × Nat)} {zs cs : List Value} {ps : List (Nat × Operand)} {vs : List (Nat × Value)} (ht : tlook t X.tab = some i) (hd : i.desc = .struct fs)
   (hpl : places X.tab fs.toList = some pl) (hz : i.zero.cells = List.toArray zs) (hps : parts = List.toArray ps) (hv : evp Γ ps = some vs) (hb : bfill (pl[·]?) zs vs = some cs) : Ev X β Γ R H (.build t parts) (.agg (List.toArray cs)) := by
 intro ρ w hρ hs o ho
 obtain ⟨e1, j, hj, _, _, h3⟩ := X.ok _ _ ht
 rw [hd] at e1
 have hbuilt : X.P.built t (parts.map fun (i, x) => (i, ρ x)).toList = some (List.toArray cs) := by
   unfold Program.built
   simp only [hj, e1, h3]
   rw [places_ok fs.toList pl hpl]
   simp only
   subst hps
   have hp2 : ((List.toArray ps).map fun (i, x) => (i, ρ x)).toList = vs := by simpa using evp_eval hρ hv
   rw [hp2, hz]
   simpa using bfill_ok vs zs cs hb
 have := run_build (P := X.P) w t _ _ hbuilt
 simp only [execOp, ho, Sem.run_bind, this, Result.andThen_ok, Sem.run_pure]

/-- [n]T{..}: an array's value. -/
theorem Ev.buildArr {t : Nat} {parts : Array (Nat × Operand)} {i ei : Ti} {m e : Nat} {zs cs : List Value} {ps : List (Nat × Operand)} {vs : List (Nat × Value)} (ht : tlook t X.tab = some i) (hd : i.desc = .array m e) (he : tlook e X.tab = some ei)
   (hz : i.zero.cells = List.toArray zs) (hps : parts = List.toArray ps) (hv : evp Γ ps = some vs) (hb : bfill (fun q => some (q * ei.size, ei.size)) zs vs = some cs) : Ev X β Γ R H (.build t parts) (.agg (List.toArray cs)) := by
 intro ρ w hρ hs o ho
 obtain ⟨e1, j, hj, _, _, h3⟩ := X.ok _ _ ht
 rw [hd] at e1
 obtain ⟨_, je, hje, g1, _⟩ := X.ok _ _ he
 have hbuilt : X.P.built t (parts.map fun (i, x) => (i, ρ x)).toList = some (List.toArray cs) := by
   unfold Program.built
   simp only [hj, e1, h3, hje]
   subst hps
   have hp2 : ((List.toArray ps).map fun (i, x) => (i, ρ x)).toList = vs := by simpa using evp_eval hρ hv
   rw [hp2, hz, g1]
   exact bfill_ok vs zs cs hb
 have := run_build (P := X.P) w t _ _ hbuilt
 simp only [execOp, ho, Sem.run_bind, this, Result.andThen_ok, Sem.run_pure]

/-! ### What is owned is only read from now on -/
theorem Sat.freeze {w : World} (h : Sat β w R H) {j : Nat} {e sz m c : Nat} {A : Option Addr} {xs : List Value} (hj : H[j]? = some (Own e sz A m c xs)) {js : List Nat} (hn : js.Nodup) (hjj : js.contains j = false) : Sat β w (Rd A xs :: R) (Sl.sel H js) := by
 have hnj : j ∉ js := by simpa using hjj
 refine h.put (Stp.refl w fun _ => False) (fun _ hk => hk.elim) _ _ ?_ ?_ ?_ ?_
 · intro r hr
   rcases List.mem_cons.1 hr with rfl | hr
   · exact .inr ⟨fun q u hu => by
       obtain ⟨g, hA, hc, _⟩ := Own.cell (h.own j _ hj) hu
       exact ⟨_, hA, by rw [adz]; exact hc⟩, fun k hk => ⟨(h.ofp j _ hj k hk.2).1, .inr (.inl ⟨j, _, hj, hk.2⟩)⟩⟩
   · exact .inl hr
 · intro i d hd
   obtain ⟨q, _, hq⟩ := sel_mem (List.mem_of_getElem? hd)
   exact ⟨h.own q d hq, fun k hk => ⟨(h.ofp q d hq k hk).1, .inr ⟨q, d, hq, hk⟩⟩⟩
 · intro i i' d d' hd hd' hne k hk hk'
   obtain ⟨p, q, _, _, hpq, hp, hq⟩ := sel_inj hn i i' d d' hd hd' hne
   exact h.dis p q d d' hp hq hpq k hk hk'
 · intro r hr i d hd k hk hk'
   obtain ⟨q, hq, hqd⟩ := sel_mem (List.mem_of_getElem? hd)
   rcases List.mem_cons.1 hr with rfl | hr
   · exact h.dis j q _ d hj hqd (fun e => hnj (e ▸ hq)) k hk.2 hk'
   · exact h.sep r hr q d hqd k hk hk'

theorem L.freeze (j : Nat) {e sz m c : Nat} {A : Option Addr} {xs : List Value} (hj : H[j]? = some (Own e sz A m c xs)) (js : List Nat) (hn : js.Nodup) (hjj : js.contains j = false) (h : L X β n ds ops Q rest Γ (Rd A xs :: R) (sel H js)) : L X β n ds ops Q rest Γ R H :=
 fun a w hf hs => h a w hf (hs.freeze hj hn hjj)
theorem QE.freeze {x : Exit} (j : Nat) {e sz m c : Nat} {A : Option Addr} {xs : List Value} (hj : H[j]? = some (Own e sz A m c xs)) (js : List Nat) (hn : js.Nodup) (hjj : js.contains j = false) (h : QE β n ds Q x Γ (Rd A xs :: R) (sel H js)) : QE β n ds Q x Γ R H :=
 fun a w hf hs => h a w hf (hs.freeze hj hn hjj)
theorem C.freeze {x : Code} (j : Nat) {e sz m c : Nat} {A : Option Addr} {xs : List Value} (hj : H[j]? = some (Own e sz A m c xs)) (js : List Nat) (hn : js.Nodup) (hjj : js.contains j = false) (h : C X β n ds Q x Γ (Rd A xs :: R) (sel H js)) : C X β n ds Q x Γ R H :=
 fun a w hf hs => h a w hf (hs.freeze hj hn hjj)

/-- More read facts, out of what is there. -/
theorem Sat.more {w : World} (h : Sat β w R H) {r : Pr} (hr : Has R [] r) : Sat β w (r :: R) H := by
 refine h.reads _ fun x hx => ?_
 rcases List.mem_cons.1 hx with rfl | hx
 · refine .inr ⟨hr.1 β w (by have := h.sel (js := []) (by simp); exact this), fun k hk => ?_⟩
   rcases hr.2 k hk with y | ⟨i, c, hc, _⟩
   · exact y
   · simp at hc
 · exact .inl hx
theorem L.more {r : Pr} (hr : Has R [] r) (h : L X β n ds ops Q rest Γ (r :: R) H) : L X β n ds ops Q rest Γ R H := fun a w hf hs => h a w hf (hs.more hr)
theorem QE.more {x : Exit} {r : Pr} (hr : Has R [] r) (h : QE β n ds Q x Γ (r :: R) H) : QE β n ds Q x Γ R H := fun a w hf hs => h a w hf (hs.more hr)
theorem C.more {x : Code} {r : Pr} (hr : Has R [] r) (h : C X β n ds Q x Γ (r :: R) H) : C X β n ds Q x Γ R H := fun a w hf hs => h a w hf (hs.more hr)

/-! ### copy -/
/-- copy(s, src), s owned from its beginning on; elements of one cell. -/
theorem L.copy {d t t2 e ty j m c p q o : Nat} {pos : String} {af : Array Edge} {x y : Operand} {A B : Option Addr} {xs ys : List Value} {i ei : Ti} (ht : tlook t X.tab = some i) (hdesc : i.desc = .slice e) (he : tlook e X.tab = some ei) (hsz : ei.size = 1)
   {D : Option Addr} {dn dc : Nat} (hx : ev Γ x = some (.slice D dn dc)) (hD : ∀ g, A = some ⟨g, 0, none⟩ → 0 < ys.length → D = some ⟨g, o, none⟩)
   (hy : ev Γ y = some (.slice B p q)) (hj : H[j]? = some (Own e 1 A m c xs)) (hs : Src R H B ys) (hl : ys.length = min p dn) (h1 : ∀ v ∈ ys, v.oneCell' = true) (hfit : o + ys.length ≤ xs.length) (hd : Nat.blt d n = true)
   (hh : L X β n ds ops Q rest ((d, .int .i64 (ys.length : Int)) :: Γ) R (H.set j (Own e 1 A m c (xs.take o ++ ys ++ xs.drop (o + ys.length))))) :
   L X β n ds ops Q (⟨some d, .call ⟨.builtin .copy, #[x, y], #[t, t2]⟩, ty, pos, af, none⟩ :: rest) Γ R H := by
 intro a w hf hsat
 refine wpList_plain rfl fun K hK => ?_
 obtain ⟨e1, _⟩ := X.ok _ _ ht
 rw [hdesc] at e1
 obtain ⟨_, jf, hjf, g1, g2, g3⟩ := X.ok _ _ he
 have hown := hsat.own j _ hj
 have hlen := Own.len hown
 rcases Nat.eq_zero_or_pos ys.length with h0 | h0
 · -- nothing is copied
   have hy0 : ys = [] := List.eq_nil_of_length_eq_zero h0
   subst hy0
   have hmin : Nat.min p dn = 0 := (show min p dn = 0 by simpa using hl.symm)
   have hrun : (Builtin.copy_ #[t, t2] ty #[.slice D dn dc, .slice B p q]).run X.P w = .ok (goInt 0) w := by
     cases D with
     | none => cases B <;> simp [Builtin.copy_, run_underlying e1, Builtin.lenOf, Builtin.firstCells, sizeOf, typeInfo, hjf, hmin, loadCells, loadCellsFrom]
     | some db => cases B <;> simp [Builtin.copy_, run_underlying e1, Builtin.lenOf, Builtin.firstCells, sizeOf, typeInfo, hjf, hmin, loadCells, loadCellsFrom, storeCells]
   have hrun' : (execOp a.eval ⟨some d, .call ⟨.builtin .copy, #[x, y], #[t, t2]⟩, ty, pos, af, none⟩).run X.P w = .ok (.value (goInt 0)) w := by
     simp only [execOp, resolve, invoke, builtin, Sem.run_bind, Sem.run_pure, Result.andThen_ok, List.map_toArray, List.map_cons, List.map_nil, hf.eval hx, hf.eval hy, hrun]
   unfold Oper.wp
   rw [hrun']
   refine hK _ _ (hh _ _ (hf.put (by simpa [Nat.blt_eq] using hd) _) ?_)
   have hsame : H.set j (Own e 1 A m c (xs.take o ++ [] ++ xs.drop (o + ([] : List Value).length))) = H := by
     simp only [List.append_nil, List.length_nil, Nat.add_zero, List.take_append_drop]
     apply List.ext_getElem?
     intro k
     rw [List.getElem?_set]
     split
     · rename_i hk; subst hk; rw [hj]; simp [(List.getElem?_eq_some_iff.1 hj).1]
     · rfl
   rw [hsame]
   exact hsat
 · obtain ⟨g, cur, rfl, hg, hmc, hcm, hcs, htake⟩ := Own.form hown (by omega)
   rw [Nat.mul_one] at hlen hcs htake
   have hDe := hD g rfl h0
   subst hDe
   obtain ⟨u0, hu0⟩ : ∃ u, ys[0]? = some u := ⟨_, List.getElem?_eq_getElem h0⟩
   obtain ⟨b, rfl, _⟩ := hs β w hsat 0 u0 hu0
   have hle : m ≤ cur.size := by omega
   have hrun := run_copy_row (P := X.P) w t t2 ty e g o dn dc b p q cur e ys e1 (by rw [hjf]; simp [g1, hsz]) hg hl (fun r u hu => by
     obtain ⟨b', hb', hc⟩ := hs β w hsat r u hu
     injection hb' with hb'
     subst hb'
     exact hc) (by omega) h1
   have hrun' : (execOp a.eval ⟨some d, .call ⟨.builtin .copy, #[x, y], #[t, t2]⟩, ty, pos, af, none⟩).run X.P w = .ok (.value (goInt ys.length)) (w.setRow g (cur.toList.take o ++ ys ++ cur.toList.drop (o + ys.length)).toArray) := by
     simp only [execOp, resolve, invoke, builtin, Sem.run_bind, Sem.run_pure, Result.andThen_ok, List.map_toArray, List.map_cons, List.map_nil, hf.eval hx, hf.eval hy, hrun]
   unfold Oper.wp
   rw [hrun']
   refine hK _ _ (hh _ _ (hf.put (by simpa [Nat.blt_eq] using hd) _) ?_)
   refine hsat.upd (w' := w.setRow g (cur.toList.take o ++ ys ++ cur.toList.drop (o + ys.length)).toArray) (m := fun b => b = g) hj ⟨rfl, rfl, rfl, by simp, fun b _ hb => setRow_other w g b _ hb⟩ (fun b hb _ => ⟨_, rfl, hb.symm⟩) (Own e 1 (some ⟨g, 0, none⟩) m c (xs.take o ++ ys ++ xs.drop (o + ys.length))) ?_ (fun b hb => ⟨?_, .inr hb⟩)
   · refine ⟨?_, .inr ⟨g, c, _, rfl, Nat.zero_le _, setRow_heap w g cur _ e _ hg, hmc, hcm, ?_, ?_⟩⟩
     · simp; omega
     · simp; omega
     · rw [← htake, Nat.mul_one]
       apply List.ext_getElem?
       intro q
       have hcl : cur.toList.length = cur.size := by simp
       simp only [List.getElem?_take, List.getElem?_append, List.length_take, List.length_append, List.getElem?_drop, hcl]
       have e1 : min o cur.size = o := by omega
       have e2 : min o (min m cur.size) = o := by omega
       simp only [e1, e2]
       by_cases c1 : q < m
       · by_cases c2 : q < o
         · simp [c1, c2, show q < o + ys.length by omega]
         · by_cases c3 : q < o + ys.length
           · simp [c1, c2, c3]
           · simp [c1, c3, show o + ys.length + (q - (o + ys.length)) < m by omega]
       · have c2 : ¬ q < o := by omega
         have c3 : ¬ q < o + ys.length := by omega
         simp [c1, c3, show ¬ o + ys.length + (q - (o + ys.length)) < m by omega]
   · show b < (w.setRow g _).heap.size
     rw [setRow_size]
     exact (hsat.ofp j _ hj b hb).1

end
end Go.Sl
end
/-
  The small separation logic, ninth text: slices of slices.
-/
section
namespace Go.Sl

abbrev Hd := Option Addr × Nat

def hblk (h : Hd) (k : Nat) : Prop := ∃ a, h.1 = some a ∧ a.block = k

/-- Each inner slice reads as its list. -/
def KidsR (hs : List Hd) (vss : List (List Value)) : Pr where
 fp k := ∃ (i : Nat) (h : Hd) (v : List Value), hs[i]? = some h ∧ vss[i]? = some v ∧ (Rd h.1 v).fp k
 p w := ∀ (i : Nat) (h : Hd) (v : List Value), hs[i]? = some h → vss[i]? = some v → (Rd h.1 v).p w
 st := by
   intro w w' hk hp i h v hh hv
   exact (Rd h.1 v).st w w' (fun k hkk => hk k ⟨i, h, v, hh, hv, hkk⟩) (hp i h v hh hv)

/-- Each inner slice is owned; they lie apart. -/
def OwnKids (e : TypeId) (hs : List Hd) (vss : List (List Value)) : Pr where
 fp k := ∃ (i : Nat) (h : Hd), hs[i]? = some h ∧ hblk h k
 p w := hs.length = vss.length ∧ (∀ (i : Nat) (h : Hd) (v : List Value), hs[i]? = some h → vss[i]? = some v → (Own e 1 h.1 v.length h.2 v).p w) ∧
   (∀ (i j : Nat) (g h : Hd), hs[i]? = some g → hs[j]? = some h → i ≠ j → ∀ k, hblk g k → ¬ hblk h k)
 st := by
   intro w w' hk hp
   refine ⟨hp.1, fun i h v hh hv => (Own e 1 h.1 v.length h.2 v).st w w' (fun k hkk => hk k ⟨i, h, hh, hkk⟩) (hp.2.1 i h v hh hv), hp.2.2⟩

section
variable {X : Cx} {β : Base} {n : Nat} {ds : List Deferred} {ops : Array Oper} {Q : Exit → Act → World → Prop} {rest : List Oper} {Γ : Env} {R H : List Pr}

theorem getD_some {α : Type} {l : List α} {i : Nat} {d : α} (h : i < l.length) : l[i]? = some (l.getD i d) := by simp [h]

end

/-! ### Lists of bytes -/
end Go.Sl
end
/-
  The table of the types of this translation, each row a closed fact (written by a program of mine).
-/
section
namespace Go.Proofs.Ytkjhcjhfegakoaa
open Go.Sl

def ti2 : Ti := ⟨.int .i64, 1, 8, .int .i64 0⟩
def ti3 : Ti := ⟨.int .i64, 1, 8, .int .i64 0⟩
def ti4 : Ti := ⟨.bool, 1, 1, .bool false⟩
def ti5 : Ti := ⟨.int .u8, 1, 1, .int .u8 0⟩
def ti6 : Ti := ⟨.int .u8, 1, 1, .int .u8 0⟩
def ti9 : Ti := ⟨.string, 1, 16, .string ByteArray.empty⟩
def ti10 : Ti := ⟨.string, 1, 16, .string ByteArray.empty⟩
def ti11 : Ti := ⟨.string, 1, 16, .string ByteArray.empty⟩
def ti12 : Ti := ⟨.int .u64, 1, 8, .int .u64 0⟩
def ti15 : Ti := ⟨.pointer 140, 1, 8, .pointer none⟩
def ti16 : Ti := ⟨.pointer 143, 1, 8, .pointer none⟩
def ti17 : Ti := ⟨.pointer 152, 1, 8, .pointer none⟩
def ti20 : Ti := ⟨.interface #[], 1, 16, .nilIface⟩
def ti21 : Ti := ⟨.int .i32, 1, 4, .int .i32 0⟩
def ti22 : Ti := ⟨.slice 69, 1, 24, .slice none 0 0⟩
def ti23 : Ti := ⟨.int .i8, 1, 1, .int .i8 0⟩
def ti24 : Ti := ⟨.array 2 23, 2, 2, .agg #[.int .i8 0, .int .i8 0]⟩
def ti26 : Ti := ⟨.slice 5, 1, 24, .slice none 0 0⟩
def ti28 : Ti := ⟨.slice 53, 1, 24, .slice none 0 0⟩
def ti29 : Ti := ⟨.slice 4, 1, 24, .slice none 0 0⟩
def ti30 : Ti := ⟨.slice 3, 1, 24, .slice none 0 0⟩
def ti31 : Ti := ⟨.struct #[⟨ "Words", 28, 0, false, "", "", 0⟩, ⟨ "Marks", 29, 1, false, "", "", 24⟩, ⟨ "Labels", 30, 2, false, "", "", 48⟩], 3, 72, .agg #[.slice none 0 0, .slice none 0 0, .slice none 0 0]⟩
def ti32 : Ti := ⟨.struct #[⟨ "Words", 28, 0, false, "", "", 0⟩, ⟨ "Marks", 29, 1, false, "", "", 24⟩, ⟨ "Labels", 30, 2, false, "", "", 48⟩], 3, 72, .agg #[.slice none 0 0, .slice none 0 0, .slice none 0 0]⟩
def ti33 : Ti := ⟨.int .i64, 1, 8, .int .i64 0⟩
def ti39 : Ti := ⟨.struct #[⟨ "At", 3, 0, false, "", "", 0⟩, ⟨ "By", 3, 1, false, "", "", 8⟩], 2, 16, .agg #[.int .i64 0, .int .i64 0]⟩
def ti40 : Ti := ⟨.struct #[⟨ "At", 3, 0, false, "", "", 0⟩, ⟨ "By", 3, 1, false, "", "", 8⟩], 2, 16, .agg #[.int .i64 0, .int .i64 0]⟩
def ti50 : Ti := ⟨.struct #[⟨ "Op", 3, 0, false, "", "", 0⟩, ⟨ "A", 3, 1, false, "", "", 8⟩, ⟨ "B", 3, 2, false, "", "", 16⟩, ⟨ "C", 3, 3, false, "", "", 24⟩, ⟨ "N", 3, 4, false, "", "", 32⟩], 5, 40, .agg #[.int .i64 0, .int .i64 0, .int .i64 0, .int .i64 0, .int .i64 0]⟩
def ti51 : Ti := ⟨.struct #[⟨ "Op", 3, 0, false, "", "", 0⟩, ⟨ "A", 3, 1, false, "", "", 8⟩, ⟨ "B", 3, 2, false, "", "", 16⟩, ⟨ "C", 3, 3, false, "", "", 24⟩, ⟨ "N", 3, 4, false, "", "", 32⟩], 5, 40, .agg #[.int .i64 0, .int .i64 0, .int .i64 0, .int .i64 0, .int .i64 0]⟩
def ti53 : Ti := ⟨.int .u32, 1, 4, .int .u32 0⟩
def ti54 : Ti := ⟨.int .u64, 1, 8, .int .u64 0⟩
def ti56 : Ti := ⟨.int .u16, 1, 2, .int .u16 0⟩
def ti57 : Ti := ⟨.array 4 56, 4, 8, .agg #[.int .u16 0, .int .u16 0, .int .u16 0, .int .u16 0]⟩
def ti58 : Ti := ⟨.array 2 32, 6, 144, .agg #[.slice none 0 0, .slice none 0 0, .slice none 0 0, .slice none 0 0, .slice none 0 0, .slice none 0 0]⟩
def ti60 : Ti := ⟨.array 3 5, 3, 3, .agg #[.int .u8 0, .int .u8 0, .int .u8 0]⟩
def ti61 : Ti := ⟨.array 2 26, 2, 48, .agg #[.slice none 0 0, .slice none 0 0]⟩
def ti63 : Ti := ⟨.array 2 5, 2, 2, .agg #[.int .u8 0, .int .u8 0]⟩
def ti68 : Ti := ⟨.array 4 5, 4, 4, .agg #[.int .u8 0, .int .u8 0, .int .u8 0, .int .u8 0]⟩
def ti69 : Ti := ⟨.array 4 5, 4, 4, .agg #[.int .u8 0, .int .u8 0, .int .u8 0, .int .u8 0]⟩
def ti79 : Ti := ⟨.func #[3] #[53] false, 1, 8, .nilFunc⟩
def ti93 : Ti := ⟨.int .u32, 1, 4, .int .u32 0⟩
def ti94 : Ti := ⟨.struct #[⟨ "name", 9, 0, false, "", "inlay/inst", 0⟩, ⟨ "registers", 3, 1, false, "", "inlay/inst", 16⟩, ⟨ "bits", 3, 2, false, "", "inlay/inst", 24⟩, ⟨ "sign", 4, 3, false, "", "inlay/inst", 32⟩, ⟨ "target", 4, 4, false, "", "inlay/inst", 33⟩], 5, 40, .agg #[.string ByteArray.empty, .int .i64 0, .int .i64 0, .bool false, .bool false]⟩
def ti95 : Ti := ⟨.struct #[⟨ "name", 9, 0, false, "", "inlay/inst", 0⟩, ⟨ "registers", 3, 1, false, "", "inlay/inst", 16⟩, ⟨ "bits", 3, 2, false, "", "inlay/inst", 24⟩, ⟨ "sign", 4, 3, false, "", "inlay/inst", 32⟩, ⟨ "target", 4, 4, false, "", "inlay/inst", 33⟩], 5, 40, .agg #[.string ByteArray.empty, .int .i64 0, .int .i64 0, .bool false, .bool false]⟩
def ti96 : Ti := ⟨.array 9 95, 45, 360, .agg #[.string ByteArray.empty, .int .i64 0, .int .i64 0, .bool false, .bool false, .string ByteArray.empty, .int .i64 0, .int .i64 0, .bool false, .bool false, .string ByteArray.empty, .int .i64 0, .int .i64 0, .bool false, .bool false, .string ByteArray.empty, .int .i64 0, .int .i64 0, .bool false, .bool false, .string ByteArray.empty, .int .i64 0, .int .i64 0, .bool false, .bool false, .string ByteArray.empty, .int .i64 0, .int .i64 0, .bool false, .bool false, .string ByteArray.empty, .int .i64 0, .int .i64 0, .bool false, .bool false, .string ByteArray.empty, .int .i64 0, .int .i64 0, .bool false, .bool false, .string ByteArray.empty, .int .i64 0, .int .i64 0, .bool false, .bool false]⟩
def ti98 : Ti := ⟨.pointer 3, 1, 8, .pointer none⟩
def ti99 : Ti := ⟨.array 3 98, 3, 24, .agg #[.pointer none, .pointer none, .pointer none]⟩
def ti114 : Ti := ⟨.array 3 3, 3, 24, .agg #[.int .i64 0, .int .i64 0, .int .i64 0]⟩
def ti119 : Ti := ⟨.int .i64, 1, 8, .int .i64 0⟩
def ti127 : Ti := ⟨.int .u64, 1, 8, .int .u64 0⟩
def ti128 : Ti := ⟨.int .u64, 1, 8, .int .u64 0⟩
def ti135 : Ti := ⟨.pointer 128, 1, 8, .pointer none⟩
def ti141 : Ti := ⟨.array 0 16, 0, 0, .agg #[]⟩
def ti145 : Ti := ⟨.int .u8, 1, 1, .int .u8 0⟩
def ti146 : Ti := ⟨.int .u8, 1, 1, .int .u8 0⟩
def ti148 : Ti := ⟨.pointer 5, 1, 8, .pointer none⟩
def ti149 : Ti := ⟨.int .i32, 1, 4, .int .i32 0⟩
def ti150 : Ti := ⟨.int .i32, 1, 4, .int .i32 0⟩
def ti151 : Ti := ⟨.struct #[⟨ "Size_", 12, 0, false, "", "", 0⟩, ⟨ "PtrBytes", 12, 1, false, "", "", 8⟩, ⟨ "Hash", 53, 2, false, "", "", 16⟩, ⟨ "TFlag", 145, 3, false, "", "", 20⟩, ⟨ "Align_", 5, 4, false, "", "", 21⟩, ⟨ "FieldAlign_", 5, 5, false, "", "", 22⟩, ⟨ "Kind_", 146, 6, false, "", "", 23⟩, ⟨ "Equal", 147, 7, false, "", "", 24⟩, ⟨ "GCData", 148, 8, false, "", "", 32⟩, ⟨ "Str", 149, 9, false, "", "", 40⟩, ⟨ "PtrToThis", 150, 10, false, "", "", 44⟩], 11, 48, .agg #[.int .u64 0, .int .u64 0, .int .u32 0, .int .u8 0, .int .u8 0, .int .u8 0, .int .u8 0, .nilFunc, .pointer none, .int .i32 0, .int .i32 0]⟩
def ti152 : Ti := ⟨.struct #[⟨ "Size_", 12, 0, false, "", "", 0⟩, ⟨ "PtrBytes", 12, 1, false, "", "", 8⟩, ⟨ "Hash", 53, 2, false, "", "", 16⟩, ⟨ "TFlag", 145, 3, false, "", "", 20⟩, ⟨ "Align_", 5, 4, false, "", "", 21⟩, ⟨ "FieldAlign_", 5, 5, false, "", "", 22⟩, ⟨ "Kind_", 146, 6, false, "", "", 23⟩, ⟨ "Equal", 147, 7, false, "", "", 24⟩, ⟨ "GCData", 148, 8, false, "", "", 32⟩, ⟨ "Str", 149, 9, false, "", "", 40⟩, ⟨ "PtrToThis", 150, 10, false, "", "", 44⟩], 11, 48, .agg #[.int .u64 0, .int .u64 0, .int .u32 0, .int .u8 0, .int .u8 0, .int .u8 0, .int .u8 0, .nilFunc, .pointer none, .int .i32 0, .int .i32 0]⟩
theorem tiok2 : TiOk Try.prog 2 ti2 := ⟨by kernel_rfl, Try.t2, by kernel_rfl, by kernel_rfl, by kernel_rfl, by kernel_rfl⟩
theorem tiok3 : TiOk Try.prog 3 ti3 := ⟨by kernel_rfl, Try.t3, by kernel_rfl, by kernel_rfl, by kernel_rfl, by kernel_rfl⟩
theorem tiok4 : TiOk Try.prog 4 ti4 := ⟨by kernel_rfl, Try.t4, by kernel_rfl, by kernel_rfl, by kernel_rfl, by kernel_rfl⟩
theorem tiok5 : TiOk Try.prog 5 ti5 := ⟨by kernel_rfl, Try.t5, by kernel_rfl, by kernel_rfl, by kernel_rfl, by kernel_rfl⟩
theorem tiok6 : TiOk Try.prog 6 ti6 := ⟨by kernel_rfl, Try.t6, by kernel_rfl, by kernel_rfl, by kernel_rfl, by kernel_rfl⟩
theorem tiok9 : TiOk Try.prog 9 ti9 := ⟨by kernel_rfl, Try.t9, by kernel_rfl, by kernel_rfl, by kernel_rfl, by kernel_rfl⟩
theorem tiok10 : TiOk Try.prog 10 ti10 := ⟨by kernel_rfl, Try.t10, by kernel_rfl, by kernel_rfl, by kernel_rfl, by kernel_rfl⟩
theorem tiok11 : TiOk Try.prog 11 ti11 := ⟨by kernel_rfl, Try.t11, by kernel_rfl, by kernel_rfl, by kernel_rfl, by kernel_rfl⟩
theorem tiok12 : TiOk Try.prog 12 ti12 := ⟨by kernel_rfl, Try.t12, by kernel_rfl, by kernel_rfl, by kernel_rfl, by kernel_rfl⟩
theorem tiok15 : TiOk Try.prog 15 ti15 := ⟨by kernel_rfl, Try.t15, by kernel_rfl, by kernel_rfl, by kernel_rfl, by kernel_rfl⟩
theorem tiok16 : TiOk Try.prog 16 ti16 := ⟨by kernel_rfl, Try.t16, by kernel_rfl, by kernel_rfl, by kernel_rfl, by kernel_rfl⟩
theorem tiok17 : TiOk Try.prog 17 ti17 := ⟨by kernel_rfl, Try.t17, by kernel_rfl, by kernel_rfl, by kernel_rfl, by kernel_rfl⟩
theorem tiok20 : TiOk Try.prog 20 ti20 := ⟨by kernel_rfl, Try.t20, by kernel_rfl, by kernel_rfl, by kernel_rfl, by kernel_rfl⟩
theorem tiok21 : TiOk Try.prog 21 ti21 := ⟨by kernel_rfl, Try.t21, by kernel_rfl, by kernel_rfl, by kernel_rfl, by kernel_rfl⟩
theorem tiok22 : TiOk Try.prog 22 ti22 := ⟨by kernel_rfl, Try.t22, by kernel_rfl, by kernel_rfl, by kernel_rfl, by kernel_rfl⟩
theorem tiok23 : TiOk Try.prog 23 ti23 := ⟨by kernel_rfl, Try.t23, by kernel_rfl, by kernel_rfl, by kernel_rfl, by kernel_rfl⟩
theorem tiok24 : TiOk Try.prog 24 ti24 := ⟨by kernel_rfl, Try.t24, by kernel_rfl, by kernel_rfl, by kernel_rfl, by kernel_rfl⟩
theorem tiok26 : TiOk Try.prog 26 ti26 := ⟨by kernel_rfl, Try.t26, by kernel_rfl, by kernel_rfl, by kernel_rfl, by kernel_rfl⟩
theorem tiok28 : TiOk Try.prog 28 ti28 := ⟨by kernel_rfl, Try.t28, by kernel_rfl, by kernel_rfl, by kernel_rfl, by kernel_rfl⟩
theorem tiok29 : TiOk Try.prog 29 ti29 := ⟨by kernel_rfl, Try.t29, by kernel_rfl, by kernel_rfl, by kernel_rfl, by kernel_rfl⟩
theorem tiok30 : TiOk Try.prog 30 ti30 := ⟨by kernel_rfl, Try.t30, by kernel_rfl, by kernel_rfl, by kernel_rfl, by kernel_rfl⟩
theorem tiok31 : TiOk Try.prog 31 ti31 := ⟨by kernel_rfl, Try.t31, by kernel_rfl, by kernel_rfl, by kernel_rfl, by kernel_rfl⟩
theorem tiok32 : TiOk Try.prog 32 ti32 := ⟨by kernel_rfl, Try.t32, by kernel_rfl, by kernel_rfl, by kernel_rfl, by kernel_rfl⟩
theorem tiok33 : TiOk Try.prog 33 ti33 := ⟨by kernel_rfl, Try.t33, by kernel_rfl, by kernel_rfl, by kernel_rfl, by kernel_rfl⟩
theorem tiok39 : TiOk Try.prog 39 ti39 := ⟨by kernel_rfl, Try.t39, by kernel_rfl, by kernel_rfl, by kernel_rfl, by kernel_rfl⟩
theorem tiok40 : TiOk Try.prog 40 ti40 := ⟨by kernel_rfl, Try.t40, by kernel_rfl, by kernel_rfl, by kernel_rfl, by kernel_rfl⟩
theorem tiok50 : TiOk Try.prog 50 ti50 := ⟨by kernel_rfl, Try.t50, by kernel_rfl, by kernel_rfl, by kernel_rfl, by kernel_rfl⟩
theorem tiok51 : TiOk Try.prog 51 ti51 := ⟨by kernel_rfl, Try.t51, by kernel_rfl, by kernel_rfl, by kernel_rfl, by kernel_rfl⟩
theorem tiok53 : TiOk Try.prog 53 ti53 := ⟨by kernel_rfl, Try.t53, by kernel_rfl, by kernel_rfl, by kernel_rfl, by kernel_rfl⟩
theorem tiok54 : TiOk Try.prog 54 ti54 := ⟨by kernel_rfl, Try.t54, by kernel_rfl, by kernel_rfl, by kernel_rfl, by kernel_rfl⟩
theorem tiok56 : TiOk Try.prog 56 ti56 := ⟨by kernel_rfl, Try.t56, by kernel_rfl, by kernel_rfl, by kernel_rfl, by kernel_rfl⟩
theorem tiok57 : TiOk Try.prog 57 ti57 := ⟨by kernel_rfl, Try.t57, by kernel_rfl, by kernel_rfl, by kernel_rfl, by kernel_rfl⟩
theorem tiok58 : TiOk Try.prog 58 ti58 := ⟨by kernel_rfl, Try.t58, by kernel_rfl, by kernel_rfl, by kernel_rfl, by kernel_rfl⟩
theorem tiok60 : TiOk Try.prog 60 ti60 := ⟨by kernel_rfl, Try.t60, by kernel_rfl, by kernel_rfl, by kernel_rfl, by kernel_rfl⟩
theorem tiok61 : TiOk Try.prog 61 ti61 := ⟨by kernel_rfl, Try.t61, by kernel_rfl, by kernel_rfl, by kernel_rfl, by kernel_rfl⟩
theorem tiok63 : TiOk Try.prog 63 ti63 := ⟨by kernel_rfl, Try.t63, by kernel_rfl, by kernel_rfl, by kernel_rfl, by kernel_rfl⟩
theorem tiok68 : TiOk Try.prog 68 ti68 := ⟨by kernel_rfl, Try.t68, by kernel_rfl, by kernel_rfl, by kernel_rfl, by kernel_rfl⟩
theorem tiok69 : TiOk Try.prog 69 ti69 := ⟨by kernel_rfl, Try.t69, by kernel_rfl, by kernel_rfl, by kernel_rfl, by kernel_rfl⟩
theorem tiok79 : TiOk Try.prog 79 ti79 := ⟨by kernel_rfl, Try.t79, by kernel_rfl, by kernel_rfl, by kernel_rfl, by kernel_rfl⟩
theorem tiok93 : TiOk Try.prog 93 ti93 := ⟨by kernel_rfl, Try.t93, by kernel_rfl, by kernel_rfl, by kernel_rfl, by kernel_rfl⟩
theorem tiok94 : TiOk Try.prog 94 ti94 := ⟨by kernel_rfl, Try.t94, by kernel_rfl, by kernel_rfl, by kernel_rfl, by kernel_rfl⟩
theorem tiok95 : TiOk Try.prog 95 ti95 := ⟨by kernel_rfl, Try.t95, by kernel_rfl, by kernel_rfl, by kernel_rfl, by kernel_rfl⟩
theorem tiok96 : TiOk Try.prog 96 ti96 := ⟨by kernel_rfl, Try.t96, by kernel_rfl, by kernel_rfl, by kernel_rfl, by kernel_rfl⟩
theorem tiok98 : TiOk Try.prog 98 ti98 := ⟨by kernel_rfl, Try.t98, by kernel_rfl, by kernel_rfl, by kernel_rfl, by kernel_rfl⟩
theorem tiok99 : TiOk Try.prog 99 ti99 := ⟨by kernel_rfl, Try.t99, by kernel_rfl, by kernel_rfl, by kernel_rfl, by kernel_rfl⟩
theorem tiok114 : TiOk Try.prog 114 ti114 := ⟨by kernel_rfl, Try.t114, by kernel_rfl, by kernel_rfl, by kernel_rfl, by kernel_rfl⟩
theorem tiok119 : TiOk Try.prog 119 ti119 := ⟨by kernel_rfl, Try.t119, by kernel_rfl, by kernel_rfl, by kernel_rfl, by kernel_rfl⟩
theorem tiok127 : TiOk Try.prog 127 ti127 := ⟨by kernel_rfl, Try.t127, by kernel_rfl, by kernel_rfl, by kernel_rfl, by kernel_rfl⟩
theorem tiok128 : TiOk Try.prog 128 ti128 := ⟨by kernel_rfl, Try.t128, by kernel_rfl, by kernel_rfl, by kernel_rfl, by kernel_rfl⟩
theorem tiok135 : TiOk Try.prog 135 ti135 := ⟨by kernel_rfl, Try.t135, by kernel_rfl, by kernel_rfl, by kernel_rfl, by kernel_rfl⟩
theorem tiok141 : TiOk Try.prog 141 ti141 := ⟨by kernel_rfl, Try.t141, by kernel_rfl, by kernel_rfl, by kernel_rfl, by kernel_rfl⟩
theorem tiok145 : TiOk Try.prog 145 ti145 := ⟨by kernel_rfl, Try.t145, by kernel_rfl, by kernel_rfl, by kernel_rfl, by kernel_rfl⟩
theorem tiok146 : TiOk Try.prog 146 ti146 := ⟨by kernel_rfl, Try.t146, by kernel_rfl, by kernel_rfl, by kernel_rfl, by kernel_rfl⟩
theorem tiok148 : TiOk Try.prog 148 ti148 := ⟨by kernel_rfl, Try.t148, by kernel_rfl, by kernel_rfl, by kernel_rfl, by kernel_rfl⟩
theorem tiok149 : TiOk Try.prog 149 ti149 := ⟨by kernel_rfl, Try.t149, by kernel_rfl, by kernel_rfl, by kernel_rfl, by kernel_rfl⟩
theorem tiok150 : TiOk Try.prog 150 ti150 := ⟨by kernel_rfl, Try.t150, by kernel_rfl, by kernel_rfl, by kernel_rfl, by kernel_rfl⟩
theorem tiok151 : TiOk Try.prog 151 ti151 := ⟨by kernel_rfl, Try.t151, by kernel_rfl, by kernel_rfl, by kernel_rfl, by kernel_rfl⟩
theorem tiok152 : TiOk Try.prog 152 ti152 := ⟨by kernel_rfl, Try.t152, by kernel_rfl, by kernel_rfl, by kernel_rfl, by kernel_rfl⟩
def tab : List (Nat × Ti) := [(2, ti2), (3, ti3), (4, ti4), (5, ti5), (6, ti6), (9, ti9), (10, ti10), (11, ti11), (12, ti12), (15, ti15), (16, ti16), (17, ti17), (20, ti20), (21, ti21), (22, ti22), (23, ti23), (24, ti24), (26, ti26), (28, ti28), (29, ti29), (30, ti30), (31, ti31), (32, ti32), (33, ti33), (39, ti39), (40, ti40), (50, ti50), (51, ti51), (53, ti53), (54, ti54), (56, ti56), (57, ti57), (58, ti58), (60, ti60), (61, ti61), (63, ti63), (68, ti68), (69, ti69), (79, ti79), (93, ti93), (94, ti94), (95, ti95), (96, ti96), (98, ti98), (99, ti99), (114, ti114), (119, ti119), (127, ti127), (128, ti128), (135, ti135), (141, ti141), (145, ti145), (146, ti146), (148, ti148), (149, ti149), (150, ti150), (151, ti151), (152, ti152)]
theorem tab_ok : ∀ t i, tlook t tab = some i → TiOk Try.prog t i := by
 refine tab_ok_cons tiok2 ?_; refine tab_ok_cons tiok3 ?_; refine tab_ok_cons tiok4 ?_; refine tab_ok_cons tiok5 ?_; refine tab_ok_cons tiok6 ?_; refine tab_ok_cons tiok9 ?_; refine tab_ok_cons tiok10 ?_; refine tab_ok_cons tiok11 ?_; refine tab_ok_cons tiok12 ?_; refine tab_ok_cons tiok15 ?_; refine tab_ok_cons tiok16 ?_; refine tab_ok_cons tiok17 ?_; refine tab_ok_cons tiok20 ?_; refine tab_ok_cons tiok21 ?_; refine tab_ok_cons tiok22 ?_; refine tab_ok_cons tiok23 ?_; refine tab_ok_cons tiok24 ?_; refine tab_ok_cons tiok26 ?_; refine tab_ok_cons tiok28 ?_; refine tab_ok_cons tiok29 ?_; refine tab_ok_cons tiok30 ?_; refine tab_ok_cons tiok31 ?_; refine tab_ok_cons tiok32 ?_; refine tab_ok_cons tiok33 ?_; refine tab_ok_cons tiok39 ?_; refine tab_ok_cons tiok40 ?_; refine tab_ok_cons tiok50 ?_; refine tab_ok_cons tiok51 ?_; refine tab_ok_cons tiok53 ?_; refine tab_ok_cons tiok54 ?_; refine tab_ok_cons tiok56 ?_; refine tab_ok_cons tiok57 ?_; refine tab_ok_cons tiok58 ?_; refine tab_ok_cons tiok60 ?_; refine tab_ok_cons tiok61 ?_; refine tab_ok_cons tiok63 ?_; refine tab_ok_cons tiok68 ?_; refine tab_ok_cons tiok69 ?_; refine tab_ok_cons tiok79 ?_; refine tab_ok_cons tiok93 ?_; refine tab_ok_cons tiok94 ?_; refine tab_ok_cons tiok95 ?_; refine tab_ok_cons tiok96 ?_; refine tab_ok_cons tiok98 ?_; refine tab_ok_cons tiok99 ?_; refine tab_ok_cons tiok114 ?_; refine tab_ok_cons tiok119 ?_; refine tab_ok_cons tiok127 ?_; refine tab_ok_cons tiok128 ?_; refine tab_ok_cons tiok135 ?_; refine tab_ok_cons tiok141 ?_; refine tab_ok_cons tiok145 ?_; refine tab_ok_cons tiok146 ?_; refine tab_ok_cons tiok148 ?_; refine tab_ok_cons tiok149 ?_; refine tab_ok_cons tiok150 ?_; refine tab_ok_cons tiok151 ?_; refine tab_ok_cons tiok152 ?_
 exact tab_ok_nil
noncomputable def X : Cx := ⟨Try.prog, tab, tab_ok, by kernel_rfl⟩
end Go.Proofs.Ytkjhcjhfegakoaa
end
