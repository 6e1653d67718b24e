/-
  The small separation logic, eighth text: structs by value, bytes to numbers, copy, arrays in variables, owned things that are only read from now on.
-/
import Derived.Test.YtbkmahjhhncfcaaGreatUSlF
namespace Go.Sl

section
variable {X : Cx} {β : Base} {n : Nat} {ds : List Deferred} {ops : Array Oper} {Q : Exit → Act → World → Prop} {rest : List Oper} {Γ : Env} {R H : List Pr}

theorem Ev.byteInt {s d : Nat} {x : Operand} {b : UInt8} {i j : Ti} (hs : tlook s X.tab = some i) (hd : tlook d X.tab = some j) (hj : j.desc = .int .i64) (hx : ev Γ x = some (.int .u8 (b.toNat : Int))) :
   Ev X β Γ R H (.convert s d x) (.int .i64 (b.toNat : Int)) := by
 have := u8_lt b
 exact Ev.toInt hs hd hj hx (by omega) (by omega)

theorem wrap_u8 (m : Int) : IntKind.u8.wrap m = m % 256 := by
 unfold IntKind.wrap
 simp [IntKind.bits, IntKind.signed]

/-- A number as a byte. -/
theorem Ev.toByte {s d : Nat} {x : Operand} {k : IntKind} {m : Int} {i j : Ti} (hs : tlook s X.tab = some i) (hd : tlook d X.tab = some j) (hj : j.desc = .int .u8) (hx : ev Γ x = some (.int k m)) :
   Ev X β Γ R H (.convert s d x) (.int .u8 ((UInt8.ofInt m).toNat : Int)) :=
 (Ev.pure (v := .int .u8 (IntKind.u8.wrap m)) (by simp [pev, hs, hd, hj, hx])).cast (by
   rw [wrap_u8]
   congr 1
   simp [UInt8.ofInt, UInt8.toNat_ofNat']
   omega)

section
variable {t ty : Nat} {x y : Operand} {a b : UInt8} (hx : ev Γ x = some (.int .u8 (a.toNat : Int))) (hy : ev Γ y = some (.int .u8 (b.toNat : Int)))
include hx hy
end

/-! ### Equality of Bools, with nil, of strings; strings of bytes -/
theorem run_equalIn_nilS {P : Program} (w : World) (d : Nat) {t e : Nat} (A : Option Addr) (n c n' c' : Nat) (h : P.underlying t = some (.slice e)) : (Op.equalIn (d + 1) t (.slice A n c) (.slice none n' c')).run P w = .ok A.isNone w := by
 cases A <;> simp [Op.equalIn, run_underlying h]
/-- s == nil. -/
theorem Ev.eqNil {t ty e n c n' c' : Nat} {x y : Operand} {A : Option Addr} {i : Ti} (ht : tlook t X.tab = some i) (hd : i.desc = .slice e) (hx : ev Γ x = some (.slice A n c)) (hy : ev Γ y = some (.slice none n' c')) : Ev X β Γ R H (.binOp .eql t x y ty) (.bool A.isNone) := by
 intro ρ w hρ hw o ho
 have e1 := (X.ok _ _ ht).und
 rw [hd] at e1
 have hg : (eqGuard .eql t x y (.slice A n c) (.slice none n' c')).run X.P w = .ok () w := by unfold eqGuard; rfl
 have hr : (Op.equal t (.slice A n c) (.slice none n' c')).run X.P w = .ok A.isNone w := run_equalIn_nilS w 9999 A n c n' c' e1
 have hb : (binOp .eql t (.slice A n c) (.slice none n' c')).run X.P w = .ok (.bool A.isNone) w := by
   simp only [binOp]
   simp [hr]
 simp [execOp, ho, hρ _ _ hx, hρ _ _ hy, hg, hb]
/-! ### Struct and array values -/
def putCells (cs : List Value) (off : Nat) (vs : List Value) : List Value := cs.take off ++ vs ++ cs.drop (off + vs.length)

def bfill (place : Nat → Option (Nat × Nat)) (cells : List Value) : List (Nat × Value) → Option (List Value)
 | [] => some cells
 | (i, v) :: rest => match place i with
   | none => none
   | some (off, size) => match v with
     | .agg cs => if cs.toList.length = size then (if off + size ≤ cells.length then bfill place (putCells cells off cs.toList) rest else none) else none
     | u => if size = 1 then (if off + 1 ≤ cells.length then bfill place (cells.set off u) rest else none) else none

def evp (Γ : Env) : List (Nat × Operand) → Option (List (Nat × Value))
 | [] => some []
 | (i, x) :: xs => match ev Γ x, evp Γ xs with
   | some v, some vs => some ((i, v) :: vs)
   | _, _ => none

theorem evp_eval {ρ : Operand → Value} (h : ∀ x u, ev Γ x = some u → ρ x = u) : ∀ {xs : List (Nat × Operand)} {vs : List (Nat × Value)}, evp Γ xs = some vs → (xs.map fun (i, x) => (i, ρ x)) = vs
 | [], vs, e => by injection e
 | (i, x) :: xs, vs, e => by
   simp only [evp] at e
   split at e
   · rename_i v us h1 h2
     injection e with e
     subst e
     rw [List.map_cons, evp_eval h h2]
     simp only [h _ _ h1]
   · cases e

theorem fold_set : ∀ (vs : List Value) (cells : List Value) (off j : Nat), off + j + vs.length ≤ cells.length →
   ((vs.zipIdx j).foldl (fun (cs : Array Value) (p : Value × Nat) => cs.setIfInBounds (off + p.2) p.1) (List.toArray cells)) = List.toArray (putCells cells (off + j) vs)
 | [], cells, off, j, _ => by simp [putCells]
 | v :: vs, cells, off, j, h => by
   rw [List.zipIdx_cons, List.foldl_cons]
   have h' : off + (j + 1) + vs.length ≤ (cells.set (off + j) v).length := by simp at h ⊢; omega
   have := fold_set vs (cells.set (off + j) v) off (j + 1) h'
   rw [show (List.toArray cells).setIfInBounds (off + j) v = List.toArray (cells.set (off + j) v) from by apply Array.ext'; simp]
   rw [this]
   congr 1
   unfold putCells
   simp only [List.length_cons] at h
   apply List.ext_getElem?
   intro q
   simp only [List.getElem?_append, List.getElem?_take, List.getElem?_drop, List.length_append, List.length_take, List.length_set, List.length_cons, List.getElem?_set]
   have e1 : min (off + (j + 1)) cells.length = off + j + 1 := by omega
   have e2 : min (off + j) cells.length = off + j := by omega
   rw [e1, e2]
   by_cases c1 : q < off + j
   · have : off + j ≠ q := by omega
     simp [c1, this, show q < off + j + 1 + vs.length by omega, show q < off + j + 1 by omega, show q < off + j + (vs.length + 1) by omega, show q < off + (j + 1) by omega]
   · by_cases c2 : q = off + j
     · subst c2
       simp [show off + j < cells.length by omega, show off + j < off + (j + 1) by omega, show off + j < off + j + 1 + vs.length by omega]
     · have c3 : off + j ≠ q := fun h => c2 h.symm
       by_cases c4 : q < off + j + 1 + vs.length
       · simp [c1, c4, show ¬ q < off + j + 1 by omega, show q < off + j + (vs.length + 1) by omega]
         rw [show q - (off + j) = (q - (off + j + 1)) + 1 by omega, List.getElem?_cons_succ]
       · simp [c4, show ¬ q < off + j + (vs.length + 1) by omega, show off + j ≠ off + (j + 1) + vs.length + (q - (off + j + 1 + vs.length)) by omega]
         congr 1
         omega

theorem bfill_ok {place : Nat → Option (Nat × Nat)} : ∀ (ps : List (Nat × Value)) (cells out : List Value), bfill place cells ps = some out → Instr.fill place (List.toArray cells) ps = some (List.toArray out)
 | [], cells, out, h => by
   simp only [bfill, Option.some.injEq] at h
   subst h
   rfl
 | (i, v) :: rest, cells, out, h => by
   simp only [bfill] at h
   simp only [Instr.fill]
   cases hp : place i with
   | none => rw [hp] at h; cases h
   | some os =>
     obtain ⟨off, size⟩ := os
     rw [hp] at h
     simp only at h ⊢
     have one : ∀ u : Value, u.cells = #[u] → size = 1 → off + 1 ≤ cells.length → bfill place (cells.set off u) rest = some out →
         (if u.cells.size ≠ size || off + u.cells.size > (List.toArray cells).size then none else Instr.fill place (u.cells.zipIdx.foldl (fun cs (c, j) => cs.setIfInBounds (off + j) c) (List.toArray cells)) rest) = some (List.toArray out) := by
       intro u hu hs ho hf
       subst hs
       have ih := bfill_ok rest _ out hf
       simp only [hu]
       rw [if_neg (by simp; omega)]
       simpa using ih
     cases v with
     | agg cs =>
       simp only at h
       split at h
       · rename_i hl
         split at h
         · rename_i ho
           have ih := bfill_ok rest _ out h
           have hcs : cs.size = size := by simpa using hl
           have hvc : (Value.agg cs).cells = cs := rfl
           simp only [hvc]
           rw [if_neg (by simp [hcs]; omega)]
           rw [← ih]
           congr 1
           have := fold_set cs.toList cells off 0 (by simp [hcs]; omega)
           simp only [Nat.add_zero] at this
           rw [← this, ← Array.foldl_toList]
           simp
         · cases h
       · cases h
     | _ =>
       simp only at h
       split at h
       · rename_i hs
         split at h
         · rename_i ho
           exact one _ rfl hs ho h
         · cases h
       · cases h

def places (T : List (Nat × Ti)) : List Field → Option (List (Nat × Nat))
 | [] => some []
 | f :: fs => match tlook f.type T, places T fs with
   | some i, some ps => some ((f.offset, i.size) :: ps)
   | _, _ => none

theorem places_ok : ∀ (fs : List Field) (ps : List (Nat × Nat)), places X.tab fs = some ps → fs.mapM (fun f => (X.P.info? f.type).map fun i => (f.offset, i.size)) = some ps
 | [], ps, h => by injection h with h; subst h; rfl
 | f :: fs, ps, h => by
   simp only [places] at h
   split at h
   · rename_i i qs h1 h2
     injection h with h
     subst h
     obtain ⟨_, j, hj, g1, _⟩ := X.ok _ _ h1
     rw [List.mapM_cons, hj, places_ok fs qs h2]
     simp [g1]
   · cases h

/-- T{..}: a struct's value. -/
theorem Ev.build {t : Nat} {parts : Array (Nat × Operand)} {i : Ti} {fs : Array Field} {pl : List (Nat × Nat)} {zs cs : List Value} {ps : List (Nat × Operand)} {vs : List (Nat × Value)} (ht : tlook t X.tab = some i) (hd : i.desc = .struct fs)
   (hpl : places X.tab fs.toList = some pl) (hz : i.zero.cells = List.toArray zs) (hps : parts = List.toArray ps) (hv : evp Γ ps = some vs) (hb : bfill (pl[·]?) zs vs = some cs) : Ev X β Γ R H (.build t parts) (.agg (List.toArray cs)) := by
 intro ρ w hρ hs o ho
 obtain ⟨e1, j, hj, _, _, h3⟩ := X.ok _ _ ht
 rw [hd] at e1
 have hbuilt : X.P.built t (parts.map fun (i, x) => (i, ρ x)).toList = some (List.toArray cs) := by
   unfold Program.built
   simp only [hj, e1, h3]
   rw [places_ok fs.toList pl hpl]
   simp only
   subst hps
   have hp2 : ((List.toArray ps).map fun (i, x) => (i, ρ x)).toList = vs := by simpa using evp_eval hρ hv
   rw [hp2, hz]
   simpa using bfill_ok vs zs cs hb
 have := run_build (P := X.P) w t _ _ hbuilt
 simp only [execOp, ho, Sem.run_bind, this, Result.andThen_ok, Sem.run_pure]

/-- [n]T{..}: an array's value. -/
theorem Ev.buildArr {t : Nat} {parts : Array (Nat × Operand)} {i ei : Ti} {m e : Nat} {zs cs : List Value} {ps : List (Nat × Operand)} {vs : List (Nat × Value)} (ht : tlook t X.tab = some i) (hd : i.desc = .array m e) (he : tlook e X.tab = some ei)
   (hz : i.zero.cells = List.toArray zs) (hps : parts = List.toArray ps) (hv : evp Γ ps = some vs) (hb : bfill (fun q => some (q * ei.size, ei.size)) zs vs = some cs) : Ev X β Γ R H (.build t parts) (.agg (List.toArray cs)) := by
 intro ρ w hρ hs o ho
 obtain ⟨e1, j, hj, _, _, h3⟩ := X.ok _ _ ht
 rw [hd] at e1
 obtain ⟨_, je, hje, g1, _⟩ := X.ok _ _ he
 have hbuilt : X.P.built t (parts.map fun (i, x) => (i, ρ x)).toList = some (List.toArray cs) := by
   unfold Program.built
   simp only [hj, e1, h3, hje]
   subst hps
   have hp2 : ((List.toArray ps).map fun (i, x) => (i, ρ x)).toList = vs := by simpa using evp_eval hρ hv
   rw [hp2, hz, g1]
   exact bfill_ok vs zs cs hb
 have := run_build (P := X.P) w t _ _ hbuilt
 simp only [execOp, ho, Sem.run_bind, this, Result.andThen_ok, Sem.run_pure]

/-! ### What is owned is only read from now on -/
theorem Sat.freeze {w : World} (h : Sat β w R H) {j : Nat} {e sz m c : Nat} {A : Option Addr} {xs : List Value} (hj : H[j]? = some (Own e sz A m c xs)) {js : List Nat} (hn : js.Nodup) (hjj : js.contains j = false) : Sat β w (Rd A xs :: R) (Sl.sel H js) := by
 have hnj : j ∉ js := by simpa using hjj
 refine h.put (Stp.refl w fun _ => False) (fun _ hk => hk.elim) _ _ ?_ ?_ ?_ ?_
 · intro r hr
   rcases List.mem_cons.1 hr with rfl | hr
   · exact .inr ⟨fun q u hu => by
       obtain ⟨g, hA, hc, _⟩ := Own.cell (h.own j _ hj) hu
       exact ⟨_, hA, by rw [adz]; exact hc⟩, fun k hk => ⟨(h.ofp j _ hj k hk.2).1, .inr (.inl ⟨j, _, hj, hk.2⟩)⟩⟩
   · exact .inl hr
 · intro i d hd
   obtain ⟨q, _, hq⟩ := sel_mem (List.mem_of_getElem? hd)
   exact ⟨h.own q d hq, fun k hk => ⟨(h.ofp q d hq k hk).1, .inr ⟨q, d, hq, hk⟩⟩⟩
 · intro i i' d d' hd hd' hne k hk hk'
   obtain ⟨p, q, _, _, hpq, hp, hq⟩ := sel_inj hn i i' d d' hd hd' hne
   exact h.dis p q d d' hp hq hpq k hk hk'
 · intro r hr i d hd k hk hk'
   obtain ⟨q, hq, hqd⟩ := sel_mem (List.mem_of_getElem? hd)
   rcases List.mem_cons.1 hr with rfl | hr
   · exact h.dis j q _ d hj hqd (fun e => hnj (e ▸ hq)) k hk.2 hk'
   · exact h.sep r hr q d hqd k hk hk'

theorem L.freeze (j : Nat) {e sz m c : Nat} {A : Option Addr} {xs : List Value} (hj : H[j]? = some (Own e sz A m c xs)) (js : List Nat) (hn : js.Nodup) (hjj : js.contains j = false) (h : L X β n ds ops Q rest Γ (Rd A xs :: R) (sel H js)) : L X β n ds ops Q rest Γ R H :=
 fun a w hf hs => h a w hf (hs.freeze hj hn hjj)
theorem QE.freeze {x : Exit} (j : Nat) {e sz m c : Nat} {A : Option Addr} {xs : List Value} (hj : H[j]? = some (Own e sz A m c xs)) (js : List Nat) (hn : js.Nodup) (hjj : js.contains j = false) (h : QE β n ds Q x Γ (Rd A xs :: R) (sel H js)) : QE β n ds Q x Γ R H :=
 fun a w hf hs => h a w hf (hs.freeze hj hn hjj)
theorem C.freeze {x : Code} (j : Nat) {e sz m c : Nat} {A : Option Addr} {xs : List Value} (hj : H[j]? = some (Own e sz A m c xs)) (js : List Nat) (hn : js.Nodup) (hjj : js.contains j = false) (h : C X β n ds Q x Γ (Rd A xs :: R) (sel H js)) : C X β n ds Q x Γ R H :=
 fun a w hf hs => h a w hf (hs.freeze hj hn hjj)

/-- More read facts, out of what is there. -/
theorem Sat.more {w : World} (h : Sat β w R H) {r : Pr} (hr : Has R [] r) : Sat β w (r :: R) H := by
 refine h.reads _ fun x hx => ?_
 rcases List.mem_cons.1 hx with rfl | hx
 · refine .inr ⟨hr.1 β w (by have := h.sel (js := []) (by simp); exact this), fun k hk => ?_⟩
   rcases hr.2 k hk with y | ⟨i, c, hc, _⟩
   · exact y
   · simp at hc
 · exact .inl hx
theorem L.more {r : Pr} (hr : Has R [] r) (h : L X β n ds ops Q rest Γ (r :: R) H) : L X β n ds ops Q rest Γ R H := fun a w hf hs => h a w hf (hs.more hr)
theorem QE.more {x : Exit} {r : Pr} (hr : Has R [] r) (h : QE β n ds Q x Γ (r :: R) H) : QE β n ds Q x Γ R H := fun a w hf hs => h a w hf (hs.more hr)
theorem C.more {x : Code} {r : Pr} (hr : Has R [] r) (h : C X β n ds Q x Γ (r :: R) H) : C X β n ds Q x Γ R H := fun a w hf hs => h a w hf (hs.more hr)

/-! ### copy -/
/-- copy(s, src), s owned from its beginning on; elements of one cell. -/
theorem L.copy {d t t2 e ty j m c p q o : Nat} {pos : String} {af : Array Edge} {x y : Operand} {A B : Option Addr} {xs ys : List Value} {i ei : Ti} (ht : tlook t X.tab = some i) (hdesc : i.desc = .slice e) (he : tlook e X.tab = some ei) (hsz : ei.size = 1)
   {D : Option Addr} {dn dc : Nat} (hx : ev Γ x = some (.slice D dn dc)) (hD : ∀ g, A = some ⟨g, 0, none⟩ → 0 < ys.length → D = some ⟨g, o, none⟩)
   (hy : ev Γ y = some (.slice B p q)) (hj : H[j]? = some (Own e 1 A m c xs)) (hs : Src R H B ys) (hl : ys.length = min p dn) (h1 : ∀ v ∈ ys, v.oneCell' = true) (hfit : o + ys.length ≤ xs.length) (hd : Nat.blt d n = true)
   (hh : L X β n ds ops Q rest ((d, .int .i64 (ys.length : Int)) :: Γ) R (H.set j (Own e 1 A m c (xs.take o ++ ys ++ xs.drop (o + ys.length))))) :
   L X β n ds ops Q (⟨some d, .call ⟨.builtin .copy, #[x, y], #[t, t2]⟩, ty, pos, af, none⟩ :: rest) Γ R H := by
 intro a w hf hsat
 refine wpList_plain rfl fun K hK => ?_
 obtain ⟨e1, _⟩ := X.ok _ _ ht
 rw [hdesc] at e1
 obtain ⟨_, jf, hjf, g1, g2, g3⟩ := X.ok _ _ he
 have hown := hsat.own j _ hj
 have hlen := Own.len hown
 rcases Nat.eq_zero_or_pos ys.length with h0 | h0
 · -- nothing is copied
   have hy0 : ys = [] := List.eq_nil_of_length_eq_zero h0
   subst hy0
   have hmin : Nat.min p dn = 0 := (show min p dn = 0 by simpa using hl.symm)
   have hrun : (Builtin.copy_ #[t, t2] ty #[.slice D dn dc, .slice B p q]).run X.P w = .ok (goInt 0) w := by
     cases D with
     | none => cases B <;> simp [Builtin.copy_, run_underlying e1, Builtin.lenOf, Builtin.firstCells, sizeOf, typeInfo, hjf, hmin, loadCells, loadCellsFrom]
     | some db => cases B <;> simp [Builtin.copy_, run_underlying e1, Builtin.lenOf, Builtin.firstCells, sizeOf, typeInfo, hjf, hmin, loadCells, loadCellsFrom, storeCells]
   have hrun' : (execOp a.eval ⟨some d, .call ⟨.builtin .copy, #[x, y], #[t, t2]⟩, ty, pos, af, none⟩).run X.P w = .ok (.value (goInt 0)) w := by
     simp only [execOp, resolve, invoke, builtin, Sem.run_bind, Sem.run_pure, Result.andThen_ok, List.map_toArray, List.map_cons, List.map_nil, hf.eval hx, hf.eval hy, hrun]
   unfold Oper.wp
   rw [hrun']
   refine hK _ _ (hh _ _ (hf.put (by simpa [Nat.blt_eq] using hd) _) ?_)
   have hsame : H.set j (Own e 1 A m c (xs.take o ++ [] ++ xs.drop (o + ([] : List Value).length))) = H := by
     simp only [List.append_nil, List.length_nil, Nat.add_zero, List.take_append_drop]
     apply List.ext_getElem?
     intro k
     rw [List.getElem?_set]
     split
     · rename_i hk; subst hk; rw [hj]; simp [(List.getElem?_eq_some_iff.1 hj).1]
     · rfl
   rw [hsame]
   exact hsat
 · obtain ⟨g, cur, rfl, hg, hmc, hcm, hcs, htake⟩ := Own.form hown (by omega)
   rw [Nat.mul_one] at hlen hcs htake
   have hDe := hD g rfl h0
   subst hDe
   obtain ⟨u0, hu0⟩ : ∃ u, ys[0]? = some u := ⟨_, List.getElem?_eq_getElem h0⟩
   obtain ⟨b, rfl, _⟩ := hs β w hsat 0 u0 hu0
   have hle : m ≤ cur.size := by omega
   have hrun := run_copy_row (P := X.P) w t t2 ty e g o dn dc b p q cur e ys e1 (by rw [hjf]; simp [g1, hsz]) hg hl (fun r u hu => by
     obtain ⟨b', hb', hc⟩ := hs β w hsat r u hu
     injection hb' with hb'
     subst hb'
     exact hc) (by omega) h1
   have hrun' : (execOp a.eval ⟨some d, .call ⟨.builtin .copy, #[x, y], #[t, t2]⟩, ty, pos, af, none⟩).run X.P w = .ok (.value (goInt ys.length)) (w.setRow g (cur.toList.take o ++ ys ++ cur.toList.drop (o + ys.length)).toArray) := by
     simp only [execOp, resolve, invoke, builtin, Sem.run_bind, Sem.run_pure, Result.andThen_ok, List.map_toArray, List.map_cons, List.map_nil, hf.eval hx, hf.eval hy, hrun]
   unfold Oper.wp
   rw [hrun']
   refine hK _ _ (hh _ _ (hf.put (by simpa [Nat.blt_eq] using hd) _) ?_)
   refine hsat.upd (w' := w.setRow g (cur.toList.take o ++ ys ++ cur.toList.drop (o + ys.length)).toArray) (m := fun b => b = g) hj ⟨rfl, rfl, rfl, by simp, fun b _ hb => setRow_other w g b _ hb⟩ (fun b hb _ => ⟨_, rfl, hb.symm⟩) (Own e 1 (some ⟨g, 0, none⟩) m c (xs.take o ++ ys ++ xs.drop (o + ys.length))) ?_ (fun b hb => ⟨?_, .inr hb⟩)
   · refine ⟨?_, .inr ⟨g, c, _, rfl, Nat.zero_le _, setRow_heap w g cur _ e _ hg, hmc, hcm, ?_, ?_⟩⟩
     · simp; omega
     · simp; omega
     · rw [← htake, Nat.mul_one]
       apply List.ext_getElem?
       intro q
       have hcl : cur.toList.length = cur.size := by simp
       simp only [List.getElem?_take, List.getElem?_append, List.length_take, List.length_append, List.getElem?_drop, hcl]
       have e1 : min o cur.size = o := by omega
       have e2 : min o (min m cur.size) = o := by omega
       simp only [e1, e2]
       by_cases c1 : q < m
       · by_cases c2 : q < o
         · simp [c1, c2, show q < o + ys.length by omega]
         · by_cases c3 : q < o + ys.length
           · simp [c1, c2, c3]
           · simp [c1, c3, show o + ys.length + (q - (o + ys.length)) < m by omega]
       · have c2 : ¬ q < o := by omega
         have c3 : ¬ q < o + ys.length := by omega
         simp [c1, c3, show ¬ o + ys.length + (q - (o + ys.length)) < m by omega]
   · show b < (w.setRow g _).heap.size
     rw [setRow_size]
     exact (hsat.ofp j _ hj b hb).1

end
end Go.Sl
