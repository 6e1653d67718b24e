/-
  The small separation logic, second text: the operations that leave the world alone.
-/
import Derived.Test.YtbkmahjhhncfcaaGreatQSl
section
namespace Go.Sl

def bop (op : BinOp) (k : IntKind) (a b : Int) : Int :=
 match op with
 | .and => k.wrap (BitVec.ofInt k.bits a &&& BitVec.ofInt k.bits b).toNat
 | .or => k.wrap (BitVec.ofInt k.bits a ||| BitVec.ofInt k.bits b).toNat
 | .xor => k.wrap (BitVec.ofInt k.bits a ^^^ BitVec.ofInt k.bits b).toNat
 | _ => k.wrap (BitVec.ofInt k.bits a &&& ~~~(BitVec.ofInt k.bits b)).toNat

def pint (op : BinOp) (k : IntKind) (a b : Int) : Option Value :=
 match op with
 | .add => some (.int k (k.wrap (a + b)))
 | .sub => some (.int k (k.wrap (a - b)))
 | .mul => some (.int k (k.wrap (a * b)))
 | .and => some (.int k (bop .and k a b))
 | .or => some (.int k (bop .or k a b))
 | .xor => some (.int k (bop .xor k a b))
 | .andNot => some (.int k (bop .andNot k a b))
 | .eql => some (.bool (a == b))
 | .neq => some (.bool (a != b))
 | .lss => some (.bool (decide (a < b)))
 | .leq => some (.bool (decide (a ≤ b)))
 | .gtr => some (.bool (decide (a > b)))
 | .geq => some (.bool (decide (a ≥ b)))
 | _ => none

def isIface : TypeDesc → Bool
 | .interface _ => true
 | _ => false

def aggD : TypeDesc → Bool
 | .struct _ => true
 | .array _ _ => true
 | _ => false

def plen (T : List (Nat × Ti)) (Γ : Env) : List Operand → List TypeId → Option Value
 | [x], [t] => match tlook t T, ev Γ x with
   | some i, some (.slice _ n _) => match i.desc with | .slice _ => some (.int .i64 n) | _ => none
   | some i, some (.string s) => match i.desc with | .string => some (.int .i64 s.size) | _ => none
   | some i, some (.agg _) => match i.desc with | .array k _ => some (.int .i64 k) | _ => none
   | _, _ => none
 | _, _ => none

def pmin (_T : List (Nat × Ti)) (Γ : Env) (mx : Bool) : List Operand → Option Value
 | [x, y] => match ev Γ x, ev Γ y with
   | some (.int k a), some (.int _ b) => some (.int k (if mx then (if a < b then b else a) else (if b < a then b else a)))
   | _, _ => none
 | _ => none

def fieldPart (T : List (Nat × Ti)) (cs : List Value) (f : Field) : Option Value :=
 match tlook f.type T with
 | some i => if aggD i.desc then some (.agg (List.toArray ((cs.drop f.offset).take i.size))) else cs[f.offset]?
 | none => none

def pev (T : List (Nat × Ti)) (Γ : Env) : Op → Option Value
 | .move x => ev Γ x
 | .assign x => ev Γ x
 | .pick c a b => match ev Γ c with
   | some (.bool true) => ev Γ a
   | some (.bool false) => ev Γ b
   | _ => none
 | .binOp op _ x y _ => match ev Γ x, ev Γ y with
   | some (.int k a), some (.int k' b) => if k = k' then pint op k a b else none
   | _, _ => none
 | .unOp op _ x => match op, ev Γ x with
   | .not, some (.bool b) => some (.bool (!b))
   | .neg, some (.int k m) => some (.int k (k.wrap (0 - m)))
   | _, _ => none
 | .convert s d x => match tlook s T, tlook d T, ev Γ x with
   | some _, some i, some (.int _ m) => match i.desc with | .int k => some (.int k (k.wrap m)) | _ => none
   | _, _, _ => none
 | .extract t i => match ev Γ t with
   | some (.tuple vs) => vs[i]?
   | _ => none
 | .makeFunc fn first cap => match evs Γ first.toList, evs Γ cap.toList with
   | some f, some c => some (.func fn (List.toArray f) (List.toArray c))
   | _, _ => none
 | .makeInterface t x => match tlook t T, ev Γ x with
   | some i, some v => if isIface i.desc then none else some (.iface t v)
   | _, _ => none
 | .field t x f => match tlook t T, ev Γ x with
   | some i, some (.agg cs) => match i.desc with
     | .struct fs => match fs[f]? with
       | some fd => fieldPart T cs.toList fd
       | none => none
     | _ => none
   | _, _ => none
 | .call c => match c.callee with
   | .builtin .len => plen T Γ c.args.toList c.argTypes.toList
   | .builtin .min => pmin T Γ false c.args.toList
   | .builtin .max => pmin T Γ true c.args.toList
   | _ => none
 | _ => none

section
variable {X : Cx} {β : Base} {Γ : Env} {R H : List Pr}

theorem evs_eval {ρ : Operand → Value} (h : ∀ x u, ev Γ x = some u → ρ x = u) : ∀ {xs : List Operand} {vs : List Value}, evs Γ xs = some vs → xs.map ρ = vs
 | [], vs, e => by injection e
 | x :: xs, vs, e => by
   simp only [evs] at e
   split at e
   · rename_i v us h1 h2
     injection e with e
     subst e
     rw [List.map_cons, h _ _ h1, evs_eval h h2]
   · cases e

theorem run_part {P : Program} (w : World) {t : TypeId} {i : Ti} (hi : TiOk P t i) (cs : Array Value) (off : Nat) (v : Value)
   (h : (if aggD i.desc then some (Value.agg (List.toArray ((cs.toList.drop off).take i.size))) else cs.toList[off]?) = some v) : (part t cs off).run P w = .ok v w := by
 obtain ⟨hu, j, hj, h1, h2, h3⟩ := hi
 have hA : (isAgg t).run P w = .ok (aggD i.desc) w := by
   unfold isAgg
   rw [Sem.run_bind, run_underlying hu w]
   cases i.desc <;> rfl
 by_cases ha : aggD i.desc = true
 · rw [if_pos ha] at h
   injection h with h
   subst h
   simp only [part, Sem.run_bind, hA, ha, Result.andThen_ok, if_true]
   simp only [sizeOf, typeInfo, Sem.run_bind, run_program, hj, Result.andThen_ok, Sem.run_pure, h1]
   congr 2
   apply Array.ext'
   simp
 · rw [if_neg ha] at h
   have ha' : aggD i.desc = false := by simpa using ha
   have h' : cs[off]? = some v := by simpa using h
   simp [part, hA, ha', h']

theorem pint_run {P : Program} {w : World} {op : BinOp} {k : IntKind} {a b : Int} {v : Value} (h : pint op k a b = some v) (t : TypeId) : (binOp op t (.int k a) (.int k b)).run P w = .ok v w := by
 cases op <;> simp only [pint, Option.some.injEq] at h <;> first
   | (cases h; done)
   | (subst h; simp [binOp, Op.intArith, Op.intCmp]; done)
   | (subst h; simp [binOp, Op.intBits, bop]; done)

theorem Ev.pure {op : Op} {v : Value} (h : pev X.tab Γ op = some v) : Ev X β Γ R H op v := by
 intro ρ w hρ hs o ho
 cases op with
 | move x => simp only [pev] at h; simp [execOp, ho, hρ _ _ h]
 | assign x => simp only [pev] at h; simp [execOp, ho, hρ _ _ h]
 | pick c a b =>
   simp only [pev] at h
   split at h
   · rename_i h1; simp [execOp, ho, hρ _ _ h1, hρ _ _ h, asBool]
   · rename_i h1; simp [execOp, ho, hρ _ _ h1, hρ _ _ h, asBool]
   · cases h
 | binOp bo xt x y yt =>
   simp only [pev] at h
   split at h
   · rename_i k a k' b h1 h2
     split at h
     · rename_i hk
       subst hk
       have hg : (eqGuard bo xt x y (.int k a) (.int k b)).run X.P w = .ok () w := by
         unfold eqGuard
         split <;> rfl
       simp [execOp, ho, hρ _ _ h1, hρ _ _ h2, hg, pint_run h xt]
     · cases h
   · cases h
 | unOp uo t x =>
   simp only [pev] at h
   split at h
   · rename_i b h1; injection h with h; subst h; simp [execOp, ho, hρ _ _ h1, Op.unary]
   · rename_i k m h1; injection h with h; subst h; simp [execOp, ho, hρ _ _ h1, Op.unary, Op.intArith]
   · cases h
 | convert s d x =>
   simp only [pev] at h
   split at h
   · rename_i i0 i kk m h1 h2 h3
     split at h
     · rename_i k hk
       injection h with h
       subst h
       have e1 := (X.ok _ _ h1).und
       have e2 := (X.ok _ _ h2).und
       rw [hk] at e2
       simp only [execOp, ho, hρ _ _ h3, convert]
       simp [run_underlying e1, run_underlying e2, Conv.intToInt]
     · cases h
   · cases h
 | extract t i =>
   simp only [pev] at h
   split at h
   · rename_i vs h1
     simp [execOp, ho, hρ _ _ h1, Instr.extract, h]
   · cases h
 | makeFunc fn first cap =>
   simp only [pev] at h
   split at h
   · rename_i f c h1 h2
     injection h with h
     subst h
     have e1 := evs_eval hρ h1
     have e2 := evs_eval hρ h2
     have e1' : first.map ρ = List.toArray f := by apply Array.ext'; simpa using e1
     have e2' : cap.map ρ = List.toArray c := by apply Array.ext'; simpa using e2
     simp [execOp, ho, Instr.makeFunc, e1', e2']
   · cases h
 | makeInterface t x =>
   simp only [pev] at h
   split at h
   · rename_i i u h1 h2
     split at h
     · cases h
     · rename_i hi
       injection h with h
       subst h
       have e1 := (X.ok _ _ h1).und
       simp only [execOp, ho, hρ _ _ h2, Instr.makeInterface]
       rw [Sem.run_bind, Sem.run_bind, run_underlying e1]
       cases hd : i.desc <;> simp [hd, isIface] at hi ⊢
   · cases h
 | field t x f =>
   simp only [pev] at h
   split at h
   · rename_i i cs h1 h2
     split at h
     · rename_i fs hd
       split at h
       · rename_i fd hfd
         have e1 := (X.ok _ _ h1).und
         rw [hd] at e1
         unfold fieldPart at h
         split at h
         · rename_i fi hfi
           have hp := run_part (P := X.P) w (X.ok _ _ hfi) cs fd.offset v h
           simp [execOp, ho, hρ _ _ h2, Instr.field, run_underlying e1, hfd, asAgg, hp]
         · cases h
       · cases h
     · cases h
   · cases h
 | call c =>
   obtain ⟨cal, args, tys⟩ := c
   simp only [pev] at h
   split at h
   · unfold plen at h
     split at h
     · rename_i x t hx ht
       obtain ⟨args⟩ := args
       obtain ⟨tys⟩ := tys
       simp only at hx ht
       subst hx ht
       split at h
       · rename_i i a k cc h1 h2
         split at h
         · rename_i hd
           injection h with h
           subst h
           have e1 := (X.ok _ _ h1).und
           rw [hd] at e1
           simp [execOp, ho, resolve, invoke, builtin, hρ _ _ h2, Builtin.len_, run_underlying e1, goInt]
         · cases h
       · rename_i i s h1 h2
         split at h
         · rename_i hd
           injection h with h
           subst h
           have e1 := (X.ok _ _ h1).und
           rw [hd] at e1
           simp [execOp, ho, resolve, invoke, builtin, hρ _ _ h2, Builtin.len_, run_underlying e1, goInt]
         · cases h
       · rename_i i cs h1 h2
         split at h
         · rename_i hd
           injection h with h
           subst h
           have e1 := (X.ok _ _ h1).und
           rw [hd] at e1
           simp [execOp, ho, resolve, invoke, builtin, hρ _ _ h2, Builtin.len_, run_underlying e1, goInt]
         · cases h
       · cases h
     · cases h
   · unfold pmin at h
     split at h
     · rename_i x y hx
       obtain ⟨args⟩ := args
       simp only at hx
       subst hx
       split at h
       · rename_i k a k' b h1 h2
         injection h with h
         subst h
         simp [execOp, ho, resolve, invoke, builtin, hρ _ _ h1, hρ _ _ h2, Builtin.min_, Builtin.min2]
       · cases h
     · cases h
   · unfold pmin at h
     split at h
     · rename_i x y hx
       obtain ⟨args⟩ := args
       simp only at hx
       subst hx
       split at h
       · rename_i k a k' b h1 h2
         injection h with h
         subst h
         simp [execOp, ho, resolve, invoke, builtin, hρ _ _ h1, hρ _ _ h2, Builtin.max_, Builtin.max2]
       · cases h
     · cases h
   · cases h
 | _ => simp [pev] at h

end
end Go.Sl
end
/-
  The small separation logic, third text: arithmetic that fits, reading memory, addresses, slices.
-/
section
namespace Go.Sl

section
variable {X : Cx} {β : Base} {Γ : Env} {R H : List Pr}

theorem wrap_in {a : Int} (h0 : -9223372036854775808 ≤ a) (h1 : a ≤ 9223372036854775807) : IntKind.i64.wrap a = a := by rw [IntKind.wrap_i64]; omega

theorem Ev.cast {op : Op} {v u : Value} (h : Ev X β Γ R H op v) (e : v = u) : Ev X β Γ R H op u := e ▸ h

theorem Ev.add {t ty : Nat} {x y : Operand} {a b : Int} (hx : ev Γ x = some (.int .i64 a)) (hy : ev Γ y = some (.int .i64 b)) (h0 : -9223372036854775808 ≤ a + b) (h1 : a + b ≤ 9223372036854775807) :
   Ev X β Γ R H (.binOp .add t x y ty) (.int .i64 (a + b)) :=
 (Ev.pure (v := .int .i64 (IntKind.i64.wrap (a + b))) (by simp [pev, hx, hy, pint])).cast (by rw [wrap_in h0 h1])
theorem Ev.sub {t ty : Nat} {x y : Operand} {a b : Int} (hx : ev Γ x = some (.int .i64 a)) (hy : ev Γ y = some (.int .i64 b)) (h0 : -9223372036854775808 ≤ a - b) (h1 : a - b ≤ 9223372036854775807) :
   Ev X β Γ R H (.binOp .sub t x y ty) (.int .i64 (a - b)) :=
 (Ev.pure (v := .int .i64 (IntKind.i64.wrap (a - b))) (by simp [pev, hx, hy, pint])).cast (by rw [wrap_in h0 h1])
theorem Ev.mul {t ty : Nat} {x y : Operand} {a b : Int} (hx : ev Γ x = some (.int .i64 a)) (hy : ev Γ y = some (.int .i64 b)) (h0 : -9223372036854775808 ≤ a * b) (h1 : a * b ≤ 9223372036854775807) :
   Ev X β Γ R H (.binOp .mul t x y ty) (.int .i64 (a * b)) :=
 (Ev.pure (v := .int .i64 (IntKind.i64.wrap (a * b))) (by simp [pev, hx, hy, pint])).cast (by rw [wrap_in h0 h1])

theorem run_guard {P : Program} {w : World} (op : BinOp) (t : TypeId) (x y : Operand) (j k : IntKind) (a b : Int) : (eqGuard op t x y (.int j a) (.int k b)).run P w = .ok () w := by
 unfold eqGuard
 split <;> rfl

theorem Ev.rem {t ty : Nat} {x y : Operand} {k : IntKind} {a b : Int} (hx : ev Γ x = some (.int k a)) (hy : ev Γ y = some (.int k b)) (h0 : 0 ≤ a) (h1 : 0 < b) :
   Ev X β Γ R H (.binOp .rem t x y ty) (.int k (a % b)) := by
 intro ρ w hρ hs o ho
 have hb : ¬ b = 0 := by omega
 simp [execOp, ho, hρ _ _ hx, hρ _ _ hy, run_guard, binOp, Op.intDiv, hb, Int.tmod_eq_emod_of_nonneg h0]
theorem Ev.quo {t ty : Nat} {x y : Operand} {a b : Int} (hx : ev Γ x = some (.int .i64 a)) (hy : ev Γ y = some (.int .i64 b)) (h0 : 0 ≤ a) (h1 : 0 < b) (h2 : a ≤ 9223372036854775807) :
   Ev X β Γ R H (.binOp .quo t x y ty) (.int .i64 (a / b)) := by
 intro ρ w hρ hs o ho
 have hb : ¬ b = 0 := by omega
 have h3 : 0 ≤ a / b := Int.ediv_nonneg h0 (by omega)
 have h4 : a / b ≤ a := Int.ediv_le_self _ h0
 simp [execOp, ho, hρ _ _ hx, hρ _ _ hy, run_guard, binOp, Op.intDiv, hb, Int.tdiv_eq_ediv_of_nonneg h0, wrap_in (a := a / b) (by omega) (by omega)]
theorem Ev.toInt {s d : Nat} {x : Operand} {k : IntKind} {m : Int} {i j : Ti} (hs : tlook s X.tab = some i) (hd : tlook d X.tab = some j) (hj : j.desc = .int .i64) (hx : ev Γ x = some (.int k m))
   (h0 : -9223372036854775808 ≤ m) (h1 : m ≤ 9223372036854775807) : Ev X β Γ R H (.convert s d x) (.int .i64 m) :=
 (Ev.pure (v := .int .i64 (IntKind.i64.wrap m)) (by simp [pev, hs, hd, hj, hx])).cast (by rw [wrap_in h0 h1])

/-! ### Reading -/
def Src (R H : List Pr) (A : Option Addr) (xs : List Value) : Prop := ∀ β w, Sat β w R H → ∀ (j : Nat) u, xs[j]? = some u → ∃ a, A = some a ∧ w.cell? (a.add j) = some u

theorem Src.r (j : Nat) {A : Option Addr} {xs : List Value} (h : R[j]? = some (Rd A xs)) : Src R H A xs := fun _ _ hs => hs.rd _ (List.mem_of_getElem? h)
theorem Src.o (j : Nat) {e : TypeId} {sz : Nat} {A : Option Addr} {n c : Nat} {xs : List Value} (h : H[j]? = some (Own e sz A n c xs)) : Src R H A xs := by
 intro β w hs k u hu
 obtain ⟨g, hA, hc, _⟩ := Own.cell (hs.own j _ h) hu
 exact ⟨_, hA, by rw [adz]; exact hc⟩
theorem Src.nil {A : Option Addr} : Src R H A [] := fun _ _ _ j u hu => by simp at hu
theorem Src.take {A : Option Addr} {xs : List Value} (h : Src R H A xs) (m : Nat) : Src R H A (xs.take m) := fun β w hs j u hu => h β w hs j u (by
 rw [List.getElem?_take] at hu
 split at hu
 · exact hu
 · cases hu)
theorem Src.cast {A : Option Addr} {xs ys : List Value} (h : Src R H A xs) (e : xs = ys) : Src R H A ys := e ▸ h

def subA (A : Option Addr) (c l sz : Nat) : Option Addr := if c = l then A else A.map (·.add (l * sz))

theorem Src.sub {A : Option Addr} {xs : List Value} (h : Src R H A xs) (c l sz : Nat) (hl : xs.length ≤ c * sz) : Src R H (subA A c l sz) (xs.drop (l * sz)) := by
 intro β w hs j u hu
 rw [List.getElem?_drop] at hu
 have hlt := (List.getElem?_eq_some_iff.1 hu).1
 obtain ⟨a, hA, hc⟩ := h β w hs _ u hu
 unfold subA
 rw [if_neg (by rintro rfl; omega)]
 exact ⟨a.add (l * sz), by rw [hA]; rfl, by rw [addadd]; exact hc⟩

theorem run_isAgg {P : Program} (w : World) {t : TypeId} {i : Ti} (hi : TiOk P t i) : (isAgg t).run P w = .ok (aggD i.desc) w := by
 unfold isAgg
 rw [Sem.run_bind, run_underlying hi.und w]
 cases i.desc <;> rfl
theorem run_sizeOf' {P : Program} (w : World) {t : TypeId} {i : Ti} (hi : TiOk P t i) : (sizeOf t).run P w = .ok i.size w := by
 obtain ⟨_, j, hj, h1, _⟩ := hi
 simp [sizeOf, typeInfo, hj, h1]

theorem Ev.load {t k : Nat} {x : Operand} {i : Ti} {A : Option Addr} {xs : List Value} {v : Value} (ht : tlook t X.tab = some i) (ha : aggD i.desc = false) (hx : ev Γ x = some (ptrOf A k)) (hs : Src R H A xs)
   (hv : xs[k]? = some v) : Ev X β Γ R H (.load t x) v := by
 intro ρ w hρ hw o ho
 obtain ⟨a, rfl, hc⟩ := hs β w hw k v hv
 have hx' : ρ x = .pointer (some (a.add k)) := hρ _ _ hx
 have hA := run_isAgg (P := X.P) w (X.ok _ _ ht)
 rw [ha] at hA
 simp [execOp, ho, hx', Instr.loadAt, Instr.sureAddr, loadVar, hA, hc]

theorem Ev.loadA {t k : Nat} {x : Operand} {i : Ti} {A : Option Addr} {xs vs : List Value} (ht : tlook t X.tab = some i) (ha : aggD i.desc = true) (hx : ev Γ x = some (ptrOf A k)) (hs : Src R H A xs)
   (hv : (xs.drop k).take i.size = vs) (hl : vs.length = i.size) (h0 : 0 < i.size) : Ev X β Γ R H (.load t x) (.agg (List.toArray vs)) := by
 intro ρ w hρ hw o ho
 have hget : ∀ (j : Nat) u, vs[j]? = some u → xs[k + j]? = some u := by
   intro j u hu
   rw [← hv, List.getElem?_take] at hu
   split at hu
   · rw [List.getElem?_drop] at hu; exact hu
   · cases hu
 obtain ⟨u0, hu0⟩ : ∃ u, vs[0]? = some u := ⟨_, List.getElem?_eq_getElem (by omega)⟩
 obtain ⟨a, rfl, _⟩ := hs β w hw _ _ (hget 0 u0 hu0)
 have hx' : ρ x = .pointer (some (a.add k)) := hρ _ _ hx
 have hA := run_isAgg (P := X.P) w (X.ok _ _ ht)
 have hS := run_sizeOf' (P := X.P) w (X.ok _ _ ht)
 rw [ha] at hA
 have hlc := run_loadCells_list (P := X.P) w (a.add k) vs (fun j u hu => by
   obtain ⟨b, hb, hc⟩ := hs β w hw _ _ (hget j u hu)
   injection hb with hb
   subst hb
   rw [addadd]
   exact hc)
 rw [hl] at hlc
 simp [execOp, ho, hx', Instr.loadAt, Instr.sureAddr, loadVar, hA, hS, hlc]

theorem Ev.fieldAddr {t f k m : Nat} {x : Operand} {i fi : Ti} {fs : Array Field} {fd : Field} {A : Option Addr} {xs : List Value} (ht : tlook t X.tab = some i) (hd : i.desc = .struct fs) (hf : fs[f]? = some fd)
   (hft : tlook fd.type X.tab = some fi) (hfs : Nat.blt 0 fi.size = true) (hx : ev Γ x = some (ptrOf A k)) (hs : Src R H A xs) (h0 : 0 < xs.length) (hm : k + fd.offset = m) : Ev X β Γ R H (.fieldAddr t x f) (ptrOf A m) := by
 intro ρ w hρ hw o ho
 obtain ⟨u0, hu0⟩ : ∃ u, xs[0]? = some u := ⟨_, List.getElem?_eq_getElem h0⟩
 obtain ⟨a, rfl, _⟩ := hs β w hw _ _ hu0
 have hx' : ρ x = .pointer (some (a.add k)) := hρ _ _ hx
 have e1 := (X.ok _ _ ht).und
 rw [hd] at e1
 have hS := run_sizeOf' (P := X.P) w (X.ok _ _ hft)
 have hz : ¬ fi.size = 0 := by rw [Nat.blt_eq] at hfs; omega
 subst hm
 simp [execOp, ho, hx', Instr.fieldAt, Instr.sureAddr, run_underlying e1, hf, fieldPlace, hS, hz, addadd, ptrOf]

theorem Ev.nilCheck {k : Nat} {x : Operand} {A : Option Addr} {xs : List Value} (hx : ev Γ x = some (ptrOf A k)) (hs : Src R H A xs) (h0 : 0 < xs.length) : Ev X β Γ R H (.nilCheck x) (ptrOf A k) := by
 intro ρ w hρ hw o ho
 obtain ⟨u0, hu0⟩ : ∃ u, xs[0]? = some u := ⟨_, List.getElem?_eq_getElem h0⟩
 obtain ⟨a, rfl, _⟩ := hs β w hw _ _ hu0
 have hx' : ρ x = .pointer (some (a.add k)) := hρ _ _ hx
 simp [execOp, ho, hx', ptrOf]

/-- &s[k] of a slice. -/
theorem Ev.idx {t e k m n c : Nat} {x y : Operand} {kd : IntKind} {q : Int} {i ei : Ti} {A : Option Addr} {xs : List Value} (ht : tlook t X.tab = some i) (hd : i.desc = .slice e) (he : tlook e X.tab = some ei)
   (hx : ev Γ x = some (.slice A n c)) (hy : ev Γ y = some (.int kd q)) (hq : q = (k : Int)) (hk : k < n) (hs : Src R H A xs) (h0 : 0 < xs.length) (hm : k * ei.size = m) : Ev X β Γ R H (.indexAddr t x y) (ptrOf A m) := by
 intro ρ w hρ hw o ho
 obtain ⟨u0, hu0⟩ : ∃ u, xs[0]? = some u := ⟨_, List.getElem?_eq_getElem h0⟩
 obtain ⟨a, rfl, _⟩ := hs β w hw _ _ hu0
 have e1 := (X.ok _ _ ht).und
 rw [hd] at e1
 have hS := run_sizeOf' (P := X.P) w (X.ok _ _ he)
 subst hq hm
 have hb : (0 : Int) ≤ k ∧ (k : Int) < n := by omega
 simp [execOp, ho, hρ _ _ hx, hρ _ _ hy, Instr.indexAt, asIntOf, run_underlying e1, hS, ptrOf, hk]
/-- &s[k], elements of one cell. -/
theorem Ev.idx1 {t e k n c : Nat} {x y : Operand} {kd : IntKind} {q : Int} {i ei : Ti} {A : Option Addr} {xs : List Value} (ht : tlook t X.tab = some i) (hd : i.desc = .slice e) (he : tlook e X.tab = some ei) (hz : ei.size = 1)
   (hx : ev Γ x = some (.slice A n c)) (hy : ev Γ y = some (.int kd q)) (hq : q = (k : Int)) (hk : k < n) (hs : Src R H A xs) (h0 : 0 < xs.length) : Ev X β Γ R H (.indexAddr t x y) (ptrOf A k) :=
 Ev.idx ht hd he hx hy hq hk hs h0 (by rw [hz, Nat.mul_one])

/-- &p[k], p the address of an array. -/
theorem Ev.idxArr {t e k m n b : Nat} {x y : Operand} {kd : IntKind} {q : Int} {i ei : Ti} {A : Option Addr} {xs : List Value} (ht : tlook t X.tab = some i) (hd : i.desc = .array n e) (he : tlook e X.tab = some ei)
   (hx : ev Γ x = some (ptrOf A b)) (hy : ev Γ y = some (.int kd q)) (hq : q = (k : Int)) (hk : k < n) (hs : Src R H A xs) (h0 : 0 < xs.length) (hm : b + k * ei.size = m) : Ev X β Γ R H (.indexAddr t x y) (ptrOf A m) := by
 intro ρ w hρ hw o ho
 obtain ⟨u0, hu0⟩ : ∃ u, xs[0]? = some u := ⟨_, List.getElem?_eq_getElem h0⟩
 obtain ⟨a, rfl, _⟩ := hs β w hw _ _ hu0
 have hx' : ρ x = .pointer (some (a.add b)) := hρ _ _ hx
 have e1 := (X.ok _ _ ht).und
 rw [hd] at e1
 have hS := run_sizeOf' (P := X.P) w (X.ok _ _ he)
 subst hq hm
 simp [execOp, ho, hx', hρ _ _ hy, Instr.indexAt, asIntOf, Instr.sureAddr, run_underlying e1, hS, ptrOf, hk, addadd]

/-- s[:h] -/
theorem Ev.sliceH {t e n c h : Nat} {x y : Operand} {kd : IntKind} {q : Int} {i ei : Ti} {A : Option Addr} (ht : tlook t X.tab = some i) (hd : i.desc = .slice e) (he : tlook e X.tab = some ei) (hx : ev Γ x = some (.slice A n c))
   (hy : ev Γ y = some (.int kd q)) (hq : q = (h : Int)) (hh : h ≤ c) : Ev X β Γ R H (.slice t x none (some y) none) (.slice A h c) := by
 intro ρ w hρ hw o ho
 have e1 := (X.ok _ _ ht).und
 rw [hd] at e1
 have hS := run_sizeOf' (P := X.P) w (X.ok _ _ he)
 subst hq
 have hA : A.map (fun a => a.add (0 * ei.size)) = A := by cases A <;> simp [Addr.add]
 have hA' : A.map (fun a => a.add 0) = A := by cases A <;> simp [Addr.add]
 simp [execOp, ho, hρ _ _ hx, hρ _ _ hy, Instr.sliceAt, Instr.slice, Instr.sliceBounds, Instr.sliceBound, asIntOf, run_underlying e1, hS, hh, hA']
/-- s[l:] -/
theorem Ev.sliceL {t e n c l : Nat} {x y : Operand} {kd : IntKind} {q : Int} {i ei : Ti} {A : Option Addr} (ht : tlook t X.tab = some i) (hd : i.desc = .slice e) (he : tlook e X.tab = some ei) (hx : ev Γ x = some (.slice A n c))
   (hy : ev Γ y = some (.int kd q)) (hq : q = (l : Int)) (hl : l ≤ n) : Ev X β Γ R H (.slice t x (some y) none none) (.slice (subA A c l ei.size) (n - l) (c - l)) := by
 intro ρ w hρ hw o ho
 have e1 := (X.ok _ _ ht).und
 rw [hd] at e1
 have hS := run_sizeOf' (P := X.P) w (X.ok _ _ he)
 subst hq
 simp [execOp, ho, hρ _ _ hx, hρ _ _ hy, Instr.sliceAt, Instr.slice, Instr.sliceBounds, Instr.sliceBound, asIntOf, run_underlying e1, hS, hl, subA]
/-- s[l:h] -/
theorem Ev.sliceLH {t e n c l h : Nat} {x y z : Operand} {kd kd' : IntKind} {q q' : Int} {i ei : Ti} {A : Option Addr} (ht : tlook t X.tab = some i) (hd : i.desc = .slice e) (he : tlook e X.tab = some ei) (hx : ev Γ x = some (.slice A n c))
   (hy : ev Γ y = some (.int kd q)) (hz : ev Γ z = some (.int kd' q')) (hq : q = (l : Int)) (hq' : q' = (h : Int)) (hl : l ≤ h) (hh : h ≤ c) : Ev X β Γ R H (.slice t x (some y) (some z) none) (.slice (subA A c l ei.size) (h - l) (c - l)) := by
 intro ρ w hρ hw o ho
 have e1 := (X.ok _ _ ht).und
 rw [hd] at e1
 have hS := run_sizeOf' (P := X.P) w (X.ok _ _ he)
 subst hq hq'
 simp [execOp, ho, hρ _ _ hx, hρ _ _ hy, hρ _ _ hz, Instr.sliceAt, Instr.slice, Instr.sliceBounds, Instr.sliceBound, asIntOf, run_underlying e1, hS, hl, hh, subA]

/-- cs[k] of an array's value. -/
theorem Ev.index {t e k n : Nat} {x y : Operand} {kd : IntKind} {q : Int} {i ei : Ti} {cs : Array Value} {v : Value} (ht : tlook t X.tab = some i) (hd : i.desc = .array n e) (he : tlook e X.tab = some ei) (ha : aggD ei.desc = false) (hz : ei.size = 1)
   (hx : ev Γ x = some (.agg cs)) (hy : ev Γ y = some (.int kd q)) (hq : q = (k : Int)) (hk : k < n) (hv : cs[k]? = some v) : Ev X β Γ R H (.index t x y) v := by
 intro ρ w hρ hw o ho
 have e1 := (X.ok _ _ ht).und
 rw [hd] at e1
 have hS := run_sizeOf' (P := X.P) w (X.ok _ _ he)
 have hp := run_part (P := X.P) w (X.ok _ _ he) cs k v (by rw [ha]; simpa using hv)
 subst hq
 simp [execOp, ho, hρ _ _ hx, hρ _ _ hy, Instr.index, asIntOf, run_underlying e1, hS, hz, hk, hp]

end
end Go.Sl
end
