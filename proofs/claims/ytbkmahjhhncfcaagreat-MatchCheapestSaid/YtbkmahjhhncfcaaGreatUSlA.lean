/-
  The small separation logic, second text: the operations that leave the world alone.
-/
import Derived.Test.YtbkmahjhhncfcaaGreatUSl
namespace Go.Sl

def bop (op : BinOp) (k : IntKind) (a b : Int) : Int :=
 match op with
 | .and => k.wrap (BitVec.ofInt k.bits a &&& BitVec.ofInt k.bits b).toNat
 | .or => k.wrap (BitVec.ofInt k.bits a ||| BitVec.ofInt k.bits b).toNat
 | .xor => k.wrap (BitVec.ofInt k.bits a ^^^ BitVec.ofInt k.bits b).toNat
 | _ => k.wrap (BitVec.ofInt k.bits a &&& ~~~(BitVec.ofInt k.bits b)).toNat

def pint (op : BinOp) (k : IntKind) (a b : Int) : Option Value :=
 match op with
 | .add => some (.int k (k.wrap (a + b)))
 | .sub => some (.int k (k.wrap (a - b)))
 | .mul => some (.int k (k.wrap (a * b)))
 | .and => some (.int k (bop .and k a b))
 | .or => some (.int k (bop .or k a b))
 | .xor => some (.int k (bop .xor k a b))
 | .andNot => some (.int k (bop .andNot k a b))
 | .eql => some (.bool (a == b))
 | .neq => some (.bool (a != b))
 | .lss => some (.bool (decide (a < b)))
 | .leq => some (.bool (decide (a ≤ b)))
 | .gtr => some (.bool (decide (a > b)))
 | .geq => some (.bool (decide (a ≥ b)))
 | _ => none

def isIface : TypeDesc → Bool
 | .interface _ => true
 | _ => false

def aggD : TypeDesc → Bool
 | .struct _ => true
 | .array _ _ => true
 | _ => false

def plen (T : List (Nat × Ti)) (Γ : Env) : List Operand → List TypeId → Option Value
 | [x], [t] => match tlook t T, ev Γ x with
   | some i, some (.slice _ n _) => match i.desc with | .slice _ => some (.int .i64 n) | _ => none
   | some i, some (.string s) => match i.desc with | .string => some (.int .i64 s.size) | _ => none
   | some i, some (.agg _) => match i.desc with | .array k _ => some (.int .i64 k) | _ => none
   | _, _ => none
 | _, _ => none

def pmin (_T : List (Nat × Ti)) (Γ : Env) (mx : Bool) : List Operand → Option Value
 | [x, y] => match ev Γ x, ev Γ y with
   | some (.int k a), some (.int _ b) => some (.int k (if mx then (if a < b then b else a) else (if b < a then b else a)))
   | _, _ => none
 | _ => none

def fieldPart (T : List (Nat × Ti)) (cs : List Value) (f : Field) : Option Value :=
 match tlook f.type T with
 | some i => if aggD i.desc then some (.agg (List.toArray ((cs.drop f.offset).take i.size))) else cs[f.offset]?
 | none => none

def pev (T : List (Nat × Ti)) (Γ : Env) : Op → Option Value
 | .move x => ev Γ x
 | .assign x => ev Γ x
 | .pick c a b => match ev Γ c with
   | some (.bool true) => ev Γ a
   | some (.bool false) => ev Γ b
   | _ => none
 | .binOp op _ x y _ => match ev Γ x, ev Γ y with
   | some (.int k a), some (.int k' b) => if k = k' then pint op k a b else none
   | _, _ => none
 | .unOp op _ x => match op, ev Γ x with
   | .not, some (.bool b) => some (.bool (!b))
   | .neg, some (.int k m) => some (.int k (k.wrap (0 - m)))
   | _, _ => none
 | .convert s d x => match tlook s T, tlook d T, ev Γ x with
   | some _, some i, some (.int _ m) => match i.desc with | .int k => some (.int k (k.wrap m)) | _ => none
   | _, _, _ => none
 | .extract t i => match ev Γ t with
   | some (.tuple vs) => vs[i]?
   | _ => none
 | .makeFunc fn first cap => match evs Γ first.toList, evs Γ cap.toList with
   | some f, some c => some (.func fn (List.toArray f) (List.toArray c))
   | _, _ => none
 | .makeInterface t x => match tlook t T, ev Γ x with
   | some i, some v => if isIface i.desc then none else some (.iface t v)
   | _, _ => none
 | .field t x f => match tlook t T, ev Γ x with
   | some i, some (.agg cs) => match i.desc with
     | .struct fs => match fs[f]? with
       | some fd => fieldPart T cs.toList fd
       | none => none
     | _ => none
   | _, _ => none
 | .call c => match c.callee with
   | .builtin .len => plen T Γ c.args.toList c.argTypes.toList
   | .builtin .min => pmin T Γ false c.args.toList
   | .builtin .max => pmin T Γ true c.args.toList
   | _ => none
 | _ => none

section
variable {X : Cx} {β : Base} {Γ : Env} {R H : List Pr}

theorem evs_eval {ρ : Operand → Value} (h : ∀ x u, ev Γ x = some u → ρ x = u) : ∀ {xs : List Operand} {vs : List Value}, evs Γ xs = some vs → xs.map ρ = vs
 | [], vs, e => by injection e
 | x :: xs, vs, e => by
   simp only [evs] at e
   split at e
   · rename_i v us h1 h2
     injection e with e
     subst e
     rw [List.map_cons, h _ _ h1, evs_eval h h2]
   · cases e

theorem run_part {P : Program} (w : World) {t : TypeId} {i : Ti} (hi : TiOk P t i) (cs : Array Value) (off : Nat) (v : Value)
   (h : (if aggD i.desc then some (Value.agg (List.toArray ((cs.toList.drop off).take i.size))) else cs.toList[off]?) = some v) : (part t cs off).run P w = .ok v w := by
 obtain ⟨hu, j, hj, h1, h2, h3⟩ := hi
 have hA : (isAgg t).run P w = .ok (aggD i.desc) w := by
   unfold isAgg
   rw [Sem.run_bind, run_underlying hu w]
   cases i.desc <;> rfl
 by_cases ha : aggD i.desc = true
 · rw [if_pos ha] at h
   injection h with h
   subst h
   simp only [part, Sem.run_bind, hA, ha, Result.andThen_ok, if_true]
   simp only [sizeOf, typeInfo, Sem.run_bind, run_program, hj, Result.andThen_ok, Sem.run_pure, h1]
   congr 2
   apply Array.ext'
   simp
 · rw [if_neg ha] at h
   have ha' : aggD i.desc = false := by simpa using ha
   have h' : cs[off]? = some v := by simpa using h
   simp [part, hA, ha', h']

theorem pint_run {P : Program} {w : World} {op : BinOp} {k : IntKind} {a b : Int} {v : Value} (h : pint op k a b = some v) (t : TypeId) : (binOp op t (.int k a) (.int k b)).run P w = .ok v w := by
 cases op <;> simp only [pint, Option.some.injEq] at h <;> first
   | (cases h; done)
   | (subst h; simp [binOp, Op.intArith, Op.intCmp]; done)
   | (subst h; simp [binOp, Op.intBits, bop]; done)

theorem Ev.pure {op : Op} {v : Value} (h : pev X.tab Γ op = some v) : Ev X β Γ R H op v := by
 intro ρ w hρ hs o ho
 cases op with
 | move x => simp only [pev] at h; simp [execOp, ho, hρ _ _ h]
 | assign x => simp only [pev] at h; simp [execOp, ho, hρ _ _ h]
 | pick c a b =>
   simp only [pev] at h
   split at h
   · rename_i h1; simp [execOp, ho, hρ _ _ h1, hρ _ _ h, asBool]
   · rename_i h1; simp [execOp, ho, hρ _ _ h1, hρ _ _ h, asBool]
   · cases h
 | binOp bo xt x y yt =>
   simp only [pev] at h
   split at h
   · rename_i k a k' b h1 h2
     split at h
     · rename_i hk
       subst hk
       have hg : (eqGuard bo xt x y (.int k a) (.int k b)).run X.P w = .ok () w := by
         unfold eqGuard
         split <;> rfl
       simp [execOp, ho, hρ _ _ h1, hρ _ _ h2, hg, pint_run h xt]
     · cases h
   · cases h
 | unOp uo t x =>
   simp only [pev] at h
   split at h
   · rename_i b h1; injection h with h; subst h; simp [execOp, ho, hρ _ _ h1, Op.unary]
   · rename_i k m h1; injection h with h; subst h; simp [execOp, ho, hρ _ _ h1, Op.unary, Op.intArith]
   · cases h
 | convert s d x =>
   simp only [pev] at h
   split at h
   · rename_i i0 i kk m h1 h2 h3
     split at h
     · rename_i k hk
       injection h with h
       subst h
       have e1 := (X.ok _ _ h1).und
       have e2 := (X.ok _ _ h2).und
       rw [hk] at e2
       simp only [execOp, ho, hρ _ _ h3, convert]
       simp [run_underlying e1, run_underlying e2, Conv.intToInt]
     · cases h
   · cases h
 | extract t i =>
   simp only [pev] at h
   split at h
   · rename_i vs h1
     simp [execOp, ho, hρ _ _ h1, Instr.extract, h]
   · cases h
 | makeFunc fn first cap =>
   simp only [pev] at h
   split at h
   · rename_i f c h1 h2
     injection h with h
     subst h
     have e1 := evs_eval hρ h1
     have e2 := evs_eval hρ h2
     have e1' : first.map ρ = List.toArray f := by apply Array.ext'; simpa using e1
     have e2' : cap.map ρ = List.toArray c := by apply Array.ext'; simpa using e2
     simp [execOp, ho, Instr.makeFunc, e1', e2']
   · cases h
 | makeInterface t x =>
   simp only [pev] at h
   split at h
   · rename_i i u h1 h2
     split at h
     · cases h
     · rename_i hi
       injection h with h
       subst h
       have e1 := (X.ok _ _ h1).und
       simp only [execOp, ho, hρ _ _ h2, Instr.makeInterface]
       rw [Sem.run_bind, Sem.run_bind, run_underlying e1]
       cases hd : i.desc <;> simp [hd, isIface] at hi ⊢
   · cases h
 | field t x f =>
   simp only [pev] at h
   split at h
   · rename_i i cs h1 h2
     split at h
     · rename_i fs hd
       split at h
       · rename_i fd hfd
         have e1 := (X.ok _ _ h1).und
         rw [hd] at e1
         unfold fieldPart at h
         split at h
         · rename_i fi hfi
           have hp := run_part (P := X.P) w (X.ok _ _ hfi) cs fd.offset v h
           simp [execOp, ho, hρ _ _ h2, Instr.field, run_underlying e1, hfd, asAgg, hp]
         · cases h
       · cases h
     · cases h
   · cases h
 | call c =>
   obtain ⟨cal, args, tys⟩ := c
   simp only [pev] at h
   split at h
   · unfold plen at h
     split at h
     · rename_i x t hx ht
       obtain ⟨args⟩ := args
       obtain ⟨tys⟩ := tys
       simp only at hx ht
       subst hx ht
       split at h
       · rename_i i a k cc h1 h2
         split at h
         · rename_i hd
           injection h with h
           subst h
           have e1 := (X.ok _ _ h1).und
           rw [hd] at e1
           simp [execOp, ho, resolve, invoke, builtin, hρ _ _ h2, Builtin.len_, run_underlying e1, goInt]
         · cases h
       · rename_i i s h1 h2
         split at h
         · rename_i hd
           injection h with h
           subst h
           have e1 := (X.ok _ _ h1).und
           rw [hd] at e1
           simp [execOp, ho, resolve, invoke, builtin, hρ _ _ h2, Builtin.len_, run_underlying e1, goInt]
         · cases h
       · rename_i i cs h1 h2
         split at h
         · rename_i hd
           injection h with h
           subst h
           have e1 := (X.ok _ _ h1).und
           rw [hd] at e1
           simp [execOp, ho, resolve, invoke, builtin, hρ _ _ h2, Builtin.len_, run_underlying e1, goInt]
         · cases h
       · cases h
     · cases h
   · unfold pmin at h
     split at h
     · rename_i x y hx
       obtain ⟨args⟩ := args
       simp only at hx
       subst hx
       split at h
       · rename_i k a k' b h1 h2
         injection h with h
         subst h
         simp [execOp, ho, resolve, invoke, builtin, hρ _ _ h1, hρ _ _ h2, Builtin.min_, Builtin.min2]
       · cases h
     · cases h
   · unfold pmin at h
     split at h
     · rename_i x y hx
       obtain ⟨args⟩ := args
       simp only at hx
       subst hx
       split at h
       · rename_i k a k' b h1 h2
         injection h with h
         subst h
         simp [execOp, ho, resolve, invoke, builtin, hρ _ _ h1, hρ _ _ h2, Builtin.max_, Builtin.max2]
       · cases h
     · cases h
   · cases h
 | _ => simp [pev] at h

end
end Go.Sl
