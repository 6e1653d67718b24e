/-
  The small separation logic: a range over a function.
-/
import Derived.RangeFuncLeaves
import Derived.RangeFuncRecord
import Derived.RangeFuncSeq
import Derived.TacticsIn
import Derived.Test.YtmbjknampholjaaQSlP
namespace Go.Sl

section
variable {X : Cx} {β : Base} {n : Nat} {ds : List Deferred} {ops : Array Oper} {Q : Exit → Act → World → Prop} {rest : List Oper} {Γ : Env} {R H : List Pr}

/-! ### One round -/
/-- A list of operations of which one may call yield. -/
def LY (X : Cx) (β : Base) (n : Nat) (ds : List Deferred) (ops : Array Oper) (Q : Exit → Act → World → Prop) (rest : List Oper) (Γ : Env) (R H : List Pr) : Prop :=
 ∀ a w, Fr n ds a Γ → Sat β w R H → wpListIn Fence.wide 0 X.P ops Q rest a w
theorem LY.nil (h : QE β n ds Q .normal Γ R H) : LY X β n ds ops Q [] Γ R H := fun a w hf hs => h a w hf hs
theorem LY.step {op : Op} {v : Value} {d ty : Nat} {pos : String} {af : Array Edge} (h : Ev X β Γ R H op v) (hd : Nat.blt d n = true) (k : LY X β n ds ops Q rest ((d, v) :: Γ) R H) : LY X β n ds ops Q (⟨some d, op, ty, pos, af, none⟩ :: rest) Γ R H := by
 intro a w hf hs
 refine wpListIn_plain rfl fun K hK => ⟨fun f _ => trivial, ?_⟩
 show Oper.uponIn _ _ _ _ _ _ _ ((execOp a.eval _).run X.P w)
 rw [h a.eval w hf.agree hs _ rfl]
 exact hK _ _ (k _ _ (hf.put (by simpa [Nat.blt_eq] using hd) v) hs)
theorem LY.yes {dst : Option Nat} {op : Op} {ty : Nat} {pos : String} {af : Array Edge} {g : Nat} {b : Bool} (hg : gval ops Γ g = some (.bool b)) (h : LY X β n ds ops Q (⟨dst, op, ty, pos, af, none⟩ :: rest) Γ R H) :
   LY X β n ds ops Q (⟨dst, op, ty, pos, af, some (g, b)⟩ :: rest) Γ R H := by
 intro a w hf hs
 have := h a w hf hs
 have hy := gval_yielded (ops := ops) hf hg
 simp only [wpListIn, Region.wanted, hy, beq_self_eq_true, if_true] at this ⊢
 exact this
theorem LY.no {d : Nat} {op : Op} {ty : Nat} {pos : String} {af : Array Edge} {g : Nat} {b : Bool} {v : Value} (hg : gval ops Γ g = some v) (hv : (match v with | .bool c => c == b | _ => false) = false) (hd : Nat.blt d n = true)
   (h : LY X β n ds ops Q rest ((d, undef) :: Γ) R H) : LY X β n ds ops Q (⟨some d, op, ty, pos, af, some (g, b)⟩ :: rest) Γ R H := by
 intro a w hf hs
 have hy := gval_yielded (ops := ops) hf hg
 have hw : Region.wanted ⟨some d, op, ty, pos, af, some (g, b)⟩ (yielded ops a.tmps) = false := by
   simp only [Region.wanted, hy]
   cases v <;> simp_all
 simp only [wpListIn, hw]
 exact ⟨fun f _ => trivial, h _ _ (hf.put (by simpa [Nat.blt_eq] using hd) undef) hs⟩
theorem LY.bool (s : Nat) {b : Bool} (hb : look s Γ = some (.bool b)) (ht : b = true → LY X β n ds ops Q rest ((s, .bool true) :: Γ) R H) (he : b = false → LY X β n ds ops Q rest ((s, .bool false) :: Γ) R H) : LY X β n ds ops Q rest Γ R H := by
 intro a w hf hs
 have h1 : ∀ c : Bool, b = c → Fr n ds a ((s, .bool c) :: Γ) := by
   rintro c rfl
   refine ⟨hf.size, hf.dfs, fun t u hu => ?_⟩
   simp only [look] at hu
   cases hbq : Nat.beq t s with
   | true =>
     rw [hbq] at hu
     obtain rfl := Nat.eq_of_beq_eq_true hbq
     simp only [cond_true, Option.some.injEq] at hu
     subst hu
     exact hf.vals t _ hb
   | false =>
     rw [hbq] at hu
     exact hf.vals t u hu
 cases b with
 | true => exact ht rfl a w (h1 true rfl) hs
 | false => exact he rfl a w (h1 false rfl) hs

/-- The end of a piece of a round: it has run off its end, in a state of this form. -/
def RQ (T : Act → World → Prop) : Exit → Act → World → Prop := fun e a w => e = .normal ∧ T a w
theorem RQ.out {T : Act → World → Prop} : ¬LetsOut (RQ T) := fun ⟨_, _, h, _⟩ => by cases h
/-! ### The statement -/
/-! ### A function that holds such a loop -/
/-! ### Slices of structs -/
theorem C.own0 {c : Code} (e : TypeId) (sz : Nat) (h : C X β n ds Q c Γ R (H ++ [Own e sz none 0 0 []])) : C X β n ds Q c Γ R H :=
 fun a w hf hs => h a w hf (hs.snoc (Stp.refl w fun _ => False) (fun _ h _ => h) _ (World.ownsRow_nil w 0 e sz) (fun k hk => by obtain ⟨a, ha, _⟩ := hk; cases ha))
/-- The places at which two lists differ, as ranges. -/
def stepR (s : List (Nat × Nat)) (i : Nat) : List (Nat × Nat) := match s.getLast? with
 | some r => if r.2 = i then s.dropLast ++ [(r.1, i + 1)] else s ++ [(i, i + 1)]
 | none => s ++ [(i, i + 1)]
def chgN (a b : List UInt8) : Nat → List (Nat × Nat)
 | 0 => []
 | k + 1 => if a.getD k 0 = b.getD k 0 then chgN a b k else stepR (chgN a b k) k
theorem stepR_snoc (s : List (Nat × Nat)) (p i : Nat) : stepR (s ++ [(p, i)]) i = s ++ [(p, i + 1)] := by simp [stepR]
end
end Go.Sl
