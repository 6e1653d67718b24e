/-
  Code of two images, with or without an error; one of three.
-/
import Derived.Test.YtbkmahjhhncfcaaGreatUWMtI
import Derived.Test.YtbkmahjhhncfcaaGreatUMg
import Derived.Test.YtbkmahjhhncfcaaGreatULaf
import Derived.Test.YtbkmahjhhncfcaaGreatULah
import Derived.Test.YtbkmahjhhncfcaaGreatUMi
section
namespace Go.Sl

/-- A patch that came back, as a whole. -/
structure Cd where
 lf : Bool
 inn : Int
 out : Int
 A : Option Addr
 c : Nat
 l : List Pq
def Cd.cells (x : Cd) : List Value := [.bool x.lf, .int .i64 x.inn, .int .i64 x.out, .slice x.A x.l.length x.c]
def foF (old : List UInt8) : List UInt8 := formF (liftR old)
structure CdOk (old new : List UInt8) (x : Cd) : Prop where
 lf : x.lf = true
 inn : x.inn = ((foF old).length : Int)
 out : x.out = ((foF new).length : Int)
 mq : MkQ (foF old) (foF new) x.l (refL (foF old) (foF new) : Int)
/-- Two images. -/
structure Im where
 A : Option Addr
 c : Nat
 l : List UInt8
end Go.Sl
end
/-
  Forms are read as what they are the forms of.
-/
section
namespace Go.Sl

/-- Labels of code: in ascending order, each a multiple of four, inside. -/
def labOk (ls : List Int) : Prop := ls.length ≤ 16384 ∧ ascL ls ∧ ∀ i, i < ls.length → ls.getD i 0 % 4 = 0 ∧ ls.getD i 0 < 65536
section
variable {x : Lf}
variable (hm : x.ms.length = x.ws.length) (hw : x.ws.length ≤ 16384) (h32 : W32 x.ws) (hl : labOk x.ls)
include hm hw h32 hl
end
/-! ### Labels of code are such ones -/
end Go.Sl
end
/-
  Right operations out of bytes; the cost of a right patch.
-/
section
namespace Go.Sl

section
variable {X : Cx} {β : Base} {Γ : Env} {R H : List Pr}
theorem Ev.mul8 {t ty : Nat} {x y : Operand} {a b : Int} (hx : ev Γ x = some (.int .u8 a)) (hy : ev Γ y = some (.int .u8 b)) : Ev X β Γ R H (.binOp .mul t x y ty) (.int .u8 ((UInt8.ofInt (a * b)).toNat : Int)) :=
 (Ev.pure (v := .int .u8 (IntKind.u8.wrap (a * b))) (by simp [pev, hx, hy, pint])).cast (by
   rw [wrap_u8]
   congr 1
   simp [UInt8.ofInt, UInt8.toNat_ofNat']
   omega)
end
/-- What op has found out about an operation. -/
structure OpF (k fr ln : Nat) (b : UInt8) (size : Nat) : Prop where
 kind : (k = 1 ∨ k = 2) ∧ fr + ln ≤ size ∨ (k = 3 ∨ k = 4) ∧ fr = 0
 len : 1 ≤ ln ∧ ln ≤ 5
 byte : k ≠ 3 → b = 0
theorem OpF.good {k fr ln : Nat} {b : UInt8} {size : Nat} (h : OpF k fr ln b size) {d : List UInt8} {A : Option Addr} {c : Nat} (hd : (k = 2 ∨ k = 4) ∧ d.length = ln ∨ ¬ (k = 2 ∨ k = 4) ∧ d.length = 0) : GoodQ ⟨(k : Int), (fr : Int), (ln : Int), b, d, A, c⟩ (size : Int) := by
 refine ⟨by have := h.len.1; show (1 : Int) ≤ (ln : Int); omega, ?_⟩
 have hk := h.kind
 have hb := h.byte
 have z : (k ≠ 3 → ((b.toNat : Int) = 0)) := fun q => by rw [hb q]; rfl
 have e : k = 1 ∨ k = 2 ∨ k = 3 ∨ k = 4 := by omega
 unfold rigQ insQ
 dsimp only
 rcases e with rfl | rfl | rfl | rfl
 · rw [if_pos (by decide), Bool.and_eq_true, Bool.and_eq_true]
   exact ⟨⟨decide_eq_true (by omega), decide_eq_true (z (by decide))⟩, decide_eq_true (by omega)⟩
 · rw [if_neg (by decide), if_pos (by decide), Bool.and_eq_true, Bool.and_eq_true]
   exact ⟨⟨decide_eq_true (by omega), decide_eq_true (z (by decide))⟩, decide_eq_true (by omega)⟩
 · rw [if_neg (by decide), if_neg (by decide), if_pos (by decide), Bool.and_eq_true]
   exact ⟨decide_eq_true (by omega), decide_eq_true (by omega)⟩
 · rw [if_neg (by decide), if_neg (by decide), if_neg (by decide), if_pos (by decide), Bool.and_eq_true, Bool.and_eq_true]
   exact ⟨⟨decide_eq_true (by omega), decide_eq_true (z (by decide))⟩, decide_eq_true (by omega)⟩
/-- No right patch costs less. -/
theorem ref_least {old new : List UInt8} {l : List Pq} (h : ∀ x ∈ l, GoodQ x (old.length : Int)) (hr : outsQ old l = new) : (refL old new : Int) ≤ cosL l := by
 have h1 := dp_least (ref_dp old new) l 0 h (Nat.zero_le _) (by rw [List.drop_zero]; exact hr)
 have h0 := (ref_dp old new).zero
 try dsimp only at h0 h1
 unfold refL
 omega
theorem outsQ_len {old : List UInt8} {l : List Pq} (h : ∀ x ∈ l, 1 ≤ x.ln) : ((outsQ old l).length : Int) = lnsQ l := by
 unfold outsQ
 rw [runB_len, sylQ_len h]
/-- What Sized has made so far. -/
structure SzOk (size i : Nat) (l : List Pq) : Prop where
 len : l.length = i
 good : ∀ x ∈ l, GoodQ x (size : Int)
 lns : 0 ≤ lnsQ l ∧ lnsQ l ≤ 5 * (i : Int)
theorem SzOk.nil (size : Nat) : SzOk size 0 [] := ⟨rfl, fun x hx => by simp at hx, by simp [lnsQ]⟩
theorem SzOk.snoc {size i : Nat} {l : List Pq} (h : SzOk size i l) {x : Pq} (hx : GoodQ x (size : Int)) (h5 : x.ln ≤ 5) : SzOk size (i + 1) (l ++ [x]) := by
 refine ⟨by rw [List.length_append, h.len]; rfl, fun y hy => ?_, ?_⟩
 · rcases List.mem_append.1 hy with hy | hy
   · exact h.good y hy
   · rw [List.mem_singleton.1 hy]
     exact hx
 · rw [lnsQ_snoc]
   have := h.lns
   have := hx.1
   omega
theorem SzOk.chk {size i : Nat} {l : List Pq} (h : SzOk size i l) (hi : i ≤ 6) (hs : size ≤ 65536) : chkP (size : Int) (lnsQ l) l = 0 := by
 have := h.lns
 exact chkP_iff.2 ⟨by omega, by omega, by omega, by omega, by rw [h.len]; omega, h.good, rfl⟩
end Go.Sl
end
