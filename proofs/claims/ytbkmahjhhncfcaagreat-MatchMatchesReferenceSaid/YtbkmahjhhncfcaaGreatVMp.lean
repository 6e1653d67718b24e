/-
  Code of two images, with or without an error; one of three.
-/
import Derived.Test.YtbkmahjhhncfcaaGreatVMo
import Derived.Test.YtbkmahjhhncfcaaGreatVPl
import Derived.Test.YtbkmahjhhncfcaaGreatVLaf
import Derived.Test.YtbkmahjhhncfcaaGreatVWLaL
import Derived.Test.YtbkmahjhhncfcaaGreatVMn
section
namespace Go.Sl

theorem Ctr.adds {X : Cx} {f : FuncId} {args : List Value} {R H : List Pr} {Φ Ψ : Value → List Pr → List Pr → Prop} (h : Ctr X f args R H Φ)
   (hi : ∀ v R' H', Φ v R' H' → ∃ R'', Ψ v R'' H' ∧ ∀ r ∈ R'', r ∈ R' ∨ ((∀ w, r.p w) ∧ ∀ k, ¬ r.fp k)) : Ctr X f args R H Ψ := by
 refine ⟨h.1, fun w hs => (h.2 w hs).mono ?_⟩
 rintro e w' ⟨v, R', H', hv, he, hs'⟩
 obtain ⟨R'', h1, h2⟩ := hi v R' H' hv
 refine ⟨v, R'', H', h1, he, hs'.reads R'' fun r hr => ?_⟩
 rcases h2 r hr with h3 | ⟨h3, h4⟩
 · exact .inl h3
 · exact .inr ⟨h3 w', fun k hk => absurd hk (h4 k)⟩
theorem rd_nil (A : Option Addr) : (∀ w, (Rd A []).p w) ∧ ∀ k, ¬ (Rd A []).fp k := ⟨fun _ j u hu => by simp at hu, fun _ hk => absurd rfl hk.1⟩
theorem kids_nil : (∀ w, (KidsR [] []).p w) ∧ ∀ k, ¬ (KidsR [] []).fp k := ⟨fun _ i h v hh => by simp at hh, fun _ ⟨i, h, v, hh, _⟩ => by simp at hh⟩
/-- A patch that came back, as a whole. -/
structure Cd where
 lf : Bool
 inn : Int
 out : Int
 A : Option Addr
 c : Nat
 l : List Pq
def Cd.cells (x : Cd) : List Value := [.bool x.lf, .int .i64 x.inn, .int .i64 x.out, .slice x.A x.l.length x.c]
def codeR (old new : List UInt8) : Int := if liftE old = 0 ∧ liftE new = 0 then 0 else 30
def foF (old : List UInt8) : List UInt8 := formF (liftR old)
structure CdOk (old new : List UInt8) (x : Cd) : Prop where
 lf : x.lf = true
 inn : x.inn = ((foF old).length : Int)
 out : x.out = ((foF new).length : Int)
 mq : MkQ (foF old) (foF new) x.l (refL (foF old) (foF new) : Int)
def codeW (old new : List UInt8) : Nat := if codeR old new = 0 then refL (foF old) (foF new) else 0
theorem codeR_iff {old new : List UInt8} : codeR old new = 0 ↔ liftE old = 0 ∧ liftE new = 0 := by
 unfold codeR
 split
 · exact ⟨fun _ => ‹_›, fun _ => rfl⟩
 · exact ⟨fun h => (by omega), fun h => absurd h ‹_›⟩
theorem codeR_no {old new : List UInt8} (h : ¬ (liftE old = 0 ∧ liftE new = 0)) : codeR old new = 30 := if_neg h
theorem foF_len {b : List UInt8} : (foF b).length ≤ 11 + 7 * (b.length / 4) := by
 unfold foF
 rw [formF_len]
 obtain ⟨h1, h2, h3⟩ := liftR_lens b
 omega
/-- Two images. -/
structure Im where
 A : Option Addr
 c : Nat
 l : List UInt8
def pick3 {α : Type} (a b c : α) : Nat → α
 | 0 => a
 | 1 => b
 | _ => c
theorem three {i : Nat} (h : i < 3) : i = 0 ∨ i = 1 ∨ i = 2 := by omega
theorem pick3_all {α : Type} {p : α → Prop} {a b c : α} (ha : p a) (hb : p b) (hc : p c) : ∀ i, p (pick3 a b c i)
 | 0 => ha
 | 1 => hb
 | _ + 2 => hc
theorem Has.oneOf3 {R H : List Pr} (r : Nat → Pr) (h0 : Has R H (r 0)) (h1 : Has R H (r 1)) (h2 : Has R H (r 2)) {i : Nat} (hi : i < 3) : Has R H (r i) := by
 rcases three hi with rfl | rfl | rfl
 · exact h0
 · exact h1
 · exact h2
end Go.Sl
end
/-
  Forms are read as what they are the forms of.
-/
section
namespace Go.Sl

/-- Labels of code: in ascending order, each a multiple of four, inside. -/
def labOk (ls : List Int) : Prop := ls.length ≤ 16384 ∧ ascL ls ∧ ∀ i, i < ls.length → ls.getD i 0 % 4 = 0 ∧ ls.getD i 0 < 65536
section
variable {x : Lf}
variable (hm : x.ms.length = x.ws.length) (hw : x.ws.length ≤ 16384) (h32 : W32 x.ws) (hl : labOk x.ls)
include hm hw h32 hl
end
/-! ### Labels of code are such ones -/
end Go.Sl
end
/-
  Code of the laws: how long it is; what moved code is.
-/
section
namespace Go.Sl

theorem codB_len (l : List (List UInt8)) (n : Nat) : (codB l n).length ≤ 4 * n := by
 unfold codB
 rw [bytesF_len]
 have := codL_len l n
 omega
/-! ### Moved code -/
end Go.Sl
end
