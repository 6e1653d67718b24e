/-
  The plain laws of the Flash statements: what cut and whole operations do to a flash, with no program in sight.
-/
import Derived.Test.YthfjkdgopkmgoaaTPm
import Derived.Test.YthfjkdgopkmgoaaTWFlK
section
namespace Go.Sl

/-- An operation that is one, for a sector that is there. -/
structure GoodOp (f : Fl) (x : Fo) : Prop where
  k : x.kind = 1 ∨ x.kind = 2
  s : 0 ≤ x.sec ∧ x.sec ≤ (f.data.length : Int) - 1
  p : x.kind = 2 → 0 ≤ x.at_ ∧ x.at_ ≤ (f.size : Int) ∧ (x.data.length : Int) ≤ (f.size : Int) - x.at_

section
variable {f : Fl} {x : Fo} {mk : Nat → UInt8}
theorem GoodOp.lt (g : GoodOp f x) : x.sec.toNat < f.data.length := by have := g.s; omega
theorem GoodOp.dead (g : GoodOp f x) (h : f.dead.getD x.sec.toNat false = true) : checkE f x = 171 := checkE_3 g.k ⟨g.s.1, g.s.2, g.p⟩ h
/-- The right operations of a flash are those of the flash after an operation. -/
theorem GoodOp.cut (g : GoodOp f x) (y : Fo) : GoodOp (cutF f y mk) x := ⟨g.k, by rw [cutF_data]; exact g.s, g.p⟩

/-- What an operation keeps. -/
structure Kept (f g : Fl) : Prop where
  ok : g.Ok
  n : g.data.length = f.data.length
  s : g.size = f.size
  l : g.limit = f.limit
  w : g.wear.length = f.data.length
  e : g.dead.length = f.data.length
  d : g.dead = f.dead
  r : ∀ i, i < f.data.length → (g.data.getD i []).length = f.size
end
end Go.Sl
end
/-
  Contracts that the walks of the Flash laws share.
-/
section
namespace Go.Proofs.Ythfjkdgopkmgoaa
open Go.Sl

theorem okB_ok {f : Fl} (h : f.Ok) : okB (f.size : Int) f = true := by
  obtain ⟨h1, h2, h3, h4, h5, h6, h7, h8, h9, h10⟩ := h
  exact okB_yes (by omega) (fun i hi => okR_yes (by rw [h7 i hi]) (h10 i hi))

end Go.Proofs.Ythfjkdgopkmgoaa
end
