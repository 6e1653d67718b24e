/-
  Lifted forms, one of two.
-/
import Derived.Test.YtkjhcjhfegakoaaVLao
namespace Go.Sl

def lfC (W M L : Option Addr) (wc mc lc : Nat) (x : Lf) : List Value := [.slice W x.ws.length wc, .slice M x.ms.length mc, .slice L x.ls.length lc]
structure At (α : Type) where
 W : Option Addr
 M : Option Addr
 L : Option Addr
 wc : Nat
 mc : Nat
 lc : Nat
 x : α
theorem lf_pick (a b : At Lf) {k : Nat} (hk : k < 2) :
   ∃ t : At Lf, ((lfC a.W a.M a.L a.wc a.mc a.lc a.x ++ lfC b.W b.M b.L b.wc b.mc b.lc b.x).drop (k * 3)).take 3 = lfC t.W t.M t.L t.wc t.mc t.lc t.x ∧ (t = a ∨ t = b) := by
 rcases (by omega : k = 0 ∨ k = 1) with rfl | rfl
 · exact ⟨a, rfl, .inl rfl⟩
 · exact ⟨b, rfl, .inr rfl⟩
theorem Has.pickW {R H : List Pr} {a b t : At Lf} (h : t = a ∨ t = b) (h1 : Has R H (Rd a.W (N32 a.x.ws))) (h2 : Has R H (Rd b.W (N32 b.x.ws))) : Has R H (Rd t.W (N32 t.x.ws)) := by
 rcases h with rfl | rfl
 · exact h1
 · exact h2
theorem Has.pickM {R H : List Pr} {a b t : At Lf} (h : t = a ∨ t = b) (h1 : Has R H (Rd a.M (Bs a.x.ms))) (h2 : Has R H (Rd b.M (Bs b.x.ms))) : Has R H (Rd t.M (Bs t.x.ms)) := by
 rcases h with rfl | rfl
 · exact h1
 · exact h2
theorem Has.pickL {R H : List Pr} {a b t : At Lf} (h : t = a ∨ t = b) (h1 : Has R H (Rd a.L (I64 a.x.ls))) (h2 : Has R H (Rd b.L (I64 b.x.ls))) : Has R H (Rd t.L (I64 t.x.ls)) := by
 rcases h with rfl | rfl
 · exact h1
 · exact h2
theorem low_cases (x : Lf) : (lowC x = 0 ∧ liftR (lowB x) = x ∧ liftE (lowB x) = 0 ∧ (lowB x).length ≤ 65536) ∨ (lowC x = 30 ∧ lowB x = []) := by
 by_cases h : lowC x = 0
 · obtain ⟨l, h1, h2, h3, h4, h5, _⟩ := lift_low h
   refine .inl ⟨h, by rw [h2]; exact h5, by rw [h2]; exact liftE_code (code_bytes (by omega)), by rw [h2, bytesF_len]; omega⟩
 · refine .inr ?_
   unfold lowC lowB at *
   cases hx : lowF x with
   | none => exact ⟨rfl, rfl⟩
   | some b => rw [hx] at h; exact absurd rfl h
end Go.Sl
