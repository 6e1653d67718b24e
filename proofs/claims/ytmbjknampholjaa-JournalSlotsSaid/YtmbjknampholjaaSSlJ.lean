/-
  The small separation logic: one inner slice is taken out of the owned ones; rows of structs; contracts whose results are only read.
-/
import Derived.Scope
import Derived.Test.YtmbjknampholjaaSSlI
import Derived.Test.YtmbjknampholjaaSSlN
section
namespace Go.Sl

section
variable {X : Cx} {β : Base} {n : Nat} {ds : List Deferred} {ops : Array Oper} {Q : Exit → Act → World → Prop} {rest : List Oper} {Γ : Env} {R H : List Pr}

theorem Own.none (e : TypeId) (w : World) : (Own e 1 none 0 0 []).p w := World.ownsRow_nil w 0 e 1

theorem C.cap {x : Code} (j : Nat) {e sz m c : Nat} {A : Option Addr} {xs : List Value} (hj : H[j]? = some (Own e sz A m c xs)) (h : m ≤ c → C X β n ds Q x Γ R H) : C X β n ds Q x Γ R H :=
  fun a w hf hs => h (Own.cap (hs.own j _ hj)).1 a w hf hs
theorem U8_drop (l : List UInt8) (k : Nat) : (U8 l).drop k = U8 (l.drop k) := by simp [U8, List.map_drop]
/-- The cells of a step of a script: the fields and where the bytes lie. -/
structure Stp6 where
  er : Bool
  se : UInt8
  at_ : UInt8
  data : List UInt8
  yA : Option Addr
  yc : Nat
  torn : Bool
  mask : List UInt8
  mA : Option Addr
  mc : Nat
def Stp6.cells (s : Stp6) : List Value := [.bool s.er, .int .u8 (s.se.toNat : Int), .int .u8 (s.at_.toNat : Int), .slice s.yA s.data.length s.yc, .bool s.torn, .slice s.mA s.mask.length s.mc]
def Stp6.zero : Stp6 := ⟨false, 0, 0, [], none, 0, false, [], none, 0⟩
end
end Go.Sl
end
/-
  The small separation logic: methods behind interface values; numbers of 64 bits as sets.
-/
section
namespace Go.Sl

section
variable {X : Cx} {β : Base} {n : Nat} {ds : List Deferred} {ops : Array Oper} {Q : Exit → Act → World → Prop} {Γ : Env} {R H : List Pr} {rest : List Oper}

end

section
variable {X : Cx} {β : Base} {Γ : Env} {R H : List Pr}
theorem wrap_u64 {m : Nat} (h : m < 18446744073709551616) : IntKind.u64.wrap (m : Int) = (m : Int) := by
  unfold IntKind.wrap
  simp [IntKind.bits, IntKind.signed]
  omega
end

section
variable {X : Cx} {β : Base} {n : Nat} {ds : List Deferred} {Q : Exit → Act → World → Prop} {Γ : Env} {R H : List Pr}
end

section
variable {X : Cx} {β : Base} {n : Nat} {ds : List Deferred} {Q : Exit → Act → World → Prop} {Γ : Env} {R H : List Pr}
theorem C.someI {c : Code} (j : Nat) {e sz m cc : Nat} {A : Option Addr} {xs : List Value} (hj : H[j]? = some (Own e sz A m cc xs)) (h : (0 < xs.length → A.isSome = true) → C X β n ds Q c Γ R H) : C X β n ds Q c Γ R H := by
  intro a w hf hs
  refine h (fun h0 => ?_) a w hf hs
  obtain ⟨g, cur, rfl, _⟩ := Own.form (hs.own j _ hj) h0
  rfl
end

/-! ### An inner slice is put where none was -/
section
variable {X : Cx} {β : Base} {n : Nat} {ds : List Deferred} {ops : Array Oper} {Q : Exit → Act → World → Prop} {Γ : Env} {R H : List Pr} {rest : List Oper}
/-- The last inner slice goes to a place where none was. -/
theorem OwnKids.move {w : World} {e i : Nat} {hs : List Hd} {vss : List (List Value)} {g : Hd} {v : List Value} (hl : hs.length = vss.length) (hi : i < vss.length) (h : (OwnKids e (hs ++ [g]) (vss ++ [v])).p w) : (OwnKids e (hs.set i g) (vss.set i v)).p w := by
  have gl : (hs ++ [g])[hs.length]? = some g := by simp
  have vl : (vss ++ [v])[hs.length]? = some v := by rw [hl]; simp
  have low : ∀ {q : Nat} {x : Hd}, hs[q]? = some x → (hs ++ [g])[q]? = some x := fun {q x} hq => by
    rw [List.getElem?_append_left (List.getElem?_eq_some_iff.1 hq).1]; exact hq
  have lov : ∀ {q : Nat} {x : List Value}, vss[q]? = some x → (vss ++ [v])[q]? = some x := fun {q x} hq => by
    rw [List.getElem?_append_left (List.getElem?_eq_some_iff.1 hq).1]; exact hq
  have src : ∀ (q : Nat) (x : Hd), (hs.set i g)[q]? = some x → ∃ q', (hs ++ [g])[q']? = some x ∧ (q' = hs.length ↔ q = i) ∧ (q ≠ i → q' = q) := by
    intro q x hx
    rw [List.getElem?_set] at hx
    by_cases hq : i = q
    · rw [if_pos hq, if_pos (by omega)] at hx
      injection hx with hx
      subst hx
      exact ⟨hs.length, gl, ⟨fun _ => hq.symm, fun _ => rfl⟩, fun h => absurd hq.symm h⟩
    · rw [if_neg hq] at hx
      have := (List.getElem?_eq_some_iff.1 hx).1
      exact ⟨q, low hx, ⟨fun h => by omega, fun h => absurd h.symm hq⟩, fun _ => rfl⟩
  refine ⟨by simp [hl], fun q x y hx hy => ?_, fun a b x y hx hy hab => ?_⟩
  · rw [List.getElem?_set] at hx hy
    by_cases hq : i = q
    · rw [if_pos hq, if_pos (by omega)] at hx
      rw [if_pos hq, if_pos hi] at hy
      injection hx with hx
      injection hy with hy
      subst hx hy
      exact h.2.1 _ _ _ gl vl
    · rw [if_neg hq] at hx hy
      exact h.2.1 _ _ _ (low hx) (lov hy)
  · obtain ⟨a', ha, ha2, ha3⟩ := src a x hx
    obtain ⟨b', hb, hb2, hb3⟩ := src b y hy
    refine h.2.2 a' b' x y ha hb (fun e => ?_)
    by_cases h1 : a = i
    · exact hab (h1.trans (hb2.1 (e ▸ ha2.2 h1)).symm)
    · by_cases h2 : b = i
      · exact h1 (ha2.1 (e ▸ hb2.2 h2))
      · rw [ha3 h1, hb3 h2] at e
        exact hab e
end

section
variable {X : Cx} {β : Base} {n : Nat} {ds : List Deferred} {ops : Array Oper} {Q : Exit → Act → World → Prop} {Γ : Env} {R H : List Pr} {rest : List Oper}
end

section
variable {X : Cx} {β : Base} {n : Nat} {ds : List Deferred} {ops : Array Oper} {Q : Exit → Act → World → Prop} {Γ : Env} {R H : List Pr} {rest : List Oper}
end
end Go.Sl
end
