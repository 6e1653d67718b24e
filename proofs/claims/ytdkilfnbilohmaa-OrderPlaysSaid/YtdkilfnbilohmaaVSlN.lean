/-
  The owned things, written out anew: what is nested in choices is told once.
-/
import Derived.Lib.MakeNoZero
import Derived.Laws.Externs
import Derived.Test.YtdkilfnbilohmaaVSlG
import Derived.Test.YtdkilfnbilohmaaVSlH
section
namespace Go.Sl
section
variable {X : Cx} {β : Base} {n : Nat} {ds : List Deferred} {ops : Array Oper} {Q : Exit → Act → World → Prop} {Γ : Env} {R H : List Pr} {rest : List Oper}
theorem C.norm {c : Code} {H' : List Pr} (hs : List Nat) (hp : Pk H hs H') (hn : hs.Nodup) (h : C X β n ds Q c Γ R H') : C X β n ds Q c Γ R H := fun a w hf hw => h a w hf (hw.pk hp hn)
theorem L.norm {H' : List Pr} (hs : List Nat) (hp : Pk H hs H') (hn : hs.Nodup) (h : L X β n ds ops Q rest Γ R H') : L X β n ds ops Q rest Γ R H := fun a w hf hw => h a w hf (hw.pk hp hn)
theorem QE.norm {x : Exit} {H' : List Pr} (hs : List Nat) (hp : Pk H hs H') (hn : hs.Nodup) (h : QE β n ds Q x Γ R H') : QE β n ds Q x Γ R H := fun a w hf hw => h a w hf (hw.pk hp hn)
end
end Go.Sl
end
/-
  The small separation logic: new bytes of no given content; slices with a given room; lists of rows that grow.
-/
section
namespace Go.Sl
section
variable {X : Cx} {β : Base} {n : Nat} {ds : List Deferred} {ops : Array Oper} {Q : Exit → Act → World → Prop} {rest : List Oper} {Γ : Env} {R H : List Pr}

/-- One more row behind the rows that can be read. -/
theorem Has.kidsSnoc (i j : Nat) (c : Nat) {hs : List Hd} {vss : List (List Value)} {A : Option Addr} {xs : List Value} (hi : R[i]? = some (KidsR hs vss)) (hj : R[j]? = some (Rd A xs)) (hl : hs.length = vss.length) : Has R H (KidsR (hs ++ [(A, c)]) (vss ++ [xs])) := by
 have get : ∀ (q : Nat) (h : Hd) (v : List Value), (hs ++ [(A, c)])[q]? = some h → (vss ++ [xs])[q]? = some v → (hs[q]? = some h ∧ vss[q]? = some v) ∨ (h = (A, c) ∧ v = xs) := by
   intro q h v hh hv
   rw [List.getElem?_append] at hh hv
   split at hh
   · rename_i h1
     rw [if_pos (by omega)] at hv
     exact .inl ⟨hh, hv⟩
   · rename_i h1
     rw [if_neg (by omega)] at hv
     have q0 : q - hs.length = 0 := by
       rcases Nat.eq_zero_or_pos (q - hs.length) with h0 | h0
       · exact h0
       · rw [List.getElem?_eq_none (by simp; omega)] at hh; cases hh
     rw [q0] at hh
     rw [← hl, q0] at hv
     simp at hh hv
     exact .inr ⟨hh.symm, hv.symm⟩
 refine ⟨fun β w hw q h v hh hv => ?_, fun k ⟨q, h, v, hh, hv, hk⟩ => ?_⟩
 · rcases get q h v hh hv with ⟨a, b⟩ | ⟨rfl, rfl⟩
   · exact hw.rd _ (List.mem_of_getElem? hi) q h v a b
   · exact hw.rd _ (List.mem_of_getElem? hj)
 · rcases get q h v hh hv with ⟨a, b⟩ | ⟨rfl, rfl⟩
   · exact .inl ⟨_, List.mem_of_getElem? hi, q, h, v, a, b, hk⟩
   · exact .inl ⟨_, List.mem_of_getElem? hj, hk⟩
end
end Go.Sl
end
