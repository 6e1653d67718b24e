/-
  The owned things, written out anew: what is nested in choices is told once.
-/
import Derived.Test.YtbkmahjhhncfcaaGreatUSlG
namespace Go.Sl
section
variable {X : Cx} {β : Base} {n : Nat} {ds : List Deferred} {ops : Array Oper} {Q : Exit → Act → World → Prop} {Γ : Env} {R H : List Pr} {rest : List Oper}
theorem C.norm {c : Code} {H' : List Pr} (hs : List Nat) (hp : Pk H hs H') (hn : hs.Nodup) (h : C X β n ds Q c Γ R H') : C X β n ds Q c Γ R H := fun a w hf hw => h a w hf (hw.pk hp hn)
theorem L.norm {H' : List Pr} (hs : List Nat) (hp : Pk H hs H') (hn : hs.Nodup) (h : L X β n ds ops Q rest Γ R H') : L X β n ds ops Q rest Γ R H := fun a w hf hw => h a w hf (hw.pk hp hn)
theorem QE.norm {x : Exit} {H' : List Pr} (hs : List Nat) (hp : Pk H hs H') (hn : hs.Nodup) (h : QE β n ds Q x Γ R H') : QE β n ds Q x Γ R H := fun a w hf hw => h a w hf (hw.pk hp hn)
end
end Go.Sl
