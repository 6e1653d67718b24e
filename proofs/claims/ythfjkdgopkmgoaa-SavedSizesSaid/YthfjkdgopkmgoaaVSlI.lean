/-
  The small separation logic: new bytes of no given content; slices with a given room; lists of rows that grow.
-/
import Derived.Lib.MakeNoZero
import Derived.Laws.Externs
import Derived.Test.YthfjkdgopkmgoaaVSlH
namespace Go.Sl
section
variable {X : Cx} {β : Base} {n : Nat} {ds : List Deferred} {ops : Array Oper} {Q : Exit → Act → World → Prop} {rest : List Oper} {Γ : Env} {R H : List Pr}

end
end Go.Sl
