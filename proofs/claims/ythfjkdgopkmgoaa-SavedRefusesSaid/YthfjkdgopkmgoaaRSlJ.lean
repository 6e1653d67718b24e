/-
  The small separation logic: one inner slice is taken out of the owned ones; rows of structs; contracts whose results are only read.
-/
import Derived.Test.YthfjkdgopkmgoaaRSlI
namespace Go.Sl

section
variable {X : Cx} {β : Base} {n : Nat} {ds : List Deferred} {ops : Array Oper} {Q : Exit → Act → World → Prop} {rest : List Oper} {Γ : Env} {R H : List Pr}

theorem Own.none (e : TypeId) (w : World) : (Own e 1 none 0 0 []).p w := World.ownsRow_nil w 0 e 1

theorem C.cap {x : Code} (j : Nat) {e sz m c : Nat} {A : Option Addr} {xs : List Value} (hj : H[j]? = some (Own e sz A m c xs)) (h : m ≤ c → C X β n ds Q x Γ R H) : C X β n ds Q x Γ R H :=
  fun a w hf hs => h (Own.cap (hs.own j _ hj)).1 a w hf hs
theorem U8_drop (l : List UInt8) (k : Nat) : (U8 l).drop k = U8 (l.drop k) := by simp [U8, List.map_drop]
/-- The cells of a step of a script: the fields and where the bytes lie. -/
structure Stp6 where
  er : Bool
  se : UInt8
  at_ : UInt8
  data : List UInt8
  yA : Option Addr
  yc : Nat
  torn : Bool
  mask : List UInt8
  mA : Option Addr
  mc : Nat
def Stp6.cells (s : Stp6) : List Value := [.bool s.er, .int .u8 (s.se.toNat : Int), .int .u8 (s.at_.toNat : Int), .slice s.yA s.data.length s.yc, .bool s.torn, .slice s.mA s.mask.length s.mc]
def Stp6.zero : Stp6 := ⟨false, 0, 0, [], none, 0, false, [], none, 0⟩
end
end Go.Sl
