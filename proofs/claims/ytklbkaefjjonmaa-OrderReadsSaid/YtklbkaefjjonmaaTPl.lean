/-
  Flashes as plain data, and how they lie in memory.
-/
import Derived.Test.YtklbkaefjjonmaaTSlH
namespace Go.Sl

structure Fl where
  size : Nat
  data : List (List UInt8)
  wear : List Int
  limit : Int
  dead : List Bool
  deriving DecidableEq

/-- Where its parts lie. -/
structure Fa where
  D : Option Addr
  cD : Nat
  hs : List Hd
  W : Option Addr
  cW : Nat
  E : Option Addr
  cE : Nat

structure Fl.Ok (f : Fl) : Prop where
  s1 : 1 ≤ f.size
  s2 : f.size ≤ 4096
  n1 : 1 ≤ f.data.length
  n2 : f.data.length ≤ 64
  wl : f.wear.length = f.data.length
  dl : f.dead.length = f.data.length
  rows : ∀ i, i < f.data.length → (f.data.getD i []).length = f.size
  l1 : 1 ≤ f.limit
  l2 : f.limit ≤ 100000
  wear : ∀ i, i < f.data.length → 0 ≤ f.wear.getD i 0 ∧ f.wear.getD i 0 ≤ f.limit

structure Fl.Sm (f : Fl) : Prop where
  n : f.data.length ≤ 1000000
  w : f.wear.length ≤ 1000000
  d : f.dead.length ≤ 1000000
  r : ∀ i, (f.data.getD i []).length ≤ 1000000
theorem getD_ge {α : Type} {l : List α} {i : Nat} {d : α} (h : l.length ≤ i) : l.getD i d = d := by simp [h]
theorem ext_getD {α : Type} {l m : List α} {d : α} (h : l.length = m.length) (he : ∀ i, i < l.length → l.getD i d = m.getD i d) : l = m := by
  refine List.ext_getElem h fun i h1 h2 => ?_
  have := he i h1
  simpa [List.getD_eq_getElem?_getD, h1, h2] using this

theorem Bs_rep (m : Nat) (x : Bool) : List.replicate m (Value.bool x) = Bs (List.replicate m x) := by simp [Bs]
theorem own_eq {e sz n n' c : Nat} {A : Option Addr} {xs ys : List Value} (hn : n = n') (h : xs = ys) : Own e sz A n c xs = Own e sz A n' c ys := by rw [h, hn]
theorem getD_rep {α : Type} (m i : Nat) (x d : α) (h : i < m) : (List.replicate m x).getD i d = x := by simp [h]

/-! ### Operations -/
structure Fo where
  kind : Int
  sec : Int
  at_ : Int
  data : List UInt8
  deriving DecidableEq

section
variable {f : Fl} {x : Fo}
end

theorem getD_set_eq {α : Type} {l : List α} {i : Nat} (h : i < l.length) (x d : α) : (l.set i x).getD i d = x := by simp [List.getD_eq_getElem?_getD, h]
theorem getD_set_ne {α : Type} {l : List α} {i j : Nat} (h : i ≠ j) (x d : α) : (l.set i x).getD j d = l.getD j d := by simp [List.getD_eq_getElem?_getD, h]
theorem map_range_getD {α : Type} {g : Nat → α} {n i : Nat} (h : i < n) (d : α) : ((List.range n).map g).getD i d = g i := by simp [List.getD_eq_getElem?_getD, h]

/-! ### What an operation asks for -/
/-! ### The flash after an operation -/
end Go.Sl
