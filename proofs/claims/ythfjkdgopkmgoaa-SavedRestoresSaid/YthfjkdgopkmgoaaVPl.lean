/-
  Flashes as plain data, and how they lie in memory.
-/
import Derived.Test.YthfjkdgopkmgoaaVSlH
namespace Go.Sl

structure Fl where
  size : Nat
  data : List (List UInt8)
  wear : List Int
  limit : Int
  dead : List Bool
  deriving DecidableEq

/-- Where its parts lie. -/
structure Fa where
  D : Option Addr
  cD : Nat
  hs : List Hd
  W : Option Addr
  cW : Nat
  E : Option Addr
  cE : Nat

def flL (f : Fl) (a : Fa) : List Value := [.int .i64 (f.size : Int), .slice a.D f.data.length a.cD, .slice a.W f.wear.length a.cW, .int .i64 f.limit, .slice a.E f.dead.length a.cE]
def flV (f : Fl) (a : Fa) : Value := .agg (List.toArray (flL f a))

structure Fl.Ok (f : Fl) : Prop where
  s1 : 1 ≤ f.size
  s2 : f.size ≤ 4096
  n1 : 1 ≤ f.data.length
  n2 : f.data.length ≤ 64
  wl : f.wear.length = f.data.length
  dl : f.dead.length = f.data.length
  rows : ∀ i, i < f.data.length → (f.data.getD i []).length = f.size
  l1 : 1 ≤ f.limit
  l2 : f.limit ≤ 100000
  wear : ∀ i, i < f.data.length → 0 ≤ f.wear.getD i 0 ∧ f.wear.getD i 0 ≤ f.limit

structure Fl.Sm (f : Fl) : Prop where
  n : f.data.length ≤ 1000000
  w : f.wear.length ≤ 1000000
  d : f.dead.length ≤ 1000000
  r : ∀ i, (f.data.getD i []).length ≤ 1000000
theorem ext_getD {α : Type} {l m : List α} {d : α} (h : l.length = m.length) (he : ∀ i, i < l.length → l.getD i d = m.getD i d) : l = m := by
  refine List.ext_getElem h fun i h1 h2 => ?_
  have := he i h1
  simpa [List.getD_eq_getElem?_getD, h1, h2] using this

theorem rows8_app {hs : List Hd} {ls : List (List UInt8)} (h : hs.length = ls.length) (g : Hd) (l : List UInt8) : rowsV hs (B8 ls) ++ [.slice g.1 l.length g.2] = rowsV (hs ++ [g]) (B8 (ls ++ [l])) := by
  have := rowsV_app (hs := hs) (vss := B8 ls) (by rw [B8_len]; exact h) g (U8 l)
  rw [U8_len] at this
  rw [this, ← B8_app]
  rfl
theorem B8_snoc (ls : List (List UInt8)) (l : List UInt8) : B8 ls ++ [U8 l] = B8 (ls ++ [l]) := by simp [B8]
theorem I64_rep (m : Nat) (x : Int) : List.replicate m (Value.int .i64 x) = I64 (List.replicate m x) := by simp [I64]
theorem Bs_rep (m : Nat) (x : Bool) : List.replicate m (Value.bool x) = Bs (List.replicate m x) := by simp [Bs]
theorem own_eq {e sz n n' c : Nat} {A : Option Addr} {xs ys : List Value} (hn : n = n') (h : xs = ys) : Own e sz A n c xs = Own e sz A n' c ys := by rw [h, hn]
theorem getD_rep {α : Type} (m i : Nat) (x d : α) (h : i < m) : (List.replicate m x).getD i d = x := by simp [h]

/-! ### Operations -/
structure Fo where
  kind : Int
  sec : Int
  at_ : Int
  data : List UInt8
  deriving DecidableEq

section
variable {f : Fl} {x : Fo}
end

theorem getD_set_eq {α : Type} {l : List α} {i : Nat} (h : i < l.length) (x d : α) : (l.set i x).getD i d = x := by simp [List.getD_eq_getElem?_getD, h]
theorem getD_set_ne {α : Type} {l : List α} {i j : Nat} (h : i ≠ j) (x d : α) : (l.set i x).getD j d = l.getD j d := by simp [List.getD_eq_getElem?_getD, h]
/-! ### What an operation asks for -/
/-! ### The flash after an operation -/
end Go.Sl
