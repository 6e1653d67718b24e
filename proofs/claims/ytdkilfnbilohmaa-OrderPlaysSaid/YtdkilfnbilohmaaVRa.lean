/-
  The bytes that symbols are; images of some length.
-/
import Derived.Test.YtdkilfnbilohmaaVOf
namespace Go.Sl

def symB (old : List UInt8) (s : Sy) : UInt8 := if s.old = true then s.b + old.getD s.at_.toNat 0 else s.b
def runB (old : List UInt8) (l : List Sy) : List UInt8 := l.map (symB old)
def runOk (old : List UInt8) (l : List Sy) : Prop := ∀ i, i < l.length → (l.getD i Sy.zero).old = true → 0 ≤ (l.getD i Sy.zero).at_ ∧ (l.getD i Sy.zero).at_ < (old.length : Int)
theorem runB_len (old : List UInt8) (l : List Sy) : (runB old l).length = l.length := List.length_map _
theorem runB_succ (old : List UInt8) (l : List Sy) {i : Nat} (h : i < l.length) : runB old (l.take (i + 1)) = runB old (l.take i) ++ [symB old (l.getD i Sy.zero)] := by
 unfold runB
 rw [take_snoc' l Sy.zero i h, List.map_append]
 rfl
/-- An image of some length. -/
def inpB (b : List UInt8) (i : Nat) : UInt8 := if i < b.length then b.getD i 0 else UInt8.ofNat (7 * i % 256)
def inpF (b : List UInt8) (n : Nat) : List UInt8 := (List.range n).map (inpB b)
theorem inpF_len (b : List UInt8) (n : Nat) : (inpF b n).length = n := by simp [inpF]
theorem inpF_succ (b : List UInt8) (n : Nat) : inpF b (n + 1) = inpF b n ++ [inpB b n] := by simp [inpF, List.range_succ]
theorem inpF_get (b : List UInt8) {n i : Nat} (h : i < n) : (inpF b n).getD i 0 = inpB b i := by
 unfold inpF
 rw [List.getD_eq_getElem?_getD, List.getElem?_map, List.getElem?_range h]
 rfl
end Go.Sl
