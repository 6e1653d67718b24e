/-
  The makers' layouts and contents, as plain data.
-/
import Derived.Test.YthfjkdgopkmgoaaRPv
namespace Go.Sl

def undoN (un : UInt8) (k : Nat) : List Int := (List.range k).map fun i => (((un.toNat / 3 + 3 * i) % 5 : Nat) : Int)
theorem undoN_len (un : UInt8) (k : Nat) : (undoN un k).length = k := by simp [undoN]
theorem undoN_succ (un : UInt8) (k : Nat) : undoN un (k + 1) = undoN un k ++ [(((un.toNat / 3 + 3 * k) % 5 : Nat) : Int)] := by simp [undoN, List.range_succ]
theorem undoN_get {un : UInt8} {k i : Nat} (h : i < k) : (undoN un k).getD i 0 = (((un.toNat / 3 + 3 * i) % 5 : Nat) : Int) := by simp [undoN, List.getD_eq_getElem?_getD, h]
def undoL (un : UInt8) : List Int := undoN un (1 + un.toNat % 3)
theorem undoL_len (un : UInt8) : (undoL un).length = 1 + un.toNat % 3 := undoN_len _ _
theorem undoL_ok (un : UInt8) {f : Fl} (h : f.data.length = 5) : UOk f (undoL un) := by
  refine ⟨by rw [undoL_len]; omega, fun s hs => ?_⟩
  rw [undoL_len] at hs
  unfold undoL
  rw [undoN_get hs, h]
  omega

/-! ### Contents and their changes -/
def pairsV (l : List (UInt8 × UInt8)) : List Value := l.flatMap fun p => [.int .u8 (p.1.toNat : Int), .int .u8 (p.2.toNat : Int)]
theorem pairsV_len (l : List (UInt8 × UInt8)) : (pairsV l).length = l.length * 2 := by
  induction l with
  | nil => rfl
  | cons r l ih => rw [show pairsV (r :: l) = [.int .u8 (r.1.toNat : Int), .int .u8 (r.2.toNat : Int)] ++ pairsV l from rfl, List.length_append, ih]; simp; omega
theorem pairsV_at : ∀ (l : List (UInt8 × UInt8)) (k : Nat), k < l.length → ((pairsV l).drop (k * 2)).take 2 = [.int .u8 ((l.getD k (0, 0)).1.toNat : Int), .int .u8 ((l.getD k (0, 0)).2.toNat : Int)]
  | [], _, h => absurd h (Nat.not_lt_zero _)
  | _ :: _, 0, _ => rfl
  | _ :: l, k + 1, h => by
    rw [show (k + 1) * 2 = k * 2 + 2 from by omega]
    exact pairsV_at l k (by simpa using h)
theorem pairsV_get (l : List (UInt8 × UInt8)) (k q : Nat) (hk : k < l.length) (hq : q < 2) : (pairsV l)[k * 2 + q]? = [Value.int .u8 ((l.getD k (0, 0)).1.toNat : Int), .int .u8 ((l.getD k (0, 0)).2.toNat : Int)][q]? := by
  have h := pairsV_at l k hk
  rw [← h, List.getElem?_take, if_pos hq, List.getElem?_drop]
theorem pairs_pos {l : List (UInt8 × UInt8)} {k : Nat} (hk : k < l.length) : 0 < (pairsV l).length := by rw [pairsV_len]; omega
def oldB (b : List UInt8) (i : Nat) : UInt8 := if i < b.length then b.getD i 0 else UInt8.ofNat i
def oldN (b : List UInt8) (n : Nat) : List UInt8 := (List.range n).map (oldB b)
theorem oldN_len (b : List UInt8) (n : Nat) : (oldN b n).length = n := by simp [oldN]
theorem oldN_succ (b : List UInt8) (n : Nat) : oldN b (n + 1) = oldN b n ++ [oldB b n] := by simp [oldN, List.range_succ]
def newN (b : List UInt8) (l : List (UInt8 × UInt8)) (n k : Nat) : List UInt8 := (l.take k).foldl (fun o p => o.set (p.1.toNat % n) p.2) (oldN b n)
theorem newN_succ {b : List UInt8} {l : List (UInt8 × UInt8)} {n k : Nat} (h : k < l.length) : newN b l n (k + 1) = (newN b l n k).set ((l.getD k (0, 0)).1.toNat % n) (l.getD k (0, 0)).2 := by
  unfold newN
  rw [take_snoc' l (0, 0) k h, List.foldl_append]
  rfl
theorem newN_len (b : List UInt8) (l : List (UInt8 × UInt8)) (n : Nat) : ∀ k, (newN b l n k).length = n
  | 0 => oldN_len _ _
  | k + 1 => by
    by_cases h : k < l.length
    · rw [newN_succ h, List.length_set, newN_len b l n k]
    · have := newN_len b l n k
      unfold newN at *
      rwa [List.take_of_length_le (by omega), ← List.take_of_length_le (show l.length ≤ k by omega)]
def newL (b : List UInt8) (l : List (UInt8 × UInt8)) (n : Nat) : List UInt8 := newN b l n (min l.length 8)
theorem newL_len (b : List UInt8) (l : List (UInt8 × UInt8)) (n : Nat) : (newL b l n).length = n := newN_len _ _ _ _
end Go.Sl
