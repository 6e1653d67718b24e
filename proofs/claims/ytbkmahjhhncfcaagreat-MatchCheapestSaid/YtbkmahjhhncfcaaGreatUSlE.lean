/-
  The small separation logic, sixth text: bytes, numbers and Bools in rows.
-/
import Derived.Test.YtbkmahjhhncfcaaGreatUSlD
namespace Go.Sl

def U8 (l : List UInt8) : List Value := l.map fun x => .int .u8 (x.toNat : Int)
def I64 (l : List Int) : List Value := l.map fun x => .int .i64 x
def Bs (l : List Bool) : List Value := l.map fun x => .bool x

theorem U8_len (l : List UInt8) : (U8 l).length = l.length := by simp [U8]
theorem I64_len (l : List Int) : (I64 l).length = l.length := by simp [I64]
theorem Bs_len (l : List Bool) : (Bs l).length = l.length := by simp [Bs]
theorem U8_get {l : List UInt8} {k : Nat} (h : k < l.length) : (U8 l)[k]? = some (.int .u8 ((l.getD k 0).toNat : Int)) := by simp [U8, h]
theorem I64_get {l : List Int} {k : Nat} (h : k < l.length) : (I64 l)[k]? = some (.int .i64 (l.getD k 0)) := by simp [I64, h]
theorem Bs_get {l : List Bool} {k : Nat} (h : k < l.length) : (Bs l)[k]? = some (.bool (l.getD k false)) := by simp [Bs, h]
theorem Bs_set (l : List Bool) (k : Nat) (x : Bool) : (Bs l).set k (.bool x) = Bs (l.set k x) := by simp [Bs, List.map_set]
theorem U8_app (a b : List UInt8) : U8 a ++ U8 b = U8 (a ++ b) := by simp [U8]
theorem I64_app (a b : List Int) : I64 a ++ I64 b = I64 (a ++ b) := by simp [I64]
theorem U8_one : ∀ (l : List UInt8), ∀ v ∈ U8 l, v.oneCell' = true := by
 intro l v hv
 simp [U8] at hv
 obtain ⟨x, _, rfl⟩ := hv
 rfl
theorem I64_one : ∀ (l : List Int), ∀ v ∈ I64 l, v.oneCell' = true := by
 intro l v hv
 simp [I64] at hv
 obtain ⟨x, _, rfl⟩ := hv
 rfl
theorem u8_lt (x : UInt8) : (x.toNat : Int) < 256 ∧ 0 ≤ (x.toNat : Int) := by
 have := UInt8.toNat_lt x
 omega

theorem take_snoc' {α : Type} (l : List α) (d : α) (k : Nat) (h : k < l.length) : l.take (k + 1) = l.take k ++ [l.getD k d] := by
 rw [List.take_succ_eq_append_getElem h]
 simp [h]

theorem i_eq {a b : Int} (h : (a == b) = true) : a = b := by simpa using h
theorem i_ne {a b : Int} (h : (a == b) = false) : a ≠ b := by simpa using h
theorem b_ne {a b : Int} (h : (a != b) = true) : a ≠ b := by simpa using h
theorem b_eq {a b : Int} (h : (a != b) = false) : a = b := by simpa using h

theorem u8_eq {x y : UInt8} : ((x.toNat : Int) = (y.toNat : Int)) ↔ x = y := by
 rw [Int.ofNat_inj]
 exact UInt8.toNat_inj

end Go.Sl
