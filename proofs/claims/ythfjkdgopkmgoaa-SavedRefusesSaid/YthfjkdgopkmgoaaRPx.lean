/-
  What the laws of saved records say, as plain data.
-/
import Derived.Test.YthfjkdgopkmgoaaRPw
namespace Go.Sl

theorem recB_head (x : UInt8) (old : List UInt8) (s : List (Nat × Nat)) : (recB x old s).getD 0 0 = x := rfl
theorem ofInt_lt {sec : Nat} (h : sec < 64) : (UInt8.ofInt (sec : Int)).toNat = sec := by
  simp [UInt8.ofInt, UInt8.toNat_ofNat']
  omega
structure RecIs (sec : Nat) (a b r : List UInt8) : Prop where
  eq : recS (sec : Int) a b = r
  e : recE (sec : Int) a b = 0
  head : (r.getD 0 0).toNat = sec
  len : r.length = 5 + 4 * (chgN a b a.length).length + diffN a b a.length
  le : r.length ≤ 20485
  res : resS b r = a
  resE : resE b r = 0
theorem RecIs.of {sec : Nat} {a b r : List UInt8} (hr : r = recS (sec : Int) a b) (h : sec < 64) (hl : a.length = b.length) (h1 : 1 ≤ a.length) (h2 : a.length ≤ 4096) : RecIs sec a b r := by
  subst hr
  have hB : ¬RecBad (sec : Int) a b := by unfold RecBad; omega
  obtain ⟨h3, h4⟩ := res_rec hB
  refine ⟨rfl, recE_ok hB, ?_, ?_, recS_len _ _ _, h3, h4⟩
  · rw [recS_ok hB, recB_head, ofInt_lt h]
  · rw [recS_ok hB, recB_len]
theorem diffN_same (a : List UInt8) : ∀ k, diffN a a k = 0
  | 0 => rfl
  | k + 1 => by rw [diffN, if_pos rfl, diffN_same a k]
theorem chgN_same (a : List UInt8) : ∀ k, chgN a a k = []
  | 0 => rfl
  | k + 1 => by rw [chgN, if_pos rfl, chgN_same a k]
theorem RecIs.same {sec : Nat} {a r : List UInt8} (h : RecIs sec a a r) : r.length = 5 := by rw [h.len, chgN_same, diffN_same]; rfl
end Go.Sl
