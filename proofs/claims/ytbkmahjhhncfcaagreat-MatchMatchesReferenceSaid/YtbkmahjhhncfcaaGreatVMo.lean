/-
  The reference's loops on two images, as plain facts.
-/
import Derived.Test.YtbkmahjhhncfcaaGreatVMi
import Derived.Test.YtbkmahjhhncfcaaGreatVMe
namespace Go.Sl

theorem cpl_step {a b : List UInt8} {m : Nat} (h : m ≤ cpl a b) (h1 : m < a.length) (h2 : m < b.length) (h3 : a.getD m 0 = b.getD m 0) : m + 1 ≤ cpl a b := by
 obtain ⟨_, _, h4⟩ := (cpl_iff a b m).1 h
 refine (cpl_iff a b (m + 1)).2 ⟨h1, h2, ?_⟩
 rw [take_snoc' a 0 m h1, take_snoc' b 0 m h2, h4, h3]
theorem cpl_stop {a b : List UInt8} {m : Nat} (h : m ≤ cpl a b) (hs : a.length ≤ m ∨ b.length ≤ m ∨ a.getD m 0 ≠ b.getD m 0) : cpl a b = m := by
 obtain ⟨h1, h2, h3⟩ := (cpl_iff a b (cpl a b)).1 (Nat.le_refl _)
 rcases hs with q | q | q
 · omega
 · omega
 · rcases Nat.lt_or_ge m (cpl a b) with g | g
   · exfalso
     apply q
     have e := congrArg (fun l : List UInt8 => l.getD m 0) h3
     simp only [List.getD_eq_getElem?_getD, List.getElem?_take, if_pos g] at e ⊢
     exact e
   · omega
theorem u8_int {a b : UInt8} (h : (a.toNat : Int) = (b.toNat : Int)) : a = b := UInt8.toNat_inj.mp (by omega)
theorem rep_getD (m n : Nat) (x : UInt8) (h : m < n) : (List.replicate n x).getD m 0 = x := by
 simp [List.getD_eq_getElem?_getD, h]
theorem eql_step {s : List UInt8} {m : Nat} (h : m ≤ eqlF s) (h1 : m < s.length) (h3 : ((s.getD m 0).toNat : Int) = ((s.getD 0 0).toNat : Int)) : m + 1 ≤ eqlF s :=
 cpl_step h h1 (by rw [List.length_replicate]; exact h1) (by rw [rep_getD m _ _ h1]; exact u8_int h3)
theorem eql_stop {s : List UInt8} {m : Nat} (h : m ≤ eqlF s) (h1 : m < s.length) (h3 : ¬ ((s.getD m 0).toNat : Int) = ((s.getD 0 0).toNat : Int)) : eqlF s = m :=
 cpl_stop h (.inr (.inr (by rw [rep_getD m _ _ h1]; exact fun e => h3 (by rw [e]))))
theorem eql_end {s : List UInt8} {m : Nat} (h : m ≤ eqlF s) (h1 : s.length ≤ m) : eqlF s = m := cpl_stop h (.inl h1)
theorem lng_step {b s : List UInt8} {i m : Nat} (h : m ≤ cpl (b.drop i) s) (h1 : m < s.length) (h2 : i + m < b.length) (h3 : ((b.getD (i + m) 0).toNat : Int) = ((s.getD m 0).toNat : Int)) : m + 1 ≤ cpl (b.drop i) s :=
 cpl_step h (by rw [List.length_drop]; omega) h1 (by rw [List.getD_eq_getElem?_getD, List.getElem?_drop, ← List.getD_eq_getElem?_getD]; exact u8_int h3)
theorem lng_stop {b s : List UInt8} {i m : Nat} (h : m ≤ cpl (b.drop i) s) (h3 : ¬ ((b.getD (i + m) 0).toNat : Int) = ((s.getD m 0).toNat : Int)) : m = cpl (b.drop i) s :=
 (cpl_stop h (.inr (.inr (by rw [List.getD_eq_getElem?_getD, List.getElem?_drop, ← List.getD_eq_getElem?_getD]; exact fun e => h3 (by rw [e]))))).symm
theorem lng_end {b s : List UInt8} {i m : Nat} (h : m ≤ cpl (b.drop i) s) (h1 : s.length ≤ m ∨ b.length ≤ i + m) : m = cpl (b.drop i) s :=
 (cpl_stop h (by rw [List.length_drop]; omega)).symm
theorem lngF_succ (b s : List UInt8) (n : Nat) : lngF b s (n + 1) = max (lngF b s n) (cpl (b.drop n) s) := rfl
theorem cs0_succ (q : Nat) : cs0 (q + 1) = cs0 q ++ [2 + (q + 1)] := by
 unfold cs0
 rw [List.range_succ, List.map_append]
 simp
/-- One step of the table: the first store, and the second. -/
def m1 (cs : List Nat) (i k : Nat) : Nat := min (cs.getD k 0) (cs.getD i 0 + 2 + (k - i))
def m2 (cs : List Nat) (i k : Nat) : Nat := min (m1 cs i k) (cs.getD i 0 + 4)
theorem inL_no {cs : List Nat} {i far j : Nat} (h : ¬ i + 1 + j ≤ i + far) : inL cs i far (j + 1) = (inL cs i far j).set (i + 1 + j) (m1 (inL cs i far j) i (i + 1 + j)) := by
 rw [inL, stV, if_neg h]
 rfl
theorem inL_yes {cs : List Nat} {i far j : Nat} (h : i + 1 + j ≤ i + far) : inL cs i far (j + 1) = ((inL cs i far j).set (i + 1 + j) (m1 (inL cs i far j) i (i + 1 + j))).set (i + 1 + j) (m2 (inL cs i far j) i (i + 1 + j)) := by
 rw [inL, stV, if_pos h, List.set_set]
 rfl
theorem set_same {cs : List Nat} {k v : Nat} (h : k < cs.length) : (cs.set k v).getD k 0 = v := by
 simp [List.getD_eq_getElem?_getD, h]
theorem set_diff {cs : List Nat} {i k v : Nat} (h : k ≠ i) : (cs.set k v).getD i 0 = cs.getD i 0 := by
 rw [List.getD_eq_getElem?_getD, List.getElem?_set_ne h, ← List.getD_eq_getElem?_getD]
theorem Ni_set' (l : List Nat) (k v : Nat) : (Ni l).set k (.int .i64 (v : Int)) = Ni (l.set k v) := by simp [Ni, List.map_set]
end Go.Sl
