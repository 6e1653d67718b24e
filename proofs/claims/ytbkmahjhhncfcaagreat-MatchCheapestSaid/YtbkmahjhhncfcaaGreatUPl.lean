/-
  Flashes as plain data, and how they lie in memory.
-/
import Derived.Test.YtbkmahjhhncfcaaGreatUSlH
import Derived.Test.YtbkmahjhhncfcaaGreatUMj
section
namespace Go.Sl

structure Fl where
 size : Nat
 data : List (List UInt8)
 wear : List Int
 limit : Int
 dead : List Bool
 deriving DecidableEq

/-- Where its parts lie. -/
structure Fa where
 D : Option Addr
 cD : Nat
 hs : List Hd
 W : Option Addr
 cW : Nat
 E : Option Addr
 cE : Nat

structure Fl.Ok (f : Fl) : Prop where
 s1 : 1 ≤ f.size
 s2 : f.size ≤ 4096
 n1 : 1 ≤ f.data.length
 n2 : f.data.length ≤ 64
 wl : f.wear.length = f.data.length
 dl : f.dead.length = f.data.length
 rows : ∀ i, i < f.data.length → (f.data.getD i []).length = f.size
 l1 : 1 ≤ f.limit
 l2 : f.limit ≤ 100000
 wear : ∀ i, i < f.data.length → 0 ≤ f.wear.getD i 0 ∧ f.wear.getD i 0 ≤ f.limit

structure Fl.Sm (f : Fl) : Prop where
 n : f.data.length ≤ 1000000
 w : f.wear.length ≤ 1000000
 d : f.dead.length ≤ 1000000
 r : ∀ i, (f.data.getD i []).length ≤ 1000000
theorem own_eq {e sz n n' c : Nat} {A : Option Addr} {xs ys : List Value} (hn : n = n') (h : xs = ys) : Own e sz A n c xs = Own e sz A n' c ys := by rw [h, hn]
theorem getD_rep {α : Type} (m i : Nat) (x d : α) (h : i < m) : (List.replicate m x).getD i d = x := by simp [h]

/-! ### Operations -/
structure Fo where
 kind : Int
 sec : Int
 at_ : Int
 data : List UInt8
 deriving DecidableEq

section
variable {f : Fl} {x : Fo}
end

theorem getD_set_eq {α : Type} {l : List α} {i : Nat} (h : i < l.length) (x d : α) : (l.set i x).getD i d = x := by simp [List.getD_eq_getElem?_getD, h]
theorem getD_set_ne {α : Type} {l : List α} {i j : Nat} (h : i ≠ j) (x d : α) : (l.set i x).getD j d = l.getD j d := by simp [List.getD_eq_getElem?_getD, h]
/-! ### What an operation asks for -/
/-! ### The flash after an operation -/
end Go.Sl
end
/-
  Readings of sectors, as plain data.
-/
section
namespace Go.Sl

/-! ### Rows of numbers -/
/-! ### Numbers and lists of them -/
/-! ### Readings -/
def NotRd (n u : Nat) (row : List Int) (i : Nat) : Prop := row.getD i 0 < 0 ∨ (n : Int) ≤ row.getD i 0 ∨ row.getD i 0 = (u : Int) ∨ (0 < i ∧ row.getD i 0 ≤ row.getD (i - 1) 0)
instance (n u : Nat) (row : List Int) (i : Nat) : Decidable (NotRd n u row i) := by unfold NotRd; infer_instance
end Go.Sl
end
/-
  Sets as numbers, and the first order, as plain data.
-/
section
namespace Go.Sl

theorem mask_lt {m n : Nat} (hn : n ≤ 64) (h : ∀ i, n ≤ i → m.testBit i = false) : m < 18446744073709551616 := by
 have : m < 2 ^ 64 := Nat.lt_pow_two_of_testBit m (fun i hi => h i (by omega))
 simpa using this
theorem or_bit (m t i : Nat) : (m ||| 1 * 2 ^ t).testBit i = (m.testBit i || decide (t = i)) := by
 rw [Nat.one_mul, Nat.testBit_or, Nat.testBit_two_pow]
/-- Which sectors may come next. -/
def nxtB (n : Nat) (p : Nat → Nat → Bool) (st : Nat → Bool) (out : List Nat) (t : Nat) : Bool := !out.contains t && (st t || (List.range n).all fun u => !p u t || out.contains u)
section
variable {n : Nat} {p : Nat → Nat → Bool} {st : Nat → Bool}
end
/-- What the masks of the readers say. -/
def RdIs (n : Nat) (p : Nat → Nat → Bool) (ms : List Nat) : Prop := ms.length = n ∧ ∀ t, t < n → ∀ u, (ms.getD t 0).testBit u = (decide (u < n) && p u t)
/-- The members of a set. -/
def mem (m t : Nat) : List Nat := (List.range t).filter m.testBit
/-! ### The readers -/
def RdI (n u j : Nat) (ls : List (List Int)) (ms : List Nat) : Prop :=
 ms.length = n ∧ ∀ t, t < n → ∀ i, (ms.getD t 0).testBit i = ((decide (i < u) && (ls.getD i []).contains (t : Int)) || (decide (i = u) && ((ls.getD u []).take j).contains (t : Int)))
section
variable {n u j : Nat} {ls : List (List Int)} {ms : List Nat}
theorem RdI.start (n : Nat) (ls : List (List Int)) : RdI n 0 0 ls (List.replicate n 0) := by
 refine ⟨List.length_replicate, fun t ht i => ?_⟩
 rw [getD_rep _ _ _ _ ht, Nat.zero_testBit]
 simp
theorem take_has (l : List Int) (j : Nat) (x : Int) (hj : j < l.length) : (l.take (j + 1)).contains x = ((l.take j).contains x || decide (l.getD j 0 = x)) := by
 rw [take_snoc' l 0 j hj, Bool.eq_iff_iff, Bool.or_eq_true, decide_eq_true_eq, List.contains_iff_mem, List.contains_iff_mem, List.mem_append, List.mem_singleton]
 exact or_congr Iff.rfl eq_comm
theorem RdI.next (h : RdI n u j ls ms) (hj : j < (ls.getD u []).length) (h0 : 0 ≤ (ls.getD u []).getD j 0) (h1 : (ls.getD u []).getD j 0 < (n : Int)) :
   RdI n u (j + 1) ls (ms.set ((ls.getD u []).getD j 0).toNat (ms.getD ((ls.getD u []).getD j 0).toNat 0 ||| 1 * 2 ^ u)) := by
 refine ⟨by rw [List.length_set]; exact h.1, fun t ht i => ?_⟩
 rw [take_has _ _ _ hj]
 by_cases e : ((ls.getD u []).getD j 0).toNat = t
 · have e2 : (ls.getD u []).getD j 0 = (t : Int) := by omega
   rw [e, getD_set_eq (by rw [h.1]; exact ht), or_bit, h.2 t ht, e2, decide_eq_true rfl]
   by_cases hi : i = u
   · subst hi
     simp
   · have hi' : ¬u = i := fun x => hi x.symm
     simp [hi, hi']
 · have e2 : ¬(ls.getD u []).getD j 0 = (t : Int) := by omega
   rw [getD_set_ne e, h.2 t ht, decide_eq_false e2, Bool.or_false]
theorem RdI.row (h : RdI n u j ls ms) (hj : (ls.getD u []).length ≤ j) : RdI n (u + 1) 0 ls ms := by
 refine ⟨h.1, fun t ht i => ?_⟩
 rw [h.2 t ht, List.take_of_length_le hj, List.take_zero]
 by_cases h1 : i < u
 · have h2 : i < u + 1 := by omega
   have h3 : ¬i = u := by omega
   simp [h1, h2, h3]
 · by_cases h3 : i = u
   · subst h3
     simp
   · have h2 : ¬i < u + 1 := by omega
     simp [h1, h2, h3]
theorem RdI.done (h : RdI n n 0 ls ms) : RdIs n (fun u t => (ls.getD u []).contains (t : Int)) ms := by
 refine ⟨h.1, fun t ht i => ?_⟩
 rw [h.2 t ht, List.take_zero]
 simp
theorem RdI.lt (h : RdI n u j ls ms) (hu : u < 64) {t : Nat} (ht : t < n) : ms.getD t 0 < 18446744073709551616 := by
 refine mask_lt (n := 64) (Nat.le_refl _) (fun i hi => ?_)
 rw [h.2 t ht, decide_eq_false (by omega), decide_eq_false (by omega)]
 rfl
theorem RdIs.lt {p : Nat → Nat → Bool} (h : RdIs n p ms) (hn : n ≤ 64) {t : Nat} (ht : t < n) : ms.getD t 0 < 18446744073709551616 := by
 refine mask_lt hn (fun i hi => ?_)
 rw [h.2 t ht, decide_eq_false (by omega)]
 rfl
end
/-! ### The first order, step by step -/
section
variable {n k t d S : Nat} {p : Nat → Nat → Bool} {st : Nat → Bool} {out : List Nat}
end
end Go.Sl
end
/-
  Patches without bytes of their own, as plain data.
-/
section
namespace Go.Sl

structure Po where
 k : Int
 fr : Int
 ln : Int
 b : UInt8
def Po.cells (x : Po) : List Value := [.int .i64 x.k, .int .i64 x.fr, .int .i64 x.ln, .int .u8 (x.b.toNat : Int), .slice none 0 0]
def Po.zero : Po := ⟨0, 0, 0, 0⟩
/-! ### Symbols -/
structure Sy where
 old : Bool
 at_ : Int
 b : UInt8
 deriving DecidableEq
def Sy.cells (s : Sy) : List Value := [.bool s.old, .int .i64 s.at_, .int .u8 (s.b.toNat : Int)]
def Sy.zero : Sy := ⟨false, 0, 0⟩
def symsV (l : List Sy) : List Value := l.flatMap Sy.cells
theorem symsV_len (l : List Sy) : (symsV l).length = l.length * 3 := by
 induction l with
 | nil => rfl
 | cons r l ih => rw [show symsV (r :: l) = r.cells ++ symsV l from rfl, List.length_append, ih]; simp [Sy.cells]; omega
theorem symsV_at : ∀ (l : List Sy) (k : Nat), k < l.length → ((symsV l).drop (k * 3)).take 3 = (l.getD k Sy.zero).cells
 | [], _, h => absurd h (Nat.not_lt_zero _)
 | _ :: _, 0, _ => rfl
 | _ :: l, k + 1, h => by
   rw [show (k + 1) * 3 = k * 3 + 3 from by omega]
   exact symsV_at l k (by simpa using h)
theorem syms_pos {l : List Sy} {k : Nat} (hk : k < l.length) : 0 < (symsV l).length := by rw [symsV_len]; omega
theorem symsV_app (a b : List Sy) : symsV (a ++ b) = symsV a ++ symsV b := by simp [symsV]
end Go.Sl
end
/-
  The bytes that symbols are; images of some length.
-/
section
namespace Go.Sl

def symB (old : List UInt8) (s : Sy) : UInt8 := if s.old = true then s.b + old.getD s.at_.toNat 0 else s.b
def runB (old : List UInt8) (l : List Sy) : List UInt8 := l.map (symB old)
def runOk (old : List UInt8) (l : List Sy) : Prop := ∀ i, i < l.length → (l.getD i Sy.zero).old = true → 0 ≤ (l.getD i Sy.zero).at_ ∧ (l.getD i Sy.zero).at_ < (old.length : Int)
theorem runB_len (old : List UInt8) (l : List Sy) : (runB old l).length = l.length := List.length_map _
theorem runB_succ (old : List UInt8) (l : List Sy) {i : Nat} (h : i < l.length) : runB old (l.take (i + 1)) = runB old (l.take i) ++ [symB old (l.getD i Sy.zero)] := by
 unfold runB
 rw [take_snoc' l Sy.zero i h, List.map_append]
 rfl
end Go.Sl
end
