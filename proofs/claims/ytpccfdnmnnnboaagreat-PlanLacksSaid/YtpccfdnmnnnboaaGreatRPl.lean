/-
  Flashes as plain data, and how they lie in memory.
-/
import Derived.Test.YtpccfdnmnnnboaaGreatRSlH
import Derived.Test.YtpccfdnmnnnboaaGreatRSlN
section
namespace Go.Sl

structure Fl where
 size : Nat
 data : List (List UInt8)
 wear : List Int
 limit : Int
 dead : List Bool
 deriving DecidableEq

/-- Where its parts lie. -/
structure Fa where
 D : Option Addr
 cD : Nat
 hs : List Hd
 W : Option Addr
 cW : Nat
 E : Option Addr
 cE : Nat

structure Fl.Ok (f : Fl) : Prop where
 s1 : 1 ≤ f.size
 s2 : f.size ≤ 4096
 n1 : 1 ≤ f.data.length
 n2 : f.data.length ≤ 64
 wl : f.wear.length = f.data.length
 dl : f.dead.length = f.data.length
 rows : ∀ i, i < f.data.length → (f.data.getD i []).length = f.size
 l1 : 1 ≤ f.limit
 l2 : f.limit ≤ 100000
 wear : ∀ i, i < f.data.length → 0 ≤ f.wear.getD i 0 ∧ f.wear.getD i 0 ≤ f.limit

structure Fl.Sm (f : Fl) : Prop where
 n : f.data.length ≤ 1000000
 w : f.wear.length ≤ 1000000
 d : f.dead.length ≤ 1000000
 r : ∀ i, (f.data.getD i []).length ≤ 1000000
theorem getD_ge {α : Type} {l : List α} {i : Nat} {d : α} (h : l.length ≤ i) : l.getD i d = d := by simp [h]
theorem ext_getD {α : Type} {l m : List α} {d : α} (h : l.length = m.length) (he : ∀ i, i < l.length → l.getD i d = m.getD i d) : l = m := by
 refine List.ext_getElem h fun i h1 h2 => ?_
 have := he i h1
 simpa [List.getD_eq_getElem?_getD, h1, h2] using this

theorem rows8_app {hs : List Hd} {ls : List (List UInt8)} (h : hs.length = ls.length) (g : Hd) (l : List UInt8) : rowsV hs (B8 ls) ++ [.slice g.1 l.length g.2] = rowsV (hs ++ [g]) (B8 (ls ++ [l])) := by
 have := rowsV_app (hs := hs) (vss := B8 ls) (by rw [B8_len]; exact h) g (U8 l)
 rw [U8_len] at this
 rw [this, ← B8_app]
 rfl
theorem B8_snoc (ls : List (List UInt8)) (l : List UInt8) : B8 ls ++ [U8 l] = B8 (ls ++ [l]) := by simp [B8]
theorem Bs_rep (m : Nat) (x : Bool) : List.replicate m (Value.bool x) = Bs (List.replicate m x) := by simp [Bs]
theorem own_eq {e sz n n' c : Nat} {A : Option Addr} {xs ys : List Value} (hn : n = n') (h : xs = ys) : Own e sz A n c xs = Own e sz A n' c ys := by rw [h, hn]
theorem getD_rep {α : Type} (m i : Nat) (x d : α) (h : i < m) : (List.replicate m x).getD i d = x := by simp [h]

/-! ### Operations -/
structure Fo where
 kind : Int
 sec : Int
 at_ : Int
 data : List UInt8
 deriving DecidableEq

section
variable {f : Fl} {x : Fo}
end

theorem getD_set_eq {α : Type} {l : List α} {i : Nat} (h : i < l.length) (x d : α) : (l.set i x).getD i d = x := by simp [List.getD_eq_getElem?_getD, h]
theorem getD_set_ne {α : Type} {l : List α} {i j : Nat} (h : i ≠ j) (x d : α) : (l.set i x).getD j d = l.getD j d := by simp [List.getD_eq_getElem?_getD, h]
theorem map_range_getD {α : Type} {g : Nat → α} {n i : Nat} (h : i < n) (d : α) : ((List.range n).map g).getD i d = g i := by simp [List.getD_eq_getElem?_getD, h]

/-! ### What an operation asks for -/
/-! ### The flash after an operation -/
end Go.Sl
end
/-
  Readings of sectors, as plain data.
-/
section
namespace Go.Sl

/-! ### Rows of numbers -/
def J8 (ls : List (List Int)) : List (List Value) := ls.map I64
theorem J8_len (ls : List (List Int)) : (J8 ls).length = ls.length := by simp [J8]
theorem J8_get {ls : List (List Int)} (i : Nat) : (J8 ls).getD i [] = I64 (ls.getD i []) := by
 simp only [J8, List.getD_eq_getElem?_getD, List.getElem?_map]
 cases ls[i]? <;> rfl
theorem rowsJ_get {hs : List Hd} {ls : List (List Int)} (h : hs.length = ls.length) {i : Nat} (hi : i < ls.length) : (rowsV hs (J8 ls))[i]? = some (.slice (hs.getD i (none, 0)).1 (ls.getD i []).length (hs.getD i (none, 0)).2) := by
 simp [rowsV, J8, hi, h, I64_len]
/-! ### Numbers and lists of them -/
theorem all_step {p : Nat → Prop} {k : Nat} (h : ∀ i, i < k → p i) (hk : p k) : ∀ i, i < k + 1 → p i := by
 intro i hi
 rcases Nat.lt_succ_iff_lt_or_eq.1 hi with h1 | rfl
 · exact h i h1
 · exact hk
theorem all_zero {p : Nat → Prop} : ∀ i, i < 0 → p i := fun _ h => absurd h (Nat.not_lt_zero _)
def cmpI (a b : Int) : Int := if a < b then -1 else if b < a then 1 else 0
theorem has_yes {l : List Int} {k : Nat} {n : Int} (hk : k < l.length) (h : l.getD k 0 = n) : l.contains n = true := by
 subst h
 rw [List.contains_iff_mem]
 simp only [List.getD_eq_getElem?_getD, List.getElem?_eq_getElem hk, Option.getD_some]
 exact List.getElem_mem hk
theorem has_no {l : List Int} {n : Int} (h : ∀ i, i < l.length → l.getD i 0 ≠ n) : l.contains n = false := by
 cases hc : l.contains n with
 | false => rfl
 | true =>
   obtain ⟨i, hi, e⟩ := List.mem_iff_getElem.1 (List.contains_iff_mem.1 hc)
   exact absurd (by simp [List.getD_eq_getElem?_getD, hi, e]) (h i hi)
def cmpL : List Int → List Int → Int
 | [], [] => 0
 | [], _ :: _ => -1
 | _ :: _, [] => 1
 | x :: xs, y :: ys => if cmpI x y = 0 then cmpL xs ys else cmpI x y
theorem cmpI_zero {x y : Int} : cmpI x y = 0 ↔ x = y := by
 unfold cmpI
 split
 · omega
 · split <;> omega
theorem drop_cons {l : List Int} {k : Nat} (h : k < l.length) : l.drop k = l.getD k 0 :: l.drop (k + 1) := by
 rw [List.drop_eq_getElem_cons h]
 simp [List.getD_eq_getElem?_getD, h]
theorem cmpL_step {a b : List Int} {k : Nat} (ha : k < a.length) (hb : k < b.length) : cmpL (a.drop k) (b.drop k) = if cmpI (a.getD k 0) (b.getD k 0) = 0 then cmpL (a.drop (k + 1)) (b.drop (k + 1)) else cmpI (a.getD k 0) (b.getD k 0) := by
 rw [drop_cons ha, drop_cons hb]
 rfl
theorem cmpL_gt {a b : List Int} {k : Nat} (ha : k < a.length) (hb : b.length ≤ k) : cmpL (a.drop k) (b.drop k) = 1 := by
 rw [drop_cons ha, List.drop_eq_nil_of_le hb]
 rfl
theorem cmpL_lt {a b : List Int} {k : Nat} (ha : a.length ≤ k) (hb : k < b.length) : cmpL (a.drop k) (b.drop k) = -1 := by
 rw [List.drop_eq_nil_of_le ha, drop_cons hb]
 rfl
theorem cmpL_eq {a b : List Int} {k : Nat} (ha : a.length ≤ k) (hb : b.length ≤ k) : cmpL (a.drop k) (b.drop k) = 0 := by
 rw [List.drop_eq_nil_of_le ha, List.drop_eq_nil_of_le hb]
 rfl
/-! ### Readings -/
def NotRd (n u : Nat) (row : List Int) (i : Nat) : Prop := row.getD i 0 < 0 ∨ (n : Int) ≤ row.getD i 0 ∨ row.getD i 0 = (u : Int) ∨ (0 < i ∧ row.getD i 0 ≤ row.getD (i - 1) 0)
instance (n u : Nat) (row : List Int) (i : Nat) : Decidable (NotRd n u row i) := by unfold NotRd; infer_instance
def rdRow (n u : Nat) (row : List Int) : Bool := (List.range row.length).all fun i => decide ¬NotRd n u row i
def readB (ls : List (List Int)) : Bool := (List.range ls.length).all fun u => rdRow ls.length u (ls.getD u [])
theorem rdRow_yes {n u : Nat} {row : List Int} (h : ∀ i, i < row.length → ¬NotRd n u row i) : rdRow n u row = true := by
 simp only [rdRow, List.all_eq_true, List.mem_range, decide_eq_true_eq]
 exact h
theorem rdRow_get {n u : Nat} {row : List Int} (h : rdRow n u row = true) {i : Nat} (hi : i < row.length) : ¬NotRd n u row i := by
 simp only [rdRow, List.all_eq_true, List.mem_range, decide_eq_true_eq] at h
 exact h i hi
theorem rdRow_no {n u i : Nat} {row : List Int} (hi : i < row.length) (h : NotRd n u row i) : rdRow n u row = false := by
 cases hc : rdRow n u row with
 | false => rfl
 | true => exact absurd h (rdRow_get hc hi)
theorem readB_yes {ls : List (List Int)} (h : ∀ u, u < ls.length → rdRow ls.length u (ls.getD u []) = true) : readB ls = true := by
 simp only [readB, List.all_eq_true, List.mem_range]
 exact h
theorem readB_get {ls : List (List Int)} (h : readB ls = true) {u : Nat} (hu : u < ls.length) : rdRow ls.length u (ls.getD u []) = true := by
 simp only [readB, List.all_eq_true, List.mem_range] at h
 exact h u hu
theorem readB_no {ls : List (List Int)} {u : Nat} (hu : u < ls.length) (h : rdRow ls.length u (ls.getD u []) = false) : readB ls = false := by
 cases hc : readB ls with
 | false => rfl
 | true => rw [readB_get hc hu] at h; cases h
/-- The number ahead of a place of a row. -/
def prevI (row : List Int) (j : Nat) : Int := if j = 0 then -1 else row.getD (j - 1) 0
theorem not_rd {n u j : Nat} {row : List Int} (h : ∀ i, i < j → ¬NotRd n u row i) : NotRd n u row j ↔ row.getD j 0 ≤ prevI row j ∨ (n : Int) ≤ row.getD j 0 ∨ row.getD j 0 = (u : Int) := by
 unfold NotRd prevI
 by_cases hj : j = 0
 · subst hj
   rw [if_pos rfl]
   omega
 · have h1 := h (j - 1) (by omega)
   unfold NotRd at h1
   rw [if_neg hj]
   omega
end Go.Sl
end
