/-
  Flashes as plain data, and how they lie in memory.
-/
import Derived.Test.YtbkmahjhhncfcaaGreatQSlG
import Derived.Test.YtbkmahjhhncfcaaGreatQSlV
import Derived.Test.YtbkmahjhhncfcaaGreatQMd
section
namespace Go.Sl

structure Fl where
 size : Nat
 data : List (List UInt8)
 wear : List Int
 limit : Int
 dead : List Bool
 deriving DecidableEq

/-- Where its parts lie. -/
structure Fa where
 D : Option Addr
 cD : Nat
 hs : List Hd
 W : Option Addr
 cW : Nat
 E : Option Addr
 cE : Nat

structure Fl.Ok (f : Fl) : Prop where
 s1 : 1 ≤ f.size
 s2 : f.size ≤ 4096
 n1 : 1 ≤ f.data.length
 n2 : f.data.length ≤ 64
 wl : f.wear.length = f.data.length
 dl : f.dead.length = f.data.length
 rows : ∀ i, i < f.data.length → (f.data.getD i []).length = f.size
 l1 : 1 ≤ f.limit
 l2 : f.limit ≤ 100000
 wear : ∀ i, i < f.data.length → 0 ≤ f.wear.getD i 0 ∧ f.wear.getD i 0 ≤ f.limit

structure Fl.Sm (f : Fl) : Prop where
 n : f.data.length ≤ 1000000
 w : f.wear.length ≤ 1000000
 d : f.dead.length ≤ 1000000
 r : ∀ i, (f.data.getD i []).length ≤ 1000000
theorem own_eq {e sz n n' c : Nat} {A : Option Addr} {xs ys : List Value} (hn : n = n') (h : xs = ys) : Own e sz A n c xs = Own e sz A n' c ys := by rw [h, hn]
theorem getD_rep {α : Type} (m i : Nat) (x d : α) (h : i < m) : (List.replicate m x).getD i d = x := by simp [h]

/-! ### Operations -/
structure Fo where
 kind : Int
 sec : Int
 at_ : Int
 data : List UInt8
 deriving DecidableEq

section
variable {f : Fl} {x : Fo}
end

theorem getD_set_eq {α : Type} {l : List α} {i : Nat} (h : i < l.length) (x d : α) : (l.set i x).getD i d = x := by simp [List.getD_eq_getElem?_getD, h]
theorem getD_set_ne {α : Type} {l : List α} {i j : Nat} (h : i ≠ j) (x d : α) : (l.set i x).getD j d = l.getD j d := by simp [List.getD_eq_getElem?_getD, h]
/-! ### What an operation asks for -/
/-! ### The flash after an operation -/
end Go.Sl
end
/-
  Readings of sectors, as plain data.
-/
section
namespace Go.Sl

/-! ### Rows of numbers -/
/-! ### Numbers and lists of them -/
/-! ### Readings -/
def NotRd (n u : Nat) (row : List Int) (i : Nat) : Prop := row.getD i 0 < 0 ∨ (n : Int) ≤ row.getD i 0 ∨ row.getD i 0 = (u : Int) ∨ (0 < i ∧ row.getD i 0 ≤ row.getD (i - 1) 0)
instance (n u : Nat) (row : List Int) (i : Nat) : Decidable (NotRd n u row i) := by unfold NotRd; infer_instance
end Go.Sl
end
/-
  Sets as numbers, and the first order, as plain data.
-/
section
namespace Go.Sl

theorem mask_lt {m n : Nat} (hn : n ≤ 64) (h : ∀ i, n ≤ i → m.testBit i = false) : m < 18446744073709551616 := by
 have : m < 2 ^ 64 := Nat.lt_pow_two_of_testBit m (fun i hi => h i (by omega))
 simpa using this
theorem or_bit (m t i : Nat) : (m ||| 1 * 2 ^ t).testBit i = (m.testBit i || decide (t = i)) := by
 rw [Nat.one_mul, Nat.testBit_or, Nat.testBit_two_pow]
/-- Which sectors may come next. -/
def nxtB (n : Nat) (p : Nat → Nat → Bool) (st : Nat → Bool) (out : List Nat) (t : Nat) : Bool := !out.contains t && (st t || (List.range n).all fun u => !p u t || out.contains u)
section
variable {n : Nat} {p : Nat → Nat → Bool} {st : Nat → Bool}
end
/-- What the masks of the readers say. -/
def RdIs (n : Nat) (p : Nat → Nat → Bool) (ms : List Nat) : Prop := ms.length = n ∧ ∀ t, t < n → ∀ u, (ms.getD t 0).testBit u = (decide (u < n) && p u t)
/-- The members of a set. -/
def mem (m t : Nat) : List Nat := (List.range t).filter m.testBit
/-! ### The readers -/
def RdI (n u j : Nat) (ls : List (List Int)) (ms : List Nat) : Prop :=
 ms.length = n ∧ ∀ t, t < n → ∀ i, (ms.getD t 0).testBit i = ((decide (i < u) && (ls.getD i []).contains (t : Int)) || (decide (i = u) && ((ls.getD u []).take j).contains (t : Int)))
section
variable {n u j : Nat} {ls : List (List Int)} {ms : List Nat}
theorem RdI.start (n : Nat) (ls : List (List Int)) : RdI n 0 0 ls (List.replicate n 0) := by
 refine ⟨List.length_replicate, fun t ht i => ?_⟩
 rw [getD_rep _ _ _ _ ht, Nat.zero_testBit]
 simp
theorem take_has (l : List Int) (j : Nat) (x : Int) (hj : j < l.length) : (l.take (j + 1)).contains x = ((l.take j).contains x || decide (l.getD j 0 = x)) := by
 rw [take_snoc' l 0 j hj, Bool.eq_iff_iff, Bool.or_eq_true, decide_eq_true_eq, List.contains_iff_mem, List.contains_iff_mem, List.mem_append, List.mem_singleton]
 exact or_congr Iff.rfl eq_comm
theorem RdI.next (h : RdI n u j ls ms) (hj : j < (ls.getD u []).length) (h0 : 0 ≤ (ls.getD u []).getD j 0) (h1 : (ls.getD u []).getD j 0 < (n : Int)) :
   RdI n u (j + 1) ls (ms.set ((ls.getD u []).getD j 0).toNat (ms.getD ((ls.getD u []).getD j 0).toNat 0 ||| 1 * 2 ^ u)) := by
 refine ⟨by rw [List.length_set]; exact h.1, fun t ht i => ?_⟩
 rw [take_has _ _ _ hj]
 by_cases e : ((ls.getD u []).getD j 0).toNat = t
 · have e2 : (ls.getD u []).getD j 0 = (t : Int) := by omega
   rw [e, getD_set_eq (by rw [h.1]; exact ht), or_bit, h.2 t ht, e2, decide_eq_true rfl]
   by_cases hi : i = u
   · subst hi
     simp
   · have hi' : ¬u = i := fun x => hi x.symm
     simp [hi, hi']
 · have e2 : ¬(ls.getD u []).getD j 0 = (t : Int) := by omega
   rw [getD_set_ne e, h.2 t ht, decide_eq_false e2, Bool.or_false]
theorem RdI.row (h : RdI n u j ls ms) (hj : (ls.getD u []).length ≤ j) : RdI n (u + 1) 0 ls ms := by
 refine ⟨h.1, fun t ht i => ?_⟩
 rw [h.2 t ht, List.take_of_length_le hj, List.take_zero]
 by_cases h1 : i < u
 · have h2 : i < u + 1 := by omega
   have h3 : ¬i = u := by omega
   simp [h1, h2, h3]
 · by_cases h3 : i = u
   · subst h3
     simp
   · have h2 : ¬i < u + 1 := by omega
     simp [h1, h2, h3]
theorem RdI.done (h : RdI n n 0 ls ms) : RdIs n (fun u t => (ls.getD u []).contains (t : Int)) ms := by
 refine ⟨h.1, fun t ht i => ?_⟩
 rw [h.2 t ht, List.take_zero]
 simp
theorem RdI.lt (h : RdI n u j ls ms) (hu : u < 64) {t : Nat} (ht : t < n) : ms.getD t 0 < 18446744073709551616 := by
 refine mask_lt (n := 64) (Nat.le_refl _) (fun i hi => ?_)
 rw [h.2 t ht, decide_eq_false (by omega), decide_eq_false (by omega)]
 rfl
theorem RdIs.lt {p : Nat → Nat → Bool} (h : RdIs n p ms) (hn : n ≤ 64) {t : Nat} (ht : t < n) : ms.getD t 0 < 18446744073709551616 := by
 refine mask_lt hn (fun i hi => ?_)
 rw [h.2 t ht, decide_eq_false (by omega)]
 rfl
end
/-! ### The first order, step by step -/
section
variable {n k t d S : Nat} {p : Nat → Nat → Bool} {st : Nat → Bool} {out : List Nat}
end
end Go.Sl
end
/-
  Patches without bytes of their own, as plain data.
-/
section
namespace Go.Sl

structure Po where
 k : Int
 fr : Int
 ln : Int
 b : UInt8
def Po.cells (x : Po) : List Value := [.int .i64 x.k, .int .i64 x.fr, .int .i64 x.ln, .int .u8 (x.b.toNat : Int), .slice none 0 0]
def Po.zero : Po := ⟨0, 0, 0, 0⟩
/-! ### Symbols -/
structure Sy where
 old : Bool
 at_ : Int
 b : UInt8
 deriving DecidableEq
def Sy.cells (s : Sy) : List Value := [.bool s.old, .int .i64 s.at_, .int .u8 (s.b.toNat : Int)]
def Sy.zero : Sy := ⟨false, 0, 0⟩
def symsV (l : List Sy) : List Value := l.flatMap Sy.cells
theorem symsV_len (l : List Sy) : (symsV l).length = l.length * 3 := by
 induction l with
 | nil => rfl
 | cons r l ih => rw [show symsV (r :: l) = r.cells ++ symsV l from rfl, List.length_append, ih]; simp [Sy.cells]; omega
theorem symsV_at : ∀ (l : List Sy) (k : Nat), k < l.length → ((symsV l).drop (k * 3)).take 3 = (l.getD k Sy.zero).cells
 | [], _, h => absurd h (Nat.not_lt_zero _)
 | _ :: _, 0, _ => rfl
 | _ :: l, k + 1, h => by
   rw [show (k + 1) * 3 = k * 3 + 3 from by omega]
   exact symsV_at l k (by simpa using h)
theorem syms_pos {l : List Sy} {k : Nat} (hk : k < l.length) : 0 < (symsV l).length := by rw [symsV_len]; omega
theorem symsV_app (a b : List Sy) : symsV (a ++ b) = symsV a ++ symsV b := by simp [symsV]
end Go.Sl
end
/-
  The bytes that symbols are; images of some length.
-/
section
namespace Go.Sl

def symB (old : List UInt8) (s : Sy) : UInt8 := if s.old = true then s.b + old.getD s.at_.toNat 0 else s.b
def runB (old : List UInt8) (l : List Sy) : List UInt8 := l.map (symB old)
def runOk (old : List UInt8) (l : List Sy) : Prop := ∀ i, i < l.length → (l.getD i Sy.zero).old = true → 0 ≤ (l.getD i Sy.zero).at_ ∧ (l.getD i Sy.zero).at_ < (old.length : Int)
theorem runB_len (old : List UInt8) (l : List Sy) : (runB old l).length = l.length := List.length_map _
theorem runB_succ (old : List UInt8) (l : List Sy) {i : Nat} (h : i < l.length) : runB old (l.take (i + 1)) = runB old (l.take i) ++ [symB old (l.getD i Sy.zero)] := by
 unfold runB
 rw [take_snoc' l Sy.zero i h, List.map_append]
 rfl
end Go.Sl
end
/-
  Patches whose operations may have bytes of their own, as plain data.
-/
section
namespace Go.Sl

structure Pq where
 k : Int
 fr : Int
 ln : Int
 b : UInt8
 d : List UInt8
 A : Option Addr
 c : Nat
def Pq.cells (x : Pq) : List Value := [.int .i64 x.k, .int .i64 x.fr, .int .i64 x.ln, .int .u8 (x.b.toNat : Int), .slice x.A x.d.length x.c]
def Pq.zero : Pq := ⟨0, 0, 0, 0, [], none, 0⟩
theorem Pq.cells_len (x : Pq) : x.cells.length = 5 := rfl
theorem Pq.cells_one (x : Pq) : x.cells.all Value.oneCell' = true := rfl
def pqV (l : List Pq) : List Value := l.flatMap Pq.cells
def pqH (l : List Pq) : List Hd := l.map fun x => (x.A, x.c)
def pqD (l : List Pq) : List (List UInt8) := l.map Pq.d
theorem pqV_len (l : List Pq) : (pqV l).length = l.length * 5 := flat_len Pq.cells_len l
theorem pqV_at (l : List Pq) (k : Nat) (h : k < l.length) : ((pqV l).drop (k * 5)).take 5 = (l.getD k Pq.zero).cells := flat_at Pq.cells_len Pq.zero l k h
theorem pqV_pos {l : List Pq} {k : Nat} (hk : k < l.length) : 0 < (pqV l).length := by rw [pqV_len]; omega
theorem pqV_app (a b : List Pq) : pqV (a ++ b) = pqV a ++ pqV b := by simp [pqV]
theorem pqH_len (l : List Pq) : (pqH l).length = l.length := by simp [pqH]
theorem pqD_len (l : List Pq) : (pqD l).length = l.length := by simp [pqD]
theorem pqH_get (l : List Pq) (k : Nat) : (pqH l).getD k (none, 0) = ((l.getD k Pq.zero).A, (l.getD k Pq.zero).c) := by
 unfold pqH
 simp only [List.getD_eq_getElem?_getD, List.getElem?_map]
 cases l[k]? <;> rfl
theorem pqD_get (l : List Pq) (k : Nat) : (pqD l).getD k [] = (l.getD k Pq.zero).d := by
 unfold pqD
 simp only [List.getD_eq_getElem?_getD, List.getElem?_map]
 cases l[k]? <;> rfl
theorem drop_pq {l : List Pq} {i : Nat} (h : i < l.length) : l.drop i = l.getD i Pq.zero :: l.drop (i + 1) := by
 rw [List.drop_eq_getElem_cons h]
 simp [List.getD_eq_getElem?_getD, h]
def insQ (x : Pq) (size : Int) : Bool := decide (0 ≤ x.fr ∧ x.fr ≤ size - x.ln)
def rigQ (x : Pq) (size : Int) : Bool :=
 if x.k = 1 then insQ x size && decide ((x.b.toNat : Int) = 0) && decide ((x.d.length : Int) = 0) else if x.k = 2 then insQ x size && decide ((x.b.toNat : Int) = 0) && decide ((x.d.length : Int) = x.ln) else if x.k = 3 then decide (x.fr = 0) && decide ((x.d.length : Int) = 0) else if x.k = 4 then decide (x.fr = 0) && decide ((x.b.toNat : Int) = 0) && decide ((x.d.length : Int) = x.ln) else false
def kinQ (x : Pq) : Value := if x.k = 1 ∨ x.k = 2 ∨ x.k = 3 ∨ x.k = 4 then .agg (List.toArray x.cells) else .agg (List.toArray [])
def kitQ (x : Pq) (t1 t2 t3 t4 t0 : Nat) : Nat := if x.k = 1 then t1 else if x.k = 2 then t2 else if x.k = 3 then t3 else if x.k = 4 then t4 else t0
def chkL (size : Int) : Int → List Pq → Bool
 | left, [] => decide (left ≤ 0)
 | left, x :: xs => if x.ln < 1 ∨ left < x.ln ∨ rigQ x size = false then false else chkL size (left - x.ln) xs
def chkP (inn out : Int) (l : List Pq) : Int := if min inn out < 0 ∨ 65536 < max inn out ∨ 4096 < l.length then 60 else if chkL inn out l = true then 0 else 60
theorem chkL_no {size left : Int} {l : List Pq} {i : Nat} (h : i < l.length) (hb : (l.getD i Pq.zero).ln < 1 ∨ left < (l.getD i Pq.zero).ln ∨ rigQ (l.getD i Pq.zero) size = false) : chkL size left (l.drop i) = false := by
 rw [drop_pq h, chkL, if_pos hb]
theorem chkL_step {size left : Int} {l : List Pq} {i : Nat} (h : i < l.length) (h1 : ¬(l.getD i Pq.zero).ln < 1) (h2 : ¬left < (l.getD i Pq.zero).ln) (h3 : rigQ (l.getD i Pq.zero) size = true) : chkL size left (l.drop i) = chkL size (left - (l.getD i Pq.zero).ln) (l.drop (i + 1)) := by
 rw [drop_pq h, chkL, if_neg (by
   rintro (q | q | q)
   · exact h1 q
   · exact h2 q
   · rw [h3] at q; cases q)]
theorem chkL_end {size left : Int} {l : List Pq} {i : Nat} (h : l.length ≤ i) : chkL size left (l.drop i) = decide (left ≤ 0) := by
 rw [List.drop_eq_nil_of_le h, chkL]
theorem chkP_ok {inn out : Int} {l : List Pq} (h : chkP inn out l = 0) : 0 ≤ inn ∧ inn ≤ 65536 ∧ 0 ≤ out ∧ out ≤ 65536 ∧ l.length ≤ 4096 ∧ chkL inn out l = true := by
 unfold chkP at h
 split at h
 · cases h
 · split at h
   · rename_i h1 h2
     exact ⟨by omega, by omega, by omega, by omega, by omega, h2⟩
   · cases h
/-- The operation as a whole is right, and makes something. -/
def GoodQ (x : Pq) (size : Int) : Prop := 1 ≤ x.ln ∧ rigQ x size = true
def lnsQ (l : List Pq) : Int := (l.map Pq.ln).sum
theorem lnsQ_cons (x : Pq) (l : List Pq) : lnsQ (x :: l) = x.ln + lnsQ l := by simp [lnsQ]
theorem lnsQ_pos : ∀ {l : List Pq}, (∀ x ∈ l, 1 ≤ x.ln) → (l.length : Int) ≤ lnsQ l
 | [], _ => by simp [lnsQ]
 | x :: l, h => by
   have := lnsQ_pos (l := l) fun y hy => h y (by simp [hy])
   have h1 := h x (by simp)
   rw [lnsQ_cons, List.length_cons]
   omega
theorem chkL_iff {size : Int} : ∀ (l : List Pq) (left : Int), 0 ≤ left → (chkL size left l = true ↔ (∀ x ∈ l, GoodQ x size) ∧ lnsQ l = left)
 | [], left, h0 => by
   unfold chkL
   simp [lnsQ]
   omega
 | x :: l, left, h0 => by
   unfold chkL
   by_cases hb : x.ln < 1 ∨ left < x.ln ∨ rigQ x size = false
   · rw [if_pos hb]
     refine ⟨fun h => (by cases h), fun ⟨h1, h2⟩ => ?_⟩
     exfalso
     have hx := h1 x (by simp)
     have hp := lnsQ_pos (l := l) fun y hy => (h1 y (by simp [hy])).1
     rw [lnsQ_cons] at h2
     rcases hb with q | q | q
     · have := hx.1; omega
     · omega
     · rw [hx.2] at q; cases q
   · rw [if_neg hb, chkL_iff l (left - x.ln) (by omega), lnsQ_cons]
     constructor
     · rintro ⟨h1, h2⟩
       refine ⟨fun y hy => ?_, by omega⟩
       rcases List.mem_cons.1 hy with rfl | hy
       · exact ⟨by omega, by cases hr : rigQ y size with
           | true => rfl
           | false => exact absurd (.inr (.inr hr)) hb⟩
       · exact h1 y hy
     · rintro ⟨h1, h2⟩
       exact ⟨fun y hy => h1 y (by simp [hy]), by omega⟩
theorem chkP_iff {inn out : Int} {l : List Pq} : chkP inn out l = 0 ↔ 0 ≤ inn ∧ inn ≤ 65536 ∧ 0 ≤ out ∧ out ≤ 65536 ∧ l.length ≤ 4096 ∧ (∀ x ∈ l, GoodQ x inn) ∧ lnsQ l = out := by
 constructor
 · intro h
   obtain ⟨h1, h2, h3, h4, h5, h6⟩ := chkP_ok h
   exact ⟨h1, h2, h3, h4, h5, (chkL_iff l out h3).1 h6⟩
 · rintro ⟨h1, h2, h3, h4, h5, h6⟩
   unfold chkP
   rw [if_neg (by omega), if_pos ((chkL_iff l out h3).2 h6)]
theorem rigQ_in {x : Pq} {size : Int} (h : rigQ x size = true) (hk : x.k = 1 ∨ x.k = 2) : 0 ≤ x.fr ∧ x.fr ≤ size - x.ln := by
 unfold rigQ at h
 rcases hk with e | e
 · rw [if_pos e] at h
   simp only [insQ, Bool.and_eq_true, decide_eq_true_eq] at h
   exact h.1.1
 · rw [if_neg (by omega), if_pos e] at h
   simp only [insQ, Bool.and_eq_true, decide_eq_true_eq] at h
   exact h.1.1
theorem rigQ_kind {x : Pq} {size : Int} (h : rigQ x size = true) : x.k = 1 ∨ x.k = 2 ∨ x.k = 3 ∨ x.k = 4 := by
 unfold rigQ at h
 split at h
 · exact .inl ‹_›
 · split at h
   · exact .inr (.inl ‹_›)
   · split at h
     · exact .inr (.inr (.inl ‹_›))
     · split at h
       · exact .inr (.inr (.inr ‹_›))
       · cases h
theorem rigQ_data {x : Pq} {size : Int} (h : rigQ x size = true) (hk : x.k = 2 ∨ x.k = 4) : (x.d.length : Int) = x.ln := by
 unfold rigQ at h
 rcases hk with e | e
 · rw [if_neg (by omega), if_pos e] at h
   simp only [Bool.and_eq_true, decide_eq_true_eq] at h
   exact h.2
 · rw [if_neg (by omega), if_neg (by omega), if_neg (by omega), if_pos e] at h
   simp only [Bool.and_eq_true, decide_eq_true_eq] at h
   exact h.2
/-! ### Symbols, what they make, costs -/
def symQ (x : Pq) (i : Nat) : Sy := if x.k = 1 then ⟨true, x.fr + (i : Int), 0⟩ else if x.k = 2 then ⟨true, x.fr + (i : Int), x.d.getD i 0⟩ else if x.k = 3 then ⟨false, 0, x.b⟩ else ⟨false, 0, x.d.getD i 0⟩
def syxQ (x : Pq) (m : Nat) : List Sy := (List.range m).map (symQ x)
theorem syxQ_len (x : Pq) (m : Nat) : (syxQ x m).length = m := by simp [syxQ]
theorem syxQ_succ (x : Pq) (m : Nat) : syxQ x (m + 1) = syxQ x m ++ [symQ x m] := by simp [syxQ, List.range_succ]
def sylQ (l : List Pq) : List Sy := l.flatMap fun x => syxQ x x.ln.toNat
theorem sylQ_cons (x : Pq) (l : List Pq) : sylQ (x :: l) = syxQ x x.ln.toNat ++ sylQ l := rfl
theorem sylQ_snoc (l : List Pq) (i : Nat) (h : i < l.length) : sylQ (l.take (i + 1)) = sylQ (l.take i) ++ syxQ (l.getD i Pq.zero) (l.getD i Pq.zero).ln.toNat := by
 rw [take_snoc' l Pq.zero i h]
 simp [sylQ]
def sysQ (inn out : Int) (l : List Pq) : List Sy := if chkP inn out l = 0 then sylQ l else []
theorem sylQ_len : ∀ {l : List Pq}, (∀ x ∈ l, 1 ≤ x.ln) → ((sylQ l).length : Int) = lnsQ l
 | [], _ => rfl
 | x :: l, h => by
   have := sylQ_len (l := l) fun y hy => h y (by simp [hy])
   have h1 := h x (by simp)
   rw [sylQ_cons, List.length_append, syxQ_len, lnsQ_cons]
   omega
theorem sylQ_pre (l : List Pq) (i j : Nat) (h : i < l.length) (hj : j ≤ (l.getD i Pq.zero).ln.toNat) : (sylQ (l.take i) ++ syxQ (l.getD i Pq.zero) j).length ≤ (sylQ l).length := by
 have e : sylQ l = sylQ (l.take (i + 1)) ++ sylQ (l.drop (i + 1)) := by
   unfold sylQ
   rw [← List.flatMap_append, List.take_append_drop]
 rw [e, sylQ_snoc l i h]
 simp only [List.length_append, syxQ_len]
 omega
theorem syxQ_get {x : Pq} {m i : Nat} (h : i < m) : (syxQ x m).getD i Sy.zero = symQ x i := by simp [syxQ, List.getD_eq_getElem?_getD, h]
theorem runOk_app {old : List UInt8} {a b : List Sy} (ha : runOk old a) (hb : runOk old b) : runOk old (a ++ b) := by
 intro i hi ho
 by_cases h : i < a.length
 · have e : (a ++ b).getD i Sy.zero = a.getD i Sy.zero := by simp [List.getD_eq_getElem?_getD, List.getElem?_append_left h]
   rw [e] at ho ⊢
   exact ha i h ho
 · have e : (a ++ b).getD i Sy.zero = b.getD (i - a.length) Sy.zero := by simp [List.getD_eq_getElem?_getD, List.getElem?_append_right (Nat.le_of_not_lt h)]
   rw [e] at ho ⊢
   rw [List.length_append] at hi
   exact hb _ (by omega) ho
theorem runOk_one {old : List UInt8} {x : Pq} (h : GoodQ x (old.length : Int)) : runOk old (syxQ x x.ln.toNat) := by
 intro i hi ho
 rw [syxQ_len] at hi
 rw [syxQ_get hi] at ho ⊢
 have h1 := h.1
 unfold symQ at ho ⊢
 by_cases e1 : x.k = 1
 · have := rigQ_in h.2 (.inl e1)
   rw [if_pos e1]
   exact ⟨by dsimp only; omega, by dsimp only; omega⟩
 · rw [if_neg e1] at ho ⊢
   by_cases e2 : x.k = 2
   · have := rigQ_in h.2 (.inr e2)
     rw [if_pos e2]
     exact ⟨by dsimp only; omega, by dsimp only; omega⟩
   · rw [if_neg e2] at ho
     split at ho <;> cases ho
theorem runOk_all {old : List UInt8} : ∀ {l : List Pq}, (∀ x ∈ l, GoodQ x (old.length : Int)) → runOk old (sylQ l)
 | [], _ => fun i hi => by cases hi
 | x :: l, h => runOk_app (runOk_one (h x (by simp))) (runOk_all fun y hy => h y (by simp [hy]))
/-- What an operation makes. -/
def outQ (old : List UInt8) (x : Pq) : List UInt8 := runB old (syxQ x x.ln.toNat)
def outsQ (old : List UInt8) (l : List Pq) : List UInt8 := runB old (sylQ l)
theorem outsQ_cons (old : List UInt8) (x : Pq) (l : List Pq) : outsQ old (x :: l) = outQ old x ++ outsQ old l := by
 unfold outsQ outQ runB
 rw [sylQ_cons, List.map_append]
theorem outQ_len (old : List UInt8) (x : Pq) : (outQ old x).length = x.ln.toNat := by
 unfold outQ
 rw [runB_len, syxQ_len]
def cosQ (x : Pq) : Int := if x.k = 2 then 4 + x.ln else if x.k = 4 then 2 + x.ln else 4
def cosL (l : List Pq) : Int := (l.map cosQ).sum
theorem cosL_cons (x : Pq) (l : List Pq) : cosL (x :: l) = cosQ x + cosL l := by simp [cosL]
theorem cosQ_le {x : Pq} (h : 1 ≤ x.ln ∧ x.ln ≤ 65536) : 0 ≤ cosQ x ∧ cosQ x ≤ 65540 := by
 unfold cosQ
 split
 · omega
 · split <;> omega
theorem cosL_take (l : List Pq) (i : Nat) (h : i < l.length) : cosL (l.take (i + 1)) = cosL (l.take i) + cosQ (l.getD i Pq.zero) := by
 rw [take_snoc' l Pq.zero i h]
 simp [cosL]
theorem cosL_rev (l : List Pq) : cosL l.reverse = cosL l := by
 induction l with
 | nil => rfl
 | cons x l ih => rw [List.reverse_cons, cosL_cons, ← ih]; simp [cosL]; omega
theorem lnsQ_rev (l : List Pq) : lnsQ l.reverse = lnsQ l := by
 induction l with
 | nil => rfl
 | cons x l ih => rw [List.reverse_cons, lnsQ_cons, ← ih]; simp [lnsQ]; omega
/-- A patch that is right, for images of these lengths, and makes the one of the other at a cost. -/
structure MkQ (old new : List UInt8) (l : List Pq) (cost : Int) : Prop where
 chk : chkP (old.length : Int) (new.length : Int) l = 0
 run : outsQ old l = new
 cost : cosL l = cost
theorem chkL_get {size : Int} : ∀ (l : List Pq) (left : Int), chkL size left l = true → ∀ i, i < l.length → 1 ≤ (l.getD i Pq.zero).ln ∧ (l.getD i Pq.zero).ln ≤ left ∧ rigQ (l.getD i Pq.zero) size = true
 | x :: l, left, h, i, hi => by
   rw [chkL] at h
   split at h
   · cases h
   · rename_i hb
     cases i with
     | zero =>
       show 1 ≤ x.ln ∧ x.ln ≤ left ∧ rigQ x size = true
       refine ⟨by omega, by omega, ?_⟩
       cases hr : rigQ x size with
       | true => rfl
       | false => exact absurd (.inr (.inr hr)) hb
     | succ i =>
       have := chkL_get l (left - x.ln) h i (Nat.lt_of_succ_lt_succ hi)
       show 1 ≤ (l.getD i Pq.zero).ln ∧ (l.getD i Pq.zero).ln ≤ left ∧ rigQ (l.getD i Pq.zero) size = true
       exact ⟨this.1, by omega, this.2.2⟩
theorem chkL_len {size : Int} (l : List Pq) (left : Int) (h0 : 0 ≤ left) (h : chkL size left l = true) : ((sylQ l).length : Int) ≤ left := by
 obtain ⟨h1, h2⟩ := (chkL_iff l left h0).1 h
 rw [sylQ_len fun x hx => (h1 x hx).1, h2]
 exact Int.le_refl _
theorem symQ_one (x : Pq) (i : Nat) : ∀ v ∈ (symQ x i).cells, v.oneCell' = true := by
 intro v hv
 simp only [Sy.cells, List.mem_cons, List.not_mem_nil, or_false] at hv
 rcases hv with rfl | rfl | rfl <;> rfl
theorem pqV_get {l : List Pq} {i j : Nat} (hi : i < l.length) (hj : j < 5) : (pqV l)[i * 5 + j]? = ((l.getD i Pq.zero).cells)[j]? := flat_get Pq.cells_len Pq.zero l hi hj
theorem Has.kidQ {R H : List Pr} (j : Nat) {l : List Pq} (hj : R[j]? = some (KidsR (pqH l) (B8 (pqD l)))) (i : Nat) (hi : i < l.length) : Has R H (Rd (l.getD i Pq.zero).A (U8 (l.getD i Pq.zero).d)) := by
 have := Has.kid (H := H) j hj (by rw [pqH_len, B8_len, pqD_len]) i (by rw [B8_len, pqD_len]; exact hi)
 rw [pqH_get, B8_get, pqD_get] at this
 exact this
theorem run_ok {old : List UInt8} {inn out : Int} {ops : List Pq} (hE : chkP inn out ops = 0) (hin : inn = (old.length : Int)) : runOk old (sysQ inn out ops) ∧ (sysQ inn out ops).length ≤ 65536 := by
 obtain ⟨h1, h2, h3, h4, h5, h6, h7⟩ := chkP_iff.1 hE
 unfold sysQ
 rw [if_pos hE]
 subst hin
 refine ⟨runOk_all h6, ?_⟩
 have := sylQ_len fun x hx => (h6 x hx).1
 omega
theorem sys_run {old : List UInt8} {inn out : Int} {ops : List Pq} (hE : chkP inn out ops = 0) : runB old (sysQ inn out ops) = outsQ old ops := by
 unfold sysQ outsQ
 rw [if_pos hE]
end Go.Sl
end
