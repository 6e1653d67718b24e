/-
  Flashes as plain data, and how they lie in memory.
-/
import Derived.Test.YtbkmahjhhncfcaaGreatVSlG
import Derived.Test.YtbkmahjhhncfcaaGreatVMd
import Derived.Test.YtbkmahjhhncfcaaGreatVMe
section
namespace Go.Sl

structure Fl where
 size : Nat
 data : List (List UInt8)
 wear : List Int
 limit : Int
 dead : List Bool
 deriving DecidableEq

/-- Where its parts lie. -/
structure Fa where
 D : Option Addr
 cD : Nat
 hs : List Hd
 W : Option Addr
 cW : Nat
 E : Option Addr
 cE : Nat

structure Fl.Ok (f : Fl) : Prop where
 s1 : 1 ≤ f.size
 s2 : f.size ≤ 4096
 n1 : 1 ≤ f.data.length
 n2 : f.data.length ≤ 64
 wl : f.wear.length = f.data.length
 dl : f.dead.length = f.data.length
 rows : ∀ i, i < f.data.length → (f.data.getD i []).length = f.size
 l1 : 1 ≤ f.limit
 l2 : f.limit ≤ 100000
 wear : ∀ i, i < f.data.length → 0 ≤ f.wear.getD i 0 ∧ f.wear.getD i 0 ≤ f.limit

structure Fl.Sm (f : Fl) : Prop where
 n : f.data.length ≤ 1000000
 w : f.wear.length ≤ 1000000
 d : f.dead.length ≤ 1000000
 r : ∀ i, (f.data.getD i []).length ≤ 1000000
theorem getD_rep {α : Type} (m i : Nat) (x d : α) (h : i < m) : (List.replicate m x).getD i d = x := by simp [h]

/-! ### Operations -/
structure Fo where
 kind : Int
 sec : Int
 at_ : Int
 data : List UInt8
 deriving DecidableEq

section
variable {f : Fl} {x : Fo}
end

theorem getD_set_eq {α : Type} {l : List α} {i : Nat} (h : i < l.length) (x d : α) : (l.set i x).getD i d = x := by simp [List.getD_eq_getElem?_getD, h]
theorem getD_set_ne {α : Type} {l : List α} {i j : Nat} (h : i ≠ j) (x d : α) : (l.set i x).getD j d = l.getD j d := by simp [List.getD_eq_getElem?_getD, h]
/-! ### What an operation asks for -/
/-! ### The flash after an operation -/
end Go.Sl
end
/-
  Readings of sectors, as plain data.
-/
section
namespace Go.Sl

/-! ### Rows of numbers -/
/-! ### Numbers and lists of them -/
/-! ### Readings -/
def NotRd (n u : Nat) (row : List Int) (i : Nat) : Prop := row.getD i 0 < 0 ∨ (n : Int) ≤ row.getD i 0 ∨ row.getD i 0 = (u : Int) ∨ (0 < i ∧ row.getD i 0 ≤ row.getD (i - 1) 0)
instance (n u : Nat) (row : List Int) (i : Nat) : Decidable (NotRd n u row i) := by unfold NotRd; infer_instance
end Go.Sl
end
/-
  Sets as numbers, and the first order, as plain data.
-/
section
namespace Go.Sl

theorem mask_lt {m n : Nat} (hn : n ≤ 64) (h : ∀ i, n ≤ i → m.testBit i = false) : m < 18446744073709551616 := by
 have : m < 2 ^ 64 := Nat.lt_pow_two_of_testBit m (fun i hi => h i (by omega))
 simpa using this
theorem or_bit (m t i : Nat) : (m ||| 1 * 2 ^ t).testBit i = (m.testBit i || decide (t = i)) := by
 rw [Nat.one_mul, Nat.testBit_or, Nat.testBit_two_pow]
/-- Which sectors may come next. -/
def nxtB (n : Nat) (p : Nat → Nat → Bool) (st : Nat → Bool) (out : List Nat) (t : Nat) : Bool := !out.contains t && (st t || (List.range n).all fun u => !p u t || out.contains u)
section
variable {n : Nat} {p : Nat → Nat → Bool} {st : Nat → Bool}
end
/-- What the masks of the readers say. -/
def RdIs (n : Nat) (p : Nat → Nat → Bool) (ms : List Nat) : Prop := ms.length = n ∧ ∀ t, t < n → ∀ u, (ms.getD t 0).testBit u = (decide (u < n) && p u t)
/-- The members of a set. -/
def mem (m t : Nat) : List Nat := (List.range t).filter m.testBit
/-! ### The readers -/
def RdI (n u j : Nat) (ls : List (List Int)) (ms : List Nat) : Prop :=
 ms.length = n ∧ ∀ t, t < n → ∀ i, (ms.getD t 0).testBit i = ((decide (i < u) && (ls.getD i []).contains (t : Int)) || (decide (i = u) && ((ls.getD u []).take j).contains (t : Int)))
section
variable {n u j : Nat} {ls : List (List Int)} {ms : List Nat}
theorem RdI.start (n : Nat) (ls : List (List Int)) : RdI n 0 0 ls (List.replicate n 0) := by
 refine ⟨List.length_replicate, fun t ht i => ?_⟩
 rw [getD_rep _ _ _ _ ht, Nat.zero_testBit]
 simp
theorem take_has (l : List Int) (j : Nat) (x : Int) (hj : j < l.length) : (l.take (j + 1)).contains x = ((l.take j).contains x || decide (l.getD j 0 = x)) := by
 rw [take_snoc' l 0 j hj, Bool.eq_iff_iff, Bool.or_eq_true, decide_eq_true_eq, List.contains_iff_mem, List.contains_iff_mem, List.mem_append, List.mem_singleton]
 exact or_congr Iff.rfl eq_comm
theorem RdI.next (h : RdI n u j ls ms) (hj : j < (ls.getD u []).length) (h0 : 0 ≤ (ls.getD u []).getD j 0) (h1 : (ls.getD u []).getD j 0 < (n : Int)) :
   RdI n u (j + 1) ls (ms.set ((ls.getD u []).getD j 0).toNat (ms.getD ((ls.getD u []).getD j 0).toNat 0 ||| 1 * 2 ^ u)) := by
 refine ⟨by rw [List.length_set]; exact h.1, fun t ht i => ?_⟩
 rw [take_has _ _ _ hj]
 by_cases e : ((ls.getD u []).getD j 0).toNat = t
 · have e2 : (ls.getD u []).getD j 0 = (t : Int) := by omega
   rw [e, getD_set_eq (by rw [h.1]; exact ht), or_bit, h.2 t ht, e2, decide_eq_true rfl]
   by_cases hi : i = u
   · subst hi
     simp
   · have hi' : ¬u = i := fun x => hi x.symm
     simp [hi, hi']
 · have e2 : ¬(ls.getD u []).getD j 0 = (t : Int) := by omega
   rw [getD_set_ne e, h.2 t ht, decide_eq_false e2, Bool.or_false]
theorem RdI.row (h : RdI n u j ls ms) (hj : (ls.getD u []).length ≤ j) : RdI n (u + 1) 0 ls ms := by
 refine ⟨h.1, fun t ht i => ?_⟩
 rw [h.2 t ht, List.take_of_length_le hj, List.take_zero]
 by_cases h1 : i < u
 · have h2 : i < u + 1 := by omega
   have h3 : ¬i = u := by omega
   simp [h1, h2, h3]
 · by_cases h3 : i = u
   · subst h3
     simp
   · have h2 : ¬i < u + 1 := by omega
     simp [h1, h2, h3]
theorem RdI.done (h : RdI n n 0 ls ms) : RdIs n (fun u t => (ls.getD u []).contains (t : Int)) ms := by
 refine ⟨h.1, fun t ht i => ?_⟩
 rw [h.2 t ht, List.take_zero]
 simp
theorem RdI.lt (h : RdI n u j ls ms) (hu : u < 64) {t : Nat} (ht : t < n) : ms.getD t 0 < 18446744073709551616 := by
 refine mask_lt (n := 64) (Nat.le_refl _) (fun i hi => ?_)
 rw [h.2 t ht, decide_eq_false (by omega), decide_eq_false (by omega)]
 rfl
theorem RdIs.lt {p : Nat → Nat → Bool} (h : RdIs n p ms) (hn : n ≤ 64) {t : Nat} (ht : t < n) : ms.getD t 0 < 18446744073709551616 := by
 refine mask_lt hn (fun i hi => ?_)
 rw [h.2 t ht, decide_eq_false (by omega)]
 rfl
end
/-! ### The first order, step by step -/
section
variable {n k t d S : Nat} {p : Nat → Nat → Bool} {st : Nat → Bool} {out : List Nat}
end
end Go.Sl
end
/-
  Patches without bytes of their own, as plain data.
-/
section
namespace Go.Sl

structure Po where
 k : Int
 fr : Int
 ln : Int
 b : UInt8
def Po.cells (x : Po) : List Value := [.int .i64 x.k, .int .i64 x.fr, .int .i64 x.ln, .int .u8 (x.b.toNat : Int), .slice none 0 0]
def Po.zero : Po := ⟨0, 0, 0, 0⟩
/-! ### Symbols -/
structure Sy where
 old : Bool
 at_ : Int
 b : UInt8
 deriving DecidableEq
def Sy.cells (s : Sy) : List Value := [.bool s.old, .int .i64 s.at_, .int .u8 (s.b.toNat : Int)]
def Sy.zero : Sy := ⟨false, 0, 0⟩
end Go.Sl
end
/-
  The bytes that symbols are; images of some length.
-/
section
namespace Go.Sl

def symB (old : List UInt8) (s : Sy) : UInt8 := if s.old = true then s.b + old.getD s.at_.toNat 0 else s.b
def runB (old : List UInt8) (l : List Sy) : List UInt8 := l.map (symB old)
theorem runB_len (old : List UInt8) (l : List Sy) : (runB old l).length = l.length := List.length_map _
end Go.Sl
end
/-
  Patches whose operations may have bytes of their own, as plain data.
-/
section
namespace Go.Sl

structure Pq where
 k : Int
 fr : Int
 ln : Int
 b : UInt8
 d : List UInt8
 A : Option Addr
 c : Nat
def Pq.cells (x : Pq) : List Value := [.int .i64 x.k, .int .i64 x.fr, .int .i64 x.ln, .int .u8 (x.b.toNat : Int), .slice x.A x.d.length x.c]
def Pq.zero : Pq := ⟨0, 0, 0, 0, [], none, 0⟩
theorem Pq.cells_len (x : Pq) : x.cells.length = 5 := rfl
theorem Pq.cells_one (x : Pq) : x.cells.all Value.oneCell' = true := rfl
def pqV (l : List Pq) : List Value := l.flatMap Pq.cells
def pqH (l : List Pq) : List Hd := l.map fun x => (x.A, x.c)
def pqD (l : List Pq) : List (List UInt8) := l.map Pq.d
theorem pqV_len (l : List Pq) : (pqV l).length = l.length * 5 := flat_len Pq.cells_len l
theorem pqV_at (l : List Pq) (k : Nat) (h : k < l.length) : ((pqV l).drop (k * 5)).take 5 = (l.getD k Pq.zero).cells := flat_at Pq.cells_len Pq.zero l k h
theorem pqV_pos {l : List Pq} {k : Nat} (hk : k < l.length) : 0 < (pqV l).length := by rw [pqV_len]; omega
theorem pqV_app (a b : List Pq) : pqV (a ++ b) = pqV a ++ pqV b := by simp [pqV]
theorem pqH_len (l : List Pq) : (pqH l).length = l.length := by simp [pqH]
theorem pqD_len (l : List Pq) : (pqD l).length = l.length := by simp [pqD]
theorem drop_pq {l : List Pq} {i : Nat} (h : i < l.length) : l.drop i = l.getD i Pq.zero :: l.drop (i + 1) := by
 rw [List.drop_eq_getElem_cons h]
 simp [List.getD_eq_getElem?_getD, h]
def insQ (x : Pq) (size : Int) : Bool := decide (0 ≤ x.fr ∧ x.fr ≤ size - x.ln)
def rigQ (x : Pq) (size : Int) : Bool :=
 if x.k = 1 then insQ x size && decide ((x.b.toNat : Int) = 0) && decide ((x.d.length : Int) = 0) else if x.k = 2 then insQ x size && decide ((x.b.toNat : Int) = 0) && decide ((x.d.length : Int) = x.ln) else if x.k = 3 then decide (x.fr = 0) && decide ((x.d.length : Int) = 0) else if x.k = 4 then decide (x.fr = 0) && decide ((x.b.toNat : Int) = 0) && decide ((x.d.length : Int) = x.ln) else false
def chkL (size : Int) : Int → List Pq → Bool
 | left, [] => decide (left ≤ 0)
 | left, x :: xs => if x.ln < 1 ∨ left < x.ln ∨ rigQ x size = false then false else chkL size (left - x.ln) xs
def chkP (inn out : Int) (l : List Pq) : Int := if min inn out < 0 ∨ 65536 < max inn out ∨ 4096 < l.length then 60 else if chkL inn out l = true then 0 else 60
theorem chkL_no {size left : Int} {l : List Pq} {i : Nat} (h : i < l.length) (hb : (l.getD i Pq.zero).ln < 1 ∨ left < (l.getD i Pq.zero).ln ∨ rigQ (l.getD i Pq.zero) size = false) : chkL size left (l.drop i) = false := by
 rw [drop_pq h, chkL, if_pos hb]
theorem chkL_step {size left : Int} {l : List Pq} {i : Nat} (h : i < l.length) (h1 : ¬(l.getD i Pq.zero).ln < 1) (h2 : ¬left < (l.getD i Pq.zero).ln) (h3 : rigQ (l.getD i Pq.zero) size = true) : chkL size left (l.drop i) = chkL size (left - (l.getD i Pq.zero).ln) (l.drop (i + 1)) := by
 rw [drop_pq h, chkL, if_neg (by
   rintro (q | q | q)
   · exact h1 q
   · exact h2 q
   · rw [h3] at q; cases q)]
theorem chkL_end {size left : Int} {l : List Pq} {i : Nat} (h : l.length ≤ i) : chkL size left (l.drop i) = decide (left ≤ 0) := by
 rw [List.drop_eq_nil_of_le h, chkL]
theorem chkP_ok {inn out : Int} {l : List Pq} (h : chkP inn out l = 0) : 0 ≤ inn ∧ inn ≤ 65536 ∧ 0 ≤ out ∧ out ≤ 65536 ∧ l.length ≤ 4096 ∧ chkL inn out l = true := by
 unfold chkP at h
 split at h
 · cases h
 · split at h
   · rename_i h1 h2
     exact ⟨by omega, by omega, by omega, by omega, by omega, h2⟩
   · cases h
/-- The operation as a whole is right, and makes something. -/
def GoodQ (x : Pq) (size : Int) : Prop := 1 ≤ x.ln ∧ rigQ x size = true
def lnsQ (l : List Pq) : Int := (l.map Pq.ln).sum
theorem lnsQ_cons (x : Pq) (l : List Pq) : lnsQ (x :: l) = x.ln + lnsQ l := by simp [lnsQ]
theorem lnsQ_pos : ∀ {l : List Pq}, (∀ x ∈ l, 1 ≤ x.ln) → (l.length : Int) ≤ lnsQ l
 | [], _ => by simp [lnsQ]
 | x :: l, h => by
   have := lnsQ_pos (l := l) fun y hy => h y (by simp [hy])
   have h1 := h x (by simp)
   rw [lnsQ_cons, List.length_cons]
   omega
theorem chkL_iff {size : Int} : ∀ (l : List Pq) (left : Int), 0 ≤ left → (chkL size left l = true ↔ (∀ x ∈ l, GoodQ x size) ∧ lnsQ l = left)
 | [], left, h0 => by
   unfold chkL
   simp [lnsQ]
   omega
 | x :: l, left, h0 => by
   unfold chkL
   by_cases hb : x.ln < 1 ∨ left < x.ln ∨ rigQ x size = false
   · rw [if_pos hb]
     refine ⟨fun h => (by cases h), fun ⟨h1, h2⟩ => ?_⟩
     exfalso
     have hx := h1 x (by simp)
     have hp := lnsQ_pos (l := l) fun y hy => (h1 y (by simp [hy])).1
     rw [lnsQ_cons] at h2
     rcases hb with q | q | q
     · have := hx.1; omega
     · omega
     · rw [hx.2] at q; cases q
   · rw [if_neg hb, chkL_iff l (left - x.ln) (by omega), lnsQ_cons]
     constructor
     · rintro ⟨h1, h2⟩
       refine ⟨fun y hy => ?_, by omega⟩
       rcases List.mem_cons.1 hy with rfl | hy
       · exact ⟨by omega, by cases hr : rigQ y size with
           | true => rfl
           | false => exact absurd (.inr (.inr hr)) hb⟩
       · exact h1 y hy
     · rintro ⟨h1, h2⟩
       exact ⟨fun y hy => h1 y (by simp [hy]), by omega⟩
theorem chkP_iff {inn out : Int} {l : List Pq} : chkP inn out l = 0 ↔ 0 ≤ inn ∧ inn ≤ 65536 ∧ 0 ≤ out ∧ out ≤ 65536 ∧ l.length ≤ 4096 ∧ (∀ x ∈ l, GoodQ x inn) ∧ lnsQ l = out := by
 constructor
 · intro h
   obtain ⟨h1, h2, h3, h4, h5, h6⟩ := chkP_ok h
   exact ⟨h1, h2, h3, h4, h5, (chkL_iff l out h3).1 h6⟩
 · rintro ⟨h1, h2, h3, h4, h5, h6⟩
   unfold chkP
   rw [if_neg (by omega), if_pos ((chkL_iff l out h3).2 h6)]
/-! ### Symbols, what they make, costs -/
def symQ (x : Pq) (i : Nat) : Sy := if x.k = 1 then ⟨true, x.fr + (i : Int), 0⟩ else if x.k = 2 then ⟨true, x.fr + (i : Int), x.d.getD i 0⟩ else if x.k = 3 then ⟨false, 0, x.b⟩ else ⟨false, 0, x.d.getD i 0⟩
def syxQ (x : Pq) (m : Nat) : List Sy := (List.range m).map (symQ x)
theorem syxQ_len (x : Pq) (m : Nat) : (syxQ x m).length = m := by simp [syxQ]
def sylQ (l : List Pq) : List Sy := l.flatMap fun x => syxQ x x.ln.toNat
theorem sylQ_cons (x : Pq) (l : List Pq) : sylQ (x :: l) = syxQ x x.ln.toNat ++ sylQ l := rfl
/-- What an operation makes. -/
def outQ (old : List UInt8) (x : Pq) : List UInt8 := runB old (syxQ x x.ln.toNat)
def outsQ (old : List UInt8) (l : List Pq) : List UInt8 := runB old (sylQ l)
theorem outsQ_cons (old : List UInt8) (x : Pq) (l : List Pq) : outsQ old (x :: l) = outQ old x ++ outsQ old l := by
 unfold outsQ outQ runB
 rw [sylQ_cons, List.map_append]
theorem outQ_len (old : List UInt8) (x : Pq) : (outQ old x).length = x.ln.toNat := by
 unfold outQ
 rw [runB_len, syxQ_len]
def cosQ (x : Pq) : Int := if x.k = 2 then 4 + x.ln else if x.k = 4 then 2 + x.ln else 4
def cosL (l : List Pq) : Int := (l.map cosQ).sum
theorem cosL_cons (x : Pq) (l : List Pq) : cosL (x :: l) = cosQ x + cosL l := by simp [cosL]
theorem cosQ_le {x : Pq} (h : 1 ≤ x.ln ∧ x.ln ≤ 65536) : 0 ≤ cosQ x ∧ cosQ x ≤ 65540 := by
 unfold cosQ
 split
 · omega
 · split <;> omega
theorem cosL_take (l : List Pq) (i : Nat) (h : i < l.length) : cosL (l.take (i + 1)) = cosL (l.take i) + cosQ (l.getD i Pq.zero) := by
 rw [take_snoc' l Pq.zero i h]
 simp [cosL]
theorem cosL_rev (l : List Pq) : cosL l.reverse = cosL l := by
 induction l with
 | nil => rfl
 | cons x l ih => rw [List.reverse_cons, cosL_cons, ← ih]; simp [cosL]; omega
theorem lnsQ_rev (l : List Pq) : lnsQ l.reverse = lnsQ l := by
 induction l with
 | nil => rfl
 | cons x l ih => rw [List.reverse_cons, lnsQ_cons, ← ih]; simp [lnsQ]; omega
/-- A patch that is right, for images of these lengths, and makes the one of the other at a cost. -/
structure MkQ (old new : List UInt8) (l : List Pq) (cost : Int) : Prop where
 chk : chkP (old.length : Int) (new.length : Int) l = 0
 run : outsQ old l = new
 cost : cosL l = cost
theorem chkL_get {size : Int} : ∀ (l : List Pq) (left : Int), chkL size left l = true → ∀ i, i < l.length → 1 ≤ (l.getD i Pq.zero).ln ∧ (l.getD i Pq.zero).ln ≤ left ∧ rigQ (l.getD i Pq.zero) size = true
 | x :: l, left, h, i, hi => by
   rw [chkL] at h
   split at h
   · cases h
   · rename_i hb
     cases i with
     | zero =>
       show 1 ≤ x.ln ∧ x.ln ≤ left ∧ rigQ x size = true
       refine ⟨by omega, by omega, ?_⟩
       cases hr : rigQ x size with
       | true => rfl
       | false => exact absurd (.inr (.inr hr)) hb
     | succ i =>
       have := chkL_get l (left - x.ln) h i (Nat.lt_of_succ_lt_succ hi)
       show 1 ≤ (l.getD i Pq.zero).ln ∧ (l.getD i Pq.zero).ln ≤ left ∧ rigQ (l.getD i Pq.zero) size = true
       exact ⟨this.1, by omega, this.2.2⟩
theorem pqV_get {l : List Pq} {i j : Nat} (hi : i < l.length) (hj : j < 5) : (pqV l)[i * 5 + j]? = ((l.getD i Pq.zero).cells)[j]? := flat_get Pq.cells_len Pq.zero l hi hj
end Go.Sl
end
/-
  From the cheapest steps to a patch; no right patch costs less.
-/
section
namespace Go.Sl

theorem list_eq {a b : List UInt8} (hl : a.length = b.length) (h : ∀ j, j < a.length → a.getD j 0 = b.getD j 0) : a = b := by
 apply List.ext_getElem hl
 intro j h1 h2
 have := h j h1
 simpa [List.getD_eq_getElem?_getD, h1, h2] using this
theorem segN_get {new : List UInt8} {k i j : Nat} (hj : j < i - k) : (segN new k i).getD j 0 = new.getD (k + j) 0 := by
 unfold segN
 rw [List.getD_eq_getElem?_getD, List.getElem?_drop, List.getElem?_take, if_pos (by omega), ← List.getD_eq_getElem?_getD]
theorem segN_drop {new : List UInt8} {k i : Nat} (h : k ≤ i) : segN new k i ++ new.drop i = new.drop k := by
 unfold segN
 by_cases g : i ≤ new.length
 · conv => rhs; rw [← List.take_append_drop i new]
   rw [List.drop_append_of_le_length (by rw [List.length_take]; omega)]
 · rw [List.take_of_length_le (by omega), show new.drop i = [] from List.drop_eq_nil_of_le (by omega), List.append_nil]
theorem outQ_get {old : List UInt8} {x : Pq} {j : Nat} (h : j < x.ln.toNat) : (outQ old x).getD j 0 = symB old (symQ x j) := by
 unfold outQ runB syxQ
 simp [List.getD_eq_getElem?_getD, h]
theorem symB_lit {old : List UInt8} {x : Pq} {j : Nat} (h : x.k = 4) : symB old (symQ x j) = x.d.getD j 0 := by
 unfold symQ
 rw [if_neg (by omega), if_neg (by omega), if_neg (by omega)]
 rfl
theorem symB_run {old : List UInt8} {x : Pq} {j : Nat} (h : x.k = 3) : symB old (symQ x j) = x.b := by
 unfold symQ
 rw [if_neg (by omega), if_neg (by omega), if_pos h]
 rfl
theorem symB_copy {old : List UInt8} {x : Pq} {j : Nat} (h : x.k = 1) : symB old (symQ x j) = old.getD (x.fr + (j : Int)).toNat 0 := by
 unfold symQ symB
 rw [if_pos h, if_pos rfl]
 exact UInt8.zero_add _
/-- The operation of a step, with its bytes. -/
def opS (new : List UInt8) (i : Nat) (s : Sp) (A : Option Addr) (c : Nat) : Pq := ⟨(s.k : Int), (s.a : Int), (s.l : Int), s.b, if s.k = 4 then segN new s.f i else [], A, c⟩
theorem opS_ok {old new : List UInt8} {D : Nat → Nat} {i : Nat} {s : Sp} (h : StOk old new D i s) (hi : i ≤ new.length) (A : Option Addr) (c : Nat) :
   GoodQ (opS new i s A c) (old.length : Int) ∧ cosQ (opS new i s A c) + (D s.f : Int) = (D i : Int) ∧ (opS new i s A c).ln = (i : Int) - (s.f : Int) ∧ outQ old (opS new i s A c) = segN new s.f i := by
 obtain ⟨h1, h2, h3, h4⟩ := h
 have hln : (opS new i s A c).ln = (i : Int) - (s.f : Int) := by
   show (s.l : Int) = _
   omega
 have hlt : (opS new i s A c).ln.toNat = i - s.f := by rw [hln]; omega
 have hsl := segN_len (new := new) (k := s.f) hi
 rcases h4 with ⟨k4, a0, b0, hd⟩ | ⟨k3, a0, hb, hal, hd⟩ | ⟨k1, b0, ha, hs, hd⟩
 · have hdat : (opS new i s A c).d = segN new s.f i := if_pos k4
   have hk : (opS new i s A c).k = 4 := by show (s.k : Int) = 4; omega
   refine ⟨⟨by rw [hln]; omega, ?_⟩, ?_, hln, list_eq (by rw [outQ_len, hlt, hsl]) fun j hj => ?_⟩
   · unfold rigQ
     rw [if_neg (by omega), if_neg (by omega), if_neg (by omega), if_pos hk, hdat, hsl, hln]
     simp only [Bool.and_eq_true, decide_eq_true_eq]
     refine ⟨⟨by show (s.a : Int) = 0; omega, by show (s.b.toNat : Int) = 0; rw [b0]; rfl⟩, by omega⟩
   · unfold cosQ
     rw [if_neg (by omega), if_pos hk, hln]
     omega
   · rw [outQ_len, hlt] at hj
     rw [outQ_get (by omega), symB_lit hk, hdat]
 · have hk : (opS new i s A c).k = 3 := by show (s.k : Int) = 3; omega
   have hdat : (opS new i s A c).d = [] := if_neg (by omega)
   refine ⟨⟨by rw [hln]; omega, ?_⟩, ?_, hln, list_eq (by rw [outQ_len, hlt, hsl]) fun j hj => ?_⟩
   · unfold rigQ
     rw [if_neg (by omega), if_neg (by omega), if_pos hk, hdat]
     simp only [Bool.and_eq_true, decide_eq_true_eq]
     exact ⟨by show (s.a : Int) = 0; omega, rfl⟩
   · unfold cosQ
     rw [if_neg (by omega), if_neg (by omega)]
     omega
   · rw [outQ_len, hlt] at hj
     rw [outQ_get (by omega), symB_run hk, segN_get hj]
     show s.b = _
     rw [hb, hal (i - 1) (by omega) (by omega), hal (s.f + j) (by omega) (by omega)]
 · have hk : (opS new i s A c).k = 1 := by show (s.k : Int) = 1; omega
   have hdat : (opS new i s A c).d = [] := if_neg (by omega)
   have hfr : (opS new i s A c).fr = (s.a : Int) := rfl
   refine ⟨⟨by rw [hln]; omega, ?_⟩, ?_, hln, list_eq (by rw [outQ_len, hlt, hsl]) fun j hj => ?_⟩
   · unfold rigQ insQ
     rw [if_pos hk, hdat, hfr, hln]
     simp only [Bool.and_eq_true, decide_eq_true_eq]
     refine ⟨⟨⟨by omega, by omega⟩, by show (s.b.toNat : Int) = 0; rw [b0]; rfl⟩, rfl⟩
   · unfold cosQ
     rw [if_neg (by omega), if_neg (by omega)]
     omega
   · rw [outQ_len, hlt] at hj
     rw [outQ_get (by omega), symB_copy hk, hfr, hs, List.getD_eq_getElem?_getD (l := List.take _ _), List.getElem?_take, if_pos (by omega), List.getElem?_drop, ← List.getD_eq_getElem?_getD]
     congr 1
/-- What has been collected from the end on, the last operation first. -/
structure TlOk (old new : List UInt8) (D : Nat → Nat) (i : Nat) (os : List Pq) : Prop where
 good : ∀ x ∈ os, GoodQ x (old.length : Int)
 cost : cosL os + (D i : Int) = (D new.length : Int)
 lns : lnsQ os + (i : Int) = (new.length : Int)
 run : outsQ old os.reverse = new.drop i
theorem TlOk.start (old new : List UInt8) (D : Nat → Nat) : TlOk old new D new.length [] := ⟨fun _ h => (by cases h), by simp [cosL], by simp [lnsQ], by simp [outsQ, sylQ, runB]⟩
theorem cosL_snoc (l : List Pq) (x : Pq) : cosL (l ++ [x]) = cosL l + cosQ x := by simp [cosL]
theorem lnsQ_snoc (l : List Pq) (x : Pq) : lnsQ (l ++ [x]) = lnsQ l + x.ln := by simp [lnsQ]
theorem TlOk.step {old new : List UInt8} {D : Nat → Nat} {i : Nat} {os : List Pq} {s : Sp} (h : TlOk old new D i os) (hs : StOk old new D i s) (hi : i ≤ new.length) (A : Option Addr) (c : Nat) : TlOk old new D s.f (os ++ [opS new i s A c]) := by
 obtain ⟨h1, h2, h3, h4⟩ := opS_ok hs hi A c
 refine ⟨fun x hx => ?_, ?_, ?_, ?_⟩
 · rcases List.mem_append.1 hx with hx | hx
   · exact h.good x hx
   · rw [List.mem_singleton.1 hx]
     exact h1
 · have := h.cost
   rw [cosL_snoc]
   omega
 · have := h.lns
   rw [lnsQ_snoc, h3]
   omega
 · rw [List.reverse_append, List.reverse_singleton, List.singleton_append, outsQ_cons, h4, h.run, segN_drop (Nat.le_of_lt hs.2.1)]
theorem TlOk.len {old new : List UInt8} {D : Nat → Nat} {i : Nat} {os : List Pq} (h : TlOk old new D i os) : os.length + i ≤ new.length := by
 have := lnsQ_pos fun x hx => (h.good x hx).1
 have := h.lns
 omega
theorem TlOk.done {old new : List UInt8} {D : Nat → Nat} {os : List Pq} (h : TlOk old new D 0 os) (h0 : D 0 = 0) (ho : old.length ≤ 65536) (hn : new.length ≤ 4096) : MkQ old new os.reverse (D new.length : Int) := by
 have hl := h.len
 refine ⟨chkP_iff.2 ⟨by omega, by omega, by omega, by omega, by rw [List.length_reverse]; omega, fun x hx => h.good x (List.mem_reverse.1 hx), ?_⟩, ?_, ?_⟩
 · have := h.lns
   rw [lnsQ_rev]
   omega
 · have := h.run
   rw [List.drop_zero] at this
   exact this
 · have := h.cost
   rw [cosL_rev]
   omega
end Go.Sl
end
