/-
  Labels: lists without repetitions in ascending order; what a program makes by sorting and leaving out repetitions, and a reference by putting in one by one.
-/
import Derived.Lib.SlicesCompact
import Derived.Test.YtbkmahjhhncfcaaGreatQWLaC
import Derived.Test.YtbkmahjhhncfcaaGreatQSlL
import Derived.Test.YtbkmahjhhncfcaaGreatQSlS
section
namespace Go.Sl

/-- A number is put into an ascending list, if it is not there. -/
def insS : List Int → Int → List Int
 | [], n => [n]
 | a :: l, n => if n < a then n :: a :: l else if n = a then a :: l else a :: insS l n
theorem insS_mem (l : List Int) (n x : Int) : x ∈ insS l n ↔ x ∈ l ∨ x = n := by
 induction l with
 | nil => simp [insS]
 | cons a l ih =>
   unfold insS
   split
   · simp only [List.mem_cons]
     constructor
     · rintro (h | h | h)
       · exact .inr h
       · exact .inl (.inl h)
       · exact .inl (.inr h)
     · rintro ((h | h) | h)
       · exact .inr (.inl h)
       · exact .inr (.inr h)
       · exact .inl h
   · split
     · rename_i h
       subst h
       simp only [List.mem_cons]
       constructor
       · exact .inl
       · rintro (h | h)
         · exact h
         · exact .inl h
     · simp only [List.mem_cons, ih]
       constructor
       · rintro (h | h | h)
         · exact .inl (.inl h)
         · exact .inl (.inr h)
         · exact .inr h
       · rintro ((h | h) | h)
         · exact .inl h
         · exact .inr (.inl h)
         · exact .inr (.inr h)
theorem insS_sorted {l : List Int} (n : Int) (h : l.Pairwise (· < ·)) : (insS l n).Pairwise (· < ·) := by
 induction l with
 | nil => exact List.pairwise_singleton _ _
 | cons a l ih =>
   have h' := List.pairwise_cons.1 h
   unfold insS
   split
   · rename_i hn
     refine List.pairwise_cons.2 ⟨fun x hx => ?_, h⟩
     rcases List.mem_cons.1 hx with e | e
     · exact e ▸ hn
     · exact Int.lt_trans hn (h'.1 x e)
   · split
     · exact h
     · rename_i h1 h2
       refine List.pairwise_cons.2 ⟨fun x hx => ?_, ih h'.2⟩
       rcases (insS_mem l n x).1 hx with e | e
       · exact h'.1 x e
       · omega
theorem insS_len (l : List Int) (n : Int) : (insS l n).length ≤ l.length + 1 := by
 induction l with
 | nil => exact Nat.le_refl _
 | cons a l ih =>
   unfold insS
   split
   · exact Nat.le_refl _
   · split
     · exact Nat.le_succ _
     · simp only [List.length_cons]; omega
def labsOf (t : List Int) : List Int := t.foldl insS []
theorem foldl_ins (t : List Int) (s : List Int) (hs : s.Pairwise (· < ·)) : (t.foldl insS s).Pairwise (· < ·) ∧ ∀ x, x ∈ t.foldl insS s ↔ x ∈ s ∨ x ∈ t := by
 induction t generalizing s with
 | nil => exact ⟨hs, fun x => by simp⟩
 | cons a t ih =>
   have h := ih (insS s a) (insS_sorted a hs)
   refine ⟨h.1, fun x => ?_⟩
   rw [List.foldl_cons, h.2, insS_mem, List.mem_cons, or_assoc]
theorem labsOf_sorted (t : List Int) : (labsOf t).Pairwise (· < ·) := (foldl_ins t [] List.Pairwise.nil).1
theorem labsOf_mem (t : List Int) (x : Int) : x ∈ labsOf t ↔ x ∈ t := by
 have := (foldl_ins t [] List.Pairwise.nil).2 x
 unfold labsOf
 simpa using this
theorem foldl_len (t s : List Int) : (t.foldl insS s).length ≤ s.length + t.length := by
 induction t generalizing s with
 | nil => exact Nat.le_refl _
 | cons a t ih =>
   have h1 := ih (insS s a)
   have h2 := insS_len s a
   simp only [List.foldl_cons, List.length_cons]
   omega
theorem labsOf_len (t : List Int) : (labsOf t).length ≤ t.length := by
 have := foldl_len t []
 unfold labsOf
 simpa using this
theorem sorted_eq : ∀ {a b : List Int}, a.Pairwise (· < ·) → b.Pairwise (· < ·) → (∀ x, x ∈ a ↔ x ∈ b) → a = b
 | [], [], _, _, _ => rfl
 | [], y :: b, _, _, h => absurd ((h y).2 List.mem_cons_self) List.not_mem_nil
 | x :: a, [], _, _, h => absurd ((h x).1 List.mem_cons_self) List.not_mem_nil
 | x :: a, y :: b, ha, hb, h => by
   have h1 := List.pairwise_cons.1 ha
   have h2 := List.pairwise_cons.1 hb
   have e : x = y := by
     rcases List.mem_cons.1 ((h x).1 List.mem_cons_self) with e | e
     · exact e
     · rcases List.mem_cons.1 ((h y).2 List.mem_cons_self) with e' | e'
       · exact e'.symm
       · have := h1.1 y e'
         have := h2.1 x e
         omega
   subst e
   congr 1
   refine sorted_eq h1.2 h2.2 fun z => ⟨fun hz => ?_, fun hz => ?_⟩
   · rcases List.mem_cons.1 ((h z).1 (List.mem_cons_of_mem _ hz)) with e | e
     · have := h1.1 z hz; omega
     · exact e
   · rcases List.mem_cons.1 ((h z).2 (List.mem_cons_of_mem _ hz)) with e | e
     · have := h2.1 z hz; omega
     · exact e

/-! ### Sorted, and without repetitions -/
theorem compact_spec {xs : List Int} (h : xs.Pairwise (· ≤ ·)) : (Lib.compact xs).Pairwise (· < ·) ∧ ∀ x, x ∈ Lib.compact xs ↔ x ∈ xs := by
 have get : ∀ j, j < xs.length → xs.toArray[j]! = xs.getD j 0 := by
   intro j hj
   simp [hj]
 have mono : ∀ i j, i ≤ j → j < xs.length → xs.getD i 0 ≤ xs.getD j 0 := by
   intro i j hij hj
   rcases Nat.lt_or_eq_of_le hij with hlt | rfl
   · have := List.pairwise_iff_getElem.1 h i j (by omega) hj hlt
     simpa [hj, show i < xs.length by omega] using this
   · exact Int.le_refl _
 have keep : ∀ j, Lib.keeps xs.toArray j = true ↔ (j = 0 ∨ xs.toArray[j]! ≠ xs.toArray[j - 1]!) := by
   intro j
   unfold Lib.keeps
   by_cases hj : j = 0 <;> simp [hj]
 unfold Lib.compact Lib.compactUpTo
 refine ⟨?_, fun x => ?_⟩
 · refine List.pairwise_map.2 ?_
   have hp : ((List.range xs.length).filter (Lib.keeps xs.toArray)).Pairwise (· < ·) := List.Pairwise.filter _ List.pairwise_lt_range
   refine List.Pairwise.imp_of_mem (fun {i j} hi hj hij => ?_) hp
   obtain ⟨hi1, _⟩ := List.mem_filter.1 hi
   obtain ⟨hj1, hj2⟩ := List.mem_filter.1 hj
   have hil := List.mem_range.1 hi1
   have hjl := List.mem_range.1 hj1
   rcases (keep j).1 hj2 with e | e
   · omega
   · rw [get _ hjl, get _ (by omega)] at e
     rw [get _ hil, get _ hjl]
     have h1 := mono i (j - 1) (by omega) (by omega)
     have h2 := mono (j - 1) j (by omega) hjl
     omega
 · simp only [List.mem_map, List.mem_filter, List.mem_range]
   constructor
   · rintro ⟨j, ⟨hj, _⟩, rfl⟩
     rw [get _ hj]
     simp [hj]
   · intro hx
     obtain ⟨k, hk, rfl⟩ := List.getElem_of_mem hx
     have hex : ∃ j, j < xs.length ∧ xs.getD j 0 = xs[k] := ⟨k, hk, by simp [hk]⟩
     have least : ∀ m, (∃ j, j ≤ m ∧ j < xs.length ∧ xs.getD j 0 = xs[k]) → ∃ j, j < xs.length ∧ xs.getD j 0 = xs[k] ∧ ∀ i, i < j → xs.getD i 0 ≠ xs[k] := by
       intro m
       induction m with
       | zero =>
         rintro ⟨j, hj, hl, he⟩
         obtain rfl : j = 0 := by omega
         exact ⟨0, hl, he, fun i hi => absurd hi (Nat.not_lt_zero _)⟩
       | succ m ih =>
         rintro ⟨j, hj, hl, he⟩
         by_cases hb : ∃ i, i < j ∧ xs.getD i 0 = xs[k]
         · obtain ⟨i, hi, hie⟩ := hb
           exact ih ⟨i, by omega, by omega, hie⟩
         · exact ⟨j, hl, he, fun i hi h => hb ⟨i, hi, h⟩⟩
     obtain ⟨j, hj, he⟩ := hex
     obtain ⟨j, hj, he, hmin⟩ := least j ⟨j, Nat.le_refl _, hj, he⟩
     refine ⟨j, ⟨hj, (keep j).2 ?_⟩, by rw [get _ hj, he]⟩
     by_cases h0 : j = 0
     · exact .inl h0
     · refine .inr ?_
       rw [get _ hj, get _ (by omega), he]
       exact fun e => hmin (j - 1) (by omega) e.symm
theorem merge_sorted (t : List Int) : (t.mergeSort fun x y => decide (x ≤ y)).Pairwise (· ≤ ·) := by
 have h := List.pairwise_mergeSort (le := fun x y : Int => decide (x ≤ y)) (fun a b c h1 h2 => by simp only [decide_eq_true_eq] at *; omega) (fun a b => by simp only [Bool.or_eq_true, decide_eq_true_eq]; omega) t
 exact h.imp (fun h => of_decide_eq_true h)
theorem compact_sort (t : List Int) : Lib.compact (t.mergeSort fun x y => decide (x ≤ y)) = labsOf t := by
 have h := compact_spec (merge_sorted t)
 refine sorted_eq h.1 (labsOf_sorted t) fun x => ?_
 rw [h.2, labsOf_mem, List.mem_mergeSort]
/-! ### The number of a label -/
def idxL (l : List Int) (n : Int) : Nat := l.countP (· < n)
theorem idxL_le (l : List Int) (n : Int) : idxL l n ≤ l.length := List.countP_le_length
theorem idxL_get {l : List Int} (h : l.Pairwise (· < ·)) {n : Int} (hn : n ∈ l) : l[idxL l n]? = some n := by
 induction l with
 | nil => cases hn
 | cons a l ih =>
   have h' := List.pairwise_cons.1 h
   rcases List.mem_cons.1 hn with e | e
   · subst e
     have h0 : idxL (n :: l) n = 0 := by
       unfold idxL
       rw [List.countP_eq_zero]
       intro x hx
       rcases List.mem_cons.1 hx with e | e
       · subst e; simp
       · have := h'.1 x e
         simp only [decide_eq_true_eq]
         omega
     rw [h0]
     rfl
   · have hlt := h'.1 n e
     have h1 : idxL (a :: l) n = idxL l n + 1 := by
       unfold idxL
       rw [List.countP_cons, if_pos (by simpa using hlt)]
     rw [h1, List.getElem?_cons_succ]
     exact ih h'.2 e
theorem idxL_lt {l : List Int} (h : l.Pairwise (· < ·)) {n : Int} (hn : n ∈ l) : idxL l n < l.length := (List.getElem?_eq_some_iff.1 (idxL_get h hn)).1
theorem sorted_le {l : List Int} (h : l.Pairwise (· < ·)) : l.Pairwise (· ≤ ·) := h.imp fun h => Int.le_of_lt h
end Go.Sl
end
/-
  Lifted code, as plain lists.
-/
section
namespace Go.Sl

def insAt (l : List Nat) (i : Nat) : Ins := decF (l.getD i 0) (4 * (i : Int))
def lnk (l : List Nat) (i : Nat) : Bool := linkB (insAt l i) (4 * (l.length : Int))
def targN (l : List Nat) (k : Nat) : List Int := ((List.range k).filter (lnk l)).map fun i => (insAt l i).n
theorem targN_yes {l : List Nat} {k : Nat} (h : lnk l k = true) : targN l (k + 1) = targN l k ++ [(insAt l k).n] := by simp [targN, List.range_succ, h]
theorem targN_no {l : List Nat} {k : Nat} (h : lnk l k = false) : targN l (k + 1) = targN l k := by simp [targN, List.range_succ, h]
theorem targN_len (l : List Nat) (k : Nat) : (targN l k).length ≤ k := by
 unfold targN
 rw [List.length_map]
 exact Nat.le_trans (List.length_filter_le _ _) (by rw [List.length_range]; exact Nat.le_refl _)
theorem targN_mem {l : List Nat} {k i : Nat} (hi : i < k) (h : lnk l i = true) : (insAt l i).n ∈ targN l k :=
 List.mem_map.2 ⟨i, List.mem_filter.2 ⟨List.mem_range.2 hi, h⟩, rfl⟩
def labs (l : List Nat) : List Int := labsOf (targN l l.length)
theorem labs_len (l : List Nat) : (labs l).length ≤ l.length := Nat.le_trans (labsOf_len _) (targN_len l _)
theorem labs_sorted (l : List Nat) : (labs l).Pairwise (· < ·) := labsOf_sorted _
theorem labs_mem {l : List Nat} {i : Nat} (hi : i < l.length) (h : lnk l i = true) : (insAt l i).n ∈ labs l := (labsOf_mem _ _).2 (targN_mem hi h)
theorem lnk_spec {l : List Nat} {i : Nat} (h : lnk l i = true) : 5 ≤ (insAt l i).op ∧ (insAt l i).op ≤ 8 ∧ 0 ≤ (insAt l i).n ∧ (insAt l i).n < 4 * (l.length : Int) := of_decide_eq_true h
theorem labs_range {l : List Nat} {x : Int} (h : x ∈ labs l) : 0 ≤ x ∧ x < 4 * (l.length : Int) := by
 have h1 := (labsOf_mem _ _).1 h
 obtain ⟨i, hi, rfl⟩ := List.mem_map.1 h1
 have h2 := lnk_spec (List.mem_filter.1 hi).2
 exact ⟨h2.2.2.1, h2.2.2.2⟩
/-- A word with a number in place of the bits of its distance. -/
def numW (w : Nat) (o : Int) (n : Nat) : Nat := w / 2 ^ fldF o.toNat * 2 ^ fldF o.toNat + n
def liftW (l : List Nat) (i : Nat) : Nat := if lnk l i = true then numW (l.getD i 0) (insAt l i).op (idxL (labs l) (insAt l i).n) else l.getD i 0
structure Lf where
 ws : List Nat
 ms : List Bool
 ls : List Int
def Lf.zero : Lf := ⟨[], [], []⟩
def liftF (l : List Nat) : Lf := ⟨(List.range l.length).map (liftW l), (List.range l.length).map (lnk l), labs l⟩
def codeB (b : List UInt8) : Prop := b.length % 4 = 0 ∧ b.length ≤ 65536
instance (b : List UInt8) : Decidable (codeB b) := by unfold codeB; infer_instance
def liftR (b : List UInt8) : Lf := if codeB b then liftF (wordsF b) else Lf.zero
def liftE (b : List UInt8) : Int := if codeB b then 0 else 30
theorem fld_cases (o : Nat) : 2 ^ fldF o = 16777216 ∨ 2 ^ fldF o = 65536 := by
 unfold fldF
 split
 · exact .inl (by decide)
 · exact .inr (by decide)
theorem numW_lt {w n : Nat} (o : Int) (hw : w < 4294967296) (hn : n < 65536) : numW w o n < 4294967296 := by
 unfold numW
 rcases fld_cases o.toNat with e | e <;> rw [e] <;> omega
theorem liftW_lt {l : List Nat} (hl : l.length ≤ 16384) (hw : W32 l) (i : Nat) : liftW l i < 4294967296 := by
 unfold liftW
 split
 · exact numW_lt _ (hw i) (by have := idxL_le (labs l) (insAt l i).n; have := labs_len l; omega)
 · exact hw i
theorem liftF_w32 {l : List Nat} (hl : l.length ≤ 16384) (hw : W32 l) : W32 (liftF l).ws := W32.of fun x hx => by
 obtain ⟨i, _, rfl⟩ := List.mem_map.1 hx
 exact liftW_lt hl hw i
/-- What a program has made of the words so far. -/
def liftN (l : List Nat) (k : Nat) : List Nat := (List.range k).map (liftW l) ++ l.drop k
def markN (l : List Nat) (k : Nat) : List Bool := (List.range k).map (lnk l) ++ List.replicate (l.length - k) false
theorem liftN_len {l : List Nat} {k : Nat} (h : k ≤ l.length) : (liftN l k).length = l.length := by
 unfold liftN
 rw [List.length_append, List.length_map, List.length_range, List.length_drop]
 omega
theorem markN_len {l : List Nat} {k : Nat} (h : k ≤ l.length) : (markN l k).length = l.length := by
 unfold markN
 rw [List.length_append, List.length_map, List.length_range, List.length_replicate]
 omega
theorem set_at {α : Type} (a b : List α) (y : α) (c : α) : (a ++ c :: b).set a.length y = a ++ y :: b := by simp
theorem liftN_succ {l : List Nat} {k : Nat} (h : k < l.length) : (liftN l k).set k (liftW l k) = liftN l (k + 1) := by
 unfold liftN
 have hk : k = ((List.range k).map (liftW l)).length := by simp
 rw [List.drop_eq_getElem_cons h, List.range_succ, List.map_append, List.append_assoc]
 conv => lhs; arg 2; rw [hk]
 rw [set_at]
 rfl
theorem liftN_skip {l : List Nat} {k : Nat} (h : k < l.length) (hn : lnk l k = false) : liftN l (k + 1) = liftN l k := by
 unfold liftN
 rw [List.drop_eq_getElem_cons h, List.range_succ, List.map_append, List.append_assoc]
 have : liftW l k = l[k] := by
   unfold liftW
   rw [if_neg (by rw [hn]; decide)]
   simp [h]
 simp [this]
theorem markN_succ {l : List Nat} {k : Nat} (h : k < l.length) (hn : lnk l k = true) : (markN l k).set k true = markN l (k + 1) := by
 unfold markN
 have hk : k = ((List.range k).map (lnk l)).length := by simp
 rw [show l.length - k = (l.length - (k + 1)) + 1 by omega, List.replicate_succ, List.range_succ, List.map_append, List.append_assoc]
 conv => lhs; arg 2; rw [hk]
 rw [set_at]
 simp [hn]
theorem markN_skip {l : List Nat} {k : Nat} (h : k < l.length) (hn : lnk l k = false) : markN l (k + 1) = markN l k := by
 unfold markN
 rw [show l.length - k = (l.length - (k + 1)) + 1 by omega, List.replicate_succ, List.range_succ, List.map_append, List.append_assoc]
 simp [hn]
theorem liftN_zero (l : List Nat) : liftN l 0 = l := by simp [liftN]
theorem markN_zero (l : List Nat) : markN l 0 = List.replicate l.length false := by simp [markN]
theorem liftN_all (l : List Nat) : liftN l l.length = (liftF l).ws := by simp [liftN, liftF]
theorem markN_all (l : List Nat) : markN l l.length = (liftF l).ms := by simp [markN, liftF]
theorem fld_le (o : Nat) : fldF o ≤ 32 := by
 unfold fldF
 split <;> omega
theorem liftF_lens (l : List Nat) : (liftF l).ws.length = l.length ∧ (liftF l).ms.length = l.length := by simp [liftF]
theorem liftR_lens (b : List UInt8) : (liftR b).ws.length ≤ b.length / 4 ∧ (liftR b).ms.length ≤ b.length / 4 ∧ (liftR b).ls.length ≤ b.length / 4 := by
 unfold liftR
 split
 · have h := liftF_lens (wordsF b)
   have h2 := labs_len (wordsF b)
   rw [wordsF_len] at h h2
   exact ⟨by omega, by omega, h2⟩
 · exact ⟨Nat.zero_le _, Nat.zero_le _, Nat.zero_le _⟩
end Go.Sl
end
/-
  The links of code, one after the other.
-/
section
namespace Go.Proofs.YtbkmahjhhncfcaaGreat
open Go.Sl

def encI (x : Nat × Ins) : List Value := [.int .i64 (x.1 : Int), .agg (List.toArray (in5 x.2))]
def RbA (PA WA : Option Addr) (ws : List Nat) (wc : Nat) : List Pr := [Rd PA [.slice WA ws.length wc], Rd WA (N32 ws)]
def StA (A6 : Option Addr) (s : List Int × Option Addr × Nat) : List Pr := [Own 55 1 A6 1 1 [.slice s.2.1 s.1.length s.2.2], Own 3 1 s.2.1 s.1.length s.2.2 (I64 s.1)]
def nxtA (s : List Int × Option Addr × Nat) (x : Nat × Ins) (s2 : List Int × Option Addr × Nat) : Prop := s2.1 = s.1 ++ [x.2.n]
def goodA (s : List Int × Option Addr × Nat) (_x : Nat × Ins) : Prop := s.1.length ≤ 100000
def RbB (PA WA A4 : Option Addr) (ws : List Nat) (wc : Nat) : List Pr := [Rd PA [.slice WA ws.length wc], Rd WA (N32 ws), Rd A4 [.slice WA ws.length wc]]
def StB (ws : List Nat) (A6 LB A9 A10 OA MA : Option Addr) (lc : Nat) (s : List Nat × List Bool) : List Pr := [Own 55 1 A6 1 1 [.slice LB (labs ws).length lc], Own 3 1 LB (labs ws).length lc (I64 (labs ws)), Own 123 1 A9 1 1 [.func (.func 67) #[] #[ptrOf A6 0]], Own 57 3 A10 1 1 [.slice OA ws.length ws.length, .slice MA ws.length ws.length, .slice LB (labs ws).length lc], Own 73 1 OA ws.length ws.length (N32 s.1), Own 4 1 MA ws.length ws.length (Bs s.2)]
def nxtB (ws : List Nat) (s : List Nat × List Bool) (x : Nat × Ins) (s2 : List Nat × List Bool) : Prop := s2 = (s.1.set x.1 (numW (ws.getD x.1 0) x.2.op (idxL (labs ws) x.2.n)), s.2.set x.1 true)
def goodB (ws : List Nat) (s : List Nat × List Bool) (x : Nat × Ins) : Prop := x.1 < ws.length ∧ lnk ws x.1 = true ∧ x.2 = insAt ws x.1 ∧ s.1.length = ws.length ∧ s.2.length = ws.length

theorem find_c (A6 LB : Option Addr) (lb : List Int) (lc : Nat) (n : Int) (hl : lb.length ≤ 1000000) (hs : lb.Pairwise (· < ·)) :
   Ctr X 67 [.int .i64 n, ptrOf A6 0] [] [Own 55 1 A6 1 1 [.slice LB lb.length lc], Own 3 1 LB lb.length lc (I64 lb)] (fun v R' H' => v = .int .u32 ((idxL lb n : Nat) : Int) ∧ R' = [] ∧ H' = [Own 55 1 A6 1 1 [.slice LB lb.length lc], Own 3 1 LB lb.length lc (I64 lb)]) := by
 refine Ctr.of (X := X) (fn := Tryz.f67) Tryz.func67 rfl (by kernel_rfl) rfl ?_
 intro β
 refine C.seq (C.region ?_); refine Lpu rfl rfl ?_; refine L.nil (QE.seq (C.seq (C.region ?_))); refine L.step (Ev.load rfl rfl rfl (Src.o 0 rfl) rfl) rfl ?_; refine Lpu rfl rfl ?_; refine L.call (js := [1]) (js' := [0]) (search_c LB lb lc n hl (sorted_le hs)) rfl rfl rfl (by decide) trivial rfl ?_
 rintro _ _ _ ⟨rfl, rfl, rfl⟩
 refine L.norm (H' := [_, _]) [0, 1] ⟨rfl, rfl, trivial⟩ (by decide) ?_; refine Lpu rfl rfl ?_; refine Lpu rfl rfl ?_; refine Lpu rfl rfl ?_; refine Lpu rfl rfl ?_; refine Lpu rfl rfl ?_; refine L.nil (QE.seq (C.seq (C.region ?_))); refine Lpu rfl rfl ?_; refine L.step (Ev.toU32 (q := idxL lb n) rfl rfl rfl rfl (by have := idxL_le lb n; show ((idxL lb n : Nat) : Int) % 4294967296 = _; omega)) rfl ?_; refine Lpu rfl rfl ?_; refine L.nil (QE.seq (C.ret ?_)); refine QE.ret (js := []) (hs := [1, 0]) (vs := [_]) rfl ⟨rfl, trivial⟩ (by decide) ?_
 exact ⟨rfl, rfl, rfl⟩

theorem links_c (WA : Option Addr) (n wc : Nat) :
   Ctr X 64 [.slice WA n wc] [] [] (fun v R' H' => ∃ PA : Option Addr, v = .func (.func 97) #[] #[ptrOf PA 0] ∧ R' = [Rd PA [.slice WA n wc]] ∧ H' = []) := by
 refine Ctr.of (X := X) (fn := Tryz.f64) Tryz.func64 rfl (by kernel_rfl) rfl ?_
 intro β
 refine C.seq (C.region ?_)
 refine L.box rfl rfl rfl (fun A1 => ?_)
 refine Lpu rfl rfl ?_; refine L.nil (QE.seq (C.seq (C.region ?_))); refine Lpu rfl rfl ?_; refine Lpu rfl rfl ?_; refine L.nil (QE.seq (C.ret ?_)); refine QE.freeze 0 rfl [] (by decide) (by decide) ?_; refine QE.ret (js := [0]) (hs := []) (vs := [_]) rfl ⟨rfl, trivial⟩ (by decide) ?_
 exact ⟨A1, rfl, rfl, rfl⟩

set_option maxHeartbeats 1000000 in
theorem iterA_c (l : Nat) (r : Loop) (PA WA : Option Addr) (ws : List Nat) (wc : Nat) (hw : W32 ws) (hl : ws.length ≤ 16384) (A6 : Option Addr) (hy : YieldR X l r encI (RbA PA WA ws wc) (StA A6) nxtA goodA) :
   Ctr X 97 [.func (.yield l) #[] #[], ptrOf PA 0] [Rd PA [.slice WA ws.length wc], Rd WA (N32 ws)] [LoopP l r, Own 55 1 A6 1 1 [.slice none ([] : List Int).length 0], Own 3 1 none ([] : List Int).length 0 (I64 ([] : List Int))] (fun _ R' H' => R' = [] ∧ ∃ (O : Option Addr) (c : Nat), H' = LoopP l r :: StA A6 (targN ws ws.length, O, c)) := by
 refine Ctr.of (X := X) (fn := Tryz.f97) Tryz.func97 rfl (by kernel_rfl) rfl ?_
 intro β
 refine C.seq (C.region ?_); refine L.step (Ev.load rfl rfl rfl (Src.r 0 rfl) rfl) rfl ?_; refine Lpu rfl rfl ?_; refine Lpu rfl rfl ?_; refine L.nil (QE.seq (C.block ?_)); refine C.loop (fun q : Nat × Option Addr × Nat => [(0, .func (.yield l) #[] #[]), (1, ptrOf PA 0), (6, .slice WA ws.length wc), (7, .int .i64 (ws.length : Int)), (8, .int .i64 (q.1 : Int))]) (fun q : Nat × Option Addr × Nat => [Rd PA [.slice WA ws.length wc], Rd WA (N32 ws)]) (fun q : Nat × Option Addr × Nat => [LoopP l r, Own 55 1 A6 1 1 [.slice q.2.1 (targN ws q.1).length q.2.2], Own 3 1 q.2.1 (targN ws q.1).length q.2.2 (I64 (targN ws q.1))]) (fun q : Nat × Option Addr × Nat => q.1 ≤ ws.length) (fun q : Nat × Option Addr × Nat => ws.length - q.1) (0, none, 0) (Nat.zero_le _) (by exact Le.mk' (rs := [0, 1]) (hs := [0, 1, 2]) ⟨rfl, rfl, rfl, rfl, rfl, trivial⟩ ⟨rfl, rfl, trivial⟩ ⟨rfl, rfl, rfl, trivial⟩ (by decide)) ?_
 rintro ⟨k, O, oc⟩ hk
 dsimp only at hk ⊢
 refine C.seq (C.region ?_); refine Lpu rfl rfl ?_; refine L.nil (QE.seq (C.seq ?_))
 refine C.condB 9 rfl (fun hc9 => ?_) (fun hc9 => ?_)
 ·
  replace hc9 := of_decide_eq_true hc9
  refine C.skip (QE.seq (C.seq (C.block (C.seq (C.region ?_))))); refine Lpu rfl rfl ?_; refine L.step (Ev.idx1 (k := k) rfl rfl rfl rfl rfl rfl rfl (by omega) (Src.r 1 rfl) (by rw [N32_len]; omega)) rfl ?_; refine L.step (Ev.load rfl rfl rfl (Src.r 1 rfl) (N32_get (by omega))) rfl ?_; refine Lpu rfl rfl ?_; refine Lpu rfl rfl ?_; refine L.nil (QE.seq (C.seq (C.region ?_))); refine Lpu rfl rfl ?_; refine Lpu rfl rfl ?_; refine L.step (Ev.mul rfl rfl (by omega) (by omega)) rfl ?_; refine L.call (js := []) (js' := [0, 1, 2]) (decode_c (ws.getD k 0) (4 * (k : Int)) (hw k) (by omega)) rfl rfl rfl (by decide) trivial rfl ?_
  rintro _ _ _ ⟨rfl, rfl, rfl⟩
  refine L.norm (H' := [_, _, _]) [0, 1, 2] ⟨rfl, rfl, rfl, trivial⟩ (by decide) ?_
  refine L.alloc rfl rfl rfl (fun A5 => ?_)
  refine L.storeA (j := 3) rfl rfl rfl rfl rfl (Nat.zero_lt_succ _) rfl rfl ?_; refine L.nil (QE.seq (C.seq ?_)); refine C.regionY ?_; refine LY.step (Ev.loadA (vs := in5 (insAt ws k)) rfl rfl rfl (Src.o 3 rfl) rfl rfl (by decide)) rfl ?_; refine LY.step (Ev.load rfl rfl rfl (Src.r 0 rfl) rfl) rfl ?_; refine LY.step (Ev.pure rfl) rfl ?_; refine LY.step (Ev.mul rfl rfl (by omega) (by omega)) rfl ?_; refine LY.call (js := []) (js' := [0, 1, 2, 3]) (linked_c (insAt ws k) (4 * (ws.length : Int))) rfl rfl rfl (by decide) trivial rfl ?_
  rintro _ _ _ ⟨rfl, rfl, rfl⟩
  refine LY.norm (H' := [_, _, _, _]) [0, 1, 2, 3] ⟨rfl, rfl, rfl, rfl, trivial⟩ (by decide) ?_; refine LY.step (Ev.pure rfl) rfl ?_
  refine LY.bool 22 rfl (fun hg22 => ?_) (fun hg22 => ?_)
  ·
   have hlk : lnk ws k = true := hg22
   refine LY.yes rfl ?_; refine LY.step (Ev.pure rfl) rfl ?_; refine LY.yes rfl ?_; refine LY.step (Ev.pure rfl) rfl ?_; refine LY.yes rfl ?_; refine LY.step (Ev.loadA (vs := in5 (insAt ws k)) rfl rfl rfl (Src.o 3 rfl) rfl rfl (by decide)) rfl ?_; refine LY.yes rfl ?_; refine LY.yieldR (js := [0, 1, 2]) (js' := [3]) hy (targN ws k, O, oc) (k, (insAt ws k)) (show (targN ws k).length ≤ 100000 by have := targN_len ws k; omega) rfl rfl rfl rfl (by decide) (Hq [0, 1] rfl) rfl ?_
   rintro ⟨s2, O2, c2⟩ hnx
   have hnx2 : s2 = targN ws k ++ [(insAt ws k).n] := hnx
   subst hnx2
   unfold StA
   dsimp only
   refine LY.yes rfl ?_; refine LY.step (Ev.pure rfl) rfl ?_; refine LY.step (Ev.pure rfl) rfl ?_; refine LY.nil ?_; refine QE.seq ?_
   refine C.cond rfl (fun h => by cases h) (fun _ => ?_)
   refine C.skip ?_; refine QE.blkN ?_; refine QE.seq (C.region ?_); refine L.step (Ev.add rfl rfl (by omega) (by omega)) rfl ?_; refine Lpu rfl rfl ?_; refine L.nil ?_
   refine QE.round (i := (k, O, oc)) ((k + 1, O2, c2)) (by dsimp only; omega) (by dsimp only; omega) (by exact Le.mk' (rs := [0, 1]) (hs := [0, 1, 2]) ⟨rfl, rfl, rfl, rfl, rfl, trivial⟩ ⟨rfl, rfl, trivial⟩ ⟨rfl, (congrArg some (by dsimp only; rw [targN_yes hlk])), (congrArg some (by dsimp only; rw [targN_yes hlk])), trivial⟩ (by decide))
  ·
   have hlk : lnk ws k = false := hg22
   refine LY.no rfl rfl rfl ?_; refine LY.no rfl rfl rfl ?_; refine LY.no rfl rfl rfl ?_; refine LY.no rfl rfl rfl ?_; refine LY.no rfl rfl rfl ?_; refine LY.step (Ev.pure rfl) rfl ?_; refine LY.nil ?_; refine QE.seq ?_
   refine C.cond rfl (fun h => by cases h) (fun _ => ?_)
   refine C.skip ?_; refine QE.blkN ?_; refine QE.seq (C.region ?_); refine L.step (Ev.add rfl rfl (by omega) (by omega)) rfl ?_; refine Lpu rfl rfl ?_; refine L.nil ?_
   refine QE.round (i := (k, O, oc)) ((k + 1, O, oc)) (by dsimp only; omega) (by dsimp only; omega) (by exact Le.mk' (rs := [0, 1]) (hs := [0, 1, 2]) ⟨rfl, rfl, rfl, rfl, rfl, trivial⟩ ⟨rfl, rfl, trivial⟩ ⟨rfl, (congrArg some (by dsimp only; rw [targN_no hlk])), (congrArg some (by dsimp only; rw [targN_no hlk])), trivial⟩ (by decide))
 ·
  replace hc9 := of_decide_eq_false hc9
  refine C.exit ?_; refine QE.tX ?_; refine QE.tX ?_; refine QE.blk ?_; refine QE.retN ?_; refine QE.ret (js := []) (hs := [0, 1, 2]) (vs := []) rfl trivial (by decide) ?_
  obtain rfl : k = ws.length := by omega
  exact ⟨rfl, O, oc, rfl⟩

set_option maxHeartbeats 1000000 in
theorem iterB_c (l : Nat) (r : Loop) (PA WA : Option Addr) (ws : List Nat) (wc : Nat) (hw : W32 ws) (hl : ws.length ≤ 16384) (A4 A6 LB A9 A10 OA MA : Option Addr) (lc : Nat) (hy : YieldR X l r encI (RbB PA WA A4 ws wc) (StB ws A6 LB A9 A10 OA MA lc) (nxtB ws) (goodB ws)) :
   Ctr X 97 [.func (.yield l) #[] #[], ptrOf PA 0] [Rd PA [.slice WA ws.length wc], Rd WA (N32 ws), Rd A4 [.slice WA ws.length wc]] [LoopP l r, Own 55 1 A6 1 1 [.slice LB (labs ws).length lc], Own 3 1 LB (labs ws).length lc (I64 (labs ws)), Own 123 1 A9 1 1 [.func (.func 67) #[] #[ptrOf A6 0]], Own 57 3 A10 1 1 [.slice OA ws.length ws.length, .slice MA ws.length ws.length, .slice LB (labs ws).length lc], Own 73 1 OA ws.length ws.length (N32 (liftN ws 0)), Own 4 1 MA ws.length ws.length (Bs (markN ws 0))] (fun _ R' H' => R' = [] ∧ H' = LoopP l r :: StB ws A6 LB A9 A10 OA MA lc (liftN ws ws.length, markN ws ws.length)) := by
 refine Ctr.of (X := X) (fn := Tryz.f97) Tryz.func97 rfl (by kernel_rfl) rfl ?_
 intro β
 refine C.seq (C.region ?_); refine L.step (Ev.load rfl rfl rfl (Src.r 0 rfl) rfl) rfl ?_; refine Lpu rfl rfl ?_; refine Lpu rfl rfl ?_; refine L.nil (QE.seq (C.block ?_)); refine C.loop (fun q : Nat × Unit => [(0, .func (.yield l) #[] #[]), (1, ptrOf PA 0), (6, .slice WA ws.length wc), (7, .int .i64 (ws.length : Int)), (8, .int .i64 (q.1 : Int))]) (fun q : Nat × Unit => [Rd PA [.slice WA ws.length wc], Rd WA (N32 ws), Rd A4 [.slice WA ws.length wc]]) (fun q : Nat × Unit => [LoopP l r, Own 55 1 A6 1 1 [.slice LB (labs ws).length lc], Own 3 1 LB (labs ws).length lc (I64 (labs ws)), Own 123 1 A9 1 1 [.func (.func 67) #[] #[ptrOf A6 0]], Own 57 3 A10 1 1 [.slice OA ws.length ws.length, .slice MA ws.length ws.length, .slice LB (labs ws).length lc], Own 73 1 OA ws.length ws.length (N32 (liftN ws q.1)), Own 4 1 MA ws.length ws.length (Bs (markN ws q.1))]) (fun q : Nat × Unit => q.1 ≤ ws.length) (fun q : Nat × Unit => ws.length - q.1) (0, ()) (Nat.zero_le _) (by exact Le.mk' (rs := [0, 1, 2]) (hs := [0, 1, 2, 3, 4, 5, 6]) ⟨rfl, rfl, rfl, rfl, rfl, trivial⟩ ⟨rfl, rfl, rfl, trivial⟩ ⟨rfl, rfl, rfl, rfl, rfl, rfl, rfl, trivial⟩ (by decide)) ?_
 rintro ⟨k, u⟩ hk
 dsimp only at hk ⊢
 refine C.seq (C.region ?_); refine Lpu rfl rfl ?_; refine L.nil (QE.seq (C.seq ?_))
 refine C.condB 9 rfl (fun hc9 => ?_) (fun hc9 => ?_)
 ·
  replace hc9 := of_decide_eq_true hc9
  refine C.skip (QE.seq (C.seq (C.block (C.seq (C.region ?_))))); refine Lpu rfl rfl ?_; refine L.step (Ev.idx1 (k := k) rfl rfl rfl rfl rfl rfl rfl (by omega) (Src.r 1 rfl) (by rw [N32_len]; omega)) rfl ?_; refine L.step (Ev.load rfl rfl rfl (Src.r 1 rfl) (N32_get (by omega))) rfl ?_; refine Lpu rfl rfl ?_; refine Lpu rfl rfl ?_; refine L.nil (QE.seq (C.seq (C.region ?_))); refine Lpu rfl rfl ?_; refine Lpu rfl rfl ?_; refine L.step (Ev.mul rfl rfl (by omega) (by omega)) rfl ?_; refine L.call (js := []) (js' := [0, 1, 2, 3, 4, 5, 6]) (decode_c (ws.getD k 0) (4 * (k : Int)) (hw k) (by omega)) rfl rfl rfl (by decide) trivial rfl ?_
  rintro _ _ _ ⟨rfl, rfl, rfl⟩
  refine L.norm (H' := [_, _, _, _, _, _, _]) [0, 1, 2, 3, 4, 5, 6] ⟨rfl, rfl, rfl, rfl, rfl, rfl, rfl, trivial⟩ (by decide) ?_
  refine L.alloc rfl rfl rfl (fun A5 => ?_)
  refine L.storeA (j := 7) rfl rfl rfl rfl rfl (Nat.zero_lt_succ _) rfl rfl ?_; refine L.nil (QE.seq (C.seq ?_)); refine C.regionY ?_; refine LY.step (Ev.loadA (vs := in5 (insAt ws k)) rfl rfl rfl (Src.o 7 rfl) rfl rfl (by decide)) rfl ?_; refine LY.step (Ev.load rfl rfl rfl (Src.r 0 rfl) rfl) rfl ?_; refine LY.step (Ev.pure rfl) rfl ?_; refine LY.step (Ev.mul rfl rfl (by omega) (by omega)) rfl ?_; refine LY.call (js := []) (js' := [0, 1, 2, 3, 4, 5, 6, 7]) (linked_c (insAt ws k) (4 * (ws.length : Int))) rfl rfl rfl (by decide) trivial rfl ?_
  rintro _ _ _ ⟨rfl, rfl, rfl⟩
  refine LY.norm (H' := [_, _, _, _, _, _, _, _]) [0, 1, 2, 3, 4, 5, 6, 7] ⟨rfl, rfl, rfl, rfl, rfl, rfl, rfl, rfl, trivial⟩ (by decide) ?_; refine LY.step (Ev.pure rfl) rfl ?_
  refine LY.bool 22 rfl (fun hg22 => ?_) (fun hg22 => ?_)
  ·
   have hlk : lnk ws k = true := hg22
   refine LY.yes rfl ?_; refine LY.step (Ev.pure rfl) rfl ?_; refine LY.yes rfl ?_; refine LY.step (Ev.pure rfl) rfl ?_; refine LY.yes rfl ?_; refine LY.step (Ev.loadA (vs := in5 (insAt ws k)) rfl rfl rfl (Src.o 7 rfl) rfl rfl (by decide)) rfl ?_; refine LY.yes rfl ?_; refine LY.yieldR (js := [0, 1, 2, 3, 4, 5, 6]) (js' := [7]) hy (liftN ws k, markN ws k) (k, (insAt ws k)) ⟨by dsimp only; omega, hlk, rfl, liftN_len (by omega), markN_len (by omega)⟩ rfl rfl rfl rfl (by decide) (Hq [0, 1, 2] rfl) rfl ?_
   rintro ⟨w2, m2⟩ hnx
   have hnx1 : w2 = liftN ws (k + 1) := (congrArg Prod.fst hnx).trans (by dsimp only; rw [← liftN_succ (by omega)]; unfold liftW; rw [if_pos hlk])
   have hnx2 : m2 = markN ws (k + 1) := (congrArg Prod.snd hnx).trans (markN_succ (by omega) hlk)
   subst hnx1 hnx2
   unfold StB
   dsimp only
   refine LY.yes rfl ?_; refine LY.step (Ev.pure rfl) rfl ?_; refine LY.step (Ev.pure rfl) rfl ?_; refine LY.nil ?_; refine QE.seq ?_
   refine C.cond rfl (fun h => by cases h) (fun _ => ?_)
   refine C.skip ?_; refine QE.blkN ?_; refine QE.seq (C.region ?_); refine L.step (Ev.add rfl rfl (by omega) (by omega)) rfl ?_; refine Lpu rfl rfl ?_; refine L.nil ?_
   refine QE.round (i := (k, u)) ((k + 1, u)) (by dsimp only; omega) (by dsimp only; omega) (by exact Le.mk' (rs := [0, 1, 2]) (hs := [0, 1, 2, 3, 4, 5, 6]) ⟨rfl, rfl, rfl, rfl, rfl, trivial⟩ ⟨rfl, rfl, rfl, trivial⟩ ⟨rfl, rfl, rfl, rfl, rfl, rfl, rfl, trivial⟩ (by decide))
  ·
   have hlk : lnk ws k = false := hg22
   refine LY.no rfl rfl rfl ?_; refine LY.no rfl rfl rfl ?_; refine LY.no rfl rfl rfl ?_; refine LY.no rfl rfl rfl ?_; refine LY.no rfl rfl rfl ?_; refine LY.step (Ev.pure rfl) rfl ?_; refine LY.nil ?_; refine QE.seq ?_
   refine C.cond rfl (fun h => by cases h) (fun _ => ?_)
   refine C.skip ?_; refine QE.blkN ?_; refine QE.seq (C.region ?_); refine L.step (Ev.add rfl rfl (by omega) (by omega)) rfl ?_; refine Lpu rfl rfl ?_; refine L.nil ?_
   refine QE.round (i := (k, u)) ((k + 1, u)) (by dsimp only; omega) (by dsimp only; omega) (by exact Le.mk' (rs := [0, 1, 2]) (hs := [0, 1, 2, 3, 4, 5, 6]) ⟨rfl, rfl, rfl, rfl, rfl, trivial⟩ ⟨rfl, rfl, rfl, trivial⟩ ⟨rfl, rfl, rfl, rfl, rfl, (congrArg some (by dsimp only; rw [liftN_skip (by omega) hlk])), (congrArg some (by dsimp only; rw [markN_skip (by omega) hlk])), trivial⟩ (by decide))
 ·
  replace hc9 := of_decide_eq_false hc9
  refine C.exit ?_; refine QE.tX ?_; refine QE.tX ?_; refine QE.blk ?_; refine QE.retN ?_; refine QE.ret (js := []) (hs := [0, 1, 2, 3, 4, 5, 6]) (vs := []) rfl trivial (by decide) ?_
  obtain rfl : k = ws.length := by omega
  exact ⟨rfl, rfl⟩

end Go.Proofs.YtbkmahjhhncfcaaGreat
end
