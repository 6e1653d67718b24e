/-
  The small separation logic: structs of numbers that are compared, equal or not.
-/
import Derived.Lib.SlicesCompact
import Derived.Test.YtbkmahjhhncfcaaGreatUOg
import Derived.Test.YtbkmahjhhncfcaaGreatUSlN
import Derived.Test.YtbkmahjhhncfcaaGreatUWLaC
section
namespace Go.Sl

section
variable {X : Cx} {β : Base} {Γ : Env} {R H : List Pr}
end

/-! ### Choices of a drawn region, told shortly -/
section
variable {X : Cx} {β : Base} {n : Nat} {ds : List Deferred} {Q : Exit → Act → World → Prop} {Γ : Env} {R H Rc : List Pr} {ops o : Array Oper} {fuel : Nat} {l0 listed : Array Bool}
theorem LM.a2 (i j : Nat) {a b : Oper} (hr : Region.ready .any ops listed = [i, j]) (hc : Hass R H Rc) (h1 : ops[i]? = some a) (h2 : ops[j]? = some b)
   (k1 : L X β n ds ops (QM X β ops l0 Rc Q fuel (listed.setIfInBounds i true)) [a] Γ R H) (k2 : L X β n ds ops (QM X β ops l0 Rc Q fuel (listed.setIfInBounds j true)) [b] Γ R H) : LM X β n ds ops l0 Rc Q (fuel + 1) listed Γ R H :=
 LM.alt [i, j] hr (by simp) hc ⟨⟨a, h1, k1⟩, ⟨b, h2, k2⟩, trivial⟩
theorem LM.a3 (i j k : Nat) {a b c : Oper} (hr : Region.ready .any ops listed = [i, j, k]) (hc : Hass R H Rc) (h1 : ops[i]? = some a) (h2 : ops[j]? = some b) (h3 : ops[k]? = some c)
   (k1 : L X β n ds ops (QM X β ops l0 Rc Q fuel (listed.setIfInBounds i true)) [a] Γ R H) (k2 : L X β n ds ops (QM X β ops l0 Rc Q fuel (listed.setIfInBounds j true)) [b] Γ R H) (k3 : L X β n ds ops (QM X β ops l0 Rc Q fuel (listed.setIfInBounds k true)) [c] Γ R H) : LM X β n ds ops l0 Rc Q (fuel + 1) listed Γ R H :=
 LM.alt [i, j, k] hr (by simp) hc ⟨⟨a, h1, k1⟩, ⟨b, h2, k2⟩, ⟨c, h3, k3⟩, trivial⟩
theorem LM.a4 (i j k l : Nat) {a b c d : Oper} (hr : Region.ready .any ops listed = [i, j, k, l]) (hc : Hass R H Rc) (h1 : ops[i]? = some a) (h2 : ops[j]? = some b) (h3 : ops[k]? = some c) (h4 : ops[l]? = some d)
   (k1 : L X β n ds ops (QM X β ops l0 Rc Q fuel (listed.setIfInBounds i true)) [a] Γ R H) (k2 : L X β n ds ops (QM X β ops l0 Rc Q fuel (listed.setIfInBounds j true)) [b] Γ R H) (k3 : L X β n ds ops (QM X β ops l0 Rc Q fuel (listed.setIfInBounds k true)) [c] Γ R H) (k4 : L X β n ds ops (QM X β ops l0 Rc Q fuel (listed.setIfInBounds l true)) [d] Γ R H) : LM X β n ds ops l0 Rc Q (fuel + 1) listed Γ R H :=
 LM.alt [i, j, k, l] hr (by simp) hc ⟨⟨a, h1, k1⟩, ⟨b, h2, k2⟩, ⟨c, h3, k3⟩, ⟨d, h4, k4⟩, trivial⟩
theorem L.nm (hz : (listed.size == ops.size && inB l0 listed) = true) (h : LM X β n ds ops l0 Rc Q fuel listed Γ R H) : L X β n ds o (QM X β ops l0 Rc Q fuel listed) [] Γ R H := L.nil (QE.m hz h)
end
end Go.Sl
end
/-
  Labels: lists without repetitions in ascending order; what a program makes by sorting and leaving out repetitions, and a reference by putting in one by one.
-/
section
namespace Go.Sl

/-- A number is put into an ascending list, if it is not there. -/
def insS : List Int → Int → List Int
 | [], n => [n]
 | a :: l, n => if n < a then n :: a :: l else if n = a then a :: l else a :: insS l n
theorem insS_mem (l : List Int) (n x : Int) : x ∈ insS l n ↔ x ∈ l ∨ x = n := by
 induction l with
 | nil => simp [insS]
 | cons a l ih =>
   unfold insS
   split
   · simp only [List.mem_cons]
     constructor
     · rintro (h | h | h)
       · exact .inr h
       · exact .inl (.inl h)
       · exact .inl (.inr h)
     · rintro ((h | h) | h)
       · exact .inr (.inl h)
       · exact .inr (.inr h)
       · exact .inl h
   · split
     · rename_i h
       subst h
       simp only [List.mem_cons]
       constructor
       · exact .inl
       · rintro (h | h)
         · exact h
         · exact .inl h
     · simp only [List.mem_cons, ih]
       constructor
       · rintro (h | h | h)
         · exact .inl (.inl h)
         · exact .inl (.inr h)
         · exact .inr h
       · rintro ((h | h) | h)
         · exact .inl h
         · exact .inr (.inl h)
         · exact .inr (.inr h)
theorem insS_sorted {l : List Int} (n : Int) (h : l.Pairwise (· < ·)) : (insS l n).Pairwise (· < ·) := by
 induction l with
 | nil => exact List.pairwise_singleton _ _
 | cons a l ih =>
   have h' := List.pairwise_cons.1 h
   unfold insS
   split
   · rename_i hn
     refine List.pairwise_cons.2 ⟨fun x hx => ?_, h⟩
     rcases List.mem_cons.1 hx with e | e
     · exact e ▸ hn
     · exact Int.lt_trans hn (h'.1 x e)
   · split
     · exact h
     · rename_i h1 h2
       refine List.pairwise_cons.2 ⟨fun x hx => ?_, ih h'.2⟩
       rcases (insS_mem l n x).1 hx with e | e
       · exact h'.1 x e
       · omega
theorem insS_len (l : List Int) (n : Int) : (insS l n).length ≤ l.length + 1 := by
 induction l with
 | nil => exact Nat.le_refl _
 | cons a l ih =>
   unfold insS
   split
   · exact Nat.le_refl _
   · split
     · exact Nat.le_succ _
     · simp only [List.length_cons]; omega
def labsOf (t : List Int) : List Int := t.foldl insS []
theorem foldl_ins (t : List Int) (s : List Int) (hs : s.Pairwise (· < ·)) : (t.foldl insS s).Pairwise (· < ·) ∧ ∀ x, x ∈ t.foldl insS s ↔ x ∈ s ∨ x ∈ t := by
 induction t generalizing s with
 | nil => exact ⟨hs, fun x => by simp⟩
 | cons a t ih =>
   have h := ih (insS s a) (insS_sorted a hs)
   refine ⟨h.1, fun x => ?_⟩
   rw [List.foldl_cons, h.2, insS_mem, List.mem_cons, or_assoc]
theorem labsOf_sorted (t : List Int) : (labsOf t).Pairwise (· < ·) := (foldl_ins t [] List.Pairwise.nil).1
theorem labsOf_mem (t : List Int) (x : Int) : x ∈ labsOf t ↔ x ∈ t := by
 have := (foldl_ins t [] List.Pairwise.nil).2 x
 unfold labsOf
 simpa using this
theorem foldl_len (t s : List Int) : (t.foldl insS s).length ≤ s.length + t.length := by
 induction t generalizing s with
 | nil => exact Nat.le_refl _
 | cons a t ih =>
   have h1 := ih (insS s a)
   have h2 := insS_len s a
   simp only [List.foldl_cons, List.length_cons]
   omega
theorem labsOf_len (t : List Int) : (labsOf t).length ≤ t.length := by
 have := foldl_len t []
 unfold labsOf
 simpa using this
theorem sorted_eq : ∀ {a b : List Int}, a.Pairwise (· < ·) → b.Pairwise (· < ·) → (∀ x, x ∈ a ↔ x ∈ b) → a = b
 | [], [], _, _, _ => rfl
 | [], y :: b, _, _, h => absurd ((h y).2 List.mem_cons_self) List.not_mem_nil
 | x :: a, [], _, _, h => absurd ((h x).1 List.mem_cons_self) List.not_mem_nil
 | x :: a, y :: b, ha, hb, h => by
   have h1 := List.pairwise_cons.1 ha
   have h2 := List.pairwise_cons.1 hb
   have e : x = y := by
     rcases List.mem_cons.1 ((h x).1 List.mem_cons_self) with e | e
     · exact e
     · rcases List.mem_cons.1 ((h y).2 List.mem_cons_self) with e' | e'
       · exact e'.symm
       · have := h1.1 y e'
         have := h2.1 x e
         omega
   subst e
   congr 1
   refine sorted_eq h1.2 h2.2 fun z => ⟨fun hz => ?_, fun hz => ?_⟩
   · rcases List.mem_cons.1 ((h z).1 (List.mem_cons_of_mem _ hz)) with e | e
     · have := h1.1 z hz; omega
     · exact e
   · rcases List.mem_cons.1 ((h z).2 (List.mem_cons_of_mem _ hz)) with e | e
     · have := h2.1 z hz; omega
     · exact e

/-! ### Sorted, and without repetitions -/
theorem compact_spec {xs : List Int} (h : xs.Pairwise (· ≤ ·)) : (Lib.compact xs).Pairwise (· < ·) ∧ ∀ x, x ∈ Lib.compact xs ↔ x ∈ xs := by
 have get : ∀ j, j < xs.length → xs.toArray[j]! = xs.getD j 0 := by
   intro j hj
   simp [hj]
 have mono : ∀ i j, i ≤ j → j < xs.length → xs.getD i 0 ≤ xs.getD j 0 := by
   intro i j hij hj
   rcases Nat.lt_or_eq_of_le hij with hlt | rfl
   · have := List.pairwise_iff_getElem.1 h i j (by omega) hj hlt
     simpa [hj, show i < xs.length by omega] using this
   · exact Int.le_refl _
 have keep : ∀ j, Lib.keeps xs.toArray j = true ↔ (j = 0 ∨ xs.toArray[j]! ≠ xs.toArray[j - 1]!) := by
   intro j
   unfold Lib.keeps
   by_cases hj : j = 0 <;> simp [hj]
 unfold Lib.compact Lib.compactUpTo
 refine ⟨?_, fun x => ?_⟩
 · refine List.pairwise_map.2 ?_
   have hp : ((List.range xs.length).filter (Lib.keeps xs.toArray)).Pairwise (· < ·) := List.Pairwise.filter _ List.pairwise_lt_range
   refine List.Pairwise.imp_of_mem (fun {i j} hi hj hij => ?_) hp
   obtain ⟨hi1, _⟩ := List.mem_filter.1 hi
   obtain ⟨hj1, hj2⟩ := List.mem_filter.1 hj
   have hil := List.mem_range.1 hi1
   have hjl := List.mem_range.1 hj1
   rcases (keep j).1 hj2 with e | e
   · omega
   · rw [get _ hjl, get _ (by omega)] at e
     rw [get _ hil, get _ hjl]
     have h1 := mono i (j - 1) (by omega) (by omega)
     have h2 := mono (j - 1) j (by omega) hjl
     omega
 · simp only [List.mem_map, List.mem_filter, List.mem_range]
   constructor
   · rintro ⟨j, ⟨hj, _⟩, rfl⟩
     rw [get _ hj]
     simp [hj]
   · intro hx
     obtain ⟨k, hk, rfl⟩ := List.getElem_of_mem hx
     have hex : ∃ j, j < xs.length ∧ xs.getD j 0 = xs[k] := ⟨k, hk, by simp [hk]⟩
     have least : ∀ m, (∃ j, j ≤ m ∧ j < xs.length ∧ xs.getD j 0 = xs[k]) → ∃ j, j < xs.length ∧ xs.getD j 0 = xs[k] ∧ ∀ i, i < j → xs.getD i 0 ≠ xs[k] := by
       intro m
       induction m with
       | zero =>
         rintro ⟨j, hj, hl, he⟩
         obtain rfl : j = 0 := by omega
         exact ⟨0, hl, he, fun i hi => absurd hi (Nat.not_lt_zero _)⟩
       | succ m ih =>
         rintro ⟨j, hj, hl, he⟩
         by_cases hb : ∃ i, i < j ∧ xs.getD i 0 = xs[k]
         · obtain ⟨i, hi, hie⟩ := hb
           exact ih ⟨i, by omega, by omega, hie⟩
         · exact ⟨j, hl, he, fun i hi h => hb ⟨i, hi, h⟩⟩
     obtain ⟨j, hj, he⟩ := hex
     obtain ⟨j, hj, he, hmin⟩ := least j ⟨j, Nat.le_refl _, hj, he⟩
     refine ⟨j, ⟨hj, (keep j).2 ?_⟩, by rw [get _ hj, he]⟩
     by_cases h0 : j = 0
     · exact .inl h0
     · refine .inr ?_
       rw [get _ hj, get _ (by omega), he]
       exact fun e => hmin (j - 1) (by omega) e.symm
theorem merge_sorted (t : List Int) : (t.mergeSort fun x y => decide (x ≤ y)).Pairwise (· ≤ ·) := by
 have h := List.pairwise_mergeSort (le := fun x y : Int => decide (x ≤ y)) (fun a b c h1 h2 => by simp only [decide_eq_true_eq] at *; omega) (fun a b => by simp only [Bool.or_eq_true, decide_eq_true_eq]; omega) t
 exact h.imp (fun h => of_decide_eq_true h)
theorem compact_sort (t : List Int) : Lib.compact (t.mergeSort fun x y => decide (x ≤ y)) = labsOf t := by
 have h := compact_spec (merge_sorted t)
 refine sorted_eq h.1 (labsOf_sorted t) fun x => ?_
 rw [h.2, labsOf_mem, List.mem_mergeSort]
/-! ### The number of a label -/
def idxL (l : List Int) (n : Int) : Nat := l.countP (· < n)
theorem idxL_le (l : List Int) (n : Int) : idxL l n ≤ l.length := List.countP_le_length
theorem sorted_le {l : List Int} (h : l.Pairwise (· < ·)) : l.Pairwise (· ≤ ·) := h.imp fun h => Int.le_of_lt h
end Go.Sl
end
/-
  Lifted code, as plain lists.
-/
section
namespace Go.Sl

def insAt (l : List Nat) (i : Nat) : Ins := decF (l.getD i 0) (4 * (i : Int))
def lnk (l : List Nat) (i : Nat) : Bool := linkB (insAt l i) (4 * (l.length : Int))
def targN (l : List Nat) (k : Nat) : List Int := ((List.range k).filter (lnk l)).map fun i => (insAt l i).n
theorem targN_yes {l : List Nat} {k : Nat} (h : lnk l k = true) : targN l (k + 1) = targN l k ++ [(insAt l k).n] := by simp [targN, List.range_succ, h]
theorem targN_no {l : List Nat} {k : Nat} (h : lnk l k = false) : targN l (k + 1) = targN l k := by simp [targN, List.range_succ, h]
theorem targN_len (l : List Nat) (k : Nat) : (targN l k).length ≤ k := by
 unfold targN
 rw [List.length_map]
 exact Nat.le_trans (List.length_filter_le _ _) (by rw [List.length_range]; exact Nat.le_refl _)
def labs (l : List Nat) : List Int := labsOf (targN l l.length)
theorem labs_len (l : List Nat) : (labs l).length ≤ l.length := Nat.le_trans (labsOf_len _) (targN_len l _)
theorem labs_sorted (l : List Nat) : (labs l).Pairwise (· < ·) := labsOf_sorted _
theorem lnk_spec {l : List Nat} {i : Nat} (h : lnk l i = true) : 5 ≤ (insAt l i).op ∧ (insAt l i).op ≤ 8 ∧ 0 ≤ (insAt l i).n ∧ (insAt l i).n < 4 * (l.length : Int) := of_decide_eq_true h
theorem labs_range {l : List Nat} {x : Int} (h : x ∈ labs l) : 0 ≤ x ∧ x < 4 * (l.length : Int) := by
 have h1 := (labsOf_mem _ _).1 h
 obtain ⟨i, hi, rfl⟩ := List.mem_map.1 h1
 have h2 := lnk_spec (List.mem_filter.1 hi).2
 exact ⟨h2.2.2.1, h2.2.2.2⟩
/-- A word with a number in place of the bits of its distance. -/
def numW (w : Nat) (o : Int) (n : Nat) : Nat := w / 2 ^ fldF o.toNat * 2 ^ fldF o.toNat + n
def liftW (l : List Nat) (i : Nat) : Nat := if lnk l i = true then numW (l.getD i 0) (insAt l i).op (idxL (labs l) (insAt l i).n) else l.getD i 0
structure Lf where
 ws : List Nat
 ms : List Bool
 ls : List Int
def Lf.zero : Lf := ⟨[], [], []⟩
def liftF (l : List Nat) : Lf := ⟨(List.range l.length).map (liftW l), (List.range l.length).map (lnk l), labs l⟩
def codeB (b : List UInt8) : Prop := b.length % 4 = 0 ∧ b.length ≤ 65536
instance (b : List UInt8) : Decidable (codeB b) := by unfold codeB; infer_instance
def liftR (b : List UInt8) : Lf := if codeB b then liftF (wordsF b) else Lf.zero
def liftE (b : List UInt8) : Int := if codeB b then 0 else 30
theorem fld_cases (o : Nat) : 2 ^ fldF o = 16777216 ∨ 2 ^ fldF o = 65536 := by
 unfold fldF
 split
 · exact .inl (by decide)
 · exact .inr (by decide)
theorem numW_lt {w n : Nat} (o : Int) (hw : w < 4294967296) (hn : n < 65536) : numW w o n < 4294967296 := by
 unfold numW
 rcases fld_cases o.toNat with e | e <;> rw [e] <;> omega
theorem liftW_lt {l : List Nat} (hl : l.length ≤ 16384) (hw : W32 l) (i : Nat) : liftW l i < 4294967296 := by
 unfold liftW
 split
 · exact numW_lt _ (hw i) (by have := idxL_le (labs l) (insAt l i).n; have := labs_len l; omega)
 · exact hw i
theorem liftF_w32 {l : List Nat} (hl : l.length ≤ 16384) (hw : W32 l) : W32 (liftF l).ws := W32.of fun x hx => by
 obtain ⟨i, _, rfl⟩ := List.mem_map.1 hx
 exact liftW_lt hl hw i
/-- What a program has made of the words so far. -/
def liftN (l : List Nat) (k : Nat) : List Nat := (List.range k).map (liftW l) ++ l.drop k
def markN (l : List Nat) (k : Nat) : List Bool := (List.range k).map (lnk l) ++ List.replicate (l.length - k) false
theorem liftN_len {l : List Nat} {k : Nat} (h : k ≤ l.length) : (liftN l k).length = l.length := by
 unfold liftN
 rw [List.length_append, List.length_map, List.length_range, List.length_drop]
 omega
theorem markN_len {l : List Nat} {k : Nat} (h : k ≤ l.length) : (markN l k).length = l.length := by
 unfold markN
 rw [List.length_append, List.length_map, List.length_range, List.length_replicate]
 omega
theorem set_at {α : Type} (a b : List α) (y : α) (c : α) : (a ++ c :: b).set a.length y = a ++ y :: b := by simp
theorem liftN_succ {l : List Nat} {k : Nat} (h : k < l.length) : (liftN l k).set k (liftW l k) = liftN l (k + 1) := by
 unfold liftN
 have hk : k = ((List.range k).map (liftW l)).length := by simp
 rw [List.drop_eq_getElem_cons h, List.range_succ, List.map_append, List.append_assoc]
 conv => lhs; arg 2; rw [hk]
 rw [set_at]
 rfl
theorem liftN_skip {l : List Nat} {k : Nat} (h : k < l.length) (hn : lnk l k = false) : liftN l (k + 1) = liftN l k := by
 unfold liftN
 rw [List.drop_eq_getElem_cons h, List.range_succ, List.map_append, List.append_assoc]
 have : liftW l k = l[k] := by
   unfold liftW
   rw [if_neg (by rw [hn]; decide)]
   simp [h]
 simp [this]
theorem markN_succ {l : List Nat} {k : Nat} (h : k < l.length) (hn : lnk l k = true) : (markN l k).set k true = markN l (k + 1) := by
 unfold markN
 have hk : k = ((List.range k).map (lnk l)).length := by simp
 rw [show l.length - k = (l.length - (k + 1)) + 1 by omega, List.replicate_succ, List.range_succ, List.map_append, List.append_assoc]
 conv => lhs; arg 2; rw [hk]
 rw [set_at]
 simp [hn]
theorem markN_skip {l : List Nat} {k : Nat} (h : k < l.length) (hn : lnk l k = false) : markN l (k + 1) = markN l k := by
 unfold markN
 rw [show l.length - k = (l.length - (k + 1)) + 1 by omega, List.replicate_succ, List.range_succ, List.map_append, List.append_assoc]
 simp [hn]
theorem liftN_zero (l : List Nat) : liftN l 0 = l := by simp [liftN]
theorem markN_zero (l : List Nat) : markN l 0 = List.replicate l.length false := by simp [markN]
theorem liftN_all (l : List Nat) : liftN l l.length = (liftF l).ws := by simp [liftN, liftF]
theorem markN_all (l : List Nat) : markN l l.length = (liftF l).ms := by simp [markN, liftF]
theorem fld_le (o : Nat) : fldF o ≤ 32 := by
 unfold fldF
 split <;> omega
theorem liftF_lens (l : List Nat) : (liftF l).ws.length = l.length ∧ (liftF l).ms.length = l.length := by simp [liftF]
theorem liftR_lens (b : List UInt8) : (liftR b).ws.length ≤ b.length / 4 ∧ (liftR b).ms.length ≤ b.length / 4 ∧ (liftR b).ls.length ≤ b.length / 4 := by
 unfold liftR
 split
 · have h := liftF_lens (wordsF b)
   have h2 := labs_len (wordsF b)
   rw [wordsF_len] at h h2
   exact ⟨by omega, by omega, h2⟩
 · exact ⟨Nat.zero_le _, Nat.zero_le _, Nat.zero_le _⟩
end Go.Sl
end
