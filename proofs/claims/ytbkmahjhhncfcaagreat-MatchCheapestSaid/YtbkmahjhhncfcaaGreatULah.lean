/-
  Moved code, as plain lists.
-/
import Derived.Test.YtbkmahjhhncfcaaGreatULaf
import Derived.Test.YtbkmahjhhncfcaaGreatUSlO
import Derived.Test.YtbkmahjhhncfcaaGreatUSlM
section
namespace Go.Sl

def movOk (b : List UInt8) (p q : Int) : Prop := codeB b ∧ 0 ≤ p ∧ p ≤ ((liftR b).ws.length : Int) ∧ 0 ≤ q ∧ q ≤ 16384 - ((liftR b).ws.length : Int)
instance (b : List UInt8) (p q : Int) : Decidable (movOk b p q) := by unfold movOk; infer_instance
theorem liftR_w32 (b : List UInt8) : W32 (liftR b).ws := by
 unfold liftR
 split
 · rename_i h
   exact liftF_w32 (by rw [wordsF_len]; have := h.2; omega) (wordsF_w32 b)
 · intro i; simp [Lf.zero]
end Go.Sl
end
/-
  How the reference guesses the word of an instruction that has a target, as plain arithmetic; a word that is made of four bytes.
-/
section
namespace Go.Sl

/-! ### A word that is made of four bytes -/
def md3 (o : Nat) : Prop := o = 1 ∨ o = 3 ∨ o = 4
instance (o : Nat) : Decidable (md3 o) := by unfold md3; infer_instance
/-! ### Labels, one after the other -/
end Go.Sl
end
/-
  The small separation logic: a constant row of bytes, turned to its own type.
-/
section
namespace Go.Sl

section
variable {X : Cx} {β : Base} {n : Nat} {ds : List Deferred} {ops : Array Oper} {Q : Exit → Act → World → Prop} {rest : List Oper} {Γ : Env} {R H : List Pr}

/-- []byte("..") of a constant: the row is marked behind its end, and only read from then on. -/
theorem L.konst {d s e m c ty j : Nat} {pos : String} {af : Array Edge} {x : Operand} {i ei : Ti} {A : Option Addr} {xs : List Value} (hs : tlook s X.tab = some i) (hdesc : i.desc = .slice e) (he : tlook e X.tab = some ei) (hed : ei.desc = .int .u8)
   (hx : ev Γ x = some (.slice A m c)) (hj : H[j]? = some (Own e 1 A m c xs)) (h0 : Nat.blt 0 xs.length = true) (js : List Nat) (hn : js.Nodup) (hjj : js.contains j = false) (hd : Nat.blt d n = true)
   (k : L X β n ds ops Q rest ((d, .slice A m c) :: Γ) (Rd A xs :: R) (sel H js)) : L X β n ds ops Q (⟨some d, .convert s s x, ty, pos, af, none⟩ :: rest) Γ R H := by
 have hlen : js.Nodup := hn
 have hnj : j ∉ js := by simpa using hjj
 intro a w hf hsat
 refine wpList_plain rfl fun K hK => ?_
 obtain ⟨e1, _⟩ := X.ok _ _ hs
 obtain ⟨e2, _⟩ := X.ok _ _ he
 rw [hdesc] at e1
 rw [hed] at e2
 obtain ⟨g, cur, rfl, hh, _, _, hsz, htk⟩ := Own.form (hsat.own j _ hj) (by simpa [Nat.blt_eq] using h0)
 have hsh : w.shape? g = some (e, cur.size) := by unfold World.shape?; rw [hh]
 have hlt : g < w.heap.size := (Array.getElem?_eq_some_iff.1 hh).1
 have hrun : (execOp a.eval ⟨some d, .convert s s x, ty, pos, af, none⟩).run X.P w = .ok (.value (.slice (some ⟨g, 0, none⟩) m c)) (w.freeze ⟨g, cur.size, none⟩ 1) := by
   simp [execOp, hf.eval hx, convert, run_underlying e1, run_underlying e2, markStringish, hsh]
 have hheap : (w.freeze ⟨g, cur.size, none⟩ 1).heap = w.heap.modify g fun
     | .cells c elem (lo, hi) => .cells c elem (if lo == hi then (cur.size, cur.size + 1) else (min lo cur.size, max hi (cur.size + 1)))
     | o => o := by
   unfold World.freeze
   rw [if_neg (by decide)]
   rfl
 have hat : (w.freeze ⟨g, cur.size, none⟩ 1).heap[g]? = some (.cells cur e (cur.size, cur.size + 1)) := by
   rw [hheap, Array.getElem?_modify, if_pos rfl, hh]
   rfl
 unfold Oper.wp
 rw [hrun]
 refine hK _ _ ((L.freezeAny (β := β) (R := R) (Q := Q) (rest := rest) (ops := ops) (Γ := (d, .slice (some ⟨g, 0, none⟩) m c) :: Γ) (H := H.set j (Rd (some ⟨g, 0, none⟩) xs)) j (c := Rd (some ⟨g, 0, none⟩) xs) ?_ js hn hjj ?_) _ _ (hf.put (by simpa [Nat.blt_eq] using hd) _) ?_)
 · exact List.getElem?_set_self (List.getElem?_eq_some_iff.1 hj).1
 · have hse : sel (H.set j (Rd (some ⟨g, 0, none⟩) xs)) js = sel H js := by
     clear hn hjj hlen k
     induction js with
     | nil => rfl
     | cons q qs ih =>
       have hq : q ≠ j := fun e => hnj (by subst e; simp)
       simp only [sel]
       rw [ih (fun h => hnj (List.mem_cons_of_mem _ h)), List.getElem?_set_ne (Ne.symm hq)]
   rw [hse]
   exact k
 · have hfz : (w.freeze ⟨g, cur.size, none⟩ 1).os = w.os ∧ (w.freeze ⟨g, cur.size, none⟩ 1).tape = w.tape ∧ (w.freeze ⟨g, cur.size, none⟩ 1).output = w.output := by
     unfold World.freeze
     rw [if_neg (by decide)]
     exact ⟨rfl, rfl, rfl⟩
   refine hsat.upd (w' := w.freeze ⟨g, cur.size, none⟩ 1) hj (m := (· = g)) ⟨hfz.1, hfz.2.1, hfz.2.2, ?_, fun b hb hne => ?_⟩ (fun b hb _ => ⟨_, rfl, hb.symm⟩) _ ?_ (fun b hb => ?_)
   · rw [hheap, Array.size_modify]
     exact Nat.le_refl _
   · rw [hheap, Array.getElem?_modify, if_neg (Ne.symm hne)]
   · intro q u hu
     have hql := (List.getElem?_eq_some_iff.1 hu).1
     refine ⟨_, rfl, ?_⟩
     rw [adz, cell_of_row _ g q cur e _ hat]
     rw [← htk, List.getElem?_take] at hu
     split at hu
     · simpa using hu
     · cases hu
   · obtain ⟨_, a', ha, hk⟩ := hb
     injection ha with ha
     subst ha
     refine ⟨?_, .inr ⟨_, rfl, hk⟩⟩
     rw [hheap, Array.size_modify, ← hk]
     exact hlt
end
end Go.Sl
end
/-
  Moved code of the reference, and code that is made of descriptions, as plain lists.
-/
section
namespace Go.Sl

/-! ### Rows of four bytes -/
def r4 (r : List UInt8) : List UInt8 := [r.getD 0 0, r.getD 1 0, r.getD 2 0, r.getD 3 0]
def u4 (r : List UInt8) : List Value := U8 (r4 r)
theorem u4_len (r : List UInt8) : (u4 r).length = 4 := rfl
theorem u4_get (r : List UInt8) {q : Nat} (h : q < 4) : (u4 r)[q]? = some (.int .u8 ((r.getD q 0).toNat : Int)) := by
 match q, h with
 | 0, _ => rfl
 | 1, _ => rfl
 | 2, _ => rfl
 | 3, _ => rfl
def frV (l : List (List UInt8)) : List Value := l.flatMap u4
theorem frV_len (l : List (List UInt8)) : (frV l).length = l.length * 4 := by
 induction l with
 | nil => rfl
 | cons x l ih =>
   unfold frV at ih ⊢
   rw [List.flatMap_cons, List.length_append, ih, u4_len, List.length_cons]
   omega
theorem frV_at (l : List (List UInt8)) (k : Nat) (hk : k < l.length) : ((frV l).drop (k * 4)).take 4 = u4 (l.getD k []) := by
 induction l generalizing k with
 | nil => cases hk
 | cons x l ih =>
   have e : frV (x :: l) = u4 x ++ frV l := rfl
   rw [e]
   cases k with
   | zero =>
     rw [Nat.zero_mul, List.drop_zero, List.take_append_of_le_length (by rw [u4_len]; decide), List.take_of_length_le (by rw [u4_len]; decide)]
     rfl
   | succ k =>
     have hd : (u4 x ++ frV l).drop ((k + 1) * 4) = (frV l).drop (k * 4) := by
       rw [show (k + 1) * 4 = (u4 x).length + k * 4 by rw [u4_len]; omega, ← List.drop_drop, List.drop_left]
     rw [hd, ih k (by simpa using hk)]
     rfl
theorem frV_get (l : List (List UInt8)) {k q : Nat} (hk : k < l.length) (hq : q < 4) : (frV l)[k * 4 + q]? = some (.int .u8 (((l.getD k []).getD q 0).toNat : Int)) := by
 have h : (frV l)[k * 4 + q]? = (u4 (l.getD k []))[q]? := by rw [← frV_at l k hk, List.getElem?_take, if_pos hq, List.getElem?_drop]
 rw [h, u4_get _ hq]

/-! ### Code of descriptions -/
end Go.Sl
end
