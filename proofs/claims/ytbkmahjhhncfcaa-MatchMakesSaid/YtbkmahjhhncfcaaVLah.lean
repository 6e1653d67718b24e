/-
  Moved code, as plain lists.
-/
import Derived.Test.YtbkmahjhhncfcaaVLaf
import Derived.Test.YtbkmahjhhncfcaaVSlO
import Derived.Test.YtbkmahjhhncfcaaVSlM
section
namespace Go.Sl

def movOk (b : List UInt8) (p q : Int) : Prop := codeB b ∧ 0 ≤ p ∧ p ≤ ((liftR b).ws.length : Int) ∧ 0 ≤ q ∧ q ≤ 16384 - ((liftR b).ws.length : Int)
instance (b : List UInt8) (p q : Int) : Decidable (movOk b p q) := by unfold movOk; infer_instance
theorem liftR_w32 (b : List UInt8) : W32 (liftR b).ws := by
 unfold liftR
 split
 · rename_i h
   exact liftF_w32 (by rw [wordsF_len]; have := h.2; omega) (wordsF_w32 b)
 · intro i; simp [Lf.zero]
end Go.Sl
end
/-
  The small separation logic: a constant row of bytes, turned to its own type.
-/
section
namespace Go.Sl

section
variable {X : Cx} {β : Base} {n : Nat} {ds : List Deferred} {ops : Array Oper} {Q : Exit → Act → World → Prop} {rest : List Oper} {Γ : Env} {R H : List Pr}

/-- []byte("..") of a constant: the row is marked behind its end, and only read from then on. -/
theorem L.konst {d s e m c ty j : Nat} {pos : String} {af : Array Edge} {x : Operand} {i ei : Ti} {A : Option Addr} {xs : List Value} (hs : tlook s X.tab = some i) (hdesc : i.desc = .slice e) (he : tlook e X.tab = some ei) (hed : ei.desc = .int .u8)
   (hx : ev Γ x = some (.slice A m c)) (hj : H[j]? = some (Own e 1 A m c xs)) (h0 : Nat.blt 0 xs.length = true) (js : List Nat) (hn : js.Nodup) (hjj : js.contains j = false) (hd : Nat.blt d n = true)
   (k : L X β n ds ops Q rest ((d, .slice A m c) :: Γ) (Rd A xs :: R) (sel H js)) : L X β n ds ops Q (⟨some d, .convert s s x, ty, pos, af, none⟩ :: rest) Γ R H := by
 have hlen : js.Nodup := hn
 have hnj : j ∉ js := by simpa using hjj
 intro a w hf hsat
 refine wpList_plain rfl fun K hK => ?_
 obtain ⟨e1, _⟩ := X.ok _ _ hs
 obtain ⟨e2, _⟩ := X.ok _ _ he
 rw [hdesc] at e1
 rw [hed] at e2
 obtain ⟨g, cur, rfl, hh, _, _, hsz, htk⟩ := Own.form (hsat.own j _ hj) (by simpa [Nat.blt_eq] using h0)
 have hsh : w.shape? g = some (e, cur.size) := by unfold World.shape?; rw [hh]
 have hlt : g < w.heap.size := (Array.getElem?_eq_some_iff.1 hh).1
 have hrun : (execOp a.eval ⟨some d, .convert s s x, ty, pos, af, none⟩).run X.P w = .ok (.value (.slice (some ⟨g, 0, none⟩) m c)) (w.freeze ⟨g, cur.size, none⟩ 1) := by
   simp [execOp, hf.eval hx, convert, run_underlying e1, run_underlying e2, markStringish, hsh]
 have hheap : (w.freeze ⟨g, cur.size, none⟩ 1).heap = w.heap.modify g fun
     | .cells c elem (lo, hi) => .cells c elem (if lo == hi then (cur.size, cur.size + 1) else (min lo cur.size, max hi (cur.size + 1)))
     | o => o := by
   unfold World.freeze
   rw [if_neg (by decide)]
   rfl
 have hat : (w.freeze ⟨g, cur.size, none⟩ 1).heap[g]? = some (.cells cur e (cur.size, cur.size + 1)) := by
   rw [hheap, Array.getElem?_modify, if_pos rfl, hh]
   rfl
 unfold Oper.wp
 rw [hrun]
 refine hK _ _ ((L.freezeAny (β := β) (R := R) (Q := Q) (rest := rest) (ops := ops) (Γ := (d, .slice (some ⟨g, 0, none⟩) m c) :: Γ) (H := H.set j (Rd (some ⟨g, 0, none⟩) xs)) j (c := Rd (some ⟨g, 0, none⟩) xs) ?_ js hn hjj ?_) _ _ (hf.put (by simpa [Nat.blt_eq] using hd) _) ?_)
 · exact List.getElem?_set_self (List.getElem?_eq_some_iff.1 hj).1
 · have hse : sel (H.set j (Rd (some ⟨g, 0, none⟩) xs)) js = sel H js := by
     clear hn hjj hlen k
     induction js with
     | nil => rfl
     | cons q qs ih =>
       have hq : q ≠ j := fun e => hnj (by subst e; simp)
       simp only [sel]
       rw [ih (fun h => hnj (List.mem_cons_of_mem _ h)), List.getElem?_set_ne (Ne.symm hq)]
   rw [hse]
   exact k
 · have hfz : (w.freeze ⟨g, cur.size, none⟩ 1).os = w.os ∧ (w.freeze ⟨g, cur.size, none⟩ 1).tape = w.tape ∧ (w.freeze ⟨g, cur.size, none⟩ 1).output = w.output := by
     unfold World.freeze
     rw [if_neg (by decide)]
     exact ⟨rfl, rfl, rfl⟩
   refine hsat.upd (w' := w.freeze ⟨g, cur.size, none⟩ 1) hj (m := (· = g)) ⟨hfz.1, hfz.2.1, hfz.2.2, ?_, fun b hb hne => ?_⟩ (fun b hb _ => ⟨_, rfl, hb.symm⟩) _ ?_ (fun b hb => ?_)
   · rw [hheap, Array.size_modify]
     exact Nat.le_refl _
   · rw [hheap, Array.getElem?_modify, if_neg (Ne.symm hne)]
   · intro q u hu
     have hql := (List.getElem?_eq_some_iff.1 hu).1
     refine ⟨_, rfl, ?_⟩
     rw [adz, cell_of_row _ g q cur e _ hat]
     rw [← htk, List.getElem?_take] at hu
     split at hu
     · simpa using hu
     · cases hu
   · obtain ⟨_, a', ha, hk⟩ := hb
     injection ha with ha
     subst ha
     refine ⟨?_, .inr ⟨_, rfl, hk⟩⟩
     rw [hheap, Array.size_modify, ← hk]
     exact hlt
end
end Go.Sl
end
