/-
  Instructions of moved code.
-/
import Derived.Test.YtkjhcjhfegakoaaVLar
namespace Go.Sl

theorem dec_other {w : Nat} {s t : Int} (h : ¬ (5 ≤ (decF w t).op ∧ (decF w t).op ≤ 8)) : decF w s = decF w t := by
 unfold decF at h ⊢
 split
 · rfl
 · rename_i c1
   rw [if_neg c1] at h
   split
   · rename_i c2
     rw [if_pos c2] at h
     exact absurd ⟨by dsimp only; omega, by dsimp only; omega⟩ h
   · rename_i c2
     rw [if_neg c2] at h
     split
     · rfl
     · rename_i c3
       rw [if_neg c3] at h
       split
       · rename_i c4
         rw [if_pos c4] at h
         split
         · rename_i c5
           rw [if_pos c5] at h
           exact absurd ⟨show (5 : Int) ≤ 7 by decide, show (7 : Int) ≤ 8 by decide⟩ h
         · rfl
       · rename_i c4
         rw [if_neg c4] at h
         split
         · rename_i c5
           rw [if_pos c5] at h
           split
           · rename_i c6
             rw [if_pos c6] at h
             exact absurd ⟨show (5 : Int) ≤ 8 by decide, show (8 : Int) ≤ 8 by decide⟩ h
           · rfl
         · rfl
theorem dec_shift {w : Nat} {s t : Int} (h5 : 5 ≤ (decF w t).op) : decF w s = ⟨(decF w t).op, (decF w t).a, (decF w t).b, (decF w t).c, (decF w t).n + (s - t)⟩ := by
 unfold decF at h5 ⊢
 split
 · rename_i c1
   rw [if_pos c1] at h5
   split
   · rename_i c2
     rw [if_pos c2] at h5
     dsimp only at h5
     omega
   · rename_i c2
     rw [if_neg c2] at h5
     exact absurd h5 (show ¬ (5 : Int) ≤ 0 by decide)
 · rename_i c1
   rw [if_neg c1] at h5
   split
   · refine Ins.ext' rfl rfl rfl rfl ?_
     dsimp only
     generalize sgn (w % 16777216) 8388608 = z
     omega
   · rename_i c2
     rw [if_neg c2] at h5
     split
     · rename_i c3
       rw [if_pos c3] at h5
       split
       · rename_i c4
         rw [if_pos c4] at h5
         exact absurd h5 (show ¬ (5 : Int) ≤ 2 by decide)
       · rename_i c4
         rw [if_neg c4] at h5
         exact absurd h5 (show ¬ (5 : Int) ≤ 0 by decide)
     · rename_i c3
       rw [if_neg c3] at h5
       split
       · rename_i c4
         rw [if_pos c4] at h5
         split
         · refine Ins.ext' rfl rfl rfl rfl ?_
           dsimp only
           generalize sgn (w % 65536) 32768 = z
           omega
         · rename_i c5
           rw [if_neg c5] at h5
           exact absurd h5 (show ¬ (5 : Int) ≤ 0 by decide)
       · rename_i c4
         rw [if_neg c4] at h5
         split
         · rename_i c5
           rw [if_pos c5] at h5
           split
           · refine Ins.ext' rfl rfl rfl rfl ?_
             dsimp only
             omega
           · rename_i c6
             rw [if_neg c6] at h5
             exact absurd h5 (show ¬ (5 : Int) ≤ 0 by decide)
         · rename_i c5
           rw [if_neg c5] at h5
           exact absurd h5 (show ¬ (5 : Int) ≤ 0 by decide)
def atF (u : UInt8) (n : Nat) : Nat := u.toNat % (n / 4 + 1)
def byF (v : UInt8) : Nat := v.toNat % 10
theorem atF_le (u : UInt8) (n : Nat) : atF u n ≤ n / 4 := Nat.le_of_lt_succ (Nat.mod_lt _ (Nat.succ_pos _))
theorem byF_lt (v : UInt8) : byF v < 10 := Nat.mod_lt _ (by decide)
/-- Where a word stands behind what was put in. -/
def newAt (p q i : Nat) : Nat := if p ≤ i then i + q else i
theorem move_get {α : Type} (l : List α) (d z : α) (p q i : Nat) (hp : p ≤ l.length) : (l.take p ++ List.replicate q z ++ l.drop p).getD (newAt p q i) d = l.getD i d := by
 unfold newAt
 have h1 : (l.take p).length = p := by rw [List.length_take]; omega
 split
 · rw [getD_app_right _ _ _ (show i + q = (l.take p ++ List.replicate q z).length + (i - p) by rw [List.length_append, h1, List.length_replicate]; omega), getD_drop]
   congr 1
   omega
 · rw [List.append_assoc, getD_app_left _ _ _ (by omega), List.getD_eq_getElem?_getD, List.getElem?_take, if_pos (by omega), ← List.getD_eq_getElem?_getD]
theorem move_new {α : Type} (l : List α) (d z : α) (p q k : Nat) (hp : p ≤ l.length) (h1 : p ≤ k) (h2 : k < p + q) : (l.take p ++ List.replicate q z ++ l.drop p).getD k d = z := by
 have h0 : (l.take p).length = p := by rw [List.length_take]; omega
 rw [List.append_assoc, getD_app_right _ _ _ (show k = (l.take p).length + (k - p) by omega), getD_app_left _ _ _ (by rw [List.length_replicate]; omega), List.getD_eq_getElem?_getD, List.getElem?_replicate, if_pos (by omega)]
 rfl
/-- What is moved: its words, its marks, its labels. -/
structure Movd (o n : List Nat) (p q : Nat) : Prop where
 e : liftF n = moveF (liftF o) p q
 l : n.length = o.length + q
 s : n.length ≤ 16384
 p : p ≤ o.length
theorem movd {b : List UInt8} (hc : codeB b) {p q : Nat} (hp : p ≤ b.length / 4) (h : movC b (p : Int) (q : Int) = 0) : Movd (wordsF b) (wordsF (movB b (p : Int) (q : Int))) p q ∧ W32 (wordsF (movB b (p : Int) (q : Int))) ∧ codeB (movB b (p : Int) (q : Int)) := by
 obtain ⟨h1, h2, _, m, h4, h5, h6, h7⟩ := mov_lift h
 have hw := wordsF_len b
 have hm := moveF_lens (liftR b) (at_ := p) (by_ := q) (by rw [(lift_len hc).1]; exact hp) (liftR_marks b)
 rw [liftR_code h2, liftR_code hc] at h1
 refine ⟨⟨h1, ?_, ?_, by omega⟩, wordsF_w32 _, h2⟩
 · rw [h4, wordsF_bytesF m h5, h6, hm.1, (lift_len hc).1, hw]
 · rw [h4, wordsF_bytesF m h5]; exact h7
section
variable {o n : List Nat} {p q : Nat} (H : Movd o n p q) {i : Nat} (hi : i < o.length)
include H hi
theorem Movd.in_ : newAt p q i < n.length := by
 have := H.l
 unfold newAt
 split <;> omega
theorem Movd.lnk_ : lnk n (newAt p q i) = lnk o i := by
 have h3 := liftF_lens o
 rw [← liftF_ms n (H.in_ hi), H.e, ← liftF_ms o hi]
 exact move_get _ _ _ _ _ _ (by rw [h3.2]; exact H.p)
theorem Movd.lift_ : liftW n (newAt p q i) = liftW o i := by
 have h3 := liftF_lens o
 rw [← liftF_ws n (H.in_ hi), H.e, ← liftF_ws o hi]
 exact move_get _ _ _ _ _ _ (by rw [h3.1]; exact H.p)
theorem Movd.linked (hk : lnk o i = true) : insAt n (newAt p q i) = ⟨(insAt o i).op, (insAt o i).a, (insAt o i).b, (insAt o i).c, mvN p q (insAt o i).n⟩ := by
 have hl := H.l
 have hs := H.s
 have hk2 : lnk n (newAt p q i) = true := by rw [H.lnk_ hi]; exact hk
 have a1 := liftW_link (by omega) hi hk
 have a2 := liftW_link hs (H.in_ hi) hk2
 rw [H.lift_ hi] at a2
 have s1 := lnk_spec hk
 have s2 := lnk_spec hk2
 have d1 := dec_link s1.1 s1.2.1
 have d2 := dec_link s2.1 s2.2.1
 have x1 := idx_lt (by omega) hi hk
 have x2 := idx_lt hs (H.in_ hi) hk2
 have e1 : insAt o i = insT (unnO (liftW o i)) (unnA (liftW o i)) (insAt o i).n := by rw [a1.1, a1.2.1]; exact d1.2.2.2
 have e2 : insAt n (newAt p q i) = insT (unnO (liftW o i)) (unnA (liftW o i)) (insAt n (newAt p q i)).n := by rw [a2.1, a2.2.1]; exact d2.2.2.2
 have hlb : labs n = (labs o).map (mvN p q) := congrArg Lf.ls H.e
 have e3 : (insAt n (newAt p q i)).n = mvN p q (insAt o i).n := by
   have g := x2.2.1
   rw [← a2.2.2, a1.2.2, hlb, List.getD_eq_getElem?_getD, List.getElem?_map, List.getElem?_eq_getElem x1.1] at g
   have g2 := x1.2.1
   rw [List.getD_eq_getElem?_getD, List.getElem?_eq_getElem x1.1] at g2
   simp only [Option.map_some, Option.getD_some] at g g2
   rw [← g, g2]
 rw [e2, e3]
 have e4 := e1
 generalize insAt o i = x at e4 ⊢
 refine Ins.ext' ?_ ?_ ?_ ?_ rfl
 · rw [congrArg Ins.op e4]; rfl
 · rw [congrArg Ins.a e4]; rfl
 · rw [congrArg Ins.b e4]; rfl
 · rw [congrArg Ins.c e4]; rfl
theorem Movd.same (hk : lnk o i = false) : n.getD (newAt p q i) 0 = o.getD i 0 := by
 have hk2 : lnk n (newAt p q i) = false := by rw [H.lnk_ hi]; exact hk
 rw [← liftW_plain hk2, H.lift_ hi, liftW_plain hk]
theorem Movd.keep1 (h5 : 5 ≤ (insAt o i).op) (h8 : (insAt o i).op ≤ 8) (h0 : 0 ≤ (insAt o i).n) (hn : (insAt o i).n < 4 * (o.length : Int)) : insAt n (newAt p q i) = ⟨(insAt o i).op, (insAt o i).a, (insAt o i).b, (insAt o i).c, mvN p q (insAt o i).n⟩ :=
 H.linked hi (decide_eq_true ⟨h5, h8, h0, hn⟩)
theorem Movd.keep2 (h5 : 5 ≤ (insAt o i).op) (h : ¬ (0 ≤ (insAt o i).n ∧ (insAt o i).n < 4 * (o.length : Int))) : insAt n (newAt p q i) = ⟨(insAt o i).op, (insAt o i).a, (insAt o i).b, (insAt o i).c, (insAt o i).n + 4 * ((newAt p q i : Int) - (i : Int))⟩ := by
 have e := H.same hi (decide_eq_false (fun g => h g.2.2))
 have e2 := dec_shift (s := 4 * (newAt p q i : Int)) h5
 unfold insAt at h5 ⊢
 rw [e, e2]
 refine Ins.ext' rfl rfl rfl rfl ?_
 dsimp only
 omega
theorem Movd.keep3 (h : ¬ (5 ≤ (insAt o i).op ∧ (insAt o i).op ≤ 8)) : insAt n (newAt p q i) = insAt o i := by
 have e := H.same hi (decide_eq_false (fun g => h ⟨g.1, g.2.1⟩))
 have e2 := dec_other (s := 4 * (newAt p q i : Int)) h
 unfold insAt
 rw [e]
 exact e2
end
theorem Movd.zero {o n : List Nat} {p q : Nat} (H : Movd o n p q) {k : Nat} (h1 : p ≤ k) (h2 : k < p + q) : n.getD k 0 = 0 := by
 have hk : k < n.length := by have := H.l; have := H.p; omega
 have h3 := liftF_lens o
 have e1 : lnk n k = false := by
   rw [← liftF_ms n hk, H.e]
   exact move_new _ _ _ _ _ _ (by rw [h3.2]; exact H.p) h1 h2
 rw [← liftW_plain e1, ← liftF_ws n hk, H.e]
 exact move_new _ _ _ _ _ _ (by rw [h3.1]; exact H.p) h1 h2
end Go.Sl
