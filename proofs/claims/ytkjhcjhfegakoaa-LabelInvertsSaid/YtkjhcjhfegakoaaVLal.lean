/-
  Lifted code is made the same code again.
-/
import Derived.Test.YtkjhcjhfegakoaaVLah
import Derived.Test.YtkjhcjhfegakoaaVWLaN
import Derived.Test.YtkjhcjhfegakoaaVLak
section
namespace Go.Sl

theorem dec_link {w : Nat} {t : Int} (h5 : 5 ≤ (decF w t).op) (h8 : (decF w t).op ≤ 8) : (decF w t).op = (unnO w : Int) ∧ 5 ≤ unnO w ∧ unnO w ≤ 8 ∧ decF w t = insT (unnO w) (unnA w) (decF w t).n := by
 have key : decF w t = insT (unnO w) (unnA w) (decF w t).n ∨ (decF w t).op < 5 := by
   unfold decF unnA unnO insT
   by_cases c1 : w / 16777216 = 1 ∨ w / 16777216 = 3 ∨ w / 16777216 = 4
   · refine .inr ?_
     rw [if_pos c1]
     split
     · dsimp only; omega
     · exact (by decide : (0 : Int) < 5)
   · rw [if_neg c1]
     by_cases c2 : w / 16777216 = 5 ∨ w / 16777216 = 6
     · refine .inl ?_
       rw [if_pos c2, if_neg (show ¬ 7 ≤ w / 16777216 by omega)]
       rfl
     · rw [if_neg c2]
       by_cases c3 : w / 16777216 = 2
       · refine .inr ?_
         rw [if_pos c3]
         split
         · exact (by decide : (2 : Int) < 5)
         · exact (by decide : (0 : Int) < 5)
       · rw [if_neg c3]
         by_cases c4 : w / 16777216 = 7
         · rw [if_pos c4]
           split
           · refine .inl ?_
             rw [c4]
             rfl
           · exact .inr (by decide : (0 : Int) < 5)
         · rw [if_neg c4]
           by_cases c5 : w / 16777216 = 8
           · rw [if_pos c5]
             split
             · refine .inl ?_
               rw [c5]
               rfl
             · exact .inr (by decide : (0 : Int) < 5)
           · rw [if_neg c5]
             exact .inr (by decide : (0 : Int) < 5)
 rcases key with e | e
 · have ho : (decF w t).op = (unnO w : Int) := by rw [e]; rfl
   exact ⟨ho, by omega, by omega, e⟩
 · omega
theorem fld_pow {o : Nat} (h5 : 5 ≤ o) (h8 : o ≤ 8) : (o < 7 ∧ 2 ^ fldF o = 16777216) ∨ (7 ≤ o ∧ 2 ^ fldF o = 65536) := by
 unfold fldF
 rcases (by omega : o < 7 ∨ 7 ≤ o) with h | h
 · rw [if_pos (by omega)]; exact .inl ⟨h, by decide⟩
 · rw [if_neg (by omega)]; exact .inr ⟨h, by decide⟩
/-- What is kept of a word in which a number is put. -/
theorem numW_keep {w n o : Nat} (h5 : 5 ≤ o) (h8 : o ≤ 8) (hn : n < 65536) (ho : unnO w = o) : unnO (numW w (o : Int) n) = o ∧ unnA (numW w (o : Int) n) = unnA w ∧ unnN (numW w (o : Int) n) = n := by
 unfold unnO at ho
 unfold numW
 rw [Int.toNat_natCast]
 have key : ∀ p, (o < 7 ∧ p = 16777216) ∨ (7 ≤ o ∧ p = 65536) → (w / p * p + n) / 16777216 = o ∧ (7 ≤ o → (w / p * p + n) / 65536 % 256 = w / 65536 % 256) ∧ (w / p * p + n) % p = n := by
   rintro p (⟨h, rfl⟩ | ⟨h, rfl⟩)
   · exact ⟨by omega, fun h7 => by omega, by omega⟩
   · exact ⟨by omega, fun h7 => by omega, by omega⟩
 obtain ⟨k1, k2, k3⟩ := key _ (fld_pow h5 h8)
 refine ⟨k1, ?_, ?_⟩
 · unfold unnA unnO
   rw [k1, ho]
   split
   · rename_i h7
     exact k2 h7
   · rfl
 · unfold unnN unnO
   rw [k1]
   exact k3
section
variable {l : List Nat} (hl : l.length ≤ 16384) {i : Nat} (hi : i < l.length)
include hl hi
theorem idx_lt (hk : lnk l i = true) : idxL (labs l) (insAt l i).n < (labs l).length ∧ (labs l).getD (idxL (labs l) (insAt l i).n) 0 = (insAt l i).n ∧ (labs l).length ≤ 16384 := by
 have hm := labs_mem hi hk
 have hs := labs_sorted l
 refine ⟨idxL_lt hs hm, ?_, by have := labs_len l; omega⟩
 rw [List.getD_eq_getElem?_getD, idxL_get hs hm]
 rfl
theorem liftW_link (hk : lnk l i = true) : unnO (liftW l i) = unnO (l.getD i 0) ∧ unnA (liftW l i) = unnA (l.getD i 0) ∧ unnN (liftW l i) = idxL (labs l) (insAt l i).n := by
 have hsp := lnk_spec hk
 obtain ⟨e1, e2, e3, _⟩ := dec_link hsp.1 hsp.2.1
 have hx := idx_lt hl hi hk
 have e : liftW l i = numW (l.getD i 0) ((unnO (l.getD i 0) : Nat) : Int) (idxL (labs l) (insAt l i).n) := by
   unfold liftW
   rw [if_pos hk]
   exact congrArg (fun o => numW (l.getD i 0) o (idxL (labs l) (insAt l i).n)) e1
 rw [e]
 exact numW_keep e2 e3 (by omega) rfl
end
theorem liftF_ms (l : List Nat) {i : Nat} (h : i < l.length) : (liftF l).ms.getD i false = lnk l i := by
 show ((List.range l.length).map (lnk l)).getD i false = _
 rw [List.getD_eq_getElem?_getD, List.getElem?_map, List.getElem?_range h]
 rfl
theorem liftF_ws (l : List Nat) {i : Nat} (h : i < l.length) : (liftF l).ws.getD i 0 = liftW l i := by
 show ((List.range l.length).map (liftW l)).getD i 0 = _
 rw [List.getD_eq_getElem?_getD, List.getElem?_map, List.getElem?_range h]
 rfl
theorem lowE_lift {l : List Nat} (hl : l.length ≤ 16384) (hw : W32 l) {i : Nat} (hi : i < l.length) : lowE (liftF l) i = some (l.getD i 0) := by
 by_cases hk : lnk l i = true
 · rw [lowE_mark (by rw [liftF_ms l hi]; exact hk), liftF_ws l hi]
   have hsp := lnk_spec hk
   obtain ⟨e1, e2, e3, e4⟩ := dec_link hsp.1 hsp.2.1
   obtain ⟨f1, f2, f3⟩ := liftW_link hl hi hk
   have hx := idx_lt hl hi hk
   show lowM _ (labs l) i = _
   rw [lowM_good (by rw [f1]; exact e2) (by rw [f1]; exact e3) (by rw [f3]; exact hx.1), f1, f2, f3, hx.2.1]
   have e5 : insT (unnO (l.getD i 0)) (unnA (l.getD i 0)) (insAt l i).n = decF (l.getD i 0) (4 * (i : Int)) := e4.symm
   rw [e5]
   exact encF_dec (hw i) _
 · have hk' : lnk l i = false := by simpa using hk
   rw [lowE_plain (by rw [liftF_ms l hi]; exact hk'), liftF_ws l hi]
   unfold liftW
   rw [if_neg hk]
theorem lowN_lift {l : List Nat} (hl : l.length ≤ 16384) (hw : W32 l) {k : Nat} (hk : k ≤ l.length) : lowN (liftF l) k = some (l.take k) := by
 induction k with
 | zero => rfl
 | succ k ih =>
   rw [lowN_some (ih (by omega)) (lowE_lift hl hw (by omega)), take_snoc' l 0 k (by omega)]
theorem liftR_code {b : List UInt8} (h : codeB b) : liftR b = liftF (wordsF b) := if_pos h
theorem liftE_code {b : List UInt8} (h : codeB b) : liftE b = 0 := if_pos h
theorem liftR_bytes {l : List Nat} (hl : l.length ≤ 16384) (hw : W32 l) : liftR (bytesF l) = liftF l := by rw [liftR_code (code_bytes hl), wordsF_bytesF l hw]
theorem low_liftF {l : List Nat} (hl : l.length ≤ 16384) (hw : W32 l) : lowF (liftF l) = some (bytesF l) := by
 have h3 := liftF_lens l
 rw [lowF_all (l := l) (by omega) (by omega) (by rw [h3.1, lowN_lift hl hw (Nat.le_refl _), List.take_length]), if_pos (liftR_bytes hl hw)]
theorem low_lift {b : List UInt8} (h : codeB b) : lowF (liftR b) = some b := by
 rw [liftR_code h, low_liftF (by rw [wordsF_len]; have := h.2; omega) (wordsF_w32 b), bytesF_wordsF b h.1]
theorem low_lift_yes {b : List UInt8} (h : codeB b) : lowB (liftR b) = b ∧ lowC (liftR b) = 0 := low_yes (low_lift h)
/-- What is made code is the lifted form of it. -/
theorem lift_low {x : Lf} (h : lowC x = 0) : ∃ l, lowF x = some (bytesF l) ∧ lowB x = bytesF l ∧ l.length = x.ws.length ∧ x.ws.length ≤ 16384 ∧ liftR (bytesF l) = x ∧ (W32 x.ws → W32 l) := by
 unfold lowC at h
 cases hx : lowF x with
 | none => rw [hx] at h; cases h
 | some b =>
   have hx2 := hx
   unfold lowF at hx2
   split at hx2
   · cases hx2
   · rename_i hc
     cases hN : lowN x x.ws.length with
     | none => rw [hN] at hx2; cases hx2
     | some l =>
       rw [hN] at hx2
       simp only at hx2
       split at hx2
       · rename_i he
         injection hx2 with hx2
         subst hx2
         exact ⟨l, rfl, (low_yes hx).1, lowN_len hN, by omega, he, fun hw => lowN_w32 hw hN⟩
       · cases hx2
end Go.Sl
end
/-
  Forms are read as what they are the forms of.
-/
section
namespace Go.Sl

theorem two_num (n : Nat) (h : n < 65536) : (UInt8.ofNat (n / 256 % 256)).toNat * 256 + (UInt8.ofNat (n % 256)).toNat = n := by
 rw [UInt8.toNat_ofNat', UInt8.toNat_ofNat']
 omega
theorem numB_at {b c d : List UInt8} {n : Nat} (hb : b = c ++ twoB n ++ d) (h : n < 65536) : numB b c.length = n := by
 subst hb
 unfold numB
 rw [List.append_assoc, getD_app_right c _ _ (show c.length = c.length + 0 from rfl), getD_app_right c _ _ rfl]
 exact two_num n h
theorem labsB_cut (ls : List Int) {i k : Nat} (h : i < k) : ∃ d, labsB ls k = labsB ls i ++ twoB (difL ls i) ++ d := by
 induction k with
 | zero => exact absurd h (Nat.not_lt_zero _)
 | succ k ih =>
   rw [labsB_succ]
   by_cases e : i = k
   · subst e
     exact ⟨[], by rw [List.append_nil]⟩
   · obtain ⟨d, hd⟩ := ih (by omega)
     exact ⟨d ++ twoB (difL ls k), by rw [hd, List.append_assoc]⟩
/-- Labels of code: in ascending order, each a multiple of four, inside. -/
def labOk (ls : List Int) : Prop := ls.length ≤ 16384 ∧ ascL ls ∧ ∀ i, i < ls.length → ls.getD i 0 % 4 = 0 ∧ ls.getD i 0 < 65536
theorem labOk_prev {ls : List Int} (h : labOk ls) {i : Nat} (hi : i < ls.length) : prevL ls i % 4 = 0 ∧ 0 ≤ prevL ls i := by
 have h1 := h.2.1 i hi
 unfold prevL at h1 ⊢
 split
 · exact ⟨rfl, Int.le_refl _⟩
 · rename_i h0
   rw [if_neg h0] at h1
   have h2 := h.2.2 (i - 1) (by omega)
   exact ⟨h2.1, h1.1⟩
theorem labOk_dif {ls : List Int} (h : labOk ls) {i : Nat} (hi : i < ls.length) : prevL ls i + 4 * (difL ls i : Int) = ls.getD i 0 ∧ difL ls i < 65536 := by
 have h1 := h.2.1 i hi
 have h2 := h.2.2 i hi
 have h3 := labOk_prev h hi
 unfold difL
 omega
theorem bits_at (ms : List Bool) (j : Nat) {k m : Nat} (h : k < m) : bitsN ms j m / 2 ^ k % 2 = if ms.getD (8 * j + k) false = true then 1 else 0 := by
 induction m with
 | zero => exact absurd h (Nat.not_lt_zero _)
 | succ m ih =>
   simp only [bitsN]
   by_cases e : k = m
   · subst e
     have h1 := bitsN_lt ms j k
     have hp : 0 < 2 ^ k := Nat.pow_pos (by decide)
     split
     · rw [Nat.add_div_right _ hp, Nat.div_eq_of_lt h1]
     · rw [Nat.add_zero, Nat.div_eq_of_lt h1]
   · have hp : 0 < 2 ^ k := Nat.pow_pos (by decide)
     have e2 : 2 ^ m = 2 ^ k * (2 * 2 ^ (m - k - 1)) := by
       rw [← Nat.mul_assoc, Nat.mul_comm (2 ^ k) 2, ← Nat.pow_succ', ← Nat.pow_add]
       congr 1
       omega
     split
     · rw [e2, Nat.add_mul_div_left _ _ hp, Nat.add_mul_mod_self_left]
       exact ih (by omega)
     · rw [Nat.add_zero]
       exact ih (by omega)
section
variable {x : Lf}
theorem form_rN (hw : x.ws.length ≤ 16384) : rN (formF x) = x.ws.length := by
 have := numB_at (c := []) (d := twoB x.ls.length ++ (labsB x.ls x.ls.length ++ (marksB x.ms ++ bytesF x.ws))) (b := formF x) (n := x.ws.length) (by unfold formF formH; simp only [List.append_assoc, List.nil_append]) (by omega)
 exact this
theorem form_rK (hl : labOk x.ls) : rK (formF x) = x.ls.length := by
 have h1 := hl.1
 have := numB_at (c := twoB x.ws.length) (d := labsB x.ls x.ls.length ++ (marksB x.ms ++ bytesF x.ws)) (b := formF x) (n := x.ls.length) (by unfold formF formH; simp only [List.append_assoc]) (by omega)
 exact this
theorem form_rM (hl : labOk x.ls) : rM (formF x) = 4 + 2 * x.ls.length := by
 unfold rM
 rw [form_rK hl]
theorem form_rW (hm : x.ms.length = x.ws.length) (hw : x.ws.length ≤ 16384) (hl : labOk x.ls) : rW (formF x) = 4 + 2 * x.ls.length + (x.ms.length + 7) / 8 := by
 unfold rW
 rw [form_rM hl, form_rN hw, hm]
theorem form_dif (hl : labOk x.ls) {i : Nat} (hi : i < x.ls.length) : numB (formF x) (4 + 2 * i) = difL x.ls i := by
 obtain ⟨d, hd⟩ := labsB_cut x.ls hi
 have h2 := (labOk_dif hl hi).2
 have := numB_at (c := formH x ++ labsB x.ls i) (d := d ++ (marksB x.ms ++ bytesF x.ws)) (b := formF x) (n := difL x.ls i) (by unfold formF; rw [hd]; simp only [List.append_assoc]) h2
 rwa [List.length_append, formH_len, labsB_len] at this
theorem form_rlast (hl : labOk x.ls) {i : Nat} (hi : i ≤ x.ls.length) : (rlast (formF x) i : Int) = if i = 0 then 0 else x.ls.getD (i - 1) 0 := by
 induction i with
 | zero => rfl
 | succ i ih =>
   have h1 := rlast_succ (formF x) i
   have h2 := ih (by omega)
   have h3 := (labOk_dif hl (i := i) (by omega)).1
   rw [form_dif hl (by omega)] at h1
   rw [if_neg (Nat.succ_ne_zero _), Nat.add_sub_cancel, ← h3, ← h1]
   unfold prevL
   rw [← h2]
   omega
theorem form_labels (hl : labOk x.ls) : rlabs (formF x) (rK (formF x)) = x.ls := by
 rw [form_rK hl]
 refine List.ext_getElem (rlabs_len _ _) fun i h1 h2 => ?_
 have h3 := form_rlast hl (i := i + 1) (by omega)
 rw [if_neg (Nat.succ_ne_zero _), Nat.add_sub_cancel] at h3
 have h4 := rlabs_get (formF x) (k := x.ls.length) (i := i) h2
 rw [List.getD_eq_getElem?_getD, List.getElem?_eq_getElem h1] at h4
 rw [List.getD_eq_getElem?_getD, List.getElem?_eq_getElem h2] at h3
 exact h4.trans h3
theorem form_mark (hl : labOk x.ls) {i : Nat} (hi : i < x.ms.length) : rmark (formF x) (rM (formF x)) i = x.ms.getD i false := by
 unfold rmark
 rw [form_rM hl]
 have e : (formF x).getD (4 + 2 * x.ls.length + i / 8) 0 = markB x.ms (i / 8) := by
   unfold formF
   rw [List.append_assoc, getD_app_right _ _ _ (show 4 + 2 * x.ls.length + i / 8 = (formH x ++ labsB x.ls x.ls.length).length + i / 8 by rw [List.length_append, formH_len, labsB_len]), getD_app_left _ _ _ (by unfold marksB; rw [marksN_len]; omega)]
   unfold marksB marksN
   rw [List.getD_eq_getElem?_getD, List.getElem?_map, List.getElem?_range (by omega)]
   rfl
 have hb := bits_at x.ms (i / 8) (k := i % 8) (m := 8) (Nat.mod_lt _ (by decide))
 rw [Nat.div_add_mod] at hb
 rw [e, markB_nat, hb]
 cases x.ms.getD i false
 · rfl
 · rfl
theorem form_marks (hm : x.ms.length = x.ws.length) (hw : x.ws.length ≤ 16384) (hl : labOk x.ls) : rmarks (formF x) (rM (formF x)) (rN (formF x)) = x.ms := by
 rw [form_rN hw, ← hm]
 have e : ∀ i, i < x.ms.length → (rmarks (formF x) (rM (formF x)) x.ms.length)[i]? = x.ms[i]? := by
   intro i hi
   unfold rmarks
   rw [List.getElem?_map, List.getElem?_range hi, Option.map_some, form_mark hl hi, List.getD_eq_getElem?_getD, List.getElem?_eq_getElem hi]
   rfl
 refine List.ext_getElem? fun i => ?_
 by_cases hi : i < x.ms.length
 · exact e i hi
 · rw [List.getElem?_eq_none (by rw [rmarks_len]; omega), List.getElem?_eq_none (by omega)]
variable (hm : x.ms.length = x.ws.length) (hw : x.ws.length ≤ 16384) (h32 : W32 x.ws) (hl : labOk x.ls)
include hm hw h32 hl
theorem form_words : wordsR ((formF x).drop (rW (formF x))) = x.ws := by
 have e : (formF x).drop (rW (formF x)) = bytesF x.ws := by
   have e1 : rW (formF x) = (formH x ++ labsB x.ls x.ls.length ++ marksB x.ms).length := by
     rw [form_rW hm hw hl, List.length_append, List.length_append, formH_len, labsB_len]
     unfold marksB
     rw [marksN_len]
   rw [e1]
   exact List.drop_left
 rw [e]
 unfold wordsR
 rw [if_pos (by rw [bytesF_len]; omega), wordsF_bytesF x.ws h32]
theorem readX_form : readX (formF x) = x := by
 unfold readX
 rw [form_words hm hw h32 hl, form_marks hm hw hl, form_labels hl]
theorem read_form (hc : lowC x = 0) : readR (formF x) = x ∧ readE (formF x) = 0 := by
 have hok : readOk (formF x) := by
   have e := readX_form hm hw h32 hl
   refine ⟨by rw [formF_len]; omega, ?_, by rw [e]; exact hc, by rw [e]⟩
   rw [formF_len, form_rW hm hw hl, form_rN hw]
 refine ⟨?_, ?_⟩
 · unfold readR
   rw [if_pos hok, readX_form hm hw h32 hl]
 · unfold readE
   rw [if_pos hok]
end
/-! ### Labels of code are such ones -/
theorem dec_four {w : Nat} {i : Nat} (h5 : 5 ≤ (decF w (4 * (i : Int))).op) (h8 : (decF w (4 * (i : Int))).op ≤ 8) : (decF w (4 * (i : Int))).n % 4 = 0 := by
 obtain ⟨_, e2, e3, e4⟩ := dec_link h5 h8
 obtain ⟨_, e⟩ := dec_target e2 e3 e4
 generalize (decF w (4 * (i : Int))).n = n at e
 rcases e with ⟨_, _, h⟩ | ⟨_, _, _, h⟩ | ⟨_, _, _, h⟩
 · generalize sgn (w % 16777216) 8388608 = s at h
   omega
 · generalize sgn (w % 65536) 32768 = s at h
   omega
 · omega
theorem labs_ok {l : List Nat} (hl : l.length ≤ 16384) : labOk (labs l) := by
 refine ⟨by have := labs_len l; omega, liftF_asc (l := l) (by omega), fun i hi => ?_⟩
 have hm : (labs l).getD i 0 ∈ labs l := by
   rw [List.getD_eq_getElem?_getD, List.getElem?_eq_getElem hi]
   exact List.getElem_mem hi
 have hr := labs_range hm
 refine ⟨?_, by omega⟩
 obtain ⟨j, hj, e⟩ := List.mem_map.1 ((labsOf_mem _ _).1 hm)
 have hsp := lnk_spec (List.mem_filter.1 hj).2
 rw [← e]
 exact dec_four hsp.1 hsp.2.1
theorem read_form_lift {b : List UInt8} (h : codeB b) : readR (formF (liftR b)) = liftR b ∧ readE (formF (liftR b)) = 0 := by
 have hn : (wordsF b).length ≤ 16384 := by rw [wordsF_len]; have := h.2; omega
 have h3 := liftF_lens (wordsF b)
 refine read_form (liftR_marks b) ?_ (liftR_w32 b) ?_ (low_lift_yes h).2
 · rw [liftR_code h]; omega
 · rw [liftR_code h]; exact labs_ok hn
end Go.Sl
end
/-
  Code of the laws: how long it is; what moved code is.
-/
section
namespace Go.Sl

theorem codB_len (l : List (List UInt8)) (n : Nat) : (codB l n).length ≤ 4 * n := by
 unfold codB
 rw [bytesF_len]
 have := codL_len l n
 omega
theorem codB_four (l : List (List UInt8)) (n : Nat) : (codB l n).length % 4 = 0 := by
 unfold codB
 rw [bytesF_len]
 omega
theorem codB_code (l : List (List UInt8)) {n : Nat} (h : n ≤ 16384) : codeB (codB l n) := code_bytes (Nat.le_trans (codL_len l n) h)
theorem lift_len {b : List UInt8} (h : codeB b) : (liftR b).ws.length = b.length / 4 ∧ (liftR b).ms.length = b.length / 4 ∧ (liftR b).ls.length ≤ b.length / 4 := by
 have h1 := liftF_lens (wordsF b)
 have h2 := labs_len (wordsF b)
 rw [liftR_code h]
 rw [wordsF_len] at h1 h2
 exact ⟨h1.1, h1.2, h2⟩
/-! ### Moved code -/
theorem mov_lift {b : List UInt8} {p q : Nat} (h : movC b (p : Int) (q : Int) = 0) : liftR (movB b (p : Int) (q : Int)) = moveF (liftR b) p q ∧ codeB (movB b (p : Int) (q : Int)) ∧ movOk b (p : Int) (q : Int) ∧
   ∃ m, movB b (p : Int) (q : Int) = bytesF m ∧ W32 m ∧ m.length = (moveF (liftR b) p q).ws.length ∧ m.length ≤ 16384 := by
 have hok : movOk b (p : Int) (q : Int) := by
   unfold movC at h
   split at h
   · assumption
   · cases h
 have hc : lowC (moveF (liftR b) p q) = 0 := by
   unfold movC at h
   rw [if_pos hok] at h
   simpa using h
 have hb : movB b (p : Int) (q : Int) = lowB (moveF (liftR b) p q) := by
   unfold movB
   rw [if_pos hok]
   simp
 obtain ⟨l, h1, h2, h3, h4, h5, h6⟩ := lift_low hc
 rw [hb, h2]
 exact ⟨h5, code_bytes (by omega), hok, l, rfl, h6 (moveF_w32 (liftR_w32 b) p q), h3, by omega⟩
theorem mov_none {b : List UInt8} (h : codeB b) {p : Nat} (hp : p ≤ b.length / 4) : movB b (p : Int) 0 = b ∧ movC b (p : Int) 0 = 0 := by
 have hl := lift_len h
 have hok : movOk b (p : Int) 0 := by
   have := h.2
   exact ⟨h, by omega, by omega, by omega, by omega⟩
 have e : moveF (liftR b) p 0 = liftR b := by
   refine Lf.ext' ?_ ?_ ?_
   · show (liftR b).ws.take p ++ [] ++ (liftR b).ws.drop p = _
     rw [List.append_nil, List.take_append_drop]
   · show (liftR b).ms.take p ++ [] ++ (liftR b).ms.drop p = _
     rw [List.append_nil, List.take_append_drop]
   · show (liftR b).ls.map (mvN p 0) = _
     have : mvN p 0 = id := by
       funext x
       unfold mvN
       split <;> simp
     rw [this, List.map_id]
 unfold movB movC
 rw [if_pos hok, if_pos hok]
 have e2 : moveF (liftR b) ((p : Int)).toNat ((0 : Int)).toNat = liftR b := e
 rw [e2]
 exact low_lift_yes h
theorem movC_cases (b : List UInt8) (p q : Int) : movC b p q = 0 ∨ movC b p q = 30 ∧ movB b p q = [] := by
 unfold movC movB
 split
 · unfold lowC lowB
   cases lowF (moveF (liftR b) p.toNat q.toNat) with
   | none => exact .inr ⟨rfl, rfl⟩
   | some l => exact .inl rfl
 · exact .inr ⟨rfl, rfl⟩
end Go.Sl
end
/-
  The law LabelInverts.
-/
section
namespace Go.Proofs.Ytkjhcjhfegakoaa
open Go.Sl

theorem L.capL {X : Cx} {β : Base} {n : Nat} {ds : List Deferred} {ops : Array Oper} {Q : Exit → Act → World → Prop} {rest : List Oper} {Γ : Env} {R H : List Pr} (j : Nat) {e sz m c : Nat} {A : Option Addr} {xs : List Value} (hj : H[j]? = some (Own e sz A m c xs)) (h : m ≤ c → L X β n ds ops Q rest Γ R H) : L X β n ds ops Q rest Γ R H :=
 fun a w hf hs => h (Own.cap (hs.own j _ hj)).1 a w hf hs
set_option maxHeartbeats 4000000 in
theorem inverts_c (WA : Option Addr) (ws : List Nat) (wc : Nat) (hwl : ws.length ≤ 9223372036854775807) (hwc : ws.length ≤ wc) (h32 : W32 ws) :
   Ctr X 4 [.slice WA ws.length wc] [Rd WA (N32 ws)] [] (fun v R' H' => v = .bool true ∧ R' = [] ∧ H' = []) := by
 refine Ctr.of (X := X) (fn := Try.f4) Try.func4 rfl (by kernel_rfl) rfl ?_
 intro β
 have htl : (ws.take (min ws.length 16)).length = (min ws.length 16) := by rw [List.length_take]; omega
 have hbt := bytesF_len (ws.take (min ws.length 16))
 have hco : codeB (bytesF (ws.take (min ws.length 16))) := code_bytes (by omega)
 have hxl := lift_len hco
 have hx32 := liftR_w32 (bytesF (ws.take (min ws.length 16)))
 have hlow := low_lift_yes hco
 have hrf := read_form_lift hco
 refine C.seq (C.region ?_); refine Lpu rfl rfl ?_; refine L.nil (QE.seq (C.seq (C.region ?_))); refine L.call (js := []) (js' := []) (sanity03_c) rfl rfl rfl (by decide) trivial rfl ?_
 rintro _ _ _ ⟨rfl, rfl, rfl⟩
 refine Lpu rfl rfl ?_; refine L.nil (QE.seq (C.seq (C.region ?_))); refine Lpu rfl rfl ?_; refine Lpu rfl rfl ?_; refine Lpu rfl rfl ?_; refine L.step (Ev.cast (u := .int .i64 (((min ws.length 16) : Nat) : Int)) (Ev.pure rfl) (congrArg (Value.int .i64) (by show (if _ < _ then _ else _) = _; split <;> omega))) rfl ?_; refine L.step (Ev.cast (u := .slice WA (ws.take (min ws.length 16)).length wc) (Ev.sliceH (h := (min ws.length 16)) rfl rfl rfl rfl rfl rfl (by omega)) (by rw [htl])) rfl ?_; refine L.more (r := Rd WA (N32 (ws.take (min ws.length 16)))) ((Has.takeL (Has.r 0 rfl) (min ws.length 16)).cast (N32_take ws (min ws.length 16))) ?_; refine L.call (js := []) (js' := []) (bytes2_c WA (ws.take (min ws.length 16)) wc (by omega) (h32.take _)) rfl rfl rfl (by decide) (Hq [0] rfl) rfl ?_
 rintro _ _ _ ⟨B, bc, rfl, rfl, rfl⟩
 refine L.norm (H' := [_]) [0] ⟨rfl, trivial⟩ (by decide) ?_; refine Lpu rfl rfl ?_; refine L.nil (QE.seq (C.seq ?_))
 refine C.cap 0 rfl (fun hbc => ?_)
 refine C.freeze 0 rfl [] (by decide) (by decide) ?_; refine C.region ?_; refine Lpu rfl rfl ?_; refine L.call (js := []) (js' := []) (lift_k B (bytesF (ws.take (min ws.length 16))) bc hbc (by omega) (liftR (bytesF (ws.take (min ws.length 16)))) 0 rfl (liftE_code hco)) rfl rfl rfl (by decide) (Hq [0] rfl) rfl ?_
 rintro _ _ _ ⟨W20, M20, L20, l20, rfl, rfl, rfl⟩
 refine L.norm (H' := [_, _, _]) [0, 1, 2] ⟨rfl, rfl, rfl, trivial⟩ (by decide) ?_; refine Lpu rfl rfl ?_; refine Lpu rfl rfl ?_; refine Lpu rfl rfl ?_
 refine L.alloc rfl rfl rfl (fun A5 => ?_)
 refine L.storeA (j := 3) rfl rfl rfl rfl rfl (Nat.zero_lt_succ _) rfl rfl ?_; refine Lpu rfl rfl ?_; refine L.nil (QE.seq (C.seq ?_)); refine C.freeze 0 rfl [1, 2, 3] (by decide) (by decide) ?_; refine C.norm (H' := [_, _, _]) [0, 1, 2] ⟨rfl, rfl, rfl, trivial⟩ (by decide) ?_; refine C.freeze 0 rfl [1, 2] (by decide) (by decide) ?_; refine C.norm (H' := [_, _]) [0, 1] ⟨rfl, rfl, trivial⟩ (by decide) ?_; refine C.freeze 0 rfl [1] (by decide) (by decide) ?_; refine C.norm (H' := [_]) [0] ⟨rfl, trivial⟩ (by decide) ?_; refine C.freeze 0 rfl [] (by decide) (by decide) ?_; refine C.region ?_; refine L.step (Ev.loadA (vs := [.slice W20 (liftR (bytesF (ws.take (min ws.length 16)))).ws.length (liftR (bytesF (ws.take (min ws.length 16)))).ws.length, .slice M20 (liftR (bytesF (ws.take (min ws.length 16)))).ms.length (liftR (bytesF (ws.take (min ws.length 16)))).ms.length, .slice L20 (liftR (bytesF (ws.take (min ws.length 16)))).ls.length l20]) rfl rfl rfl (Src.r 0 rfl) rfl rfl (by decide)) rfl ?_; refine L.call (js := []) (js' := []) (lower_k W20 M20 L20 (liftR (bytesF (ws.take (min ws.length 16)))).ws.length (liftR (bytesF (ws.take (min ws.length 16)))).ms.length l20 (liftR (bytesF (ws.take (min ws.length 16)))) (by omega) (by omega) (by omega) hx32 (bytesF (ws.take (min ws.length 16))) 0 hlow.1 hlow.2) rfl rfl rfl (by decide) (Hq [3, 2, 1] rfl) rfl ?_
 rintro _ _ _ ⟨C2, c2, rfl, rfl, rfl⟩
 refine L.norm (H' := [_]) [0] ⟨rfl, trivial⟩ (by decide) ?_; refine Lpu rfl rfl ?_; refine Lpu rfl rfl ?_; refine Lpu rfl rfl ?_; refine Lpu rfl rfl ?_; refine Lpu rfl rfl ?_; refine L.nil (QE.seq (C.seq (C.seq ?_))); refine C.freeze 0 rfl [] (by decide) (by decide) ?_; refine C.region ?_; refine Lpu rfl rfl ?_; refine Lpu rfl rfl ?_; refine Lpu rfl rfl ?_
 refine L.bool 30 rfl (fun hg30 => ?_) (fun hg30 => ?_)
 ·
  replace hg30 := b_ne hg30
  first | exact absurd rfl hg30 | omega | exact absurd rfl hc30
 ·
  replace hg30 := b_eq hg30
  refine L.yes rfl ?_; refine Lpu rfl rfl ?_; refine L.yes rfl ?_; refine Lpu rfl rfl ?_; refine Lpu rfl rfl ?_; refine Lpu rfl rfl ?_
  refine L.bool 34 rfl (fun hg34 => ?_) (fun hg34 => ?_)
  ·
   replace hg34 := b_ne hg34
   first | exact absurd rfl hg34 | omega | exact absurd rfl hc34
  ·
   replace hg34 := b_eq hg34
   refine L.yes rfl ?_; refine Lpu rfl rfl ?_; refine L.yes rfl ?_; refine Lpu rfl rfl ?_; refine L.yes rfl ?_; refine L.call (js := []) (js' := []) (Ctr.tbL true (same_c C2 B c2 bc (bytesF (ws.take (min ws.length 16))) (bytesF (ws.take (min ws.length 16))) (by omega) (by omega)) (beq_self_eq_true _)) rfl rfl rfl (by decide) (Hq [0, 5] rfl) rfl ?_
   rintro _ _ _ ⟨rfl, rfl, rfl⟩
   refine L.yes rfl ?_; refine Lpu rfl rfl ?_; refine Lpu rfl rfl ?_; refine Lpu rfl rfl ?_; refine L.yes rfl ?_; refine L.step (Ev.fieldAddr rfl rfl rfl rfl rfl rfl (Src.r 1 rfl) (Nat.zero_lt_succ _) rfl) rfl ?_; refine L.yes rfl ?_; refine L.step (Ev.load rfl rfl rfl (Src.r 1 rfl) rfl) rfl ?_; refine L.yes rfl ?_; refine Lpu rfl rfl ?_; refine L.yes rfl ?_; refine Lpu rfl rfl ?_; refine Lpu rfl rfl ?_; refine Lpu rfl rfl ?_
   refine L.bool 46 rfl (fun hg46 => ?_) (fun hg46 => ?_)
   ·
    replace hg46 := of_decide_eq_true hg46
    first | exact absurd rfl hg46 | omega | exact absurd rfl hc46
   ·
    replace hg46 := of_decide_eq_false hg46
    refine L.yes rfl ?_; refine L.step (Ev.fieldAddr rfl rfl rfl rfl rfl rfl (Src.r 1 rfl) (Nat.zero_lt_succ _) rfl) rfl ?_; refine L.yes rfl ?_; refine L.step (Ev.load rfl rfl rfl (Src.r 1 rfl) rfl) rfl ?_; refine L.yes rfl ?_; refine Lpu rfl rfl ?_; refine L.yes rfl ?_; refine Lpu rfl rfl ?_; refine Lpu rfl rfl ?_; refine Lpu rfl rfl ?_
    refine L.bool 52 rfl (fun hg52 => ?_) (fun hg52 => ?_)
    ·
     replace hg52 := of_decide_eq_true hg52
     first | exact absurd rfl hg52 | omega | exact absurd rfl hc52
    ·
     replace hg52 := of_decide_eq_false hg52
     refine L.yes rfl ?_; refine L.step (Ev.fieldAddr rfl rfl rfl rfl rfl rfl (Src.r 1 rfl) (Nat.zero_lt_succ _) rfl) rfl ?_; refine L.yes rfl ?_; refine L.step (Ev.load rfl rfl rfl (Src.r 1 rfl) rfl) rfl ?_; refine L.yes rfl ?_; refine Lpu rfl rfl ?_; refine L.yes rfl ?_; refine L.step (Ev.fieldAddr rfl rfl rfl rfl rfl rfl (Src.r 1 rfl) (Nat.zero_lt_succ _) rfl) rfl ?_; refine L.yes rfl ?_; refine L.step (Ev.load rfl rfl rfl (Src.r 1 rfl) rfl) rfl ?_; refine L.yes rfl ?_; refine Lpu rfl rfl ?_; refine L.yes rfl ?_; refine Lpu rfl rfl ?_; refine Lpu rfl rfl ?_; refine L.nil (QE.seq ?_)
     refine C.condB 60 rfl (fun hc60 => ?_) (fun hc60 => ?_)
     ·
      replace hc60 := b_ne hc60
      first | exact absurd rfl hg60 | omega | exact absurd rfl hc60
     ·
      replace hc60 := b_eq hc60
      refine C.skip (QE.seq (C.seq (C.region ?_))); refine L.step (Ev.loadA (vs := [.slice W20 (liftR (bytesF (ws.take (min ws.length 16)))).ws.length (liftR (bytesF (ws.take (min ws.length 16)))).ws.length, .slice M20 (liftR (bytesF (ws.take (min ws.length 16)))).ms.length (liftR (bytesF (ws.take (min ws.length 16)))).ms.length, .slice L20 (liftR (bytesF (ws.take (min ws.length 16)))).ls.length l20]) rfl rfl rfl (Src.r 1 rfl) rfl rfl (by decide)) rfl ?_; refine L.call (js := []) (js' := []) (form_c W20 M20 L20 (liftR (bytesF (ws.take (min ws.length 16)))).ws.length (liftR (bytesF (ws.take (min ws.length 16)))).ms.length l20 (liftR (bytesF (ws.take (min ws.length 16)))) (by omega) (by omega) (by omega) hx32 (Nat.le_refl _) liftR_asc) rfl rfl rfl (by decide) (Hq [4, 3, 2] rfl) rfl ?_
      rintro _ _ _ ⟨F, fc, rfl, rfl, rfl⟩
      refine L.capL 0 rfl (fun hfc => ?_)
      refine L.norm (H' := [_]) [0] ⟨rfl, trivial⟩ (by decide) ?_; refine L.call (js := []) (js' := [0]) (read_k F (formF (liftR (bytesF (ws.take (min ws.length 16))))) fc hfc (by rw [formF_len]; omega) (liftR (bytesF (ws.take (min ws.length 16)))) 0 hrf.1 hrf.2) rfl rfl rfl (by decide) ⟨(Has.o 0 rfl), trivial⟩ rfl ?_
      rintro _ _ _ ⟨W64, M64, L64, w64, m64, l64, rfl, rfl, rfl⟩
      refine L.norm (H' := [_, _, _, _]) [0, 1, 2, 3] ⟨rfl, rfl, rfl, rfl, trivial⟩ (by decide) ?_; refine Lpu rfl rfl ?_; refine Lpu rfl rfl ?_; refine Lpu rfl rfl ?_
      refine L.alloc rfl rfl rfl (fun A9 => ?_)
      refine L.storeA (j := 4) rfl rfl rfl rfl rfl (Nat.zero_lt_succ _) rfl rfl ?_; refine Lpu rfl rfl ?_; refine L.nil (QE.seq (C.seq (C.region ?_))); refine Lpu rfl rfl ?_; refine Lpu rfl rfl ?_; refine Lpu rfl rfl ?_
      refine L.bool 69 rfl (fun hg69 => ?_) (fun hg69 => ?_)
      ·
       replace hg69 := i_eq hg69
       refine L.yes rfl ?_; refine L.step (Ev.loadA (vs := [.slice W64 (liftR (bytesF (ws.take (min ws.length 16)))).ws.length w64, .slice M64 (liftR (bytesF (ws.take (min ws.length 16)))).ms.length m64, .slice L64 (liftR (bytesF (ws.take (min ws.length 16)))).ls.length l64]) rfl rfl rfl (Src.o 4 rfl) rfl rfl (by decide)) rfl ?_; refine L.yes rfl ?_; refine L.step (Ev.loadA (vs := [.slice W20 (liftR (bytesF (ws.take (min ws.length 16)))).ws.length (liftR (bytesF (ws.take (min ws.length 16)))).ws.length, .slice M20 (liftR (bytesF (ws.take (min ws.length 16)))).ms.length (liftR (bytesF (ws.take (min ws.length 16)))).ms.length, .slice L20 (liftR (bytesF (ws.take (min ws.length 16)))).ls.length l20]) rfl rfl rfl (Src.r 1 rfl) rfl rfl (by decide)) rfl ?_; refine L.yes rfl ?_; refine L.call (js := []) (js' := [0, 1, 2, 3, 4]) (Ctr.tbL true (same3_c W64 M64 L64 w64 m64 l64 (liftR (bytesF (ws.take (min ws.length 16)))) ⟨by omega, by omega, by omega⟩ W20 M20 L20 (liftR (bytesF (ws.take (min ws.length 16)))).ws.length (liftR (bytesF (ws.take (min ws.length 16)))).ms.length l20 (liftR (bytesF (ws.take (min ws.length 16)))) ⟨by omega, by omega, by omega⟩) (decide_eq_true rfl)) rfl rfl rfl (by decide) ⟨(Has.o 0 rfl), (Has.o 1 rfl), (Has.o 2 rfl), (Has.r 4 rfl), (Has.r 3 rfl), (Has.r 2 rfl), trivial⟩ rfl ?_
       rintro _ _ _ ⟨rfl, rfl, rfl⟩
       refine L.norm (H' := [_, _, _, _, _]) [0, 1, 2, 3, 4] ⟨rfl, rfl, rfl, rfl, rfl, trivial⟩ (by decide) ?_; refine Lpu rfl rfl ?_; refine Lpu rfl rfl ?_; refine L.yes rfl ?_; refine Lpu rfl rfl ?_; refine Lpu rfl rfl ?_; refine Lpu rfl rfl ?_; refine L.nil (QE.seq (C.ret ?_)); refine QE.ret (js := []) (hs := []) (vs := [_]) rfl ⟨rfl, trivial⟩ (by decide) ?_
       exact ⟨rfl, rfl, rfl⟩
      ·
       replace hg69 := i_ne hg69
       first | exact absurd rfl hg69 | omega | exact absurd rfl hc69

end Go.Proofs.Ytkjhcjhfegakoaa
end
