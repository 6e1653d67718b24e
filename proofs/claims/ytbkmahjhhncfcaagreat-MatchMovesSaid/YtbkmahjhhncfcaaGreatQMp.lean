/-
  Code of two images, with or without an error; one of three.
-/
import Derived.Test.YtbkmahjhhncfcaaGreatQWMtI
import Derived.Test.YtbkmahjhhncfcaaGreatQPl
import Derived.Test.YtbkmahjhhncfcaaGreatQLag
import Derived.Test.YtbkmahjhhncfcaaGreatQLah
import Derived.Test.YtbkmahjhhncfcaaGreatQWLaN
import Derived.Test.YtbkmahjhhncfcaaGreatQWLaQ
import Derived.Test.YtbkmahjhhncfcaaGreatQWLaK
import Derived.Test.YtbkmahjhhncfcaaGreatQWLaW
import Derived.Test.YtbkmahjhhncfcaaGreatQWMtJ
import Derived.Test.YtbkmahjhhncfcaaGreatQMh
section
namespace Go.Sl

theorem Ctr.adds {X : Cx} {f : FuncId} {args : List Value} {R H : List Pr} {Φ Ψ : Value → List Pr → List Pr → Prop} (h : Ctr X f args R H Φ)
   (hi : ∀ v R' H', Φ v R' H' → ∃ R'', Ψ v R'' H' ∧ ∀ r ∈ R'', r ∈ R' ∨ ((∀ w, r.p w) ∧ ∀ k, ¬ r.fp k)) : Ctr X f args R H Ψ := by
 refine ⟨h.1, fun w hs => (h.2 w hs).mono ?_⟩
 rintro e w' ⟨v, R', H', hv, he, hs'⟩
 obtain ⟨R'', h1, h2⟩ := hi v R' H' hv
 refine ⟨v, R'', H', h1, he, hs'.reads R'' fun r hr => ?_⟩
 rcases h2 r hr with h3 | ⟨h3, h4⟩
 · exact .inl h3
 · exact .inr ⟨h3 w', fun k hk => absurd hk (h4 k)⟩
theorem rd_nil (A : Option Addr) : (∀ w, (Rd A []).p w) ∧ ∀ k, ¬ (Rd A []).fp k := ⟨fun _ j u hu => by simp at hu, fun _ hk => absurd rfl hk.1⟩
theorem kids_nil : (∀ w, (KidsR [] []).p w) ∧ ∀ k, ¬ (KidsR [] []).fp k := ⟨fun _ i h v hh => by simp at hh, fun _ ⟨i, h, v, hh, _⟩ => by simp at hh⟩
/-- A patch that came back, as a whole. -/
structure Cd where
 lf : Bool
 inn : Int
 out : Int
 A : Option Addr
 c : Nat
 l : List Pq
def Cd.cells (x : Cd) : List Value := [.bool x.lf, .int .i64 x.inn, .int .i64 x.out, .slice x.A x.l.length x.c]
def codeR (old new : List UInt8) : Int := if liftE old = 0 ∧ liftE new = 0 then 0 else 30
def foF (old : List UInt8) : List UInt8 := formF (liftR old)
structure CdOk (old new : List UInt8) (x : Cd) : Prop where
 lf : x.lf = true
 inn : x.inn = ((foF old).length : Int)
 out : x.out = ((foF new).length : Int)
 mq : MkQ (foF old) (foF new) x.l (refL (foF old) (foF new) : Int)
theorem codeR_iff {old new : List UInt8} : codeR old new = 0 ↔ liftE old = 0 ∧ liftE new = 0 := by
 unfold codeR
 split
 · exact ⟨fun _ => ‹_›, fun _ => rfl⟩
 · exact ⟨fun h => (by omega), fun h => absurd h ‹_›⟩
theorem codeR_no {old new : List UInt8} (h : ¬ (liftE old = 0 ∧ liftE new = 0)) : codeR old new = 30 := if_neg h
theorem foF_len {b : List UInt8} : (foF b).length ≤ 11 + 7 * (b.length / 4) := by
 unfold foF
 rw [formF_len]
 obtain ⟨h1, h2, h3⟩ := liftR_lens b
 omega
/-- Two images. -/
structure Im where
 A : Option Addr
 c : Nat
 l : List UInt8
end Go.Sl
end
/-
  Lifted code is made the same code again.
-/
section
namespace Go.Sl

theorem dec_link {w : Nat} {t : Int} (h5 : 5 ≤ (decF w t).op) (h8 : (decF w t).op ≤ 8) : (decF w t).op = (unnO w : Int) ∧ 5 ≤ unnO w ∧ unnO w ≤ 8 ∧ decF w t = insT (unnO w) (unnA w) (decF w t).n := by
 have key : decF w t = insT (unnO w) (unnA w) (decF w t).n ∨ (decF w t).op < 5 := by
   unfold decF unnA unnO insT
   by_cases c1 : w / 16777216 = 1 ∨ w / 16777216 = 3 ∨ w / 16777216 = 4
   · refine .inr ?_
     rw [if_pos c1]
     split
     · dsimp only; omega
     · exact (by decide : (0 : Int) < 5)
   · rw [if_neg c1]
     by_cases c2 : w / 16777216 = 5 ∨ w / 16777216 = 6
     · refine .inl ?_
       rw [if_pos c2, if_neg (show ¬ 7 ≤ w / 16777216 by omega)]
       rfl
     · rw [if_neg c2]
       by_cases c3 : w / 16777216 = 2
       · refine .inr ?_
         rw [if_pos c3]
         split
         · exact (by decide : (2 : Int) < 5)
         · exact (by decide : (0 : Int) < 5)
       · rw [if_neg c3]
         by_cases c4 : w / 16777216 = 7
         · rw [if_pos c4]
           split
           · refine .inl ?_
             rw [c4]
             rfl
           · exact .inr (by decide : (0 : Int) < 5)
         · rw [if_neg c4]
           by_cases c5 : w / 16777216 = 8
           · rw [if_pos c5]
             split
             · refine .inl ?_
               rw [c5]
               rfl
             · exact .inr (by decide : (0 : Int) < 5)
           · rw [if_neg c5]
             exact .inr (by decide : (0 : Int) < 5)
 rcases key with e | e
 · have ho : (decF w t).op = (unnO w : Int) := by rw [e]; rfl
   exact ⟨ho, by omega, by omega, e⟩
 · omega
theorem fld_pow {o : Nat} (h5 : 5 ≤ o) (h8 : o ≤ 8) : (o < 7 ∧ 2 ^ fldF o = 16777216) ∨ (7 ≤ o ∧ 2 ^ fldF o = 65536) := by
 unfold fldF
 rcases (by omega : o < 7 ∨ 7 ≤ o) with h | h
 · rw [if_pos (by omega)]; exact .inl ⟨h, by decide⟩
 · rw [if_neg (by omega)]; exact .inr ⟨h, by decide⟩
/-- What is kept of a word in which a number is put. -/
theorem numW_keep {w n o : Nat} (h5 : 5 ≤ o) (h8 : o ≤ 8) (hn : n < 65536) (ho : unnO w = o) : unnO (numW w (o : Int) n) = o ∧ unnA (numW w (o : Int) n) = unnA w ∧ unnN (numW w (o : Int) n) = n := by
 unfold unnO at ho
 unfold numW
 rw [Int.toNat_natCast]
 have key : ∀ p, (o < 7 ∧ p = 16777216) ∨ (7 ≤ o ∧ p = 65536) → (w / p * p + n) / 16777216 = o ∧ (7 ≤ o → (w / p * p + n) / 65536 % 256 = w / 65536 % 256) ∧ (w / p * p + n) % p = n := by
   rintro p (⟨h, rfl⟩ | ⟨h, rfl⟩)
   · exact ⟨by omega, fun h7 => by omega, by omega⟩
   · exact ⟨by omega, fun h7 => by omega, by omega⟩
 obtain ⟨k1, k2, k3⟩ := key _ (fld_pow h5 h8)
 refine ⟨k1, ?_, ?_⟩
 · unfold unnA unnO
   rw [k1, ho]
   split
   · rename_i h7
     exact k2 h7
   · rfl
 · unfold unnN unnO
   rw [k1]
   exact k3
section
variable {l : List Nat} (hl : l.length ≤ 16384) {i : Nat} (hi : i < l.length)
include hl hi
theorem idx_lt (hk : lnk l i = true) : idxL (labs l) (insAt l i).n < (labs l).length ∧ (labs l).getD (idxL (labs l) (insAt l i).n) 0 = (insAt l i).n ∧ (labs l).length ≤ 16384 := by
 have hm := labs_mem hi hk
 have hs := labs_sorted l
 refine ⟨idxL_lt hs hm, ?_, by have := labs_len l; omega⟩
 rw [List.getD_eq_getElem?_getD, idxL_get hs hm]
 rfl
theorem liftW_link (hk : lnk l i = true) : unnO (liftW l i) = unnO (l.getD i 0) ∧ unnA (liftW l i) = unnA (l.getD i 0) ∧ unnN (liftW l i) = idxL (labs l) (insAt l i).n := by
 have hsp := lnk_spec hk
 obtain ⟨e1, e2, e3, _⟩ := dec_link hsp.1 hsp.2.1
 have hx := idx_lt hl hi hk
 have e : liftW l i = numW (l.getD i 0) ((unnO (l.getD i 0) : Nat) : Int) (idxL (labs l) (insAt l i).n) := by
   unfold liftW
   rw [if_pos hk]
   exact congrArg (fun o => numW (l.getD i 0) o (idxL (labs l) (insAt l i).n)) e1
 rw [e]
 exact numW_keep e2 e3 (by omega) rfl
end
theorem liftF_ms (l : List Nat) {i : Nat} (h : i < l.length) : (liftF l).ms.getD i false = lnk l i := by
 show ((List.range l.length).map (lnk l)).getD i false = _
 rw [List.getD_eq_getElem?_getD, List.getElem?_map, List.getElem?_range h]
 rfl
theorem liftF_ws (l : List Nat) {i : Nat} (h : i < l.length) : (liftF l).ws.getD i 0 = liftW l i := by
 show ((List.range l.length).map (liftW l)).getD i 0 = _
 rw [List.getD_eq_getElem?_getD, List.getElem?_map, List.getElem?_range h]
 rfl
theorem lowE_lift {l : List Nat} (hl : l.length ≤ 16384) (hw : W32 l) {i : Nat} (hi : i < l.length) : lowE (liftF l) i = some (l.getD i 0) := by
 by_cases hk : lnk l i = true
 · rw [lowE_mark (by rw [liftF_ms l hi]; exact hk), liftF_ws l hi]
   have hsp := lnk_spec hk
   obtain ⟨e1, e2, e3, e4⟩ := dec_link hsp.1 hsp.2.1
   obtain ⟨f1, f2, f3⟩ := liftW_link hl hi hk
   have hx := idx_lt hl hi hk
   show lowM _ (labs l) i = _
   rw [lowM_good (by rw [f1]; exact e2) (by rw [f1]; exact e3) (by rw [f3]; exact hx.1), f1, f2, f3, hx.2.1]
   have e5 : insT (unnO (l.getD i 0)) (unnA (l.getD i 0)) (insAt l i).n = decF (l.getD i 0) (4 * (i : Int)) := e4.symm
   rw [e5]
   exact encF_dec (hw i) _
 · have hk' : lnk l i = false := by simpa using hk
   rw [lowE_plain (by rw [liftF_ms l hi]; exact hk'), liftF_ws l hi]
   unfold liftW
   rw [if_neg hk]
theorem lowN_lift {l : List Nat} (hl : l.length ≤ 16384) (hw : W32 l) {k : Nat} (hk : k ≤ l.length) : lowN (liftF l) k = some (l.take k) := by
 induction k with
 | zero => rfl
 | succ k ih =>
   rw [lowN_some (ih (by omega)) (lowE_lift hl hw (by omega)), take_snoc' l 0 k (by omega)]
theorem liftR_code {b : List UInt8} (h : codeB b) : liftR b = liftF (wordsF b) := if_pos h
theorem liftE_code {b : List UInt8} (h : codeB b) : liftE b = 0 := if_pos h
theorem liftR_bytes {l : List Nat} (hl : l.length ≤ 16384) (hw : W32 l) : liftR (bytesF l) = liftF l := by rw [liftR_code (code_bytes hl), wordsF_bytesF l hw]
theorem low_liftF {l : List Nat} (hl : l.length ≤ 16384) (hw : W32 l) : lowF (liftF l) = some (bytesF l) := by
 have h3 := liftF_lens l
 rw [lowF_all (l := l) (by omega) (by omega) (by rw [h3.1, lowN_lift hl hw (Nat.le_refl _), List.take_length]), if_pos (liftR_bytes hl hw)]
theorem low_lift {b : List UInt8} (h : codeB b) : lowF (liftR b) = some b := by
 rw [liftR_code h, low_liftF (by rw [wordsF_len]; have := h.2; omega) (wordsF_w32 b), bytesF_wordsF b h.1]
theorem low_lift_yes {b : List UInt8} (h : codeB b) : lowB (liftR b) = b ∧ lowC (liftR b) = 0 := low_yes (low_lift h)
/-- What is made code is the lifted form of it. -/
theorem lift_low {x : Lf} (h : lowC x = 0) : ∃ l, lowF x = some (bytesF l) ∧ lowB x = bytesF l ∧ l.length = x.ws.length ∧ x.ws.length ≤ 16384 ∧ liftR (bytesF l) = x ∧ (W32 x.ws → W32 l) := by
 unfold lowC at h
 cases hx : lowF x with
 | none => rw [hx] at h; cases h
 | some b =>
   have hx2 := hx
   unfold lowF at hx2
   split at hx2
   · cases hx2
   · rename_i hc
     cases hN : lowN x x.ws.length with
     | none => rw [hN] at hx2; cases hx2
     | some l =>
       rw [hN] at hx2
       simp only at hx2
       split at hx2
       · rename_i he
         injection hx2 with hx2
         subst hx2
         exact ⟨l, rfl, (low_yes hx).1, lowN_len hN, by omega, he, fun hw => lowN_w32 hw hN⟩
       · cases hx2
end Go.Sl
end
/-
  Forms are read as what they are the forms of.
-/
section
namespace Go.Sl

theorem two_num (n : Nat) (h : n < 65536) : (UInt8.ofNat (n / 256 % 256)).toNat * 256 + (UInt8.ofNat (n % 256)).toNat = n := by
 rw [UInt8.toNat_ofNat', UInt8.toNat_ofNat']
 omega
theorem numB_at {b c d : List UInt8} {n : Nat} (hb : b = c ++ twoB n ++ d) (h : n < 65536) : numB b c.length = n := by
 subst hb
 unfold numB
 rw [List.append_assoc, getD_app_right c _ _ (show c.length = c.length + 0 from rfl), getD_app_right c _ _ rfl]
 exact two_num n h
theorem labsB_cut (ls : List Int) {i k : Nat} (h : i < k) : ∃ d, labsB ls k = labsB ls i ++ twoB (difL ls i) ++ d := by
 induction k with
 | zero => exact absurd h (Nat.not_lt_zero _)
 | succ k ih =>
   rw [labsB_succ]
   by_cases e : i = k
   · subst e
     exact ⟨[], by rw [List.append_nil]⟩
   · obtain ⟨d, hd⟩ := ih (by omega)
     exact ⟨d ++ twoB (difL ls k), by rw [hd, List.append_assoc]⟩
/-- Labels of code: in ascending order, each a multiple of four, inside. -/
def labOk (ls : List Int) : Prop := ls.length ≤ 16384 ∧ ascL ls ∧ ∀ i, i < ls.length → ls.getD i 0 % 4 = 0 ∧ ls.getD i 0 < 65536
theorem labOk_prev {ls : List Int} (h : labOk ls) {i : Nat} (hi : i < ls.length) : prevL ls i % 4 = 0 ∧ 0 ≤ prevL ls i := by
 have h1 := h.2.1 i hi
 unfold prevL at h1 ⊢
 split
 · exact ⟨rfl, Int.le_refl _⟩
 · rename_i h0
   rw [if_neg h0] at h1
   have h2 := h.2.2 (i - 1) (by omega)
   exact ⟨h2.1, h1.1⟩
theorem labOk_dif {ls : List Int} (h : labOk ls) {i : Nat} (hi : i < ls.length) : prevL ls i + 4 * (difL ls i : Int) = ls.getD i 0 ∧ difL ls i < 65536 := by
 have h1 := h.2.1 i hi
 have h2 := h.2.2 i hi
 have h3 := labOk_prev h hi
 unfold difL
 omega
theorem bits_at (ms : List Bool) (j : Nat) {k m : Nat} (h : k < m) : bitsN ms j m / 2 ^ k % 2 = if ms.getD (8 * j + k) false = true then 1 else 0 := by
 induction m with
 | zero => exact absurd h (Nat.not_lt_zero _)
 | succ m ih =>
   simp only [bitsN]
   by_cases e : k = m
   · subst e
     have h1 := bitsN_lt ms j k
     have hp : 0 < 2 ^ k := Nat.pow_pos (by decide)
     split
     · rw [Nat.add_div_right _ hp, Nat.div_eq_of_lt h1]
     · rw [Nat.add_zero, Nat.div_eq_of_lt h1]
   · have hp : 0 < 2 ^ k := Nat.pow_pos (by decide)
     have e2 : 2 ^ m = 2 ^ k * (2 * 2 ^ (m - k - 1)) := by
       rw [← Nat.mul_assoc, Nat.mul_comm (2 ^ k) 2, ← Nat.pow_succ', ← Nat.pow_add]
       congr 1
       omega
     split
     · rw [e2, Nat.add_mul_div_left _ _ hp, Nat.add_mul_mod_self_left]
       exact ih (by omega)
     · rw [Nat.add_zero]
       exact ih (by omega)
section
variable {x : Lf}
theorem form_rN (hw : x.ws.length ≤ 16384) : rN (formF x) = x.ws.length := by
 have := numB_at (c := []) (d := twoB x.ls.length ++ (labsB x.ls x.ls.length ++ (marksB x.ms ++ bytesF x.ws))) (b := formF x) (n := x.ws.length) (by unfold formF formH; simp only [List.append_assoc, List.nil_append]) (by omega)
 exact this
theorem form_rK (hl : labOk x.ls) : rK (formF x) = x.ls.length := by
 have h1 := hl.1
 have := numB_at (c := twoB x.ws.length) (d := labsB x.ls x.ls.length ++ (marksB x.ms ++ bytesF x.ws)) (b := formF x) (n := x.ls.length) (by unfold formF formH; simp only [List.append_assoc]) (by omega)
 exact this
theorem form_rM (hl : labOk x.ls) : rM (formF x) = 4 + 2 * x.ls.length := by
 unfold rM
 rw [form_rK hl]
theorem form_rW (hm : x.ms.length = x.ws.length) (hw : x.ws.length ≤ 16384) (hl : labOk x.ls) : rW (formF x) = 4 + 2 * x.ls.length + (x.ms.length + 7) / 8 := by
 unfold rW
 rw [form_rM hl, form_rN hw, hm]
theorem form_dif (hl : labOk x.ls) {i : Nat} (hi : i < x.ls.length) : numB (formF x) (4 + 2 * i) = difL x.ls i := by
 obtain ⟨d, hd⟩ := labsB_cut x.ls hi
 have h2 := (labOk_dif hl hi).2
 have := numB_at (c := formH x ++ labsB x.ls i) (d := d ++ (marksB x.ms ++ bytesF x.ws)) (b := formF x) (n := difL x.ls i) (by unfold formF; rw [hd]; simp only [List.append_assoc]) h2
 rwa [List.length_append, formH_len, labsB_len] at this
theorem form_rlast (hl : labOk x.ls) {i : Nat} (hi : i ≤ x.ls.length) : (rlast (formF x) i : Int) = if i = 0 then 0 else x.ls.getD (i - 1) 0 := by
 induction i with
 | zero => rfl
 | succ i ih =>
   have h1 := rlast_succ (formF x) i
   have h2 := ih (by omega)
   have h3 := (labOk_dif hl (i := i) (by omega)).1
   rw [form_dif hl (by omega)] at h1
   rw [if_neg (Nat.succ_ne_zero _), Nat.add_sub_cancel, ← h3, ← h1]
   unfold prevL
   rw [← h2]
   omega
theorem form_labels (hl : labOk x.ls) : rlabs (formF x) (rK (formF x)) = x.ls := by
 rw [form_rK hl]
 refine List.ext_getElem (rlabs_len _ _) fun i h1 h2 => ?_
 have h3 := form_rlast hl (i := i + 1) (by omega)
 rw [if_neg (Nat.succ_ne_zero _), Nat.add_sub_cancel] at h3
 have h4 := rlabs_get (formF x) (k := x.ls.length) (i := i) h2
 rw [List.getD_eq_getElem?_getD, List.getElem?_eq_getElem h1] at h4
 rw [List.getD_eq_getElem?_getD, List.getElem?_eq_getElem h2] at h3
 exact h4.trans h3
theorem form_mark (hl : labOk x.ls) {i : Nat} (hi : i < x.ms.length) : rmark (formF x) (rM (formF x)) i = x.ms.getD i false := by
 unfold rmark
 rw [form_rM hl]
 have e : (formF x).getD (4 + 2 * x.ls.length + i / 8) 0 = markB x.ms (i / 8) := by
   unfold formF
   rw [List.append_assoc, getD_app_right _ _ _ (show 4 + 2 * x.ls.length + i / 8 = (formH x ++ labsB x.ls x.ls.length).length + i / 8 by rw [List.length_append, formH_len, labsB_len]), getD_app_left _ _ _ (by unfold marksB; rw [marksN_len]; omega)]
   unfold marksB marksN
   rw [List.getD_eq_getElem?_getD, List.getElem?_map, List.getElem?_range (by omega)]
   rfl
 have hb := bits_at x.ms (i / 8) (k := i % 8) (m := 8) (Nat.mod_lt _ (by decide))
 rw [Nat.div_add_mod] at hb
 rw [e, markB_nat, hb]
 cases x.ms.getD i false
 · rfl
 · rfl
theorem form_marks (hm : x.ms.length = x.ws.length) (hw : x.ws.length ≤ 16384) (hl : labOk x.ls) : rmarks (formF x) (rM (formF x)) (rN (formF x)) = x.ms := by
 rw [form_rN hw, ← hm]
 have e : ∀ i, i < x.ms.length → (rmarks (formF x) (rM (formF x)) x.ms.length)[i]? = x.ms[i]? := by
   intro i hi
   unfold rmarks
   rw [List.getElem?_map, List.getElem?_range hi, Option.map_some, form_mark hl hi, List.getD_eq_getElem?_getD, List.getElem?_eq_getElem hi]
   rfl
 refine List.ext_getElem? fun i => ?_
 by_cases hi : i < x.ms.length
 · exact e i hi
 · rw [List.getElem?_eq_none (by rw [rmarks_len]; omega), List.getElem?_eq_none (by omega)]
variable (hm : x.ms.length = x.ws.length) (hw : x.ws.length ≤ 16384) (h32 : W32 x.ws) (hl : labOk x.ls)
include hm hw h32 hl
theorem form_words : wordsR ((formF x).drop (rW (formF x))) = x.ws := by
 have e : (formF x).drop (rW (formF x)) = bytesF x.ws := by
   have e1 : rW (formF x) = (formH x ++ labsB x.ls x.ls.length ++ marksB x.ms).length := by
     rw [form_rW hm hw hl, List.length_append, List.length_append, formH_len, labsB_len]
     unfold marksB
     rw [marksN_len]
   rw [e1]
   exact List.drop_left
 rw [e]
 unfold wordsR
 rw [if_pos (by rw [bytesF_len]; omega), wordsF_bytesF x.ws h32]
theorem readX_form : readX (formF x) = x := by
 unfold readX
 rw [form_words hm hw h32 hl, form_marks hm hw hl, form_labels hl]
theorem read_form (hc : lowC x = 0) : readR (formF x) = x ∧ readE (formF x) = 0 := by
 have hok : readOk (formF x) := by
   have e := readX_form hm hw h32 hl
   refine ⟨by rw [formF_len]; omega, ?_, by rw [e]; exact hc, by rw [e]⟩
   rw [formF_len, form_rW hm hw hl, form_rN hw]
 refine ⟨?_, ?_⟩
 · unfold readR
   rw [if_pos hok, readX_form hm hw h32 hl]
 · unfold readE
   rw [if_pos hok]
end
/-! ### Labels of code are such ones -/
theorem dec_four {w : Nat} {i : Nat} (h5 : 5 ≤ (decF w (4 * (i : Int))).op) (h8 : (decF w (4 * (i : Int))).op ≤ 8) : (decF w (4 * (i : Int))).n % 4 = 0 := by
 obtain ⟨_, e2, e3, e4⟩ := dec_link h5 h8
 obtain ⟨_, e⟩ := dec_target e2 e3 e4
 generalize (decF w (4 * (i : Int))).n = n at e
 rcases e with ⟨_, _, h⟩ | ⟨_, _, _, h⟩ | ⟨_, _, _, h⟩
 · generalize sgn (w % 16777216) 8388608 = s at h
   omega
 · generalize sgn (w % 65536) 32768 = s at h
   omega
 · omega
theorem labs_ok {l : List Nat} (hl : l.length ≤ 16384) : labOk (labs l) := by
 refine ⟨by have := labs_len l; omega, liftF_asc (l := l) (by omega), fun i hi => ?_⟩
 have hm : (labs l).getD i 0 ∈ labs l := by
   rw [List.getD_eq_getElem?_getD, List.getElem?_eq_getElem hi]
   exact List.getElem_mem hi
 have hr := labs_range hm
 refine ⟨?_, by omega⟩
 obtain ⟨j, hj, e⟩ := List.mem_map.1 ((labsOf_mem _ _).1 hm)
 have hsp := lnk_spec (List.mem_filter.1 hj).2
 rw [← e]
 exact dec_four hsp.1 hsp.2.1
theorem read_form_lift {b : List UInt8} (h : codeB b) : readR (formF (liftR b)) = liftR b ∧ readE (formF (liftR b)) = 0 := by
 have hn : (wordsF b).length ≤ 16384 := by rw [wordsF_len]; have := h.2; omega
 have h3 := liftF_lens (wordsF b)
 refine read_form (liftR_marks b) ?_ (liftR_w32 b) ?_ (low_lift_yes h).2
 · rw [liftR_code h]; omega
 · rw [liftR_code h]; exact labs_ok hn
end Go.Sl
end
/-
  Code of the laws: how long it is; what moved code is.
-/
section
namespace Go.Sl

theorem codB_len (l : List (List UInt8)) (n : Nat) : (codB l n).length ≤ 4 * n := by
 unfold codB
 rw [bytesF_len]
 have := codL_len l n
 omega
theorem codB_code (l : List (List UInt8)) {n : Nat} (h : n ≤ 16384) : codeB (codB l n) := code_bytes (Nat.le_trans (codL_len l n) h)
theorem lift_len {b : List UInt8} (h : codeB b) : (liftR b).ws.length = b.length / 4 ∧ (liftR b).ms.length = b.length / 4 ∧ (liftR b).ls.length ≤ b.length / 4 := by
 have h1 := liftF_lens (wordsF b)
 have h2 := labs_len (wordsF b)
 rw [liftR_code h]
 rw [wordsF_len] at h1 h2
 exact ⟨h1.1, h1.2, h2⟩
/-! ### Moved code -/
theorem mov_lift {b : List UInt8} {p q : Nat} (h : movC b (p : Int) (q : Int) = 0) : liftR (movB b (p : Int) (q : Int)) = moveF (liftR b) p q ∧ codeB (movB b (p : Int) (q : Int)) ∧ movOk b (p : Int) (q : Int) ∧
   ∃ m, movB b (p : Int) (q : Int) = bytesF m ∧ W32 m ∧ m.length = (moveF (liftR b) p q).ws.length ∧ m.length ≤ 16384 := by
 have hok : movOk b (p : Int) (q : Int) := by
   unfold movC at h
   split at h
   · assumption
   · cases h
 have hc : lowC (moveF (liftR b) p q) = 0 := by
   unfold movC at h
   rw [if_pos hok] at h
   simpa using h
 have hb : movB b (p : Int) (q : Int) = lowB (moveF (liftR b) p q) := by
   unfold movB
   rw [if_pos hok]
   simp
 obtain ⟨l, h1, h2, h3, h4, h5, h6⟩ := lift_low hc
 rw [hb, h2]
 exact ⟨h5, code_bytes (by omega), hok, l, rfl, h6 (moveF_w32 (liftR_w32 b) p q), h3, by omega⟩
end Go.Sl
end
/-
  Two images; Code with and without an error; the law MatchMatchesReference.
-/
section
namespace Go.Proofs.YtbkmahjhhncfcaaGreat
open Go.Sl

theorem codeA_c (OB NB : Option Addr) (old new : List UInt8) (oc nc : Nat) (hoc : old.length ≤ oc) (hnc : new.length ≤ nc) (ho : old.length ≤ 65536) (hn : new.length ≤ 65536) (hF : (foF old).length ≤ 65536 ∧ (foF new).length ≤ 4096) : Ctr X 13 [.slice OB old.length oc, .slice NB new.length nc] [Rd OB (U8 old), Rd NB (U8 new)] [] (fun v R' H' => ∃ x : Cd, v = .tuple #[.agg (List.toArray x.cells), .int .i64 (codeR old new)] ∧ R' = [Rd x.A (pqV x.l), KidsR (pqH x.l) (B8 (pqD x.l))] ∧ H' = [] ∧ (codeR old new = 0 → CdOk old new x)) := by
 by_cases hE : liftE old = 0 ∧ liftE new = 0
 · refine (codeM_c OB NB old new oc nc hoc hnc ho hn hE hF.1 hF.2).mono ?_
   rintro v R' H' ⟨A, c, l, rfl, rfl, rfl, hmk⟩
   have h0 := codeR_iff.2 hE
   exact ⟨⟨true, _, _, A, c, l⟩, by rw [h0]; rfl, rfl, rfl, fun _ => ⟨rfl, rfl, rfl, hmk⟩⟩
 · refine Ctr.adds (codeE_c OB NB old new oc nc hoc hnc ho hn (by omega)) ?_
   rintro v R' H' ⟨rfl, rfl, rfl⟩
   have h0 := codeR_no hE
   refine ⟨_, ⟨⟨false, 0, 0, none, 0, []⟩, by rw [h0]; rfl, rfl, rfl, fun h => (by omega)⟩, fun r hr => ?_⟩
   simp only [List.mem_cons, List.not_mem_nil, or_false] at hr
   rcases hr with rfl | rfl
   · exact .inr (rd_nil none)
   · exact .inr kids_nil
end Go.Proofs.YtbkmahjhhncfcaaGreat
end
/-
  Right operations out of bytes; the cost of a right patch.
-/
section
namespace Go.Sl

section
variable {X : Cx} {β : Base} {Γ : Env} {R H : List Pr}
end
/-- What op has found out about an operation. -/
structure OpF (k fr ln : Nat) (b : UInt8) (size : Nat) : Prop where
 kind : (k = 1 ∨ k = 2) ∧ fr + ln ≤ size ∨ (k = 3 ∨ k = 4) ∧ fr = 0
 len : 1 ≤ ln ∧ ln ≤ 5
 byte : k ≠ 3 → b = 0
theorem OpF.good {k fr ln : Nat} {b : UInt8} {size : Nat} (h : OpF k fr ln b size) {d : List UInt8} {A : Option Addr} {c : Nat} (hd : (k = 2 ∨ k = 4) ∧ d.length = ln ∨ ¬ (k = 2 ∨ k = 4) ∧ d.length = 0) : GoodQ ⟨(k : Int), (fr : Int), (ln : Int), b, d, A, c⟩ (size : Int) := by
 refine ⟨by have := h.len.1; show (1 : Int) ≤ (ln : Int); omega, ?_⟩
 have hk := h.kind
 have hb := h.byte
 have z : (k ≠ 3 → ((b.toNat : Int) = 0)) := fun q => by rw [hb q]; rfl
 have e : k = 1 ∨ k = 2 ∨ k = 3 ∨ k = 4 := by omega
 unfold rigQ insQ
 dsimp only
 rcases e with rfl | rfl | rfl | rfl
 · rw [if_pos (by decide), Bool.and_eq_true, Bool.and_eq_true]
   exact ⟨⟨decide_eq_true (by omega), decide_eq_true (z (by decide))⟩, decide_eq_true (by omega)⟩
 · rw [if_neg (by decide), if_pos (by decide), Bool.and_eq_true, Bool.and_eq_true]
   exact ⟨⟨decide_eq_true (by omega), decide_eq_true (z (by decide))⟩, decide_eq_true (by omega)⟩
 · rw [if_neg (by decide), if_neg (by decide), if_pos (by decide), Bool.and_eq_true]
   exact ⟨decide_eq_true (by omega), decide_eq_true (by omega)⟩
 · rw [if_neg (by decide), if_neg (by decide), if_neg (by decide), if_pos (by decide), Bool.and_eq_true, Bool.and_eq_true]
   exact ⟨⟨decide_eq_true (by omega), decide_eq_true (z (by decide))⟩, decide_eq_true (by omega)⟩
/-- What Sized has made so far. -/
structure SzOk (size i : Nat) (l : List Pq) : Prop where
 len : l.length = i
 good : ∀ x ∈ l, GoodQ x (size : Int)
 lns : 0 ≤ lnsQ l ∧ lnsQ l ≤ 5 * (i : Int)
theorem SzOk.nil (size : Nat) : SzOk size 0 [] := ⟨rfl, fun x hx => by simp at hx, by simp [lnsQ]⟩
theorem SzOk.snoc {size i : Nat} {l : List Pq} (h : SzOk size i l) {x : Pq} (hx : GoodQ x (size : Int)) (h5 : x.ln ≤ 5) : SzOk size (i + 1) (l ++ [x]) := by
 refine ⟨by rw [List.length_append, h.len]; rfl, fun y hy => ?_, ?_⟩
 · rcases List.mem_append.1 hy with hy | hy
   · exact h.good y hy
   · rw [List.mem_singleton.1 hy]
     exact hx
 · rw [lnsQ_snoc]
   have := h.lns
   have := hx.1
   omega
theorem SzOk.chk {size i : Nat} {l : List Pq} (h : SzOk size i l) (hi : i ≤ 6) (hs : size ≤ 65536) : chkP (size : Int) (lnsQ l) l = 0 := by
 have := h.lns
 exact chkP_iff.2 ⟨by omega, by omega, by omega, by omega, by rw [h.len]; omega, h.good, rfl⟩
end Go.Sl
end
/-
  The cheaper one of two patches.
-/
section
namespace Go.Sl

/-- A patch of Plain. -/
structure PlOk (old new : List UInt8) (x : Cd) : Prop where
 lf : x.lf = false
 inn : x.inn = (old.length : Int)
 out : x.out = (new.length : Int)
 mq : MkQ old new x.l (refL old new : Int)
def betB (old new : List UInt8) : Bool := decide (codeR old new = 0) && decide (refL (foF old) (foF new) < refL old new)
structure BsOk (old new : List UInt8) (x : Cd) : Prop where
 yes : betB old new = true → CdOk old new x
 no : betB old new = false → PlOk old new x
theorem CdOk.chk {old new : List UInt8} {x : Cd} (h : CdOk old new x) : chkP x.inn x.out x.l = 0 := by rw [h.inn, h.out]; exact h.mq.chk
theorem PlOk.chk {old new : List UInt8} {x : Cd} (h : PlOk old new x) : chkP x.inn x.out x.l = 0 := by rw [h.inn, h.out]; exact h.mq.chk
theorem code_len {b : List UInt8} (h : codeB b) : b.length ≤ 65536 := h.2
theorem codeR_code {old new : List UInt8} (ho : codeB old) (hn : codeB new) : codeR old new = 0 := codeR_iff.2 ⟨liftE_code ho, liftE_code hn⟩
theorem moved_len {b : List UInt8} {p q : Nat} (hb : b.length ≤ 120) (hq : q ≤ 12) : (movB b (p : Int) (q : Int)).length ≤ 168 := by
 by_cases h : movC b (p : Int) (q : Int) = 0
 · obtain ⟨_, _, hok, m, h2, _, h4, _⟩ := mov_lift h
   have hl := (moveF_lens (liftR b) (at_ := p) (by_ := q) (by have := hok.2.2.1; omega) (liftR_marks b)).1
   have := (liftR_lens b).1
   rw [h2, bytesF_len]
   omega
 · by_cases hok : movOk b (p : Int) (q : Int)
   · have : lowB (moveF (liftR b) p q) = [] := by
       unfold movC at h
       rw [if_pos hok] at h
       simp only [Int.toNat_natCast] at h
       cases hx : lowF (moveF (liftR b) p q) with
       | none => exact (low_no hx).1
       | some l => exact absurd (low_yes hx).2 h
     unfold movB
     rw [if_pos hok]
     simp only [Int.toNat_natCast]
     rw [this]
     exact Nat.zero_le _
   · unfold movB
     rw [if_neg hok]
     exact Nat.zero_le _
end Go.Sl
end
