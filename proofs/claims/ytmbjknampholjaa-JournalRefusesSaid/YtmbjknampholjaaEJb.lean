/-
  The journal as plain data: contents as they are laid, reaching contents by Toward.
-/
import Derived.Test.YtmbjknampholjaaEJa
import Derived.Test.YtmbjknampholjaaEWJoG
namespace Go.Sl

/-! ### Contents -/
theorem cont0_eq {n : Nat} {slot : List UInt8} (h : 8 + slot.length ≤ n) : (List.replicate n (255 : UInt8)).take 8 ++ slot ++ (List.replicate n 255).drop (8 + slot.length) = contF n 0 slot := by
 unfold contF
 rw [if_neg (by decide), List.take_replicate, List.drop_replicate, Nat.min_eq_left (by omega), Nat.sub_sub]
theorem cont0_u8 {n : Nat} {slot : List UInt8} (h : 8 + slot.length ≤ n) : (U8 (List.replicate n 255)).take 8 ++ U8 slot ++ (U8 (List.replicate n 255)).drop (8 + (U8 slot).length) = U8 (contF n 0 slot) := by
 rw [U8_take, U8_len, U8_drop, U8_app, U8_app, cont0_eq h]
theorem contg_eq {n g : Nat} {slot : List UInt8} (hg : 0 < g) : codeB (numB g 4) ++ (contF n 0 slot).drop 8 = contF n (g : Int) slot := by
 unfold contF
 rw [if_neg (by decide), if_pos (by omega), List.append_assoc, List.drop_append_of_le_length (by simp), List.drop_of_length_le (by simp), List.nil_append, ← List.append_assoc, Int.toNat_natCast]
theorem contg_u8 {n g : Nat} {slot : List UInt8} (hg : 0 < g) : (U8 (contF n 0 slot)).take 0 ++ U8 (codeB (numB g 4)) ++ (U8 (contF n 0 slot)).drop (0 + (U8 (codeB (numB g 4))).length) = U8 (contF n (g : Int) slot) := by
 rw [List.take_zero, List.nil_append, U8_len, codeB_len, numB_len, U8_drop, U8_app, contg_eq hg]
def cont1 (n : Nat) (slot : List UInt8) (k : Nat) : List UInt8 := List.replicate 8 255 ++ slot.take k ++ List.replicate (n - 8 - k) 255
theorem cont1_zero {n : Nat} {slot : List UInt8} (h : 8 ≤ n) : cont1 n slot 0 = List.replicate n 255 := by
 unfold cont1
 rw [List.take_zero, List.append_nil, List.replicate_append_replicate]
 congr 1
 omega
theorem cont1_all {n : Nat} {slot : List UInt8} : cont1 n slot slot.length = contF n 0 slot := by
 unfold cont1 contF
 rw [List.take_length, if_neg (by decide)]
theorem cont1_len {n k : Nat} {slot : List UInt8} (hk : k ≤ slot.length) (h : 8 + slot.length ≤ n) : (cont1 n slot k).length = n := by
 unfold cont1
 rw [List.length_append, List.length_append, List.length_replicate, List.length_take, List.length_replicate]
 omega
theorem cont1_set {n k : Nat} {slot : List UInt8} (hk : k < slot.length) (h : 8 + slot.length ≤ n) : (cont1 n slot k).set (8 + k) (slot.getD k 0) = cont1 n slot (k + 1) := by
 unfold cont1
 have e : n - 8 - k = (n - 8 - (k + 1)) + 1 := by omega
 rw [List.set_append_right _ _ (by rw [List.length_append, List.length_replicate, List.length_take]; omega), List.length_append, List.length_replicate, List.length_take, show 8 + k - (8 + min k slot.length) = 0 by omega, e, take_snoc' slot 0 k hk]
 simp [List.replicate_succ]
def cont2 (n g : Nat) (slot : List UInt8) (k : Nat) : List UInt8 := (codeB (numB g 4)).take k ++ (contF n 0 slot).drop k
theorem code8_len (g : Nat) : (codeB (numB g 4)).length = 8 := by rw [codeB_len, numB_len]
theorem cont2_all {n g : Nat} {slot : List UInt8} (hg : 0 < g) : cont2 n g slot 8 = contF n (g : Int) slot := by
 unfold cont2
 rw [List.take_of_length_le (by rw [code8_len]; exact Nat.le_refl _), contg_eq hg]
theorem cont2_len {n g k : Nat} {slot : List UInt8} (hk : k ≤ 8) (h : 8 + slot.length ≤ n) : (cont2 n g slot k).length = n := by
 unfold cont2
 rw [List.length_append, List.length_take, code8_len, List.length_drop, contF_len h]
 omega
theorem cont2_set {n g k : Nat} {slot : List UInt8} (hk : k < 8) (h : 8 + slot.length ≤ n) : (cont2 n g slot k).set k ((codeB (numB g 4)).getD k 0) = cont2 n g slot (k + 1) := by
 unfold cont2
 have hc := code8_len g
 have hl := contF_len (gen := 0) h
 rw [List.set_append_right _ _ (by rw [List.length_take]; omega), List.length_take, show k - min k (codeB (numB g 4)).length = 0 by omega, List.drop_eq_getElem_cons (by omega), List.set_cons_zero, take_snoc' (codeB (numB g 4)) 0 k (by omega)]
 simp

/-! ### The next operation, case by case -/
theorem genF_lt (row : List UInt8) : -1 ≤ genF row ∧ genF row < 4294967296 := by
 unfold genF
 split
 · have := valB_lt (evenB row 4)
   rw [evenB_len] at this
   omega
 · omega
theorem pickL_gen (f : Fl) (a b : Int) : (pickL f a b).gen = genF (secR f (pickL f a b).sec) := by unfold pickL; split <;> rfl
structure JFnd (f : Fl) (a b : Int) (x : Lg) : Prop where
 fits : fitsF f a b = true
 gen : 0 ≤ x.gen ∧ x.gen < 4294967296
 sec : 0 ≤ x.sec ∧ x.sec < (f.data.length : Int)
 oth : 0 ≤ x.oth ∧ x.oth < (f.data.length : Int)
 free : x.free ≤ plcs f
 torn : x.torn ≤ plcs f
theorem findF_fnd {f : Fl} {a b : Int} (h : (findF f a b).found = true) : JFnd f a b (findF f a b) := by
 unfold findF at h ⊢
 split
 · rename_i h1
   rw [if_pos h1] at h
   split
   · rename_i h2
     rw [if_pos h2, pickL_found] at h
     cases h
   · rename_i h2
     have hk := scanL_keep (secR f (pickL f a b).sec) (pickL f a b) (plcs f)
     have hs := pickL_sec h1
     have hg := genF_lt (secR f (pickL f a b).sec)
     rw [← pickL_gen] at hg
     have hf := scanL_free (row := secR f (pickL f a b).sec) (x := pickL f a b) pickL_free.1 pickL_free.2 (plcs f)
     exact ⟨h1, by rw [hk.2.2]; omega, by rw [hk.1]; exact ⟨hs.1, hs.2.1⟩, by rw [hk.2.1]; exact ⟨hs.2.2.1, hs.2.2.2⟩, hf.1, hf.2⟩
 · rename_i h1
   rw [if_neg h1] at h
   cases h
section
variable {f : Fl} {a b : Int} {s : List Int} {x : Lg}
theorem nextF_1 (h : (findF f a b).found = false ∨ rightS s = false) : nextF f a b s = ⟨fo0, false, 200⟩ := if_pos h
theorem nextF_2 (hx : x = findF f a b) (h1 : x.found = true) (h2 : rightS s = true) (h3 : x.s = s) : nextF f a b s = ⟨fo0, true, 0⟩ := by
 subst hx
 unfold nextF
 rw [if_neg (by rw [h1, h2]; exact fun h => by rcases h with h | h <;> cases h), if_pos h3]
theorem nextF_3 (hx : x = findF f a b) (h1 : x.found = true) (h2 : rightS s = true) (h3 : x.s ≠ s) (h4 : x.free < plcs f) : nextF f a b s = progF f ⟨2, x.sec, 8 + 30 * (x.free : Int), slotF s⟩ := by
 subst hx
 unfold nextF
 rw [if_neg (by rw [h1, h2]; exact fun h => by rcases h with h | h <;> cases h), if_neg h3, if_pos h4]
theorem nextF_4 (hx : x = findF f a b) (h1 : x.found = true) (h2 : rightS s = true) (h3 : x.s ≠ s) (h4 : ¬x.free < plcs f) (h5 : readyB (secR f x.oth) (contF f.size (x.gen + 1) (slotF s)) = true) : nextF f a b s = progF f ⟨2, x.oth, 0, (contF f.size (x.gen + 1) (slotF s)).take 8⟩ := by
 subst hx
 unfold nextF
 rw [if_neg (by rw [h1, h2]; exact fun h => by rcases h with h | h <;> cases h), if_neg h3, if_neg h4, if_pos h5]
theorem nextF_5 (hx : x = findF f a b) (h1 : x.found = true) (h2 : rightS s = true) (h3 : x.s ≠ s) (h4 : ¬x.free < plcs f) (h5 : readyB (secR f x.oth) (contF f.size (x.gen + 1) (slotF s)) = false) : nextF f a b s = towN f x.oth (contF f.size 0 (slotF s)) := by
 subst hx
 unfold nextF
 rw [if_neg (by rw [h1, h2]; exact fun h => by rcases h with h | h <;> cases h), if_neg h3, if_neg h4, if_neg (by rw [h5]; exact Bool.false_ne_true)]
theorem formatF_1 (h : fitsF f a b = false ∨ rightS s = false) : formatF f a b s = (flz, 200) := if_pos h
theorem formatF_2 {g : Fl} {e : Int} (h1 : fitsF f a b = true) (h2 : rightS s = true) (hr : reachF a (contF f.size 1 (slotF s)) 3 f = (g, e)) (he : e ≠ 0) : formatF f a b s = (flz, e) := by
 unfold formatF
 rw [if_neg (by rw [h1, h2]; exact fun h => by rcases h with h | h <;> cases h), hr, if_pos he]
theorem formatF_3 {g h : Fl} {e : Int} (h1 : fitsF f a b = true) (h2 : rightS s = true) (hr : reachF a (contF f.size 1 (slotF s)) 3 f = (g, 0)) (hq : reachF b (contF f.size 0 []) 3 g = (h, e)) (he : e ≠ 0) : formatF f a b s = (flz, e) := by
 unfold formatF
 rw [if_neg (by rw [h1, h2]; exact fun h => by rcases h with h | h <;> cases h), hr]
 simp only [ne_eq, not_true_eq_false, if_false, hq]
 rw [if_pos he]
theorem formatF_4 {g h : Fl} (h1 : fitsF f a b = true) (h2 : rightS s = true) (hr : reachF a (contF f.size 1 (slotF s)) 3 f = (g, 0)) (hq : reachF b (contF f.size 0 []) 3 g = (h, 0)) : formatF f a b s = (h, 0) := by
 unfold formatF
 rw [if_neg (by rw [h1, h2]; exact fun h => by rcases h with h | h <;> cases h), hr]
 simp only [ne_eq, not_true_eq_false, if_false, hq]
end

/-! ### Toward, in any sector -/
section
variable {f : Fl} {sec : Int} {want : List UInt8}
theorem towN_sec (f : Fl) (sec : Int) (want : List UInt8) : (towX f sec want).sec = sec := by unfold towX; split <;> rfl
theorem tow_go (hs : 0 ≤ sec ∧ sec < (f.data.length : Int)) (hw : want.length = f.size) (hd : ¬((towN f sec want).done = true ∨ (towN f sec want).e ≠ 0)) : secR f sec ≠ want ∧ (towN f sec want).x = towX f sec want ∧ checkE f (towX f sec want) = 0 := by
 have hin : ¬(¬(0 ≤ sec ∧ sec ≤ (f.data.length : Int) - 1) ∨ want.length ≠ f.size) := by omega
 by_cases h2 : f.data.getD sec.toNat [] = want
 · rw [towN_2 hin h2] at hd; exact absurd (.inl rfl) hd
 · by_cases h3 : checkE f (towX f sec want) ≠ 0
   · rw [towN_3 hin h2 rfl h3] at hd; exact absurd (.inr h3) hd
   · exact ⟨h2, by rw [towN_4 hin h2 rfl h3], by simpa using h3⟩
theorem tow_prog (hs : 0 ≤ sec ∧ sec < (f.data.length : Int)) (hw : want.length = f.size) (hb : towB (secR f sec) want f.size = true) (hx : towX f sec want = ⟨2, sec, 0, want⟩) : secR (cutF f (towX f sec want) (fun _ => 255)) sec = want := by
 have e : secR (cutF f (towX f sec want) (fun _ => 255)) sec = rowF f (towX f sec want) (fun _ => 255) := by
   have := cutF_row (f := f) (x := towX f sec want) (mk := fun _ => 255) (by rw [towN_sec]; omega)
   rw [towN_sec] at this
   exact this
 rw [e, hx]
 refine ext_getD (d := 0) (by rw [rowF_len, hw]) fun i hi => ?_
 rw [rowF_len] at hi
 rw [rowF_get hi, rowB_w, askB_in (by show (2 : Int) ≠ 1; decide) (by dsimp only; omega)]
 have h := List.all_eq_true.1 hb i (List.mem_range.2 hi)
 have h0 : want.getD i 0 &&& ~~~((secR f sec).getD i 0) = 0 := by simpa using h
 show (secR f sec).getD i 0 &&& want.getD ((i : Int) - 0).toNat 0 = want.getD i 0
 rw [show ((i : Int) - 0).toNat = i from by omega]
 exact (andNot_zero _ _).2 h0
theorem tow_erase (hs : 0 ≤ sec ∧ sec < (f.data.length : Int)) (hx : towX f sec want = ⟨1, sec, 0, []⟩) : secR (cutF f (towX f sec want) (fun _ => 255)) sec = List.replicate f.size 255 := by
 have e : secR (cutF f (towX f sec want) (fun _ => 255)) sec = rowF f (towX f sec want) (fun _ => 255) := by
   have := cutF_row (f := f) (x := towX f sec want) (mk := fun _ => 255) (by rw [towN_sec]; omega)
   rw [towN_sec] at this
   exact this
 rw [e, hx]
 refine ext_getD (d := 0) (by rw [rowF_len, List.length_replicate]) fun i hi => ?_
 rw [rowF_len] at hi
 rw [rowF_get hi, rowB_w, askB_1 rfl, getD_rep _ _ _ _ hi]
theorem blank_tow (want : List UInt8) (n : Nat) : towB (List.replicate n 255) want n = true := by
 refine List.all_eq_true.2 fun i hi => ?_
 rw [getD_rep _ _ _ _ (List.mem_range.1 hi)]
 have : want.getD i 0 &&& ~~~(255 : UInt8) = 0 := by
   rw [show ~~~(255 : UInt8) = 0 from rfl]
   exact and_zero8 _
 rw [this]
 rfl
def tMu (f : Fl) (sec : Int) (want : List UInt8) : Nat := if secR f sec = want then 0 else if towB (secR f sec) want f.size = true then 1 else 2
theorem tMu_le (f : Fl) (sec : Int) (want : List UInt8) : tMu f sec want ≤ 2 := by unfold tMu; split; exact Nat.zero_le _; split <;> decide
theorem tow_less (hs : 0 ≤ sec ∧ sec < (f.data.length : Int)) (hw : want.length = f.size) (hd : ¬((towN f sec want).done = true ∨ (towN f sec want).e ≠ 0)) : tMu (cutR f (towN f sec want).x (fun _ => 255)) sec want < tMu f sec want := by
 obtain ⟨h1, h2, h3⟩ := tow_go hs hw hd
 rw [h2, cutR_ok h3]
 unfold tMu
 rw [if_neg h1]
 by_cases hb : towB (secR f sec) want f.size = true
 · rw [if_pos hb, if_pos (tow_prog hs hw hb (towX_1 hb))]
   decide
 · rw [if_neg hb]
   have e := tow_erase (want := want) hs (towX_2 (show towB (secR f sec) want f.size = false by simpa using hb))
   split
   · decide
   · rw [e]
     have : (cutF f (towX f sec want) (fun _ => 255)).size = f.size := rfl
     rw [this, if_pos (blank_tow _ _)]
     decide
theorem reachF_go {k : Nat} (hd : ¬((towN f sec want).done = true ∨ (towN f sec want).e ≠ 0)) : reachF sec want (k + 1) f = reachF sec want k (cutR f (towN f sec want).x (fun _ => 255)) := by
 show (if _ then _ else _) = _
 rw [if_neg hd]
theorem reachF_kept : ∀ (k : Nat) (f : Fl), f.Ok → (0 ≤ sec ∧ sec < (f.data.length : Int)) → want.length = f.size → (reachF sec want k f).1.Ok ∧ (reachF sec want k f).1.size = f.size ∧ (reachF sec want k f).1.data.length = f.data.length
 | 0, _, ok, _, _ => ⟨ok, rfl, rfl⟩
 | k + 1, f, ok, hs, hw => by
   by_cases hd : (towN f sec want).done = true ∨ (towN f sec want).e ≠ 0
   · have e : reachF sec want (k + 1) f = (f, (towN f sec want).e) := if_pos hd
     rw [e]
     exact ⟨ok, rfl, rfl⟩
   · have e : reachF sec want (k + 1) f = reachF sec want k (cutR f (towN f sec want).x (fun _ => 255)) := if_neg hd
     rw [e]
     obtain ⟨_, h2, h3⟩ := tow_go hs hw hd
     have K := cutR_kept (x := (towN f sec want).x) ok (by rw [h2]; exact h3) (fun _ => 255)
     obtain ⟨r1, r2, r3⟩ := reachF_kept k _ K.ok (by rw [K.n]; exact hs) (by rw [K.s]; exact hw)
     exact ⟨r1, r2.trans K.s, r3.trans K.n⟩
theorem reachF_end {k : Nat} (hd : (towN f sec want).done = true ∨ (towN f sec want).e ≠ 0) : reachF sec want k f = (f, (towN f sec want).e) := by
 cases k with
 | zero => rfl
 | succ k => exact if_pos hd
end
end Go.Sl
