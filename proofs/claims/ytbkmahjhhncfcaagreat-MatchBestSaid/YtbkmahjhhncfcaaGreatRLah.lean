/-
  Moved code, as plain lists.
-/
import Derived.Test.YtbkmahjhhncfcaaGreatRLag
section
namespace Go.Sl

def mvN (at_ by_ : Nat) (n : Int) : Int := if 4 * (at_ : Int) ≤ n then n + 4 * (by_ : Int) else n
def moveF (x : Lf) (at_ by_ : Nat) : Lf := ⟨x.ws.take at_ ++ List.replicate by_ 0 ++ x.ws.drop at_, x.ms.take at_ ++ List.replicate by_ false ++ x.ms.drop at_, x.ls.map (mvN at_ by_)⟩
def movOk (b : List UInt8) (p q : Int) : Prop := codeB b ∧ 0 ≤ p ∧ p ≤ ((liftR b).ws.length : Int) ∧ 0 ≤ q ∧ q ≤ 16384 - ((liftR b).ws.length : Int)
instance (b : List UInt8) (p q : Int) : Decidable (movOk b p q) := by unfold movOk; infer_instance
def movB (b : List UInt8) (p q : Int) : List UInt8 := if movOk b p q then lowB (moveF (liftR b) p.toNat q.toNat) else []
def movC (b : List UInt8) (p q : Int) : Int := if movOk b p q then lowC (moveF (liftR b) p.toNat q.toNat) else 30
theorem moveF_lens (x : Lf) {at_ by_ : Nat} (h : at_ ≤ x.ws.length) (hm : x.ms.length = x.ws.length) : (moveF x at_ by_).ws.length = x.ws.length + by_ ∧ (moveF x at_ by_).ms.length = x.ms.length + by_ ∧ (moveF x at_ by_).ls.length = x.ls.length := by
 unfold moveF
 refine ⟨?_, ?_, List.length_map _⟩
 · rw [List.length_append, List.length_append, List.length_take, List.length_replicate, List.length_drop]; omega
 · rw [List.length_append, List.length_append, List.length_take, List.length_replicate, List.length_drop]; omega
theorem moveF_w32 {x : Lf} (h : W32 x.ws) (at_ by_ : Nat) : W32 (moveF x at_ by_).ws := ((h.take at_).app (W32.rep by_)).app (h.drop at_)
theorem liftR_range {b : List UInt8} {x : Int} (h : x ∈ (liftR b).ls) : 0 ≤ x ∧ x < 65536 := by
 unfold liftR at h
 split at h
 · rename_i hc
   have := labs_range h
   rw [wordsF_len] at this
   have := hc.2
   omega
 · cases h
theorem liftR_label {b : List UInt8} {k : Nat} (h : k < (liftR b).ls.length) : 0 ≤ (liftR b).ls.getD k 0 ∧ (liftR b).ls.getD k 0 < 65536 := by
 refine liftR_range (b := b) ?_
 rw [List.getD_eq_getElem?_getD, List.getElem?_eq_getElem h]
 exact List.getElem_mem h
theorem liftR_marks (b : List UInt8) : (liftR b).ms.length = (liftR b).ws.length := by
 unfold liftR
 split
 · have := liftF_lens (wordsF b); omega
 · rfl
theorem liftR_w32 (b : List UInt8) : W32 (liftR b).ws := by
 unfold liftR
 split
 · rename_i h
   exact liftF_w32 (by rw [wordsF_len]; have := h.2; omega) (wordsF_w32 b)
 · intro i; simp [Lf.zero]
end Go.Sl
end
/-
  How the reference guesses the word of an instruction that has a target, as plain arithmetic; a word that is made of four bytes.
-/
section
namespace Go.Sl

def guD (n t : Int) : Int := (IntKind.i64.wrap (n - t)).tdiv 4
def guL (n t : Int) (k : Nat) : Nat := (guD n t % (k : Int)).toNat
theorem guL_lt (n t : Int) {k : Nat} (h : 0 < k) : guL n t k < k := by
 unfold guL
 have h1 := Int.emod_nonneg (guD n t) (show (k : Int) ≠ 0 by omega)
 have h2 := Int.emod_lt_of_pos (guD n t) (show (0 : Int) < (k : Int) by omega)
 omega
theorem guL_eq (n t : Int) {k : Nat} (h : 0 < k) : guD n t % (k : Int) = (guL n t k : Int) := by
 unfold guL
 exact (Int.toNat_of_nonneg (Int.emod_nonneg _ (by omega))).symm
/-- What is put behind the kind. -/
def guV (o a : Nat) (n t : Int) : Nat := if o < 7 then guL n t 16777216 else a * 65536 + guL n t 65536
def guR (o a : Nat) (n t : Int) : Nat := o * 16777216 + guV o a n t
theorem guV_lt {o a : Nat} (ha : a < 256) (n t : Int) : guV o a n t < 16777216 := by
 have h1 := guL_lt n t (k := 16777216) (by decide)
 have h2 := guL_lt n t (k := 65536) (by decide)
 unfold guV
 generalize guL n t 16777216 = p at h1 ⊢
 generalize guL n t 65536 = q at h2 ⊢
 split <;> omega
theorem quarterT (a : Int) : (4 * a).tdiv 4 = a := by rw [Int.mul_comm]; exact Int.mul_tdiv_cancel a (by decide)
theorem guD_four {n t s : Int} (h : n - t = 4 * s) (h1 : -8388608 ≤ s) (h2 : s ≤ 16777216) : guD n t = s := by
 unfold guD
 rw [h, wrap_small (by omega), quarterT]
theorem guR_right {o a v : Nat} {n t : Int} (h5 : 5 ≤ o) (h8 : o ≤ 8) (h : decF v t = insT o a n) : guR o a n t = v := by
 obtain ⟨e0, e⟩ := dec_target h5 h8 h
 unfold guR guV
 rcases e with ⟨e1, _, e2⟩ | ⟨e1, _, e3, e2⟩ | ⟨e1, _, e3, e2⟩
 · have hs := sgn_le (m := v % 16777216) (h := 8388608) (by omega) (by decide)
   have hg : guL n t 16777216 = v % 16777216 := by
     unfold guL
     rw [guD_four (s := sgn (v % 16777216) 8388608) (by omega) hs.1 hs.2]
     exact sgn_mod (h := 8388608) (by omega)
   rw [if_pos e1, hg]
   omega
 · have hs := sgn_le (m := v % 65536) (h := 32768) (by omega) (by decide)
   have hg : guL n t 65536 = v % 65536 := by
     unfold guL
     rw [guD_four (s := sgn (v % 65536) 32768) (by omega) hs.1 hs.2]
     exact sgn_mod (h := 32768) (by omega)
   rw [if_neg (by omega), hg]
   omega
 · have hg : guL n t 65536 = v % 65536 := by
     unfold guL
     rw [guD_four (s := ((v % 65536 : Nat) : Int)) (by omega) (by omega) (by omega)]
     omega
   rw [if_neg (by omega), hg]
   omega
theorem wrap_range (a : Int) : -9223372036854775808 ≤ IntKind.i64.wrap a ∧ IntKind.i64.wrap a ≤ 9223372036854775807 := by
 rw [IntKind.wrap_i64]
 omega
/-! ### A word that is made of four bytes -/
def mdO (r : List UInt8) : Nat := (r.getD 0 0).toNat % 10
def mdA (r : List UInt8) : Nat := if (r.getD 0 0).toNat < 200 then (r.getD 1 0).toNat % 16 else (r.getD 1 0).toNat
def md3 (o : Nat) : Prop := o = 1 ∨ o = 3 ∨ o = 4
instance (o : Nat) : Decidable (md3 o) := by unfold md3; infer_instance
def mdLB (r : List UInt8) : Nat := if md3 (mdO r) then (r.getD 2 0).toNat % 17 else (r.getD 2 0).toNat
def mdLC (r : List UInt8) : Nat := if md3 (mdO r) then (r.getD 3 0).toNat % 17 else (r.getD 3 0).toNat
def madeW (r : List UInt8) : Nat := mdO r * 16777216 + mdA r * 65536 + mdLB r * 256 + mdLC r
theorem md_lt (r : List UInt8) : mdO r < 10 ∧ mdA r < 256 ∧ mdLB r < 256 ∧ mdLC r < 256 := by
 have h1 := UInt8.toNat_lt (r.getD 1 0)
 have h2 := UInt8.toNat_lt (r.getD 2 0)
 have h3 := UInt8.toNat_lt (r.getD 3 0)
 refine ⟨Nat.mod_lt _ (by decide), ?_, ?_, ?_⟩
 · unfold mdA; split <;> omega
 · unfold mdLB; split <;> omega
 · unfold mdLC; split <;> omega
theorem madeW_lt (r : List UInt8) : madeW r < 4294967296 := by
 have := md_lt r
 unfold madeW
 omega
/-! ### Labels, one after the other -/
def labsK (l : List Nat) (k : Nat) : List Int := labsOf (targN l k)
theorem labsK_yes {l : List Nat} {k : Nat} (h : lnk l k = true) : labsK l (k + 1) = insS (labsK l k) (insAt l k).n := by
 unfold labsK
 rw [targN_yes h, labsOf_snoc]
theorem labsK_no {l : List Nat} {k : Nat} (h : lnk l k = false) : labsK l (k + 1) = labsK l k := by
 unfold labsK
 rw [targN_no h]
theorem labsK_len (l : List Nat) (k : Nat) : (labsK l k).length ≤ k := Nat.le_trans (labsOf_len _) (targN_len l k)
theorem labsK_sorted (l : List Nat) (k : Nat) : (labsK l k).Pairwise (· < ·) := labsOf_sorted _
/-- The first place of a number. -/
def fstI : List Int → Int → Nat
 | [], _ => 0
 | a :: l, n => if a = n then 0 else fstI l n + 1
def idxI (l : List Int) (n : Int) : Int := if n ∈ l then (fstI l n : Int) else -1
theorem fstI_spec {l : List Int} {n : Int} {k : Nat} (hk : k < l.length) (h : l.getD k 0 = n) (hb : ∀ i, i < k → l.getD i 0 ≠ n) : fstI l n = k := by
 induction l generalizing k with
 | nil => exact absurd hk (Nat.not_lt_zero _)
 | cons a l ih =>
   cases k with
   | zero =>
     simp only [List.getD_cons_zero] at h
     unfold fstI
     rw [if_pos h]
   | succ k =>
     have h0 := hb 0 (Nat.succ_pos _)
     simp only [List.getD_cons_zero] at h0
     unfold fstI
     rw [if_neg h0, ih (by simpa using hk) (by simpa using h) (fun i hi => by have := hb (i + 1) (by omega); simpa using this)]
theorem idxI_some {l : List Int} {n : Int} {k : Nat} (hk : k < l.length) (h : l.getD k 0 = n) (hb : ∀ i, i < k → l.getD i 0 ≠ n) : idxI l n = (k : Int) := by
 unfold idxI
 rw [if_pos, fstI_spec hk h hb]
 rw [← h, List.getD_eq_getElem?_getD, List.getElem?_eq_getElem hk]
 exact List.getElem_mem hk
theorem idxI_none {l : List Int} {n : Int} (hb : ∀ i, i < l.length → l.getD i 0 ≠ n) : idxI l n = -1 := by
 unfold idxI
 rw [if_neg]
 intro h
 obtain ⟨i, hi, he⟩ := List.getElem_of_mem h
 refine hb i hi ?_
 rw [List.getD_eq_getElem?_getD, List.getElem?_eq_getElem hi]
 exact he
theorem idxI_sorted {l : List Int} (h : l.Pairwise (· < ·)) {n : Int} (hn : n ∈ l) : idxI l n = (idxL l n : Int) := by
 have h1 := idxL_get h hn
 have h2 := (List.getElem?_eq_some_iff.1 h1).1
 refine idxI_some h2 (by rw [List.getD_eq_getElem?_getD, h1]; rfl) fun i hi he => ?_
 have h3 := List.pairwise_iff_getElem.1 h i (idxL l n) (by omega) h2 hi
 rw [List.getD_eq_getElem?_getD, List.getElem?_eq_getElem (show i < l.length by omega)] at he
 have h4 := (List.getElem?_eq_some_iff.1 h1).2
 simp only [Option.getD_some] at he
 omega
theorem idxI_in {l : List Int} {n : Int} : 0 ≤ idxI l n ↔ n ∈ l := by
 unfold idxI
 split
 · rename_i h
   exact ⟨fun _ => h, fun _ => by omega⟩
 · rename_i h
   exact ⟨fun g => by omega, fun g => absurd g h⟩
theorem insS_in {l : List Int} (h : l.Pairwise (· < ·)) {n : Int} (hn : n ∈ l) : insS l n = l := by
 refine sorted_eq (insS_sorted n h) h fun x => ?_
 rw [insS_mem]
 exact ⟨fun g => g.elim id (fun e => e ▸ hn), .inl⟩
theorem insS_at {l : List Int} {n : Int} {k : Nat} (hk : k ≤ l.length) (hb : ∀ i, i < k → l.getD i 0 < n) (he : k < l.length → n < l.getD k 0) : insS l n = l.take k ++ [n] ++ l.drop k := by
 induction l generalizing k with
 | nil =>
   obtain rfl : k = 0 := by simpa using hk
   rfl
 | cons a l ih =>
   cases k with
   | zero =>
     have := he (Nat.succ_pos _)
     simp only [List.getD_cons_zero] at this
     unfold insS
     rw [if_pos this]
     rfl
   | succ k =>
     have h0 := hb 0 (Nat.succ_pos _)
     simp only [List.getD_cons_zero] at h0
     unfold insS
     rw [if_neg (by omega), if_neg (by omega), ih (k := k) (by simpa using hk) (fun i hi => by have := hb (i + 1) (by omega); simpa using this) (fun h => by have := he (by simpa using h); simpa using this)]
     rfl
def liftT (l : List Nat) (k : Nat) : List Nat := (List.range k).map (liftW l)
def markT (l : List Nat) (k : Nat) : List Bool := (List.range k).map (lnk l)
theorem liftT_succ (l : List Nat) (k : Nat) : liftT l (k + 1) = liftT l k ++ [liftW l k] := by simp [liftT, List.range_succ]
theorem markT_succ (l : List Nat) (k : Nat) : markT l (k + 1) = markT l k ++ [lnk l k] := by simp [markT, List.range_succ]
theorem liftT_len (l : List Nat) (k : Nat) : (liftT l k).length = k := by simp [liftT]
theorem markT_len (l : List Nat) (k : Nat) : (markT l k).length = k := by simp [markT]
end Go.Sl
end
