/-
  Who reads whom in a patch, as plain data.
-/
import Derived.Test.YtdkilfnbilohmaaVOf
import Derived.Test.YtdkilfnbilohmaaVSlV
namespace Go.Sl

def chX (l : List Sy) (i : Nat) : Bool := if i < l.length then decide (l.getD i Sy.zero ≠ ⟨true, (i : Int), 0⟩) else true
def chL (l : List Sy) (size n k : Nat) : List Bool := (List.range n).map fun t => (List.range k).any fun i => decide (i / size = t) && chX l i
theorem chL_len (l : List Sy) (size n k : Nat) : (chL l size n k).length = n := by simp [chL]
theorem chL_zero (l : List Sy) (size n : Nat) : chL l size n 0 = List.replicate n false := by
 refine ext_getD (d := false) (by simp [chL]) (fun i hi => ?_)
 rw [chL_len] at hi
 unfold chL
 rw [map_range_getD hi, getD_rep _ _ _ _ hi]
 rfl
theorem chL_yes {l : List Sy} {size n k : Nat} (h : chX l k = true) : (chL l size n k).set (k / size) true = chL l size n (k + 1) := by
 refine ext_getD (d := false) (by rw [List.length_set, chL_len, chL_len]) (fun t ht => ?_)
 rw [List.length_set, chL_len] at ht
 have e : (chL l size n (k + 1)).getD t false = ((chL l size n k).getD t false || decide (k / size = t)) := by
   unfold chL
   rw [map_range_getD ht, map_range_getD ht, List.range_succ, List.any_append]
   simp [h]
 rw [e]
 by_cases hq : k / size = t
 · subst hq
   rw [getD_set_eq (by rw [chL_len]; exact ht)]
   simp
 · rw [getD_set_ne hq, decide_eq_false hq, Bool.or_false]
theorem chL_no {l : List Sy} {size n k : Nat} (h : chX l k = false) : chL l size n k = chL l size n (k + 1) := by
 unfold chL
 refine List.map_congr_left fun t _ => ?_
 rw [List.range_succ, List.any_append]
 simp [h]
def rdT (s : Sy) (size : Nat) : Nat := s.at_.toNat / size
def skipB (ch : List Bool) (size i : Nat) (s : Sy) : Bool := !s.old || decide (i / size = rdT s size) || !ch.getD (i / size) false || !ch.getD (rdT s size) false
def rwS (ch : List Bool) (size : Nat) (ls : List (List Int)) (i : Nat) (s : Sy) : List (List Int) :=
 if skipB ch size i s = true then ls else if (ls.getD (i / size) []).contains (rdT s size : Int) = true then ls else ls.set (i / size) (ls.getD (i / size) [] ++ [(rdT s size : Int)])
def rwL (ch : List Bool) (size n : Nat) (l : List Sy) : Nat → List (List Int)
 | 0 => List.replicate n []
 | k + 1 => rwS ch size (rwL ch size n l k) k (l.getD k Sy.zero)
theorem rwL_len (ch : List Bool) (size n : Nat) (l : List Sy) : ∀ k, (rwL ch size n l k).length = n
 | 0 => List.length_replicate
 | k + 1 => by
   have ih := rwL_len ch size n l k
   rw [rwL, rwS]
   split
   · exact ih
   · split
     · exact ih
     · rw [List.length_set]; exact ih
/-- Each new one goes to the end of its row. -/
def RwOk (ch : List Bool) (size n : Nat) (l : List Sy) : Prop := ∀ k, k < l.length → skipB ch size k (l.getD k Sy.zero) = false → ((rwL ch size n l k).getD (k / size) []).contains (rdT (l.getD k Sy.zero) size : Int) = false →
 ∀ q, q < ((rwL ch size n l k).getD (k / size) []).length → ((rwL ch size n l k).getD (k / size) []).getD q 0 < (rdT (l.getD k Sy.zero) size : Int)
def Srt (x : List Int) : Prop := ∀ i j, i < j → j < x.length → x.getD i 0 < x.getD j 0
theorem Srt.snoc {x : List Int} {t : Int} (h : Srt x) (ht : ∀ q, q < x.length → x.getD q 0 < t) : Srt (x ++ [t]) := by
 intro i j hij hj
 rw [List.length_append] at hj
 have lo : ∀ q, q < x.length → (x ++ [t]).getD q 0 = x.getD q 0 := fun q hq => by simp only [List.getD_eq_getElem?_getD, List.getElem?_append_left hq]
 have hi : (x ++ [t]).getD x.length 0 = t := by simp [List.getD_eq_getElem?_getD]
 have hj' : j < x.length + 1 := hj
 by_cases hq : j < x.length
 · rw [lo i (by omega), lo j hq]
   exact h i j hij hq
 · obtain rfl : j = x.length := by omega
   rw [lo i hij, hi]
   exact ht i hij
theorem rwL_srt {ch : List Bool} {size n : Nat} {l : List Sy} (h : RwOk ch size n l) : ∀ k, k ≤ l.length → ∀ u, Srt ((rwL ch size n l k).getD u [])
 | 0, _, u => by
   have e : (List.replicate n ([] : List Int)).getD u [] = [] := by
     simp only [List.getD_eq_getElem?_getD, List.getElem?_replicate]
     split <;> rfl
   show Srt ((List.replicate n ([] : List Int)).getD u [])
   rw [e]
   intro i j _ hj
   cases hj
 | k + 1, hk, u => by
   have ih := rwL_srt h k (by omega)
   rw [rwL, rwS]
   split
   · exact ih u
   · rename_i h1
     split
     · exact ih u
     · rename_i h2
       by_cases hu : k / size = u
       · subst hu
         by_cases hb : k / size < (rwL ch size n l k).length
         · rw [getD_set_eq hb]
           exact (ih _).snoc (h k (by omega) (by simpa using h1) (by simpa using h2))
         · rw [getD_ge (by rw [List.length_set]; omega)]
           intro i j _ hj
           cases hj
       · rw [getD_set_ne hu]
         exact ih u
theorem rwL_row {ch : List Bool} {size n : Nat} {l : List Sy} (k u : Nat) : ((rwL ch size n l k).getD u []).length ≤ k := by
 induction k with
 | zero =>
   have e : (List.replicate n ([] : List Int)).getD u [] = [] := by
     simp only [List.getD_eq_getElem?_getD, List.getElem?_replicate]
     split <;> rfl
   show ((List.replicate n ([] : List Int)).getD u []).length ≤ 0
   rw [e]
   exact Nat.le_refl _
 | succ k ih =>
   rw [rwL, rwS]
   split
   · omega
   · split
     · omega
     · by_cases hu : k / size = u
       · subst hu
         by_cases hb : k / size < (rwL ch size n l k).length
         · rw [getD_set_eq hb, List.length_append]
           simp
           exact ih
         · rw [getD_ge (by rw [List.length_set]; omega)]
           exact Nat.zero_le _
       · rw [getD_set_ne hu]
         omega
/-- The symbols are of the input. -/
theorem symO_at {x : Po} {size : Int} {i : Nat} (h : rightB x size = true) (hi : (i : Int) < x.ln) : 0 ≤ (symO x i).at_ ∧ ((symO x i).old = true → (symO x i).at_ < size) ∧ ((symO x i).old = false → (symO x i).at_ = 0) := by
 unfold symO
 by_cases hk : x.k = 1
 · rw [if_pos hk]
   unfold rightB insB at h
   rw [if_pos hk] at h
   simp at h
   refine ⟨by show 0 ≤ x.fr + (i : Int); omega, fun _ => by show x.fr + (i : Int) < size; omega, fun h => by cases h⟩
 · rw [if_neg hk]
   exact ⟨Int.le_refl _, fun h => (by cases h), fun _ => rfl⟩
theorem symL_at {size left : Int} {l : List Po} (h : chkG size left l = true) : ∀ s ∈ symL l, 0 ≤ s.at_ ∧ (s.old = true → s.at_ < size) ∧ (s.old = false → s.at_ = 0) := by
 intro s hs
 simp only [symL, List.mem_flatMap] at hs
 obtain ⟨x, hx, hs⟩ := hs
 obtain ⟨i, hi, rfl⟩ := List.mem_iff_getElem.1 hx
 have hr := chkG_get l left h i hi
 simp only [List.getD_eq_getElem?_getD, List.getElem?_eq_getElem hi, Option.getD_some] at hr
 simp only [symX, List.mem_map, List.mem_range] at hs
 obtain ⟨j, hj, rfl⟩ := hs
 exact symO_at hr.2.2 (by omega)
theorem rowsJ_put {hs : List Hd} {ls : List (List Int)} {s : Nat} {A : Option Addr} {c : Nat} {l : List Int} : (rowsV hs (J8 ls)).set s (.slice A l.length c) = rowsV (hs.set s (A, c)) (J8 (ls.set s l)) := by
 refine List.ext_getElem? fun i => ?_
 unfold rowsV J8
 simp only [List.getElem?_set, List.getElem?_zipWith, List.getElem?_map, List.length_zipWith, List.length_map]
 by_cases hi : s = i
 · subst hi
   by_cases h1 : s < hs.length <;> by_cases h2 : s < ls.length <;> simp [h1, h2, I64_len] <;> omega
 · simp [hi]
/-! ### The readings of a patch -/
def rdN (inn out : Int) (S : Nat) : Nat := ((max inn out).toNat + S - 1) / S
theorem rdN_eq {inn out : Int} {S : Nat} (h0 : 0 ≤ inn) (h1 : 0 ≤ out) (hS : 1 ≤ S) : (max inn out + (S : Int) - 1) / (S : Int) = ((rdN inn out S : Nat) : Int) := by
 unfold rdN
 rw [Int.natCast_ediv]
 congr 1
 omega
theorem rdN_lt {inn out : Int} {S i : Nat} (hS : 1 ≤ S) (h : (i : Int) < max inn out) : i / S < rdN inn out S := by
 unfold rdN
 have h1 : i / S + 1 ≤ ((max inn out).toNat + S - 1) / S := by
   rw [← Nat.add_div_right i hS]
   exact Nat.div_le_div_right (by omega)
 omega
theorem chkG_tot {size : Int} : ∀ (l : List Po) (left : Int), 0 ≤ left → chkG size left l = true → ((symL l).length : Int) = left
 | [], left, h0, h => by
   rw [chkG, decide_eq_true_eq] at h
   show (0 : Int) = left
   omega
 | x :: l, left, h0, h => by
   rw [chkG] at h
   split at h
   · cases h
   · rename_i hb
     have ih := chkG_tot l (left - x.ln) (by omega) h
     rw [show symL (x :: l) = symX x x.ln.toNat ++ symL l from rfl, List.length_append, symX_len]
     omega
theorem chX_lo {l : List Sy} {k : Nat} (h : k < l.length) : chX l k = decide (l.getD k Sy.zero ≠ ⟨true, (k : Int), 0⟩) := by unfold chX; rw [if_pos h]
theorem chX_hi {l : List Sy} {k : Nat} (h : l.length ≤ k) : chX l k = true := by unfold chX; rw [if_neg (by omega)]
theorem symL_atI {size left : Int} {l : List Po} (h : chkG size left l = true) {k : Nat} (hk : k < (symL l).length) : 0 ≤ ((symL l).getD k Sy.zero).at_ ∧ (((symL l).getD k Sy.zero).old = true → ((symL l).getD k Sy.zero).at_ < size) ∧ (((symL l).getD k Sy.zero).old = false → ((symL l).getD k Sy.zero).at_ = 0) := by
 refine symL_at h _ ?_
 rw [List.getD_eq_getElem?_getD, List.getElem?_eq_getElem hk, Option.getD_some]
 exact List.getElem_mem hk
section
variable {ch : List Bool} {S n k : Nat} {l : List Sy}
theorem rwL_skip (h : skipB ch S k (l.getD k Sy.zero) = true) : rwL ch S n l (k + 1) = rwL ch S n l k := by rw [rwL, rwS, if_pos h]
theorem rwL_old (h : ((rwL ch S n l k).getD (k / S) []).contains (rdT (l.getD k Sy.zero) S : Int) = true) : rwL ch S n l (k + 1) = rwL ch S n l k := by
 rw [rwL, rwS]
 rw [if_pos h]
 split <;> rfl
theorem rwL_new (h0 : skipB ch S k (l.getD k Sy.zero) = false) (h : ((rwL ch S n l k).getD (k / S) []).contains (rdT (l.getD k Sy.zero) S : Int) = false) :
   rwL ch S n l (k + 1) = (rwL ch S n l k).set (k / S) ((rwL ch S n l k).getD (k / S) [] ++ [(rdT (l.getD k Sy.zero) S : Int)]) := by
 rw [rwL, rwS, if_neg (by rw [h0]; decide), if_neg (by rw [h]; decide)]
theorem skip_1 {s : Sy} (h : s.old = false) : skipB ch S k s = true := by unfold skipB; rw [h]; rfl
theorem skip_2 {s : Sy} (h : k / S = rdT s S) : skipB ch S k s = true := by unfold skipB; rw [decide_eq_true h]; simp
theorem skip_3 {s : Sy} (h : ch.getD (k / S) false = false) : skipB ch S k s = true := by unfold skipB; rw [h]; simp
theorem skip_4 {s : Sy} (h : ch.getD (rdT s S) false = false) : skipB ch S k s = true := by unfold skipB; rw [h]; simp
theorem skip_no {s : Sy} (h1 : s.old = true) (h2 : ¬k / S = rdT s S) (h3 : ch.getD (k / S) false = true) (h4 : ch.getD (rdT s S) false = true) : skipB ch S k s = false := by unfold skipB; rw [h1, h3, h4, decide_eq_false h2]; rfl
theorem rdT_eq {s : Sy} (h : 0 ≤ s.at_) : s.at_ / (S : Int) = ((rdT s S : Nat) : Int) := by
 unfold rdT
 rw [Int.natCast_ediv]
 congr 1
 omega
theorem rdT_lt {inn out : Int} {s : Sy} (hS : 1 ≤ S) (h : 0 ≤ s.at_) (h2 : s.at_ < inn) : rdT s S < rdN inn out S := rdN_lt hS (by omega)
end
theorem rows0 (n : Nat) : List.replicate n (Value.slice none 0 0) = rowsV (List.replicate n (none, 0)) (J8 (List.replicate n [])) := by
 refine List.ext_getElem? fun i => ?_
 simp only [rowsV, J8, List.map_replicate, List.zipWith_replicate, Nat.min_self]
 rfl
theorem kidsJ_put {hs : List Hd} {ls : List (List Int)} {s : Nat} {g g' : Hd} {l : List Int} : OwnKids 3 ((hs.set s g).set s g') ((J8 (ls.set s [])).set s (I64 l)) = OwnKids 3 (hs.set s g') (J8 (ls.set s l)) := by
 rw [List.set_set]
 congr 1
 simp only [J8, List.map_set, List.set_set]
section
variable {X : Cx} {β : Base} {n : Nat} {ds : List Deferred} {Q : Exit → Act → World → Prop} {Γ : Env} {R H : List Pr}
theorem C.kidsN {c : Code} (e m : Nat) (h : C X β n ds Q c Γ R (H ++ [OwnKids e (List.replicate m (none, 0)) (List.replicate m [])])) : C X β n ds Q c Γ R H := by
 intro a w hf hs
 refine h a w hf (hs.snoc (Stp.refl w fun _ => False) (fun _ h _ => h) _ ⟨by simp, fun i g v hg hv => ?_, fun i j g g' hg _ _ k hk => ?_⟩ ?_)
 · obtain rfl := (List.mem_replicate.1 (List.mem_of_getElem? hg)).2
   obtain rfl := (List.mem_replicate.1 (List.mem_of_getElem? hv)).2
   exact ⟨by simp, .inl ⟨rfl, rfl⟩⟩
 · obtain rfl := (List.mem_replicate.1 (List.mem_of_getElem? hg)).2
   obtain ⟨a, h1, _⟩ := hk
   cases h1
 · rintro k ⟨i, g, hg, a, h1, _⟩
   obtain rfl := (List.mem_replicate.1 (List.mem_of_getElem? hg)).2
   cases h1
theorem C.takeKidJ {x : Code} (j i : Nat) {e : Nat} {hs : List Hd} {ls : List (List Int)} (hj : H[j]? = some (OwnKids e hs (J8 ls))) (hi : i < ls.length) (js : List Nat) (hn : (j :: js).Nodup)
   (h : C X β n ds Q x Γ R (Own e 1 (hs.getD i (none, 0)).1 (ls.getD i []).length (hs.getD i (none, 0)).2 (I64 (ls.getD i [])) :: OwnKids e (hs.set i (none, 0)) (J8 (ls.set i [])) :: Sl.sel H js)) : C X β n ds Q x Γ R H := by
 refine C.takeKid j i hj (by rw [J8_len]; exact hi) js hn ?_
 rw [J8_get, I64_len, show (J8 ls).set i [] = J8 (ls.set i []) by simp [J8, List.map_set, I64]]
 exact h
end
def rdE (lf : Bool) (inn out size : Int) (ops : List Po) : Int :=
 if chkE inn out ops ≠ 0 then chkE inn out ops else if lf = true then 62 else if size < 1 ∨ 4096 < size then 1 else if 64 < rdN inn out size.toNat then 2 else 0
def rdC (inn out : Int) (S : Nat) (l : List Sy) : List Bool := chL l S (rdN inn out S) (max inn out).toNat
def rdR (lf : Bool) (inn out size : Int) (ops : List Po) : List (List Int) :=
 if rdE lf inn out size ops = 0 then rwL (rdC inn out size.toNat (symL ops)) size.toNat (rdN inn out size.toNat) (symL ops) (symL ops).length else []
section
variable {lf : Bool} {inn out size : Int} {ops : List Po}
theorem rdE_1 (h : chkE inn out ops ≠ 0) : rdE lf inn out size ops = chkE inn out ops := by unfold rdE; rw [if_pos h]
theorem rdE_2 (h : chkE inn out ops = 0) (h2 : lf = true) : rdE lf inn out size ops = 62 := by unfold rdE; rw [if_neg (fun g => g h), if_pos h2]
theorem rdE_3 (h : chkE inn out ops = 0) (h2 : lf = false) (h3 : size < 1 ∨ 4096 < size) : rdE lf inn out size ops = 1 := by unfold rdE; rw [if_neg (fun g => g h), if_neg (by rw [h2]; decide), if_pos h3]
theorem rdE_4 (h : chkE inn out ops = 0) (h2 : lf = false) (h3 : 1 ≤ size) (h4 : size ≤ 4096) (h5 : 64 < rdN inn out size.toNat) : rdE lf inn out size ops = 2 := by unfold rdE; rw [if_neg (fun g => g h), if_neg (by rw [h2]; decide), if_neg (by omega), if_pos h5]
theorem rdE_0 (h : chkE inn out ops = 0) (h2 : lf = false) (h3 : 1 ≤ size) (h4 : size ≤ 4096) (h5 : rdN inn out size.toNat ≤ 64) : rdE lf inn out size ops = 0 := by unfold rdE; rw [if_neg (fun g => g h), if_neg (by rw [h2]; decide), if_neg (by omega), if_neg (by omega)]
theorem rdR_no (h : rdE lf inn out size ops ≠ 0) : rdR lf inn out size ops = [] := by unfold rdR; rw [if_neg h]
theorem rdR_ok (h : rdE lf inn out size ops = 0) : rdR lf inn out size ops = rwL (rdC inn out size.toNat (symL ops)) size.toNat (rdN inn out size.toNat) (symL ops) (symL ops).length := by unfold rdR; rw [if_pos h]
end
end Go.Sl
