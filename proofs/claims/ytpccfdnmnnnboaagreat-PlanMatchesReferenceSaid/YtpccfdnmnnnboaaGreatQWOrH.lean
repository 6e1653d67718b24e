/-
  BinarySearch, Insert at the end, Whole.
-/
import Derived.Laws.StructEq
import Derived.Test.YtpccfdnmnnnboaaGreatQWOrG
import Derived.Test.YtpccfdnmnnnboaaGreatQOe
import Derived.Test.YtpccfdnmnnnboaaGreatQSlV
section
namespace Go.Proofs.YtpccfdnmnnnboaaGreat
open Go.Sl

theorem Ev.toU64 {β : Base} {Γ : Env} {R H : List Pr} {s d m : Nat} {x : Operand} {k : IntKind} {i j : Ti} (hs : tlook s X.tab = some i) (hd : tlook d X.tab = some j) (hj : j.desc = .int .u64) (hx : ev Γ x = some (.int k (m : Int))) (hm : m < 18446744073709551616) :
   Ev X β Γ R H (.convert s d x) (.int .u64 (m : Int)) :=
 (Ev.pure (v := .int .u64 (IntKind.u64.wrap (m : Int))) (by simp [pev, hs, hd, hj, hx])).cast (by rw [wrap_u64 hm])
theorem bsearch_c (A : Option Addr) (x : List Int) (c : Nat) (t : Int) (hl : x.length ≤ 1000000) (hs : ∀ i j, i < j → j < x.length → x.getD i 0 < x.getD j 0) :
   Ctr X 108 [.slice A x.length c, .int .i64 t] [Rd A (I64 x)] [] (fun v R' H' => ∃ k : Nat, v = .tuple #[.int .i64 (k : Int), .bool (x.contains t)] ∧ R' = [] ∧ H' = [] ∧ k ≤ x.length ∧ (∀ q, q < k → x.getD q 0 < t) ∧ (∀ q, k ≤ q → q < x.length → t ≤ x.getD q 0)) := by
 refine Ctr.of (X := X) (fn := Tryz.f108) Tryz.func108 rfl (by kernel_rfl) rfl ?_
 intro β
 refine C.seq (C.region ?_); refine Lpu rfl rfl ?_; refine Lpu rfl rfl ?_; refine L.nil (QE.seq (C.seq (C.region ?_))); refine Lpu rfl rfl ?_; refine Lpu rfl rfl ?_; refine Lpu rfl rfl ?_; refine L.nil (QE.seq (C.seq (C.region ?_))); refine Lpu rfl rfl ?_; refine Lpu rfl rfl ?_; refine Lpu rfl rfl ?_; refine L.nil (QE.seq (C.seq (C.block ?_))); refine C.loop (fun q : Nat × Nat => [(0, .slice A x.length c), (1, .int .i64 t), (6, .int .i64 (x.length : Int)), (7, .int .i64 (q.1 : Int)), (8, .int .i64 (q.2 : Int))]) (fun q : Nat × Nat => [Rd A (I64 x)]) (fun q : Nat × Nat => []) (fun q : Nat × Nat => q.1 ≤ q.2 ∧ q.2 ≤ x.length ∧ (∀ a, a < q.1 → x.getD a 0 < t) ∧ (∀ a, q.2 ≤ a → a < x.length → t ≤ x.getD a 0)) (fun q : Nat × Nat => q.2 - q.1) (0, x.length) ⟨Nat.zero_le _, Nat.le_refl _, all_zero, fun a h1 h2 => absurd h1 (by dsimp only; omega)⟩ (by exact Le.mk' (rs := [0]) (hs := []) ⟨rfl, rfl, rfl, rfl, rfl, trivial⟩ ⟨rfl, trivial⟩ trivial (by decide)) ?_
 rintro ⟨i, j⟩ ⟨hij, hjl, h1, h2⟩
 dsimp only at hij hjl h1 h2 ⊢
 refine C.seq (C.seq (C.region ?_)); refine Lpu rfl rfl ?_; refine Lpu rfl rfl ?_; refine Lpu rfl rfl ?_; refine L.nil (QE.seq ?_)
 refine C.condB 15 rfl (fun hc15 => ?_) (fun hc15 => ?_)
 ·
  replace hc15 := of_decide_eq_true hc15
  refine C.skip (QE.seq (C.block (C.seq ?_)))
  have hsh : (i + j) >>> 1 = (i + j) / 2 := by rw [Nat.shiftRight_eq_div_pow]
  have hhj : (i + j) >>> 1 < x.length := by omega
  refine C.region ?_; refine Lpu rfl rfl ?_; refine Lpu rfl rfl ?_; refine L.step (Ev.cast (u := .int .i64 ((i + j : Nat) : Int)) (Ev.add rfl rfl (by omega) (by omega)) (congrArg (Value.int .i64) (by omega))) rfl ?_; refine L.step (Ev.toU64 (m := i + j) rfl rfl rfl rfl (by omega)) rfl ?_; refine L.step (Ev.shrU (k := 1) rfl rfl (by decide)) rfl ?_; refine L.step (Ev.toInt rfl rfl rfl rfl (by omega) (by omega)) rfl ?_; refine Lpu rfl rfl ?_; refine L.nil (QE.seq (C.seq (C.region ?_))); refine Lpu rfl rfl ?_; refine Lpu rfl rfl ?_; refine L.step (Ev.idx1 (k := ((i + j) >>> 1)) rfl rfl rfl rfl rfl rfl rfl hhj (Src.r 0 rfl) (by rw [I64_len]; omega)) rfl ?_; refine L.step (Ev.load rfl rfl rfl (Src.r 0 rfl) (I64_get hhj)) rfl ?_; refine Lpu rfl rfl ?_; refine L.call (js := []) (js' := []) (less_c _ _) rfl rfl rfl (by decide) trivial rfl ?_
  rintro _ _ _ ⟨rfl, rfl, rfl⟩
  refine L.nil (QE.seq ?_)
  refine C.condB 27 rfl (fun hc27 => ?_) (fun hc27 => ?_)
  ·
   have hlt : x.getD ((i + j) >>> 1) 0 < t := of_decide_eq_true hc27
   refine C.region ?_; refine Lpu rfl rfl ?_; refine L.step (Ev.add rfl rfl (by omega) (by omega)) rfl ?_; refine Lpu rfl rfl ?_; refine L.nil ?_; refine QE.blkN ?_
   refine QE.round (i := (i, j)) (((i + j) >>> 1 + 1, j)) (by exact ⟨by dsimp only; omega, hjl, fun a ha => by
     rcases Nat.lt_or_ge a ((i + j) >>> 1) with h | h
     · have := hs a _ h hhj
       omega
     · obtain rfl : a = (i + j) >>> 1 := by dsimp only at ha; omega
       exact hlt, h2⟩) (by dsimp only; omega) (by exact Le.mk' (rs := [0]) (hs := []) ⟨rfl, rfl, rfl, rfl, rfl, trivial⟩ ⟨rfl, trivial⟩ trivial (by decide))
  ·
   have hge : ¬x.getD ((i + j) >>> 1) 0 < t := of_decide_eq_false hc27
   refine C.region ?_; refine Lpu rfl rfl ?_; refine Lpu rfl rfl ?_; refine L.nil ?_; refine QE.blkN ?_
   refine QE.round (i := (i, j)) ((i, (i + j) >>> 1)) (by exact ⟨by dsimp only; omega, by dsimp only; omega, h1, fun a ha hal => by
     rcases Nat.eq_or_lt_of_le ha with h | h
     · dsimp only at h; rw [← h]; omega
     · have := hs _ a h hal
       dsimp only at this; omega⟩) (by dsimp only; omega) (by exact Le.mk' (rs := [0]) (hs := []) ⟨rfl, rfl, rfl, rfl, rfl, trivial⟩ ⟨rfl, trivial⟩ trivial (by decide))
 ·
  replace hc15 := of_decide_eq_false hc15
  refine C.exit ?_; refine QE.tX ?_; refine QE.tX ?_; refine QE.blk ?_; refine QE.seq (C.seq (C.region ?_)); refine Lpu rfl rfl ?_; refine Lpu rfl rfl ?_; refine Lpu rfl rfl ?_; refine Lpu rfl rfl ?_; refine Lpu rfl rfl ?_
  refine L.bool 35 rfl (fun hg35 => ?_) (fun hg35 => ?_)
  ·
   replace hg35 := of_decide_eq_true hg35
   refine L.yes rfl ?_; refine Lpu rfl rfl ?_; refine L.yes rfl ?_; refine Lpu rfl rfl ?_; refine L.yes rfl ?_; refine L.step (Ev.idx1 (k := i) rfl rfl rfl rfl rfl rfl rfl (by omega) (Src.r 0 rfl) (by rw [I64_len]; omega)) rfl ?_; refine L.yes rfl ?_; refine L.step (Ev.load rfl rfl rfl (Src.r 0 rfl) (I64_get (by omega))) rfl ?_; refine L.yes rfl ?_; refine Lpu rfl rfl ?_; refine L.yes rfl ?_; refine Lpu rfl rfl ?_; refine L.yes rfl ?_; refine Lpu rfl rfl ?_
   refine L.bool 42 rfl (fun hg42 => ?_) (fun hg42 => ?_)
   ·
    replace hg42 := i_eq hg42
    have hx : x.contains t = true := has_yes (by omega) hg42
    refine L.no rfl rfl rfl ?_; refine L.no rfl rfl rfl ?_; refine L.no rfl rfl rfl ?_; refine L.no rfl rfl rfl ?_; refine L.no rfl rfl rfl ?_; refine L.no rfl rfl rfl ?_; refine L.no rfl rfl rfl ?_; refine L.no rfl rfl rfl ?_; refine L.no rfl rfl rfl ?_; refine L.yes rfl ?_; refine Lpu rfl rfl ?_; refine Lpu rfl rfl ?_; refine Lpu rfl rfl ?_; refine Lpu rfl rfl ?_; refine L.nil (QE.seq (C.ret ?_)); refine QE.ret (js := []) (hs := []) (vs := [_, _]) rfl ⟨rfl, rfl, trivial⟩ (by decide) ?_
    exact ⟨i, by rw [hx]; rfl, rfl, rfl, by omega, h1, fun q hq hq2 => h2 q (by omega) hq2⟩
   ·
    replace hg42 := i_ne hg42
    have hx : x.contains t = false := has_no (fun q hq e => by
      rcases Nat.lt_trichotomy q i with h | h | h
      · have := h1 q h; omega
      · subst h; exact hg42 e
      · have a1 := hs i q h hq
        have a2 := h2 i (by omega) (by omega)
        omega)
    refine L.yes rfl ?_; refine Lpu rfl rfl ?_; refine L.yes rfl ?_; refine Lpu rfl rfl ?_; refine L.yes rfl ?_; refine L.step (Ev.idx1 (k := i) rfl rfl rfl rfl rfl rfl rfl (by omega) (Src.r 0 rfl) (by rw [I64_len]; omega)) rfl ?_; refine L.yes rfl ?_; refine L.step (Ev.load rfl rfl rfl (Src.r 0 rfl) (I64_get (by omega))) rfl ?_; refine L.yes rfl ?_; refine L.call (js := []) (js' := []) (nan2_c _) rfl rfl rfl (by decide) trivial rfl ?_
    rintro _ _ _ ⟨rfl, rfl, rfl⟩
    refine L.yes rfl ?_; refine Lpu rfl rfl ?_; refine L.no rfl rfl rfl ?_; refine L.no rfl rfl rfl ?_; refine L.yes rfl ?_; refine Lpu rfl rfl ?_; refine L.yes rfl ?_; refine Lpu rfl rfl ?_; refine Lpu rfl rfl ?_; refine Lpu rfl rfl ?_; refine Lpu rfl rfl ?_; refine L.nil (QE.seq (C.ret ?_)); refine QE.ret (js := []) (hs := []) (vs := [_, _]) rfl ⟨rfl, rfl, trivial⟩ (by decide) ?_
    exact ⟨i, by rw [hx]; rfl, rfl, rfl, by omega, h1, fun q hq hq2 => h2 q (by omega) hq2⟩
  ·
   replace hg35 := of_decide_eq_false hg35
   have hx : x.contains t = false := has_no (fun q hq => by have := h1 q (by omega); omega)
   refine L.no rfl rfl rfl ?_; refine L.no rfl rfl rfl ?_; refine L.no rfl rfl rfl ?_; refine L.no rfl rfl rfl ?_; refine L.no rfl rfl rfl ?_; refine L.no rfl rfl rfl ?_; refine L.no rfl rfl rfl ?_; refine L.no rfl rfl rfl ?_; refine L.no rfl rfl rfl ?_; refine L.no rfl rfl rfl ?_; refine L.no rfl rfl rfl ?_; refine L.no rfl rfl rfl ?_; refine L.no rfl rfl rfl ?_; refine L.no rfl rfl rfl ?_; refine L.no rfl rfl rfl ?_; refine L.no rfl rfl rfl ?_; refine L.no rfl rfl rfl ?_; refine Lpu rfl rfl ?_; refine Lpu rfl rfl ?_; refine Lpu rfl rfl ?_; refine L.nil (QE.seq (C.ret ?_)); refine QE.ret (js := []) (hs := []) (vs := [_, _]) rfl ⟨rfl, rfl, trivial⟩ (by decide) ?_
   exact ⟨i, by rw [hx]; rfl, rfl, rfl, by omega, h1, fun q hq hq2 => h2 q (by omega) hq2⟩

end Go.Proofs.YtpccfdnmnnnboaaGreat
end
/-
  Who reads whom in a patch, as plain data.
-/
section
namespace Go.Sl

def chX (l : List Sy) (i : Nat) : Bool := if i < l.length then decide (l.getD i Sy.zero ≠ ⟨true, (i : Int), 0⟩) else true
def chL (l : List Sy) (size n k : Nat) : List Bool := (List.range n).map fun t => (List.range k).any fun i => decide (i / size = t) && chX l i
theorem chL_len (l : List Sy) (size n k : Nat) : (chL l size n k).length = n := by simp [chL]
theorem chL_zero (l : List Sy) (size n : Nat) : chL l size n 0 = List.replicate n false := by
 refine ext_getD (d := false) (by simp [chL]) (fun i hi => ?_)
 rw [chL_len] at hi
 unfold chL
 rw [map_range_getD hi, getD_rep _ _ _ _ hi]
 rfl
theorem chL_yes {l : List Sy} {size n k : Nat} (h : chX l k = true) : (chL l size n k).set (k / size) true = chL l size n (k + 1) := by
 refine ext_getD (d := false) (by rw [List.length_set, chL_len, chL_len]) (fun t ht => ?_)
 rw [List.length_set, chL_len] at ht
 have e : (chL l size n (k + 1)).getD t false = ((chL l size n k).getD t false || decide (k / size = t)) := by
   unfold chL
   rw [map_range_getD ht, map_range_getD ht, List.range_succ, List.any_append]
   simp [h]
 rw [e]
 by_cases hq : k / size = t
 · subst hq
   rw [getD_set_eq (by rw [chL_len]; exact ht)]
   simp
 · rw [getD_set_ne hq, decide_eq_false hq, Bool.or_false]
theorem chL_no {l : List Sy} {size n k : Nat} (h : chX l k = false) : chL l size n k = chL l size n (k + 1) := by
 unfold chL
 refine List.map_congr_left fun t _ => ?_
 rw [List.range_succ, List.any_append]
 simp [h]
def rdT (s : Sy) (size : Nat) : Nat := s.at_.toNat / size
def skipB (ch : List Bool) (size i : Nat) (s : Sy) : Bool := !s.old || decide (i / size = rdT s size) || !ch.getD (i / size) false || !ch.getD (rdT s size) false
def Srt (x : List Int) : Prop := ∀ i j, i < j → j < x.length → x.getD i 0 < x.getD j 0
theorem Srt.snoc {x : List Int} {t : Int} (h : Srt x) (ht : ∀ q, q < x.length → x.getD q 0 < t) : Srt (x ++ [t]) := by
 intro i j hij hj
 rw [List.length_append] at hj
 have lo : ∀ q, q < x.length → (x ++ [t]).getD q 0 = x.getD q 0 := fun q hq => by simp only [List.getD_eq_getElem?_getD, List.getElem?_append_left hq]
 have hi : (x ++ [t]).getD x.length 0 = t := by simp [List.getD_eq_getElem?_getD]
 have hj' : j < x.length + 1 := hj
 by_cases hq : j < x.length
 · rw [lo i (by omega), lo j hq]
   exact h i j hij hq
 · obtain rfl : j = x.length := by omega
   rw [lo i hij, hi]
   exact ht i hij
/-- The symbols are of the input. -/
theorem symO_at {x : Po} {size : Int} {i : Nat} (h : rightB x size = true) (hi : (i : Int) < x.ln) : 0 ≤ (symO x i).at_ ∧ ((symO x i).old = true → (symO x i).at_ < size) ∧ ((symO x i).old = false → (symO x i).at_ = 0) := by
 unfold symO
 by_cases hk : x.k = 1
 · rw [if_pos hk]
   unfold rightB insB at h
   rw [if_pos hk] at h
   simp at h
   refine ⟨by show 0 ≤ x.fr + (i : Int); omega, fun _ => by show x.fr + (i : Int) < size; omega, fun h => by cases h⟩
 · rw [if_neg hk]
   exact ⟨Int.le_refl _, fun h => (by cases h), fun _ => rfl⟩
theorem symL_at {size left : Int} {l : List Po} (h : chkG size left l = true) : ∀ s ∈ symL l, 0 ≤ s.at_ ∧ (s.old = true → s.at_ < size) ∧ (s.old = false → s.at_ = 0) := by
 intro s hs
 simp only [symL, List.mem_flatMap] at hs
 obtain ⟨x, hx, hs⟩ := hs
 obtain ⟨i, hi, rfl⟩ := List.mem_iff_getElem.1 hx
 have hr := chkG_get l left h i hi
 simp only [List.getD_eq_getElem?_getD, List.getElem?_eq_getElem hi, Option.getD_some] at hr
 simp only [symX, List.mem_map, List.mem_range] at hs
 obtain ⟨j, hj, rfl⟩ := hs
 exact symO_at hr.2.2 (by omega)
theorem rowsJ_put {hs : List Hd} {ls : List (List Int)} {s : Nat} {A : Option Addr} {c : Nat} {l : List Int} : (rowsV hs (J8 ls)).set s (.slice A l.length c) = rowsV (hs.set s (A, c)) (J8 (ls.set s l)) := by
 refine List.ext_getElem? fun i => ?_
 unfold rowsV J8
 simp only [List.getElem?_set, List.getElem?_zipWith, List.getElem?_map, List.length_zipWith, List.length_map]
 by_cases hi : s = i
 · subst hi
   by_cases h1 : s < hs.length <;> by_cases h2 : s < ls.length <;> simp [h1, h2, I64_len] <;> omega
 · simp [hi]
/-! ### The readings of a patch -/
def rdN (inn out : Int) (S : Nat) : Nat := ((max inn out).toNat + S - 1) / S
theorem rdN_eq {inn out : Int} {S : Nat} (h0 : 0 ≤ inn) (h1 : 0 ≤ out) (hS : 1 ≤ S) : (max inn out + (S : Int) - 1) / (S : Int) = ((rdN inn out S : Nat) : Int) := by
 unfold rdN
 rw [Int.natCast_ediv]
 congr 1
 omega
theorem rdN_lt {inn out : Int} {S i : Nat} (hS : 1 ≤ S) (h : (i : Int) < max inn out) : i / S < rdN inn out S := by
 unfold rdN
 have h1 : i / S + 1 ≤ ((max inn out).toNat + S - 1) / S := by
   rw [← Nat.add_div_right i hS]
   exact Nat.div_le_div_right (by omega)
 omega
theorem chkG_tot {size : Int} : ∀ (l : List Po) (left : Int), 0 ≤ left → chkG size left l = true → ((symL l).length : Int) = left
 | [], left, h0, h => by
   rw [chkG, decide_eq_true_eq] at h
   show (0 : Int) = left
   omega
 | x :: l, left, h0, h => by
   rw [chkG] at h
   split at h
   · cases h
   · rename_i hb
     have ih := chkG_tot l (left - x.ln) (by omega) h
     rw [show symL (x :: l) = symX x x.ln.toNat ++ symL l from rfl, List.length_append, symX_len]
     omega
theorem chX_lo {l : List Sy} {k : Nat} (h : k < l.length) : chX l k = decide (l.getD k Sy.zero ≠ ⟨true, (k : Int), 0⟩) := by unfold chX; rw [if_pos h]
theorem chX_hi {l : List Sy} {k : Nat} (h : l.length ≤ k) : chX l k = true := by unfold chX; rw [if_neg (by omega)]
theorem symL_atI {size left : Int} {l : List Po} (h : chkG size left l = true) {k : Nat} (hk : k < (symL l).length) : 0 ≤ ((symL l).getD k Sy.zero).at_ ∧ (((symL l).getD k Sy.zero).old = true → ((symL l).getD k Sy.zero).at_ < size) ∧ (((symL l).getD k Sy.zero).old = false → ((symL l).getD k Sy.zero).at_ = 0) := by
 refine symL_at h _ ?_
 rw [List.getD_eq_getElem?_getD, List.getElem?_eq_getElem hk, Option.getD_some]
 exact List.getElem_mem hk
section
variable {ch : List Bool} {S n k : Nat} {l : List Sy}
theorem skip_1 {s : Sy} (h : s.old = false) : skipB ch S k s = true := by unfold skipB; rw [h]; rfl
theorem skip_2 {s : Sy} (h : k / S = rdT s S) : skipB ch S k s = true := by unfold skipB; rw [decide_eq_true h]; simp
theorem skip_3 {s : Sy} (h : ch.getD (k / S) false = false) : skipB ch S k s = true := by unfold skipB; rw [h]; simp
theorem skip_4 {s : Sy} (h : ch.getD (rdT s S) false = false) : skipB ch S k s = true := by unfold skipB; rw [h]; simp
theorem skip_no {s : Sy} (h1 : s.old = true) (h2 : ¬k / S = rdT s S) (h3 : ch.getD (k / S) false = true) (h4 : ch.getD (rdT s S) false = true) : skipB ch S k s = false := by unfold skipB; rw [h1, h3, h4, decide_eq_false h2]; rfl
theorem rdT_eq {s : Sy} (h : 0 ≤ s.at_) : s.at_ / (S : Int) = ((rdT s S : Nat) : Int) := by
 unfold rdT
 rw [Int.natCast_ediv]
 congr 1
 omega
theorem rdT_lt {inn out : Int} {s : Sy} (hS : 1 ≤ S) (h : 0 ≤ s.at_) (h2 : s.at_ < inn) : rdT s S < rdN inn out S := rdN_lt hS (by omega)
end
theorem rows0 (n : Nat) : List.replicate n (Value.slice none 0 0) = rowsV (List.replicate n (none, 0)) (J8 (List.replicate n [])) := by
 refine List.ext_getElem? fun i => ?_
 simp only [rowsV, J8, List.map_replicate, List.zipWith_replicate, Nat.min_self]
 rfl
theorem kidsJ_put {hs : List Hd} {ls : List (List Int)} {s : Nat} {g g' : Hd} {l : List Int} : OwnKids 3 ((hs.set s g).set s g') ((J8 (ls.set s [])).set s (I64 l)) = OwnKids 3 (hs.set s g') (J8 (ls.set s l)) := by
 rw [List.set_set]
 congr 1
 simp only [J8, List.map_set, List.set_set]
section
variable {X : Cx} {β : Base} {n : Nat} {ds : List Deferred} {Q : Exit → Act → World → Prop} {Γ : Env} {R H : List Pr}
theorem C.kidsN {c : Code} (e m : Nat) (h : C X β n ds Q c Γ R (H ++ [OwnKids e (List.replicate m (none, 0)) (List.replicate m [])])) : C X β n ds Q c Γ R H := by
 intro a w hf hs
 refine h a w hf (hs.snoc (Stp.refl w fun _ => False) (fun _ h _ => h) _ ⟨by simp, fun i g v hg hv => ?_, fun i j g g' hg _ _ k hk => ?_⟩ ?_)
 · obtain rfl := (List.mem_replicate.1 (List.mem_of_getElem? hg)).2
   obtain rfl := (List.mem_replicate.1 (List.mem_of_getElem? hv)).2
   exact ⟨by simp, .inl ⟨rfl, rfl⟩⟩
 · obtain rfl := (List.mem_replicate.1 (List.mem_of_getElem? hg)).2
   obtain ⟨a, h1, _⟩ := hk
   cases h1
 · rintro k ⟨i, g, hg, a, h1, _⟩
   obtain rfl := (List.mem_replicate.1 (List.mem_of_getElem? hg)).2
   cases h1
theorem C.takeKidJ {x : Code} (j i : Nat) {e : Nat} {hs : List Hd} {ls : List (List Int)} (hj : H[j]? = some (OwnKids e hs (J8 ls))) (hi : i < ls.length) (js : List Nat) (hn : (j :: js).Nodup)
   (h : C X β n ds Q x Γ R (Own e 1 (hs.getD i (none, 0)).1 (ls.getD i []).length (hs.getD i (none, 0)).2 (I64 (ls.getD i [])) :: OwnKids e (hs.set i (none, 0)) (J8 (ls.set i [])) :: Sl.sel H js)) : C X β n ds Q x Γ R H := by
 refine C.takeKid j i hj (by rw [J8_len]; exact hi) js hn ?_
 rw [J8_get, I64_len, show (J8 ls).set i [] = J8 (ls.set i []) by simp [J8, List.map_set, I64]]
 exact h
end
def rdE (lf : Bool) (inn out size : Int) (ops : List Po) : Int :=
 if chkE inn out ops ≠ 0 then chkE inn out ops else if lf = true then 62 else if size < 1 ∨ 4096 < size then 1 else if 64 < rdN inn out size.toNat then 2 else 0
def rdC (inn out : Int) (S : Nat) (l : List Sy) : List Bool := chL l S (rdN inn out S) (max inn out).toNat
section
variable {lf : Bool} {inn out size : Int} {ops : List Po}
theorem rdE_1 (h : chkE inn out ops ≠ 0) : rdE lf inn out size ops = chkE inn out ops := by unfold rdE; rw [if_pos h]
theorem rdE_2 (h : chkE inn out ops = 0) (h2 : lf = true) : rdE lf inn out size ops = 62 := by unfold rdE; rw [if_neg (fun g => g h), if_pos h2]
theorem rdE_3 (h : chkE inn out ops = 0) (h2 : lf = false) (h3 : size < 1 ∨ 4096 < size) : rdE lf inn out size ops = 1 := by unfold rdE; rw [if_neg (fun g => g h), if_neg (by rw [h2]; decide), if_pos h3]
theorem rdE_4 (h : chkE inn out ops = 0) (h2 : lf = false) (h3 : 1 ≤ size) (h4 : size ≤ 4096) (h5 : 64 < rdN inn out size.toNat) : rdE lf inn out size ops = 2 := by unfold rdE; rw [if_neg (fun g => g h), if_neg (by rw [h2]; decide), if_neg (by omega), if_pos h5]
theorem rdE_0 (h : chkE inn out ops = 0) (h2 : lf = false) (h3 : 1 ≤ size) (h4 : size ≤ 4096) (h5 : rdN inn out size.toNat ≤ 64) : rdE lf inn out size ops = 0 := by unfold rdE; rw [if_neg (fun g => g h), if_neg (by rw [h2]; decide), if_neg (by omega), if_neg (by omega)]
end
end Go.Sl
end
/-
  Reads of the program.
-/
section
namespace Go.Proofs.YtpccfdnmnnnboaaGreat
open Go.Sl

theorem run_part {P : Program} {t : Nat} {d : TypeDesc} (w : World) {xs : Array Value} {off : Nat} {v : Value} (hu : P.underlying t = some d) (hd : (match d with | .struct _ | .array _ _ => true | _ => false) = false) (hx : xs[off]? = some v) : (part t xs off).run P w = .ok v w := by
 cases d <;> simp at hd <;> simp [part, isAgg, run_underlying hu, hx]
theorem Ev.neSym {β : Base} {Γ : Env} {R H : List Pr} {x y : Operand} {a b : Sy} {ty : Nat} (hx : ev Γ x = some (.agg (List.toArray a.cells))) (hy : ev Γ y = some (.agg (List.toArray b.cells))) :
   Ev X β Γ R H (.binOp .neq 146 x y ty) (.bool (decide (a ≠ b))) := by
 intro ρ w hρ hw o ho
 have e1 := (X.ok 146 _ rfl).und
 have u4 := (X.ok 4 _ rfl).und
 have u3 := (X.ok 3 _ rfl).und
 have u5 := (X.ok 5 _ rfl).und
 have hp : X.P.stoodInHeld 146 = false := by kernel_rfl
 have hg : X.P.eqGuardType X.P.depth 146 = false := by kernel_rfl
 have hf : X.P.fieldsOf 146 = #[⟨ "Old", 4, 0, false, "", "", 0⟩, ⟨ "At", 3, 1, false, "", "", 8⟩, ⟨ "B", 5, 2, false, "", "", 16⟩] := by unfold Program.fieldsOf; rw [e1]; rfl
 have hS : X.P.underlying 146 = some (.struct (X.P.fieldsOf 146)) := by rw [hf]; exact e1
 have hb : (binOp .neq 146 (.agg (List.toArray a.cells)) (.agg (List.toArray b.cells))).run X.P w = .ok (.bool (decide (a ≠ b))) w := by
   rw [run_neq_struct, show (10000 : Nat) = 9998 + 1 + 1 from rfl, run_equalIn_agg w _ 146 _ _ hS hp, hf]
   obtain ⟨a1, a2, a3⟩ := a
   obtain ⟨b1, b2, b3⟩ := b
   simp only [Op.eqFields, Sy.cells]
   have f1 : ∀ (p q r : Value), (part 4 #[p, q, r] 0).run X.P w = .ok p w := fun p q r => run_part w u4 rfl rfl
   have f2 : ∀ (p q r : Value), (part 3 #[p, q, r] 1).run X.P w = .ok q w := fun p q r => run_part w u3 rfl rfl
   have f3 : ∀ (p q r : Value), (part 5 #[p, q, r] 2).run X.P w = .ok r w := fun p q r => run_part w u5 rfl rfl
   have e3 : (a3.toNat : Int) = (b3.toNat : Int) ↔ a3 = b3 := by rw [Int.ofNat_inj, UInt8.toNat_inj]
   simp [f1, f2, f3, run_equalIn_bool' w _ 4 _ _ u4, run_equalIn_int w _ 3 _ _ _ _ u3, run_equalIn_int w _ 5 _ _ _ _ u5]
   by_cases h1 : a1 = b1
   · by_cases h2 : a2 = b2
     · by_cases h3 : a3 = b3
       · simp [h1, h2, h3]
       · simp [h1, h2, h3, e3]
     · simp [h1, h2]
   · simp [h1]
 simp [execOp, ho, hρ _ _ hx, hρ _ _ hy, run_eqGuard_agg w .neq 146 x y _ _ hg, hb]
end Go.Proofs.YtpccfdnmnnnboaaGreat
end
/-
  Right orders, as plain data.
-/
section
namespace Go.Sl

def atL (n : Nat) (seq : List Int) : Nat → List Int
 | 0 => List.replicate n (-1)
 | i + 1 => (atL n seq i).set (seq.getD i 0).toNat (i : Int)
def badS (n : Nat) (seq : List Int) (i : Nat) : Prop := seq.getD i 0 < 0 ∨ (n : Int) ≤ seq.getD i 0 ∨ 0 ≤ (atL n seq i).getD (seq.getD i 0).toNat 0
instance (n : Nat) (seq : List Int) (i : Nat) : Decidable (badS n seq i) := by unfold badS; infer_instance
end Go.Sl
end
/-
  Made readings, as plain data.
-/
section
namespace Go.Sl

def mdN (l : List UInt8) : Nat := max 1 (min l.length 6)
def mdB (l : List UInt8) (u t : Nat) : Bool := decide (t ≠ u) && (l.getD u 0).toNat.testBit t
section
variable {l : List UInt8} {u t k : Nat}
theorem NI_get {l : List Nat} {i : Nat} (h : i < l.length) : (NI l).getD i 0 = ((l[i] : Nat) : Int) := by simp [NI, h]
/-- Numbers of a range that rise are readings. -/
theorem rd_filter {n u : Nat} {p : Nat → Bool} (hp : p u = false) : rdRow n u (NI ((List.range n).filter p)) = true := by
 have hs : List.Pairwise (· < ·) ((List.range n).filter p) := List.Pairwise.filter p List.pairwise_lt_range
 rw [List.pairwise_iff_getElem] at hs
 refine rdRow_yes (fun i hi => ?_)
 rw [NI_len] at hi
 have hm := List.getElem_mem hi
 rw [List.mem_filter, List.mem_range] at hm
 unfold NotRd
 rw [NI_get hi]
 rintro (h | h | h | ⟨h, h2⟩)
 · omega
 · omega
 · have e : ((List.range n).filter p)[i] = u := by omega
   rw [e, hp] at hm
   cases hm.2
 · rw [NI_get (by omega)] at h2
   have := hs (i - 1) i (by omega) hi (by omega)
   omega
end
end Go.Sl
end
