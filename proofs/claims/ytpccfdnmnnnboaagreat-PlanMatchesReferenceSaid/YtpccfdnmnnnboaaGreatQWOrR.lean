/-
  Insert, anywhere.
-/
import Derived.Test.YtpccfdnmnnnboaaGreatQWOrH
import Derived.Test.YtpccfdnmnnnboaaGreatQOj
import Derived.Test.YtpccfdnmnnnboaaGreatQSlV
import Derived.Test.YtpccfdnmnnnboaaGreatQSlN
section
namespace Go.Proofs.YtpccfdnmnnnboaaGreat
open Go.Sl

theorem I64_take (l : List Int) (m : Nat) : (I64 l).take m = I64 (l.take m) := by simp [I64, List.map_take]
set_option maxHeartbeats 1000000 in
theorem insert_c (A : Option Addr) (x : List Int) (c : Nat) (k : Nat) (t : Int) (V : Option Addr) (vc : Nat) (hl : x.length ≤ 1000000) (hk : k ≤ x.length) :
   Ctr X 131 [.slice A x.length c, .int .i64 (k : Int), .slice V 1 vc] [] [Own 3 1 A x.length c (I64 x), Own 3 1 V 1 vc [.int .i64 t]] (fun v R' H' => ∃ (A' : Option Addr) (c' : Nat), v = .slice A' (x.length + 1) c' ∧ R' = [] ∧ H' = [Own 3 1 A' (x.length + 1) c' (I64 (x.take k ++ [t] ++ x.drop k))]) := by
 refine Ctr.of (X := X) (fn := Tryz.f131) Tryz.func131 rfl (by kernel_rfl) rfl ?_
 intro β
 refine C.seq (C.region ?_); refine Lpu rfl rfl ?_; refine L.nil (QE.seq (C.seq (C.region ?_))); refine Lpu rfl rfl ?_; refine Lpu rfl rfl ?_; refine L.step (Ev.sliceL (l := k) rfl rfl rfl rfl rfl rfl (by omega)) rfl ?_; refine L.nil (QE.seq (C.seq (C.region ?_))); refine Lpu rfl rfl ?_; refine Lpu rfl rfl ?_; refine Lpu rfl rfl ?_; refine L.nil (QE.seq (C.seq (C.seq (C.region ?_)))); refine Lpu rfl rfl ?_; refine Lpu rfl rfl ?_; refine L.nil (QE.seq ?_)
 refine C.condB 16 rfl (fun hc16 => ?_) (fun hc16 => ?_)
 ·
  replace hc16 := i_eq hc16
  omega
 ·
  replace hc16 := i_ne hc16
  refine C.skip (QE.seq (C.seq (C.region ?_))); refine Lpu rfl rfl ?_; refine Lpu rfl rfl ?_; refine Lpu rfl rfl ?_; refine L.nil (QE.seq (C.seq (C.seq (C.region ?_)))); refine Lpu rfl rfl ?_; refine Lpu rfl rfl ?_; refine Lpu rfl rfl ?_; refine L.nil (QE.seq ?_)
  refine C.condB 22 rfl (fun hc22 => ?_) (fun hc22 => ?_)
  ·
   replace hc22 := i_eq hc22
   refine C.seq (C.region ?_); refine Lpu rfl rfl ?_; refine Lpu rfl rfl ?_
   refine L.append (j := 0) rfl rfl rfl rfl (by decide) rfl rfl rfl rfl (Src.o 1 rfl) rfl (allOne rfl) (by omega) (by show _ * 8 ≤ _; omega) rfl (fun A25 cc25 => ?_)
   refine Lpu rfl rfl ?_; refine L.nil (QE.seq (C.ret (QE.tR ?_))); refine QE.ret (js := []) (hs := [0]) (vs := [_]) rfl ⟨rfl, trivial⟩ (by decide) ?_
   refine ⟨A25, cc25, rfl, rfl, ?_⟩
   have hkx : k = x.length := by omega
   rw [hkx, List.take_length, List.drop_length, List.append_nil, ← I64_app]
   rfl
  ·
   replace hc22 := i_ne hc22
   refine C.skip (QE.seq (C.seq (C.seq ?_)))
   refine C.cap 0 rfl (fun hcap => ?_)
   refine C.region ?_; refine Lpu rfl rfl ?_; refine Lpu rfl rfl ?_; refine L.step (Ev.add rfl rfl (by omega) (by omega)) rfl ?_; refine Lpu rfl rfl ?_; refine L.step (Ev.capS rfl rfl rfl) rfl ?_; refine Lpu rfl rfl ?_; refine L.nil (QE.seq ?_)
   refine C.condB 31 rfl (fun hc31 => ?_) (fun hc31 => ?_)
   ·
    replace hc31 := of_decide_eq_true hc31
    refine C.seq (C.region ?_); refine Lpu rfl rfl ?_; refine Lpu rfl rfl ?_; refine L.step (Ev.sliceH (h := k) rfl rfl rfl rfl rfl rfl (by omega)) rfl ?_; refine Lpu rfl rfl ?_; refine Lpu rfl rfl ?_; refine L.step (Ev.add rfl rfl (by omega) (by omega)) rfl ?_; refine Lpu rfl rfl ?_; refine L.step (Ev.cast (u := .int .i64 (((x.length + 1 - k) : Nat) : Int)) (Ev.sub rfl rfl (by omega) (by omega)) (congrArg (Value.int .i64) (by omega))) rfl ?_
    refine L.appendZ (j := 0) rfl rfl rfl rfl rfl rfl rfl rfl rfl rfl rfl (by omega) (by rw [I64_len]; omega) (by omega) (by omega) (by omega) (by show _ * 8 ≤ _; omega) rfl (fun A40 cc40 => ?_)
    refine Lpu rfl rfl ?_; refine L.nil (QE.seq (C.seq ?_))
    refine C.cap 2 rfl (fun h40 => ?_)
    refine C.region ?_; refine Lpu rfl rfl ?_; refine Lpu rfl rfl ?_; refine L.step (Ev.sliceL (l := k) rfl rfl rfl rfl rfl rfl (by omega)) rfl ?_; refine Lpu rfl rfl ?_; refine L.copy (j := 2) (o := k) rfl rfl rfl rfl rfl (fun g h _ => by rw [h]; exact subA_atX (by omega)) rfl rfl (Src.o 1 rfl) (by simp; omega) (allOne rfl) (by rw [List.length_append, List.length_take, List.length_replicate, I64_len]; simp; omega) rfl ?_; refine L.nil (QE.seq (C.seq ?_)); refine C.regionM [] trivial ?_; refine LM.q 0 rfl (by kernel_rfl) (Ev.pure rfl) rfl trivial ?_; refine LM.q 1 rfl (by kernel_rfl) (Ev.pure rfl) rfl trivial ?_; refine LM.q 2 rfl (by kernel_rfl) (Ev.pure rfl) rfl trivial ?_; refine LM.q 3 rfl (by kernel_rfl) (Ev.add rfl rfl (by omega) (by omega)) rfl trivial ?_; refine LM.q 4 rfl (by kernel_rfl) (Ev.sliceL (l := k + 1) rfl rfl rfl rfl rfl (by omega) (by omega)) rfl trivial ?_; refine LM.q 5 rfl (by kernel_rfl) (Ev.pure rfl) rfl trivial ?_; refine LM.f 6 rfl (by kernel_rfl) trivial ?_; refine Lpu rfl rfl ?_
    refine L.nil (QE.m (by kernel_rfl) ?_)
    refine LM.f 7 rfl (by kernel_rfl) trivial ?_; refine L.step (Ev.sliceL (l := k) rfl rfl rfl rfl rfl rfl (by omega)) rfl ?_
    refine L.nil (QE.m (by kernel_rfl) ?_)
    refine LM.f 8 rfl (by kernel_rfl) trivial ?_; refine L.copy (j := 2) (o := k + 1) rfl rfl rfl rfl rfl (fun g h _ => by rw [h]; exact subA_atX (by omega)) rfl rfl ((Src.sub (Src.o 0 rfl) c k 1 (by rw [I64_len]; omega)).cast (by rw [Nat.mul_one])) (by rw [List.length_drop, I64_len]; omega) (fun v hv => I64_one _ v (List.mem_of_mem_drop hv)) (by simp [I64_len]; omega) rfl ?_
    refine L.nil (QE.m (by kernel_rfl) ?_)
    refine LM.nil (by kernel_rfl) trivial ?_; refine QE.seq (C.seq (C.region ?_)); refine Lpu rfl rfl ?_; refine Lpu rfl rfl ?_; refine L.nil (QE.seq (C.ret (QE.tR ?_))); refine QE.ret (js := []) (hs := [2]) (vs := [_]) rfl ⟨rfl, trivial⟩ (by decide) ?_
    have e := ins_grow (I64 x) k (.int .i64 t) (.int .i64 0) (by rw [I64_len]; exact hk)
    rw [I64_len] at e
    refine ⟨A40, cc40, congrArg (fun n => Value.slice A40 n cc40) (by omega), rfl, ?_⟩
    rw [← I64_app, ← I64_app, ← I64_drop, ← I64_take]
    exact congrArg (fun z => [z]) (own_eq (by omega) e)
   ·
    replace hc31 := of_decide_eq_false hc31
    refine C.skip (QE.seq (C.seq (C.region ?_))); refine Lpu rfl rfl ?_; refine Lpu rfl rfl ?_; refine Lpu rfl rfl ?_; refine L.step (Ev.add rfl rfl (by omega) (by omega)) rfl ?_; refine L.step (Ev.sliceH (h := x.length + 1) rfl rfl rfl rfl rfl (by omega) (by omega)) rfl ?_; refine Lpu rfl rfl ?_; refine L.nil (QE.seq (C.seq (C.seq ?_)))
    refine C.spare (by omega) (fun u => ?_)
    refine C.region ?_; refine Lpu rfl rfl ?_; refine Lpu rfl rfl ?_; refine Lpu rfl rfl ?_; refine Lpu rfl rfl ?_; refine L.step (Ev.add rfl rfl (by omega) (by omega)) rfl ?_; refine L.step (Ev.sliceL (l := k + 1) rfl rfl rfl rfl rfl (by omega) (by omega)) rfl ?_; refine L.overlaps (i := 1) (j := 0) (o := k + 1) (t := 34) (e := 3) (tR := 4) (fn := Tryz.f152) Tryz.func152 (by kernel_rfl) (by kernel_rfl) (by kernel_rfl) (by kernel_rfl) rfl rfl rfl rfl rfl rfl rfl rfl (by decide) (fun g h => by rw [h]; exact subA_atX (by omega)) (Nat.zero_lt_succ _) (by simp) rfl ?_; refine Lpu rfl rfl ?_; refine L.nil (QE.seq ?_)
    refine C.cond rfl (fun _ => ?_) (fun h => by cases h)
    refine C.seq ?_; refine C.regionM [] trivial ?_; refine LM.q 0 rfl (by kernel_rfl) (Ev.pure rfl) rfl trivial ?_; refine LM.q 1 rfl (by kernel_rfl) (Ev.pure rfl) rfl trivial ?_; refine LM.q 2 rfl (by kernel_rfl) (Ev.pure rfl) rfl trivial ?_; refine LM.q 3 rfl (by kernel_rfl) (Ev.add rfl rfl (by omega) (by omega)) rfl trivial ?_; refine LM.q 4 rfl (by kernel_rfl) (Ev.sliceL (l := k + 1) rfl rfl rfl rfl rfl (by omega) (by omega)) rfl trivial ?_; refine LM.q 5 rfl (by kernel_rfl) (Ev.pure rfl) rfl trivial ?_; refine LM.f 6 rfl (by kernel_rfl) trivial ?_; refine Lpu rfl rfl ?_
    refine L.nil (QE.m (by kernel_rfl) ?_)
    refine LM.f 7 rfl (by kernel_rfl) trivial ?_; refine L.step (Ev.sliceL (l := k) rfl rfl rfl rfl rfl rfl (by omega)) rfl ?_
    refine L.nil (QE.m (by kernel_rfl) ?_)
    refine LM.f 8 rfl (by kernel_rfl) trivial ?_; refine L.copy (j := 0) (o := k + 1) (ys := (I64 x).drop k) rfl rfl rfl rfl rfl (fun g h _ => by rw [h]; exact subA_atX (by omega)) rfl rfl (((Src.sub (Src.o 0 rfl) c k 1 (by rw [List.length_append, I64_len]; simp; omega)).take (x.length - k)).cast (by rw [Nat.mul_one, List.drop_append_of_le_length (by rw [I64_len]; omega), List.take_append_of_le_length (by rw [List.length_drop, I64_len]; omega), List.take_of_length_le (by rw [List.length_drop, I64_len]; omega)])) (by rw [List.length_drop, I64_len]; omega) (fun v hv => I64_one _ v (List.mem_of_mem_drop hv)) (by simp [I64_len]; omega) rfl ?_
    refine L.nil (QE.m (by kernel_rfl) ?_)
    refine LM.nil (by kernel_rfl) trivial ?_; refine QE.seq (C.seq (C.region ?_)); refine Lpu rfl rfl ?_; refine Lpu rfl rfl ?_; refine L.step (Ev.sliceL (l := k) rfl rfl rfl rfl rfl rfl (by omega)) rfl ?_; refine Lpu rfl rfl ?_; refine L.copy (j := 0) (o := k) rfl rfl rfl rfl rfl (fun g h _ => by rw [h]; exact subA_atX (by omega)) rfl rfl (Src.o 1 rfl) (by simp; omega) (allOne rfl) (by simp [I64_len]; omega) rfl ?_; refine L.nil (QE.seq (C.seq (C.region ?_))); refine Lpu rfl rfl ?_; refine Lpu rfl rfl ?_; refine L.nil (QE.seq (C.ret (QE.tR ?_))); refine QE.ret (js := []) (hs := [0]) (vs := [_]) rfl ⟨rfl, trivial⟩ (by decide) ?_
    have e := ins_shift (I64 x) k (.int .i64 t) u (by rw [I64_len]; omega)
    refine ⟨A, c, rfl, rfl, ?_⟩
    rw [← I64_app, ← I64_app, ← I64_drop, ← I64_take]
    exact congrArg (fun z => [z]) (own_eq rfl e)

end Go.Proofs.YtpccfdnmnnnboaaGreat
end
/-
  The readings of a patch, as plain data: rows as filters of a range.
-/
section
namespace Go.Sl

def insJ (t : Int) : List Int → List Int
 | [] => [t]
 | y :: ys => if y < t then y :: insJ t ys else t :: y :: ys
theorem ins_at {t : Int} : ∀ {x : List Int} {k : Nat}, k ≤ x.length → (∀ q, q < k → x.getD q 0 < t) → (∀ q, k ≤ q → q < x.length → t ≤ x.getD q 0) → x.take k ++ [t] ++ x.drop k = insJ t x
 | [], 0, _, _, _ => rfl
 | y :: x, 0, _, _, h => by
   have := h 0 (Nat.le_refl _) (Nat.succ_pos _)
   have h1 : ¬y < t := by
     have e : (y :: x).getD 0 0 = y := rfl
     omega
   rw [insJ, if_neg h1]
   rfl
 | y :: x, k + 1, hk, h1, h2 => by
   have h3 : y < t := h1 0 (Nat.succ_pos _)
   rw [insJ, if_pos h3, ← ins_at (x := x) (k := k) (Nat.le_of_succ_le_succ hk) (fun q hq => h1 (q + 1) (Nat.succ_lt_succ hq)) (fun q hq hq2 => h2 (q + 1) (Nat.succ_le_succ hq) (Nat.succ_lt_succ hq2))]
   rfl
theorem ins_len {α : Type} (x : List α) (k : Nat) (t : α) : (x.take k ++ [t] ++ x.drop k).length = x.length + 1 := by
 simp only [List.length_append, List.length_take, List.length_drop, List.length_singleton]
 omega
theorem filter_gt {p : Nat → Bool} {t : Nat} : ∀ (m a : Nat), t < a → (List.range' a m).filter (fun i => p i || decide (t = i)) = (List.range' a m).filter p := by
 intro m a h
 refine List.filter_congr fun i hi => ?_
 have := List.mem_range'_1.1 hi
 rw [decide_eq_false (by omega), Bool.or_false]
theorem insJ_gt {t : Int} {x : List Int} (h : ∀ y ∈ x, t < y) : insJ t x = t :: x := by
 cases x with
 | nil => rfl
 | cons y x =>
   have := h y List.mem_cons_self
   rw [insJ, if_neg (by omega)]
theorem ins_range {p : Nat → Bool} {t : Nat} (hp : p t = false) : ∀ (m a : Nat), a ≤ t → t < a + m → insJ (t : Int) (NI ((List.range' a m).filter p)) = NI ((List.range' a m).filter fun i => p i || decide (t = i))
 | 0, a, h1, h2 => by omega
 | m + 1, a, h1, h2 => by
   rw [List.range'_succ, List.filter_cons, List.filter_cons]
   by_cases e : t = a
   · subst e
     rw [hp, decide_eq_true rfl, filter_gt m (t + 1) (by omega)]
     simp only [Bool.false_or, if_true, Bool.false_eq_true, if_false]
     refine insJ_gt fun y hy => ?_
     simp only [NI, List.mem_map, List.mem_filter] at hy
     obtain ⟨i, ⟨hi, _⟩, rfl⟩ := hy
     have := List.mem_range'_1.1 hi
     omega
   · have ih := ins_range hp m (a + 1) (by omega) (by omega)
     rw [decide_eq_false e, Bool.or_false]
     cases hpa : p a with
     | true =>
       simp only [if_true]
       show insJ (t : Int) ((a : Int) :: NI ((List.range' (a + 1) m).filter p)) = (a : Int) :: NI _
       rw [insJ, if_pos (by omega), ih]
     | false =>
       simp only [Bool.false_eq_true, if_false]
       exact ih
def rwP (ch : List Bool) (S : Nat) (l : List Sy) (k u t : Nat) : Bool := (List.range k).any fun i => decide (i / S = u) && !skipB ch S i (l.getD i Sy.zero) && decide (rdT (l.getD i Sy.zero) S = t)
def rwR (ch : List Bool) (S n : Nat) (l : List Sy) (k u : Nat) : List Nat := (List.range n).filter (rwP ch S l k u)
def rwM (ch : List Bool) (S n : Nat) (l : List Sy) (k : Nat) : List (List Int) := (List.range n).map fun u => NI (rwR ch S n l k u)
section
variable {ch : List Bool} {S n k u t : Nat} {l : List Sy}
theorem rwP_succ : rwP ch S l (k + 1) u t = (rwP ch S l k u t || (decide (k / S = u) && !skipB ch S k (l.getD k Sy.zero) && decide (rdT (l.getD k Sy.zero) S = t))) := by
 unfold rwP
 rw [List.range_succ, List.any_append]
 simp
theorem rwM_len (ch : List Bool) (S n : Nat) (l : List Sy) (k : Nat) : (rwM ch S n l k).length = n := by simp [rwM]
theorem rwM_get (h : u < n) : (rwM ch S n l k).getD u [] = NI (rwR ch S n l k u) := map_range_getD h _
theorem rwR_len (ch : List Bool) (S n : Nat) (l : List Sy) (k u : Nat) : (rwR ch S n l k u).length ≤ n := by
 have := List.length_filter_le (rwP ch S l k u) (List.range n)
 rwa [List.length_range] at this
theorem rwM_row (ch : List Bool) (S n : Nat) (l : List Sy) (k u : Nat) : ((rwM ch S n l k).getD u []).length ≤ n := by
 rcases Nat.lt_or_ge u n with h | h
 · rw [rwM_get h, NI_len]; exact rwR_len _ _ _ _ _ _
 · rw [getD_ge (by rw [rwM_len]; exact h)]; exact Nat.zero_le _
theorem rwM_zero : rwM ch S n l 0 = List.replicate n [] := by
 refine ext_getD (d := []) (by simp [rwM]) (fun i hi => ?_)
 rw [rwM_len] at hi
 rw [rwM_get hi, getD_rep _ _ _ _ hi]
 have : rwR ch S n l 0 i = [] := by
   unfold rwR
   rw [List.filter_eq_nil_iff]
   intro j _
   simp [rwP]
 rw [this]
 rfl
theorem rwM_srt (ch : List Bool) (S n : Nat) (l : List Sy) (k u : Nat) : ∀ i j, i < j → j < ((rwM ch S n l k).getD u []).length → ((rwM ch S n l k).getD u []).getD i 0 < ((rwM ch S n l k).getD u []).getD j 0 := by
 intro i j hij hj
 rcases Nat.lt_or_ge u n with h | h
 · rw [rwM_get h] at hj ⊢
   rw [NI_len] at hj
   have hs : List.Pairwise (· < ·) (rwR ch S n l k u) := List.Pairwise.filter _ List.pairwise_lt_range
   rw [List.pairwise_iff_getElem] at hs
   rw [NI_get (by omega), NI_get hj]
   have := hs i j (by omega) hj hij
   omega
 · rw [getD_ge (by rw [rwM_len]; exact h)] at hj
   cases hj
theorem rwM_eq {k' : Nat} (h : ∀ u t, u < n → t < n → rwP ch S l k u t = rwP ch S l k' u t) : rwM ch S n l k = rwM ch S n l k' := by
 unfold rwM
 refine List.map_congr_left fun u hu => ?_
 unfold rwR
 rw [List.filter_congr fun t ht => h u t (List.mem_range.1 hu) (List.mem_range.1 ht)]
theorem rwM_skip (h : skipB ch S k (l.getD k Sy.zero) = true) : rwM ch S n l (k + 1) = rwM ch S n l k := by
 refine rwM_eq fun u t _ _ => ?_
 rw [rwP_succ, h]
 simp
theorem rwM_has (hu : u < n) (ht : t < n) : ((rwM ch S n l k).getD u []).contains (t : Int) = rwP ch S l k u t := by
 rw [rwM_get hu, NI_has, Bool.eq_iff_iff, List.contains_iff_mem]
 simp [rwR, ht]
theorem rwM_old (hu : k / S < n) (ht : rdT (l.getD k Sy.zero) S < n) (h : ((rwM ch S n l k).getD (k / S) []).contains (rdT (l.getD k Sy.zero) S : Int) = true) : rwM ch S n l (k + 1) = rwM ch S n l k := by
 rw [rwM_has hu ht] at h
 refine rwM_eq fun u t _ _ => ?_
 rw [rwP_succ]
 by_cases e1 : k / S = u
 · by_cases e2 : rdT (l.getD k Sy.zero) S = t
   · subst e1 e2
     rw [h]
     rfl
   · rw [decide_eq_false e2]
     simp
 · rw [decide_eq_false e1]
   simp
theorem rwM_new {q : Nat} (hu : k / S < n) (ht : rdT (l.getD k Sy.zero) S < n) (h0 : skipB ch S k (l.getD k Sy.zero) = false) (h : ((rwM ch S n l k).getD (k / S) []).contains (rdT (l.getD k Sy.zero) S : Int) = false)
   (hq : q ≤ ((rwM ch S n l k).getD (k / S) []).length) (h1 : ∀ i, i < q → ((rwM ch S n l k).getD (k / S) []).getD i 0 < (rdT (l.getD k Sy.zero) S : Int)) (h2 : ∀ i, q ≤ i → i < ((rwM ch S n l k).getD (k / S) []).length → (rdT (l.getD k Sy.zero) S : Int) ≤ ((rwM ch S n l k).getD (k / S) []).getD i 0) :
   rwM ch S n l (k + 1) = (rwM ch S n l k).set (k / S) (((rwM ch S n l k).getD (k / S) []).take q ++ [(rdT (l.getD k Sy.zero) S : Int)] ++ ((rwM ch S n l k).getD (k / S) []).drop q) := by
 rw [ins_at hq h1 h2]
 rw [rwM_has hu ht] at h
 refine ext_getD (d := []) (by rw [List.length_set, rwM_len, rwM_len]) (fun u hun => ?_)
 rw [rwM_len] at hun
 rw [rwM_get hun]
 by_cases e1 : k / S = u
 · subst e1
   rw [getD_set_eq (by rw [rwM_len]; exact hu), rwM_get hu]
   have := ins_range (p := rwP ch S l k (k / S)) h n 0 (Nat.zero_le _) (by omega)
   rw [← List.range_eq_range'] at this
   unfold rwR
   rw [this]
   congr 1
   refine List.filter_congr fun t _ => ?_
   rw [rwP_succ, h0, decide_eq_true rfl]
   rfl
 · rw [getD_set_ne e1, rwM_get hun]
   unfold rwR
   congr 1
   refine List.filter_congr fun t _ => ?_
   rw [rwP_succ, decide_eq_false e1]
   simp
end
def rdM (lf : Bool) (inn out size : Int) (ops : List Po) : List (List Int) :=
 if rdE lf inn out size ops = 0 then rwM (rdC inn out size.toNat (symL ops)) size.toNat (rdN inn out size.toNat) (symL ops) (symL ops).length else []
section
variable {lf : Bool} {inn out size : Int} {ops : List Po}
theorem rdM_no (h : rdE lf inn out size ops ≠ 0) : rdM lf inn out size ops = [] := by unfold rdM; rw [if_neg h]
theorem rdM_ok (h : rdE lf inn out size ops = 0) : rdM lf inn out size ops = rwM (rdC inn out size.toNat (symL ops)) size.toNat (rdN inn out size.toNat) (symL ops) (symL ops).length := by unfold rdM; rw [if_pos h]
end
end Go.Sl
end
