/-
  Plans, as plain data: the readings of a plan, and those among the sectors that change.
-/
import Derived.Test.YtpccfdnmnnnboaaGreatQSlS
namespace Go.Sl

section
variable {l : List Sy} {inn out : Int} {S n t u : Nat}
theorem chgB_hi (hS : 1 ≤ S) (hl : (l.length : Int) = out) (h : rdN inn out S ≤ t) : chgB l inn S t = false := by
 have hc := rdN_cover (inn := inn) (out := out) hS
 have hm := Nat.mul_le_mul_right S h
 refine any_no (p := fun a => chY l inn (t * S + a)) fun a _ => ?_
 unfold chY
 rw [if_neg (by omega)]
 exact decide_eq_false (by omega)
theorem rdsB_chg (h : rdsB l inn S u t = true) : chgB l inn S u = true ∧ chgB l inn S t = true := by
 unfold rdsB at h
 simp only [Bool.and_eq_true] at h
 exact ⟨h.1.1.2, h.1.2⟩
theorem rdsB_no1 (h : chgB l inn S u = false) : rdsB l inn S u t = false := by unfold rdsB; rw [h]; simp
theorem rdsB_no2 (h : chgB l inn S t = false) : rdsB l inn S u t = false := by unfold rdsB; rw [h]; simp
theorem rdsL_get {k : Nat} (h : u < k) : (rdsL l inn S n k).getD u [] = NI (rdsR l inn S u n) := map_range_getD h _
theorem rdsL_has {k : Nat} (h : u < k) (ht : t < n) : ((rdsL l inn S n k).getD u []).contains (t : Int) = rdsB l inn S u t := by
 rw [rdsL_get h, NI_has, Bool.eq_iff_iff, List.contains_iff_mem]
 simp [rdsR, ht]
theorem filter_hi {p : Nat → Bool} {N : Nat} (h : ∀ t, N ≤ t → p t = false) : ∀ {n : Nat}, N ≤ n → (List.range n).filter p = (List.range N).filter p
 | 0, hn => by obtain rfl : N = 0 := by omega
               rfl
 | n + 1, hn => by
   by_cases e : N = n + 1
   · rw [e]
   · rw [List.range_succ, List.filter_append, filter_hi h (by omega : N ≤ n), List.filter_cons, h n (by omega)]
     simp
theorem rds_pad (hS : 1 ≤ S) (hl : (l.length : Int) = out) (hN : rdN inn out S ≤ n) : padM (rdsL l inn S (rdN inn out S) (rdN inn out S)) n = rdsL l inn S n n := by
 refine ext_getD (d := []) (by rw [padM_len (by rw [rdsL_len]; exact hN), rdsL_len]) (fun u hu => ?_)
 rw [padM_len (by rw [rdsL_len]; exact hN)] at hu
 rw [padM_get, rdsL_get hu]
 by_cases h : u < rdN inn out S
 · rw [rdsL_get h]
   congr 1
   exact (filter_hi (fun t ht => rdsB_no2 (chgB_hi hS hl ht)) hN).symm
 · rw [getD_ge (by rw [rdsL_len]; omega)]
   have : rdsR l inn S u n = [] := by
     unfold rdsR
     rw [List.filter_eq_nil_iff]
     intro t _
     rw [rdsB_no1 (chgB_hi hS hl (by omega))]
     decide
   rw [this]
   rfl
theorem siz_N (hS : 1 ≤ S) (h1 : inn ≤ (S : Int) * (n : Int)) (h2 : out ≤ (S : Int) * (n : Int)) : rdN inn out S ≤ n := by
 unfold rdN
 rw [← Int.natCast_mul, Nat.mul_comm] at h1 h2
 have h3 : (max inn out).toNat ≤ n * S := by omega
 have h4 : (max inn out).toNat + S - 1 < (n + 1) * S := by rw [Nat.succ_mul]; omega
 have := (Nat.div_lt_iff_lt_mul hS).2 h4
 omega
theorem rd_fine {ops : List Po} (hE : chkE inn out ops = 0) (h1 : 1 ≤ S) (h2 : S ≤ 4096) (hn : n ≤ 64) (h3 : inn ≤ (S : Int) * (n : Int)) (h4 : out ≤ (S : Int) * (n : Int)) :
   rdE false inn out (S : Int) ops = 0 ∧ rdM false inn out (S : Int) ops = rdsL (symL ops) inn S (rdN inn out S) (rdN inn out S) ∧ rdN inn out S ≤ n ∧ ((symL ops).length : Int) = out := by
 obtain ⟨k1, k2, k3, k4, k5, k6⟩ := chkE_ok hE
 have hl : ((symL ops).length : Int) = out := chkG_tot ops out k3 k6
 have hN := siz_N h1 h3 h4
 have he : rdE false inn out (S : Int) ops = 0 := rdE_0 hE rfl (by omega) (by omega) (by rw [Int.toNat_natCast]; omega)
 refine ⟨he, ?_, hN, hl⟩
 rw [rdM_ok he, Int.toNat_natCast]
 exact rows_eq h1 hl rfl
end

section
variable {R H : List Pr}
theorem rows_pad {hs : List Hd} {M : List (List Int)} {n : Nat} (h : hs.length = M.length) : rowsV hs (J8 M) ++ List.replicate (n - M.length) (Value.slice none 0 0) = rowsV (hs ++ List.replicate (n - M.length) (none, 0)) (J8 (padM M n)) := by
 rw [rows0]
 unfold rowsV padM J8
 rw [List.map_append, List.zipWith_append (by rw [List.length_map]; exact h)]
theorem Has.kidsPad (j : Nat) {hs : List Hd} {M : List (List Int)} (hj : R[j]? = some (KidsR hs (J8 M))) (hl : hs.length = M.length) (m : Nat) : Has R H (KidsR (hs ++ List.replicate m (none, 0)) (J8 (M ++ List.replicate m []))) := by
 have hJ : J8 (M ++ List.replicate m []) = J8 M ++ List.replicate m [] := by simp [J8, I64]
 rw [hJ]
 have old : ∀ (i : Nat) (h : Hd) (v : List Value), (hs ++ List.replicate m (none, 0))[i]? = some h → (J8 M ++ List.replicate m [])[i]? = some v → (hs[i]? = some h ∧ (J8 M)[i]? = some v) ∨ v = [] := by
   intro i h v hh hv
   by_cases hi : i < hs.length
   · rw [List.getElem?_append_left hi] at hh
     rw [List.getElem?_append_left (by rw [J8_len]; omega)] at hv
     exact .inl ⟨hh, hv⟩
   · rw [List.getElem?_append_right (by rw [J8_len]; omega)] at hv
     exact .inr (List.mem_replicate.1 (List.mem_of_getElem? hv)).2
 have hh := Has.r (H := H) j hj
 refine ⟨fun β w hs2 i h v h1 h2 => ?_, fun k ⟨i, h, v, h1, h2, h3⟩ => ?_⟩
 · rcases old i h v h1 h2 with ⟨a, b⟩ | rfl
   · exact hh.1 β w hs2 i h v a b
   · intro j u hu
     simp at hu
 · rcases old i h v h1 h2 with ⟨a, b⟩ | rfl
   · exact hh.2 k ⟨i, h, v, a, b, h3⟩
   · exact absurd rfl h3.1
end

/-! ### The rows of the readings among the sectors that change, while they are made -/
def rowJ (chg : List Nat) (M : List (List Int)) (i j : Nat) : List Int := ((M.getD (chg.getD i 0) []).take j).map fun u => ((idxN chg u.toNat : Nat) : Int)
def amB (chg : List Nat) (M : List (List Int)) (i : Nat) : List (List Int) := amoL chg M i ++ List.replicate (chg.length - i) []
def amJ (chg : List Nat) (M : List (List Int)) (i j : Nat) : List (List Int) := (amB chg M i).set i (rowJ chg M i j)
section
variable {chg : List Nat} {M : List (List Int)} {i j : Nat}
theorem amB_len (h : i ≤ chg.length) : (amB chg M i).length = chg.length := by
 unfold amB
 rw [List.length_append, amoL_len, List.length_replicate]
 omega
theorem amJ_len (h : i ≤ chg.length) : (amJ chg M i j).length = chg.length := by unfold amJ; rw [List.length_set, amB_len h]
theorem amB_zero : amB chg M 0 = List.replicate chg.length [] := by simp [amB, amoL]
theorem amB_all : amB chg M chg.length = amoL chg M chg.length := by simp [amB]
theorem amJ_get (h : i < chg.length) : (amJ chg M i j).getD i [] = rowJ chg M i j := getD_set_eq (by rw [amB_len (Nat.le_of_lt h)]; exact h) _ _
theorem amJ_zero (h : i < chg.length) : amJ chg M i 0 = amB chg M i := by
 unfold amJ
 refine ext_getD (d := []) (by rw [List.length_set]) (fun k hk => ?_)
 rw [List.length_set, amB_len (Nat.le_of_lt h)] at hk
 by_cases e : i = k
 · subst e
   rw [getD_set_eq (by rw [amB_len (Nat.le_of_lt h)]; exact h)]
   have e2 : (amB chg M i).getD i [] = [] := by
     unfold amB
     rw [List.getD_eq_getElem?_getD, List.getElem?_append_right (by rw [amoL_len]; omega), amoL_len, Nat.sub_self, List.getElem?_replicate]
     split <;> rfl
   rw [e2]
   rfl
 · rw [getD_set_ne e]
theorem rowJ_succ (h : j < (M.getD (chg.getD i 0) []).length) : rowJ chg M i (j + 1) = rowJ chg M i j ++ [((idxN chg ((M.getD (chg.getD i 0) []).getD j 0).toNat : Nat) : Int)] := by
 unfold rowJ
 rw [take_snoc' _ 0 j h, List.map_append]
 rfl
theorem rowJ_len (h : j ≤ (M.getD (chg.getD i 0) []).length) : (rowJ chg M i j).length = j := by
 unfold rowJ
 rw [List.length_map, List.length_take]
 omega
theorem amJ_put : amJ chg M i (j + 1) = (amJ chg M i j).set i (rowJ chg M i (j + 1)) := by unfold amJ; rw [List.set_set]
theorem amJ_full (h : i < chg.length) (hr : rowJ chg M i j = NI (amoR chg M i)) : amJ chg M i j = amB chg M (i + 1) := by
 unfold amJ
 rw [hr]
 refine ext_getD (d := []) (by rw [List.length_set, amB_len (by omega), amB_len (by omega)]) (fun k hk => ?_)
 rw [List.length_set, amB_len (Nat.le_of_lt h)] at hk
 unfold amB
 by_cases e : i = k
 · subst e
   rw [getD_set_eq (by rw [List.length_append, amoL_len, List.length_replicate]; omega), List.getD_eq_getElem?_getD, List.getElem?_append_left (by rw [amoL_len]; omega), ← List.getD_eq_getElem?_getD]
   unfold amoL
   exact (map_range_getD (g := fun i => NI (amoR chg M i)) (Nat.lt_succ_self i) []).symm
 · rw [getD_set_ne e]
   by_cases q : k < i
   · simp only [List.getD_eq_getElem?_getD]
     rw [List.getElem?_append_left (by rw [amoL_len]; omega), List.getElem?_append_left (by rw [amoL_len]; omega)]
     simp only [← List.getD_eq_getElem?_getD]
     unfold amoL
     rw [map_range_getD q, map_range_getD (by omega)]
   · simp only [List.getD_eq_getElem?_getD]
     rw [List.getElem?_append_right (by rw [amoL_len]; omega), List.getElem?_append_right (by rw [amoL_len]; omega), List.getElem?_replicate, List.getElem?_replicate]
     split <;> split <;> rfl
end
section
variable {l : List Sy} {inn : Int} {S n i : Nat}
theorem chg_lt (h : i < (chgL l inn S n).length) : (chgL l inn S n).getD i 0 < n ∧ chgB l inn S ((chgL l inn S n).getD i 0) = true := by
 have : (chgL l inn S n).getD i 0 ∈ chgL l inn S n := by
   rw [List.getD_eq_getElem?_getD, List.getElem?_eq_getElem h]
   exact List.getElem_mem h
 exact mem_chgL.1 this
/-- The row of a sector that changes, whole. -/
theorem rowJ_all (h : i < (chgL l inn S n).length) : rowJ (chgL l inn S n) (rdsL l inn S n n) i ((rdsL l inn S n n).getD ((chgL l inn S n).getD i 0) []).length = NI (amoR (chgL l inn S n) (rdsL l inn S n n) i) := by
 obtain ⟨h1, h2⟩ := chg_lt h
 unfold rowJ amoR
 rw [List.take_length, rdsL_get h1]
 have hr := row_idx (c := chgB l inn S) (r := rdsB l inn S ((chgL l inn S n).getD i 0)) (fun u hu => (rdsB_chg hu).2) n
 have e1 : (NI (rdsR l inn S ((chgL l inn S n).getD i 0) n)).map (fun u => ((idxN (chgL l inn S n) u.toNat : Nat) : Int)) = NI ((rdsR l inn S ((chgL l inn S n).getD i 0) n).map (idxN (chgL l inn S n))) := by
   unfold NI
   rw [List.map_map, List.map_map]
   rfl
 rw [e1]
 congr 1
 refine hr.trans (List.filter_congr fun k hk => ?_)
 have hk2 := chg_lt (List.mem_range.1 hk)
 rw [← rdsL_get h1, rdsL_has h1 hk2.1]
 rfl
/-- The sectors that are read are among those that change. -/
theorem row_mem {u j : Nat} (hu : u < n) (hj : j < ((rdsL l inn S n n).getD u []).length) : ∃ t, ((rdsL l inn S n n).getD u []).getD j 0 = ((t : Nat) : Int) ∧ t < n ∧ rdsB l inn S u t = true ∧ t ∈ chgL l inn S n := by
 rw [rdsL_get hu] at hj ⊢
 rw [NI_len] at hj
 have hm := List.getElem_mem hj
 have hm2 := hm
 unfold rdsR at hm2
 rw [List.mem_filter, List.mem_range] at hm2
 refine ⟨_, NI_get hj, hm2.1, hm2.2, mem_chgL.2 ⟨hm2.1, (rdsB_chg hm2.2).2⟩⟩
theorem amo_ok : readB (amoL (chgL l inn S n) (rdsL l inn S n n) (chgL l inn S n).length) = true := by
 refine readB_yes fun i hi => ?_
 rw [amoL_len] at hi ⊢
 unfold amoL
 rw [map_range_getD hi]
 refine rd_filter ?_
 have h1 := chg_lt hi
 rw [rdsL_has h1.1 h1.1]
 unfold rdsB
 simp
theorem amo_row (i : Nat) : ((amoL (chgL l inn S n) (rdsL l inn S n n) (chgL l inn S n).length).getD i []).length ≤ n := by
 have h0 := chgL_len l inn S n
 by_cases h : i < (chgL l inn S n).length
 · unfold amoL
   rw [map_range_getD h, NI_len]
   exact Nat.le_trans (amoR_len _ _ _) h0
 · rw [getD_ge (by rw [amoL_len]; omega)]
   exact Nat.zero_le _
end
/-! ### What Make makes -/
structure Pp where
 sz : Int
 n : Int
 lf : Bool
 inn : Int
 out : Int
 ops : List Po
 q : List Int
 h : List Int
def Pp.zero : Pp := ⟨0, 0, false, 0, 0, [], [], []⟩
def mkM (inn : Int) (S n : Nat) (ops : List Po) : List (List Int) := amoL (chgL (symL ops) inn S n) (rdsL (symL ops) inn S n n) (chgL (symL ops) inn S n).length
def mkE (lf : Bool) (inn out sz n : Int) (ops : List Po) (ol : Nat) : Int :=
 if chkE inn out ops ≠ 0 then 60 else if lf = true then 62 else if sizB sz n inn out = false then 190 else if (ol : Int) ≠ inn then 61 else if 16 < (chgL (symL ops) inn sz.toNat n.toNat).length then 2 else 0
def mkP (lf : Bool) (inn out sz n : Int) (ops : List Po) (ol : Nat) : Pp :=
 if mkE lf inn out sz n ops ol = 0 then ⟨sz, n, lf, inn, out, ops, NI (namL (chgL (symL ops) inn sz.toNat n.toNat) (ordQ (mkM inn sz.toNat n.toNat ops))), NI (namL (chgL (symL ops) inn sz.toNat n.toNat) (ordH (mkM inn sz.toNat n.toNat ops)))⟩ else Pp.zero
section
variable {lf : Bool} {inn out sz n : Int} {ops : List Po} {ol : Nat}
theorem mkE_1 (h : chkE inn out ops ≠ 0) : mkE lf inn out sz n ops ol = 60 := by unfold mkE; rw [if_pos h]
theorem mkE_2 (h : chkE inn out ops = 0) (h2 : lf = true) : mkE lf inn out sz n ops ol = 62 := by unfold mkE; rw [if_neg (fun g => g h), if_pos h2]
theorem mkE_3 (h : chkE inn out ops = 0) (h2 : lf = false) (h3 : sizB sz n inn out = false) : mkE lf inn out sz n ops ol = 190 := by unfold mkE; rw [if_neg (fun g => g h), if_neg (by rw [h2]; decide), if_pos h3]
theorem mkE_4 (h : chkE inn out ops = 0) (h2 : lf = false) (h3 : sizB sz n inn out = true) (h4 : (ol : Int) ≠ inn) : mkE lf inn out sz n ops ol = 61 := by unfold mkE; rw [if_neg (fun g => g h), if_neg (by rw [h2]; decide), if_neg (by rw [h3]; decide), if_pos h4]
theorem mkE_5 (h : chkE inn out ops = 0) (h2 : lf = false) (h3 : sizB sz n inn out = true) (h4 : (ol : Int) = inn) (h5 : 16 < (chgL (symL ops) inn sz.toNat n.toNat).length) : mkE lf inn out sz n ops ol = 2 := by
 unfold mkE; rw [if_neg (fun g => g h), if_neg (by rw [h2]; decide), if_neg (by rw [h3]; decide), if_neg (fun g => g h4), if_pos h5]
theorem mkE_0 (h : chkE inn out ops = 0) (h2 : lf = false) (h3 : sizB sz n inn out = true) (h4 : (ol : Int) = inn) (h5 : (chgL (symL ops) inn sz.toNat n.toNat).length ≤ 16) : mkE lf inn out sz n ops ol = 0 := by
 unfold mkE; rw [if_neg (fun g => g h), if_neg (by rw [h2]; decide), if_neg (by rw [h3]; decide), if_neg (fun g => g h4), if_neg (by omega)]
theorem mkP_no (h : mkE lf inn out sz n ops ol ≠ 0) : mkP lf inn out sz n ops ol = Pp.zero := by unfold mkP; rw [if_neg h]
theorem mkP_ok (h : mkE lf inn out sz n ops ol = 0) : mkP lf inn out sz n ops ol = ⟨sz, n, lf, inn, out, ops, NI (namL (chgL (symL ops) inn sz.toNat n.toNat) (ordQ (mkM inn sz.toNat n.toNat ops))), NI (namL (chgL (symL ops) inn sz.toNat n.toNat) (ordH (mkM inn sz.toNat n.toNat ops)))⟩ := by unfold mkP; rw [if_pos h]
end
end Go.Sl
