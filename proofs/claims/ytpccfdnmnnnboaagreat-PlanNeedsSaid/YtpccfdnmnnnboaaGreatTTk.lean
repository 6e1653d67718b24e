/-
  What a plan that is made is, as plain data.
-/
import Derived.Test.YtpccfdnmnnnboaaGreatTTg
import Derived.Test.YtpccfdnmnnnboaaGreatTWPlO
section
namespace Go.Sl

theorem getD_mem {l : List Nat} {i : Nat} (h : i < l.length) : l.getD i 0 ∈ l := by
 rw [List.getD_eq_getElem?_getD, List.getElem?_eq_getElem h]
 exact List.getElem_mem h
theorem rise_get {l : List Nat} (h : l.Pairwise (· < ·)) {i k : Nat} (hik : i < k) (hk : k < l.length) : l.getD i 0 < l.getD k 0 := by
 rw [List.getD_eq_getElem?_getD, List.getD_eq_getElem?_getD, List.getElem?_eq_getElem hk, List.getElem?_eq_getElem (by omega)]
 exact List.pairwise_iff_getElem.1 h i k (by omega) hk hik
section
variable {l : List Sy} {inn : Int} {S n : Nat}
/-- The readings among the sectors that change. -/
def amoM (l : List Sy) (inn : Int) (S n : Nat) : List (List Int) := amoL (chgL l inn S n) (rdsL l inn S n n) (chgL l inn S n).length
/-- The order of a plan, and its stash. -/
def mkQ (l : List Sy) (inn : Int) (S n : Nat) : List Nat := namL (chgL l inn S n) (ordQ (amoM l inn S n))
def mkH (l : List Sy) (inn : Int) (S n : Nat) : List Nat := namL (chgL l inn S n) (ordH (amoM l inn S n))
theorem amo_p {i k : Nat} (hi : i < (chgL l inn S n).length) (hk : k < (chgL l inn S n).length) : rdP (amoM l inn S n) i k = rdsB l inn S ((chgL l inn S n).getD i 0) ((chgL l inn S n).getD k 0) := by
 unfold rdP amoM amoL
 rw [map_range_getD hi, NI_has, Bool.eq_iff_iff, List.contains_iff_mem]
 unfold amoR
 rw [List.mem_filter, List.mem_range, rdsL_has (chg_lt hi).1 (chg_lt hk).1]
 exact ⟨fun h => h.2, fun h => ⟨hk, h⟩⟩
theorem mk_set (h16 : (chgL l inn S n).length ≤ 16) : ∃ s, ordH (amoM l inn S n) = mem s (chgL l inn S n).length ∧ (∀ t, t < (chgL l inn S n).length → ((ordH (amoM l inn S n)).contains t = s.testBit t)) ∧ ordQ (amoM l inn S n) = frs (chgL l inn S n).length (rdP (amoM l inn S n)) s.testBit (chgL l inn S n).length ∧ (ordQ (amoM l inn S n)).length = (chgL l inn S n).length := by
 have hlen : (amoM l inn S n).length = (chgL l inn S n).length := amoL_len _ _ _
 obtain ⟨s, h1, h2, h3, h4, _⟩ := ord16 (ls := amoM l inn S n) amo_ok (by rw [hlen]; exact h16)
 rw [hlen] at h1 h3 h4
 have hb : 2 ^ (chgL l inn S n).length ≤ 2 ^ 16 := Nat.pow_le_pow_right (by decide) h16
 have h16' : (2 : Nat) ^ 16 = 65536 := by decide
 refine ⟨s, by rw [h2, mem64 (by omega) h1], fun t ht => ?_, h3, by rw [h3]; exact full_iff.1 h4⟩
 rw [h2, mem_has (by omega)]
theorem mkQ_len (h16 : (chgL l inn S n).length ≤ 16) : (mkQ l inn S n).length = (chgL l inn S n).length := by
 obtain ⟨s, _, _, _, h⟩ := mk_set h16
 unfold mkQ
 rw [namL_len, h]
theorem mkQ_mem (h16 : (chgL l inn S n).length ≤ 16) {t : Nat} : t ∈ mkQ l inn S n ↔ t ∈ chgL l inn S n := by
 obtain ⟨s, _, _, h3, h⟩ := mk_set h16
 unfold mkQ namL
 rw [List.mem_map]
 constructor
 · rintro ⟨i, hi, rfl⟩
   rw [h3] at hi
   exact getD_mem (frs_mem _ i hi)
 · intro ht
   obtain ⟨i, hi, rfl⟩ := List.getElem_of_mem ht
   refine ⟨i, ?_, by rw [List.getD_eq_getElem?_getD, List.getElem?_eq_getElem hi]; rfl⟩
   rw [h3] at h ⊢
   exact full_has (frs_nodup _) (frs_mem _) h hi
theorem mkH_mem (h16 : (chgL l inn S n).length ≤ 16) : ∀ t ∈ mkH l inn S n, t ∈ chgL l inn S n := by
 obtain ⟨s, h1, _⟩ := mk_set h16
 unfold mkH namL
 rw [h1]
 intro t ht
 obtain ⟨i, hi, rfl⟩ := List.mem_map.1 ht
 unfold mem at hi
 exact getD_mem (List.mem_range.1 (List.mem_filter.1 hi).1)
theorem mkH_rise (h16 : (chgL l inn S n).length ≤ 16) : (mkH l inn S n).Pairwise (· < ·) := by
 obtain ⟨s, h1, _⟩ := mk_set h16
 unfold mkH namL
 rw [h1, List.pairwise_map]
 refine List.Pairwise.imp_of_mem (fun {a b} ha hb hab => ?_) (mem_rise s _)
 unfold mem at hb
 exact rise_get (chgL_pair l inn S n) hab (List.mem_range.1 (List.mem_filter.1 hb).1)
theorem mkH_len (h16 : (chgL l inn S n).length ≤ 16) : (mkH l inn S n).length ≤ (chgL l inn S n).length := by
 obtain ⟨s, h1, _⟩ := mk_set h16
 unfold mkH
 rw [namL_len, h1]
 exact mem_len _ _
/-- No sector is written before one that reads it, unless it is stashed. -/
theorem mk_pair (h16 : (chgL l inn S n).length ≤ 16) : (mkQ l inn S n).Pairwise fun x y => x ∈ mkH l inn S n ∨ rdsB l inn S y x = false := by
 obtain ⟨s, h1, h2, h3, h⟩ := mk_set h16
 unfold mkQ namL
 rw [List.pairwise_map, h3]
 refine List.Pairwise.imp_of_mem (fun {a b} ha hb hab => ?_) (frs_pair (n := (chgL l inn S n).length) (p := rdP (amoM l inn S n)) (st := s.testBit) _).1
 have ha' := frs_mem _ _ ha
 have hb' := frs_mem _ _ hb
 rcases hab with g | g
 · refine .inl ?_
   unfold mkH namL
   exact List.mem_map.2 ⟨a, List.contains_iff_mem.1 (by rw [h2 a ha']; exact g), rfl⟩
 · exact .inr (by rw [← amo_p hb' ha']; exact g)
theorem NI_mem {l : List Nat} {t : Nat} : ((t : Nat) : Int) ∈ NI l ↔ t ∈ l := by
 rw [← List.contains_iff_mem, NI_has, List.contains_iff_mem]
theorem NI_idxOf (t : Nat) : ∀ l : List Nat, (NI l).idxOf (t : Int) = l.idxOf t
 | [] => rfl
 | a :: l => by
   show ((a : Int) :: NI l).idxOf (t : Int) = _
   rw [List.idxOf_cons, List.idxOf_cons, NI_idxOf t l, show ((a : Int) == (t : Int)) = (a == t) by rw [Bool.eq_iff_iff, beq_iff_eq, beq_iff_eq]; omega]
theorem NI_idx (l : List Nat) (t : Nat) : idxJ (NI l) (t : Int) = if t ∈ l then ((l.idxOf t : Nat) : Int) else -1 := by
 unfold idxJ
 rw [NI_has, NI_idxOf]
 by_cases h : t ∈ l
 · rw [if_pos (List.contains_iff_mem.2 h), if_pos h]
 · rw [if_neg (fun g => h (List.contains_iff_mem.1 g)), if_neg h]
theorem mk_stB (h16 : (chgL l inn S n).length ≤ 16) : stB (NI (chgL l inn S n)) (NI (mkH l inn S n)) = true := by
 refine all_yes fun i hi => ?_
 rw [NI_len] at hi
 have hg := NI_get hi
 have hc : (NI (chgL l inn S n)).contains ((NI (mkH l inn S n)).getD i 0) = true := by
   rw [hg, NI_has, List.contains_iff_mem]
   exact mkH_mem h16 _ (List.getElem_mem hi)
 by_cases h0 : 0 < i
 · refine stT_yes2 hc ?_
   have := rise_get (mkH_rise h16) (show i - 1 < i by omega) hi
   have e1 := NI_get (l := mkH l inn S n) (i := i - 1) (by omega)
   rw [List.getD_eq_getElem?_getD, List.getD_eq_getElem?_getD, List.getElem?_eq_getElem hi, List.getElem?_eq_getElem (by omega)] at this
   rw [e1, hg]
   simp only [Option.getD_some] at this
   omega
 · exact stT_yes1 hc h0
theorem mk_plB (h16 : (chgL l inn S n).length ≤ 16) : plB l inn S n (NI (mkQ l inn S n)) (NI (mkH l inn S n)) = true := by
 refine all_yes fun u hu => all_yes fun t ht => ?_
 cases hr : rdsB l inn S u t with
 | false => rfl
 | true =>
   have h1 := rdsB_chg hr
   have hum : u ∈ mkQ l inn S n := (mkQ_mem h16).2 (mem_chgL.2 ⟨hu, h1.1⟩)
   have htm : t ∈ mkQ l inn S n := (mkQ_mem h16).2 (mem_chgL.2 ⟨ht, h1.2⟩)
   rw [Bool.not_true, Bool.false_or]
   by_cases hs : t ∈ mkH l inn S n
   · exact okT_yes1 (by rw [NI_has]; exact List.contains_iff_mem.2 hs)
   · refine okT_yes2 fun hlt => ?_
     rw [NI_idx, NI_idx, if_pos hum, if_pos htm] at hlt
     have hul := List.idxOf_lt_length_iff.2 hum
     have htl := List.idxOf_lt_length_iff.2 htm
     have := List.pairwise_iff_getElem.1 (mk_pair h16) _ _ htl hul (by omega)
     rw [List.getElem_idxOf, List.getElem_idxOf, hr] at this
     rcases this with g | g
     · exact hs g
     · cases g
end
section
variable {lf : Bool} {inn out sz n : Int} {ops : List Po} {ol : Nat}
theorem mkE_ok (h : mkE lf inn out sz n ops ol = 0) : chkE inn out ops = 0 ∧ lf = false ∧ sizB sz n inn out = true ∧ (ol : Int) = inn ∧ (chgL (symL ops) inn sz.toNat n.toNat).length ≤ 16 := by
 unfold mkE at h
 split at h
 · omega
 · rename_i h1
   split at h
   · omega
   · rename_i h2
     split at h
     · omega
     · rename_i h3
       split at h
       · omega
       · rename_i h4
         split at h
         · omega
         · rename_i h5
           refine ⟨by omega, by simpa using h2, by simpa using h3, by omega, by omega⟩
theorem mkP_is (h : mkE lf inn out sz n ops ol = 0) : mkP lf inn out sz n ops ol = ⟨sz, n, lf, inn, out, ops, NI (mkQ (symL ops) inn sz.toNat n.toNat), NI (mkH (symL ops) inn sz.toNat n.toNat)⟩ := mkP_ok h
/-- A plan that is made is valid. -/
theorem mk_val (h : mkE lf inn out sz n ops ol = 0) : vldB lf sz n inn out ops (NI (mkQ (symL ops) inn sz.toNat n.toNat)) (NI (mkH (symL ops) inn sz.toNat n.toNat)) = true := by
 obtain ⟨h1, h2, h3, h4, h5⟩ := mkE_ok h
 refine val_iff.2 ⟨h1, h2, h3, (srt_iff (chgL_pair _ _ _ _)).2 ⟨by rw [NI_len, mkQ_len h5], fun t ht => NI_mem.2 ((mkQ_mem h5).2 ht)⟩, mk_stB h5, mk_plB h5⟩
end
end Go.Sl
end
/-
  The plans that the laws speak of: what they are.
-/
section
namespace Go.Sl

section
variable (a z : UInt8) (l : List T3)
theorem mdQ_is : mdQ a z l = NI (mkQ (symL (mdK a l).1) (mdI a : Int) (mdS z) (mdW a z l)) := rfl
theorem mdH_is : mdH a z l = NI (mkH (symL (mdK a l).1) (mdI a : Int) (mdS z) (mdW a z l)) := rfl
theorem mdQ_len : (mdQ a z l).length ≤ 16 := by
 have := mdC_len a z l
 rw [mdQ_is, NI_len, mkQ_len (mdC_len a z l)]
 exact this
theorem mdH_len : (mdH a z l).length ≤ 16 := by
 rw [mdH_is, NI_len]
 exact Nat.le_trans (mkH_len (mdC_len a z l)) (mdC_len a z l)
theorem md_at {k : Nat} (hk : k < (mdQ a z l).length) : ∃ t : Nat, (mdQ a z l).getD k 0 = (t : Int) ∧ t ∈ mdC a z l ∧ t < mdW a z l := by
 rw [mdQ_is, NI_len] at hk
 have hm := (mkQ_mem (mdC_len a z l)).1 (List.getElem_mem hk)
 exact ⟨_, NI_get hk, hm, (mem_chgL.1 hm).1⟩
theorem md_val : vldB false (mdS z : Int) (mdW a z l : Int) (mdI a : Int) ((mdK a l).2 : Int) (mdK a l).1 (mdQ a z l) (mdH a z l) = true := mk_val (md_mk a z l (mdI a) rfl).1
end
end Go.Sl
end
/-
  The plans that the laws speak of: their order.
-/
section
namespace Go.Sl

section
variable (a z : UInt8) (l : List T3)
theorem mdQ_num : (mdQ a z l).length = (mdC a z l).length := by
 rw [mdQ_is, NI_len, mkQ_len (mdC_len a z l)]
 rfl
end
end Go.Sl
end
/-
  The contract of the law PlanOrders.
-/
section
namespace Go.Proofs.YtpccfdnmnnnboaaGreat
open Go.Sl

theorem changes_md (a z : UInt8) (l : List T3) (OA : Option Addr) (oc : Nat) (qv hv : Value) :
   Ctr X 20 [.agg (List.toArray [.int .i64 ((mdS z : Nat) : Int), .int .i64 ((mdW a z l : Nat) : Int), .bool false, .int .i64 ((mdI a : Nat) : Int), .int .i64 (((mdK a l).2 : Nat) : Int), .slice OA (mdK a l).1.length oc, qv, hv])] [Rd OA (opsV (mdK a l).1)] [] (fun v R' H' => ∃ (A : Option Addr) (c : Nat), v = .slice A (mdC a z l).length c ∧ R' = [] ∧ H' = [Own 3 1 A (mdC a z l).length c (I64 (NI (mdC a z l)))]) :=
 changes19_c (mdS z) (mdW a z l) false ((mdI a : Nat) : Int) (((mdK a l).2 : Nat) : Int) (mdK a l).1 OA oc qv hv (by have := mdK_ops a l; omega) (by have := mdS_le z; omega) (by have := mdS_le z; omega) (mdW_le a z l).1 (by have := mdW_le a z l; omega) (mdE a l)
end Go.Proofs.YtpccfdnmnnnboaaGreat
end
/-
  What the plans that the laws speak of need, as plain data.
-/
section
namespace Go.Sl

/-! ### The patch that changes nothing -/
def whO (n : Nat) : List Po := [⟨1, 0, (n : Int), 0⟩]
theorem wh_all : ((List.range 25).all fun n => decide ((symL (whO n)).length = n) && ((List.range n).all fun i => decide ((symL (whO n)).getD i Sy.zero = ⟨true, (i : Int), 0⟩)) && (decide (n = 0) || decide (chkE (n : Int) (n : Int) (whO n) = 0))) = true := by kernel_rfl
section
variable {n S W : Nat}
theorem wh_fine (h1 : 1 ≤ n) (h2 : n ≤ 24) : (symL (whO n)).length = n ∧ (∀ i, i < n → (symL (whO n)).getD i Sy.zero = ⟨true, (i : Int), 0⟩) ∧ chkE (n : Int) (n : Int) (whO n) = 0 := by
 have := List.all_eq_true.1 wh_all n (List.mem_range.2 (by omega))
 simp only [Bool.and_eq_true, Bool.or_eq_true, decide_eq_true_eq, List.all_eq_true, List.mem_range] at this
 exact ⟨this.1.1, this.1.2, this.2.resolve_left (by omega)⟩
theorem wh_chg (h1 : 1 ≤ n) (h2 : n ≤ 24) : chgL (symL (whO n)) (n : Int) S W = [] := by
 obtain ⟨e1, e2, _⟩ := wh_fine h1 h2
 unfold chgL
 rw [List.filter_eq_nil_iff]
 intro t _
 have : chgB (symL (whO n)) (n : Int) S t = false := by
   refine any_no (p := fun j => chY (symL (whO n)) (n : Int) (t * S + j)) fun j _ => ?_
   unfold chY
   split
   · rename_i h
     rw [e1] at h
     rw [e2 _ h]
     simp
   · rename_i h
     rw [e1] at h
     exact decide_eq_false (by omega)
 rw [this]
 decide
theorem wh_mk (h1 : 1 ≤ n) (h2 : n ≤ 24) (hS : 1 ≤ S) (hS2 : S ≤ 4096) (hW : 1 ≤ W) (hW2 : W ≤ 64) (hc : n ≤ S * W) :
   mkE false (n : Int) (n : Int) (S : Int) (W : Int) (whO n) n = 0 ∧ mkP false (n : Int) (n : Int) (S : Int) (W : Int) (whO n) n = ⟨(S : Int), (W : Int), false, (n : Int), (n : Int), whO n, [], []⟩ := by
 have hc' := wh_chg (S := S) (W := W) h1 h2
 have h0 : mkE false (n : Int) (n : Int) (S : Int) (W : Int) (whO n) n = 0 := mkE_0 (wh_fine h1 h2).2.2 rfl (sizB_iff.2 ⟨by omega, by omega, by omega, by omega, by rw [← Int.natCast_mul]; omega, by rw [← Int.natCast_mul]; omega⟩) rfl (by rw [Int.toNat_natCast, Int.toNat_natCast, hc']; decide)
 refine ⟨h0, ?_⟩
 have h16 : (chgL (symL (whO n)) (n : Int) S W).length ≤ 16 := by rw [hc']; decide
 have hq : mkQ (symL (whO n)) (n : Int) S W = [] := List.length_eq_zero_iff.1 (by rw [mkQ_len h16, hc']; rfl)
 have hh : mkH (symL (whO n)) (n : Int) S W = [] := List.length_eq_zero_iff.1 (by have := mkH_len h16; rw [hc'] at this; exact Nat.le_zero.1 this)
 rw [mkP_is h0, Int.toNat_natCast, Int.toNat_natCast, hq, hh]
 rfl
theorem wh_need {old : List UInt8} (h1 : 1 ≤ n) (h2 : n ≤ 24) (hS : 1 ≤ S) (hS2 : S ≤ 4096) (hW : 1 ≤ W) (hW2 : W ≤ 64) (hc : n ≤ S * W) (ho : old.length = n) :
   ∃ e o : Int, needE false (S : Int) (W : Int) (n : Int) (n : Int) (whO n) [] [] old = 0 ∧ needV false (S : Int) (W : Int) (n : Int) (n : Int) (whO n) [] [] old = ⟨0, 0, ((2 * S : Nat) : Int), e, o⟩ := by
 obtain ⟨a, b⟩ := wh_mk h1 h2 hS hS2 hW hW2 hc
 have hv := mk_val a
 have hp := mkP_is a
 rw [b] at hp
 rw [← (Pp.mk.inj hp).2.2.2.2.2.2.1, ← (Pp.mk.inj hp).2.2.2.2.2.2.2] at hv
 have h0 : needE false (S : Int) (W : Int) (n : Int) (n : Int) (whO n) [] [] old = 0 := needE_0 hv (by rw [ho]) (Nat.zero_le _)
 refine ⟨((ndEr 0 0 0 (ndC (ndN 0 0 0) (ndW S)) : Nat) : Int), ((ndOp 0 0 0 (ndN 0 0 0) (ndC (ndN 0 0 0) (ndW S)) : Nat) : Int), h0, (needV_ok h0).trans ?_⟩
 have hu : ndU (ndT old (runB old (symL (whO n))) S []) S = 0 := by
   unfold ndU ndT
   exact Nat.div_eq_of_lt (by simp; omega)
 unfold nd5
 rw [Int.toNat_natCast, hu]
 rfl
end
/-! ### What the plans need -/
theorem perm_sum {α : Type} (f : α → Nat) (l : List α) : (l.reverse.map f).sum = (l.map f).sum := by
 rw [List.map_reverse, List.sum_reverse]
theorem foldl_max (l : List Nat) : ∀ m, l.foldl max m = max m (l.foldl max 0) := by
 induction l with
 | nil => intro m; simp
 | cons x l ih =>
   intro m
   rw [List.foldl_cons, List.foldl_cons, ih (max m x), ih (max 0 x)]
   omega
theorem max_app (a b : List Nat) : (a ++ b).foldl max 0 = max (a.foldl max 0) (b.foldl max 0) := by
 rw [List.foldl_append, foldl_max]
theorem max_rev (l : List Nat) : l.reverse.foldl max 0 = l.foldl max 0 := by
 induction l with
 | nil => rfl
 | cons x l ih =>
   rw [List.reverse_cons, max_app, ih, List.foldl_cons, List.foldl_cons, List.foldl_nil, foldl_max l (max 0 x)]
   omega
section
variable {old new : List UInt8} {S : Nat} {seq : List Int}
theorem ndT_rev : ndT old new S seq.reverse = ndT old new S seq := perm_sum _ _
theorem ndG_rev : ndG old new S seq.reverse = ndG old new S seq := by
 unfold ndG
 rw [List.map_reverse, max_rev]
theorem ndT_small : ndT old new S seq ≤ (5 + 5 * S) * seq.length := by
 induction seq with
 | nil => exact Nat.zero_le _
 | cons t l ih =>
   have h1 := ndR_le (old := old) (new := new) (S := S) t
   have : ndT old new S (t :: l) = ndR old new S t + ndT old new S l := by simp [ndT]
   rw [this, List.length_cons, Nat.mul_succ]
   omega
theorem rev_get {l : List Int} {i : Nat} (h : i < l.length) : l.reverse.getD i 0 = l.getD (l.length - 1 - i) 0 := by
 rw [List.getD_eq_getElem?_getD, List.getElem?_reverse h, List.getD_eq_getElem?_getD]
theorem rev_snoc {l : List Int} {i : Nat} (h : i < l.length) : l.reverse.take (i + 1) = l.reverse.take i ++ [l.getD (l.length - 1 - i) 0] := by
 rw [take_snoc' l.reverse 0 i (by rw [List.length_reverse]; exact h), rev_get h]
end
section
variable (a z : UInt8) (l : List T3) (b : List UInt8)
def neW : List UInt8 := runB (inpF b (mdI a)) (symL (mdK a l).1)
def neT : Nat := ndT (inpF b (mdI a)) (neW a l b) (mdS z) (mdQ a z l)
def neU : Nat := ndU (neT a z l b) (mdS z)
def neG : Nat := 2 * mdS z + ndG (inpF b (mdI a)) (neW a l b) (mdS z) (mdQ a z l)
def neE (s : Nat) : Nat := ndEr (neU a z l b) s (mdQ a z l).length (ndC (ndN (neU a z l b) s (mdQ a z l).length) (ndW (mdS z)))
def neO (s : Nat) : Nat := ndOp (neU a z l b) s (mdQ a z l).length (ndN (neU a z l b) s (mdQ a z l).length) (ndC (ndN (neU a z l b) s (mdQ a z l).length) (ndW (mdS z)))
theorem neT_le : neT a z l b ≤ 480 := by
 have h1 := ndT_small (old := inpF b (mdI a)) (new := neW a l b) (S := mdS z) (seq := mdQ a z l)
 have h2 := mdS_le z
 have h3 := mdQ_len a z l
 have h4 := Nat.mul_le_mul (show 5 + 5 * mdS z ≤ 30 by omega) h3
 unfold neT
 omega
theorem neC_mono {s t : Nat} (h : s ≤ t) : ndC (ndN (neU a z l b) s (mdQ a z l).length) (ndW (mdS z)) ≤ ndC (ndN (neU a z l b) t (mdQ a z l).length) (ndW (mdS z)) := by
 unfold ndC ndQ
 have : ndN (neU a z l b) s (mdQ a z l).length / ndW (mdS z) ≤ ndN (neU a z l b) t (mdQ a z l).length / ndW (mdS z) := Nat.div_le_div_right (by unfold ndN; omega)
 omega
theorem neE_mono {s t : Nat} (h : s ≤ t) : neE a z l b s ≤ neE a z l b t := by
 have := neC_mono a z l b h
 unfold neE ndEr
 omega
theorem neO_mono {s t : Nat} (h : s ≤ t) : neO a z l b s ≤ neO a z l b t := by
 have := neC_mono a z l b h
 unfold neO ndOp ndN
 unfold ndN at this
 omega
theorem neO_gt (s : Nat) : neE a z l b s < neO a z l b s := by
 unfold neE neO ndEr ndOp ndN
 omega
theorem neE_ge (s : Nat) : s + neU a z l b + 4 * (mdQ a z l).length ≤ neE a z l b s := by
 unfold neE ndEr
 omega
theorem neU_hi : neT a z l b ≤ neU a z l b * mdS z := by
 have h2 := mdS_le z
 unfold neU ndU
 have h3 := Nat.div_add_mod (neT a z l b + mdS z - 1) (mdS z)
 have h4 := Nat.mod_lt (neT a z l b + mdS z - 1) (show 0 < mdS z by omega)
 rw [Nat.mul_comm] at h3
 omega
theorem neU_le : neU a z l b * mdS z ≤ 485 := by
 have h1 := neT_le a z l b
 have h2 := mdS_le z
 have h3 := Nat.div_mul_le_self (neT a z l b + mdS z - 1) (mdS z)
 unfold neU ndU
 omega
theorem neU_lt : neU a z l b ≤ 485 := by
 have h1 := neU_le a z l b
 have h2 := mdS_le z
 have h3 := Nat.le_mul_of_pos_right (neU a z l b) (show 0 < mdS z by omega)
 omega
theorem neU_lo (h : 0 < neU a z l b) : (neU a z l b - 1) * mdS z < neT a z l b := by
 have h2 := mdS_le z
 have h3 := Nat.div_mul_le_self (neT a z l b + mdS z - 1) (mdS z)
 rw [Nat.sub_mul, Nat.one_mul]
 have h4 : mdS z ≤ neU a z l b * mdS z := Nat.le_mul_of_pos_left _ h
 unfold neU ndU at h4 ⊢
 omega
theorem ne_bd (s : Nat) (hs : s ≤ 16) : neE a z l b s ≤ 5000 ∧ neO a z l b s ≤ 10000 := by
 have h1 := neU_lt a z l b
 have h3 := mdQ_len a z l
 have h4 : ndC (ndN (neU a z l b) s (mdQ a z l).length) (ndW (mdS z)) ≤ ndN (neU a z l b) s (mdQ a z l).length + 1 := by
   unfold ndC
   have := ndQ_le (ndN (neU a z l b) s (mdQ a z l).length) (ndW (mdS z))
   omega
 unfold neE neO ndEr ndOp
 unfold ndN at h4 ⊢
 omega
theorem ne_of {seq st : List Int} (hv : vldB false (mdS z : Int) (mdW a z l : Int) (mdI a : Int) ((mdK a l).2 : Int) (mdK a l).1 seq st = true) (ht : ndT (inpF b (mdI a)) (neW a l b) (mdS z) seq = neT a z l b) (hg : ndG (inpF b (mdI a)) (neW a l b) (mdS z) seq = ndG (inpF b (mdI a)) (neW a l b) (mdS z) (mdQ a z l)) (hl : seq.length = (mdQ a z l).length) :
   needE false (mdS z : Int) (mdW a z l : Int) (mdI a : Int) ((mdK a l).2 : Int) (mdK a l).1 seq st (inpF b (mdI a)) = 0 ∧
   needV false (mdS z : Int) (mdW a z l : Int) (mdI a : Int) ((mdK a l).2 : Int) (mdK a l).1 seq st (inpF b (mdI a)) = ⟨((st.length : Nat) : Int), ((neU a z l b : Nat) : Int), ((neG a z l b : Nat) : Int), ((neE a z l b st.length : Nat) : Int), ((neO a z l b st.length : Nat) : Int)⟩ := by
 have h0 := needE_0 (old := inpF b (mdI a)) hv (by rw [inpF_len]) (by
   have := neT_le a z l b
   rw [Int.toNat_natCast]
   show ndT (inpF b (mdI a)) (neW a l b) (mdS z) seq ≤ 65535
   omega)
 refine ⟨h0, (needV_ok h0).trans ?_⟩
 rw [Int.toNat_natCast]
 show nd5 (ndU (ndT (inpF b (mdI a)) (neW a l b) (mdS z) seq) (mdS z)) st.length seq.length (mdS z) (ndG (inpF b (mdI a)) (neW a l b) (mdS z) seq) = _
 rw [ht, hg, hl]
 rfl
theorem ne_md : needE false (mdS z : Int) (mdW a z l : Int) (mdI a : Int) ((mdK a l).2 : Int) (mdK a l).1 (mdQ a z l) (mdH a z l) (inpF b (mdI a)) = 0 ∧
   needV false (mdS z : Int) (mdW a z l : Int) (mdI a : Int) ((mdK a l).2 : Int) (mdK a l).1 (mdQ a z l) (mdH a z l) (inpF b (mdI a)) = ⟨(((mdH a z l).length : Nat) : Int), ((neU a z l b : Nat) : Int), ((neG a z l b : Nat) : Int), ((neE a z l b (mdH a z l).length : Nat) : Int), ((neO a z l b (mdH a z l).length : Nat) : Int)⟩ := ne_of a z l b (md_val a z l) rfl rfl rfl
/-- Turned, and with all that changes in the stash. -/
theorem turn_val : vldB false (mdS z : Int) (mdW a z l : Int) (mdI a : Int) ((mdK a l).2 : Int) (mdK a l).1 (mdQ a z l).reverse (NI (mdC a z l)) = true := by
 obtain ⟨h1, h2, h3, h4, h5, h6⟩ := val_iff.1 (md_val a z l)
 have hp := (srt_iff (chgL_pair _ _ _ _)).1 h4
 refine val_iff.2 ⟨h1, h2, h3, (srt_iff (chgL_pair _ _ _ _)).2 ⟨by rw [List.length_reverse]; exact hp.1, fun t ht => List.mem_reverse.2 (hp.2 t ht)⟩, ?_, ?_⟩
 · rw [Int.toNat_natCast, Int.toNat_natCast]
   show stB (NI (mdC a z l)) (NI (mdC a z l)) = true
   refine all_yes fun i hi => ?_
   rw [NI_len] at hi
   have hc : (NI (mdC a z l)).contains ((NI (mdC a z l)).getD i 0) = true := by
     rw [NI_get hi, NI_has]
     exact List.contains_iff_mem.2 (List.getElem_mem hi)
   by_cases h0 : 0 < i
   · refine stT_yes2 hc ?_
     have hr : (mdC a z l).Pairwise (· < ·) := chgL_pair (symL (mdK a l).1) (mdI a : Int) (mdS z) (mdW a z l)
     have := rise_get hr (show i - 1 < i by omega) hi
     rw [List.getD_eq_getElem?_getD, List.getD_eq_getElem?_getD, List.getElem?_eq_getElem hi, List.getElem?_eq_getElem (by omega)] at this
     rw [NI_get hi, NI_get (by omega)]
     simp only [Option.getD_some] at this
     omega
   · exact stT_yes1 hc h0
 · rw [Int.toNat_natCast, Int.toNat_natCast]
   refine all_yes fun u _ => all_yes fun t ht => ?_
   cases hr : rdsB (symL (mdK a l).1) (mdI a : Int) (mdS z) u t with
   | false => rfl
   | true =>
     rw [Bool.not_true, Bool.false_or]
     refine okT_yes1 ?_
     rw [NI_has]
     exact List.contains_iff_mem.2 (mem_chgL.2 ⟨ht, (rdsB_chg hr).2⟩)
theorem ne_turn : needE false (mdS z : Int) (mdW a z l : Int) (mdI a : Int) ((mdK a l).2 : Int) (mdK a l).1 (mdQ a z l).reverse (NI (mdC a z l)) (inpF b (mdI a)) = 0 ∧
   needV false (mdS z : Int) (mdW a z l : Int) (mdI a : Int) ((mdK a l).2 : Int) (mdK a l).1 (mdQ a z l).reverse (NI (mdC a z l)) (inpF b (mdI a)) = ⟨(((mdQ a z l).length : Nat) : Int), ((neU a z l b : Nat) : Int), ((neG a z l b : Nat) : Int), ((neE a z l b (mdQ a z l).length : Nat) : Int), ((neO a z l b (mdQ a z l).length : Nat) : Int)⟩ := by
 have := ne_of a z l b (turn_val a z l) ndT_rev ndG_rev (List.length_reverse)
 rw [NI_len, ← mdQ_num] at this
 exact this
end
end Go.Sl
end
