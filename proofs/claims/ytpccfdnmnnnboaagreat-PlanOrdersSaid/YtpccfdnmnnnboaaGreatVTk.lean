/-
  What a plan that is made is, as plain data.
-/
import Derived.Test.YtpccfdnmnnnboaaGreatVTg
section
namespace Go.Sl

theorem getD_mem {l : List Nat} {i : Nat} (h : i < l.length) : l.getD i 0 ∈ l := by
 rw [List.getD_eq_getElem?_getD, List.getElem?_eq_getElem h]
 exact List.getElem_mem h
theorem rise_get {l : List Nat} (h : l.Pairwise (· < ·)) {i k : Nat} (hik : i < k) (hk : k < l.length) : l.getD i 0 < l.getD k 0 := by
 rw [List.getD_eq_getElem?_getD, List.getD_eq_getElem?_getD, List.getElem?_eq_getElem hk, List.getElem?_eq_getElem (by omega)]
 exact List.pairwise_iff_getElem.1 h i k (by omega) hk hik
theorem rise_inj {l : List Nat} (h : l.Pairwise (· < ·)) {i k : Nat} (hi : i < l.length) (hk : k < l.length) (e : l.getD i 0 = l.getD k 0) : i = k := by
 rcases Nat.lt_trichotomy i k with g | g | g
 · have := rise_get h g hk
   omega
 · exact g
 · have := rise_get h g hi
   omega
section
variable {l : List Sy} {inn : Int} {S n : Nat}
/-- The readings among the sectors that change. -/
def amoM (l : List Sy) (inn : Int) (S n : Nat) : List (List Int) := amoL (chgL l inn S n) (rdsL l inn S n n) (chgL l inn S n).length
/-- The order of a plan, and its stash. -/
def mkQ (l : List Sy) (inn : Int) (S n : Nat) : List Nat := namL (chgL l inn S n) (ordQ (amoM l inn S n))
def mkH (l : List Sy) (inn : Int) (S n : Nat) : List Nat := namL (chgL l inn S n) (ordH (amoM l inn S n))
theorem amo_p {i k : Nat} (hi : i < (chgL l inn S n).length) (hk : k < (chgL l inn S n).length) : rdP (amoM l inn S n) i k = rdsB l inn S ((chgL l inn S n).getD i 0) ((chgL l inn S n).getD k 0) := by
 unfold rdP amoM amoL
 rw [map_range_getD hi, NI_has, Bool.eq_iff_iff, List.contains_iff_mem]
 unfold amoR
 rw [List.mem_filter, List.mem_range, rdsL_has (chg_lt hi).1 (chg_lt hk).1]
 exact ⟨fun h => h.2, fun h => ⟨hk, h⟩⟩
theorem mk_set (h16 : (chgL l inn S n).length ≤ 16) : ∃ s, ordH (amoM l inn S n) = mem s (chgL l inn S n).length ∧ (∀ t, t < (chgL l inn S n).length → ((ordH (amoM l inn S n)).contains t = s.testBit t)) ∧ ordQ (amoM l inn S n) = frs (chgL l inn S n).length (rdP (amoM l inn S n)) s.testBit (chgL l inn S n).length ∧ (ordQ (amoM l inn S n)).length = (chgL l inn S n).length := by
 have hlen : (amoM l inn S n).length = (chgL l inn S n).length := amoL_len _ _ _
 obtain ⟨s, h1, h2, h3, h4, _⟩ := ord16 (ls := amoM l inn S n) amo_ok (by rw [hlen]; exact h16)
 rw [hlen] at h1 h3 h4
 have hb : 2 ^ (chgL l inn S n).length ≤ 2 ^ 16 := Nat.pow_le_pow_right (by decide) h16
 have h16' : (2 : Nat) ^ 16 = 65536 := by decide
 refine ⟨s, by rw [h2, mem64 (by omega) h1], fun t ht => ?_, h3, by rw [h3]; exact full_iff.1 h4⟩
 rw [h2, mem_has (by omega)]
theorem mkQ_len (h16 : (chgL l inn S n).length ≤ 16) : (mkQ l inn S n).length = (chgL l inn S n).length := by
 obtain ⟨s, _, _, _, h⟩ := mk_set h16
 unfold mkQ
 rw [namL_len, h]
theorem mkQ_mem (h16 : (chgL l inn S n).length ≤ 16) {t : Nat} : t ∈ mkQ l inn S n ↔ t ∈ chgL l inn S n := by
 obtain ⟨s, _, _, h3, h⟩ := mk_set h16
 unfold mkQ namL
 rw [List.mem_map]
 constructor
 · rintro ⟨i, hi, rfl⟩
   rw [h3] at hi
   exact getD_mem (frs_mem _ i hi)
 · intro ht
   obtain ⟨i, hi, rfl⟩ := List.getElem_of_mem ht
   refine ⟨i, ?_, by rw [List.getD_eq_getElem?_getD, List.getElem?_eq_getElem hi]; rfl⟩
   rw [h3] at h ⊢
   exact full_has (frs_nodup _) (frs_mem _) h hi
theorem mkQ_nodup (h16 : (chgL l inn S n).length ≤ 16) : (mkQ l inn S n).Nodup := by
 obtain ⟨s, _, _, h3, h⟩ := mk_set h16
 unfold mkQ namL
 rw [h3, List.nodup_iff_pairwise_ne, List.pairwise_map]
 refine List.Pairwise.imp_of_mem (fun {a b} ha hb hne e => ?_) (List.nodup_iff_pairwise_ne.1 (frs_nodup _))
 exact hne (rise_inj (chgL_pair l inn S n) (frs_mem _ _ ha) (frs_mem _ _ hb) e)
theorem mkH_mem (h16 : (chgL l inn S n).length ≤ 16) : ∀ t ∈ mkH l inn S n, t ∈ chgL l inn S n := by
 obtain ⟨s, h1, _⟩ := mk_set h16
 unfold mkH namL
 rw [h1]
 intro t ht
 obtain ⟨i, hi, rfl⟩ := List.mem_map.1 ht
 unfold mem at hi
 exact getD_mem (List.mem_range.1 (List.mem_filter.1 hi).1)
theorem mkH_rise (h16 : (chgL l inn S n).length ≤ 16) : (mkH l inn S n).Pairwise (· < ·) := by
 obtain ⟨s, h1, _⟩ := mk_set h16
 unfold mkH namL
 rw [h1, List.pairwise_map]
 refine List.Pairwise.imp_of_mem (fun {a b} ha hb hab => ?_) (mem_rise s _)
 unfold mem at hb
 exact rise_get (chgL_pair l inn S n) hab (List.mem_range.1 (List.mem_filter.1 hb).1)
theorem mkH_len (h16 : (chgL l inn S n).length ≤ 16) : (mkH l inn S n).length ≤ (chgL l inn S n).length := by
 obtain ⟨s, h1, _⟩ := mk_set h16
 unfold mkH
 rw [namL_len, h1]
 exact mem_len _ _
/-- No sector is written before one that reads it, unless it is stashed. -/
theorem mk_pair (h16 : (chgL l inn S n).length ≤ 16) : (mkQ l inn S n).Pairwise fun x y => x ∈ mkH l inn S n ∨ rdsB l inn S y x = false := by
 obtain ⟨s, h1, h2, h3, h⟩ := mk_set h16
 unfold mkQ namL
 rw [List.pairwise_map, h3]
 refine List.Pairwise.imp_of_mem (fun {a b} ha hb hab => ?_) (frs_pair (n := (chgL l inn S n).length) (p := rdP (amoM l inn S n)) (st := s.testBit) _).1
 have ha' := frs_mem _ _ ha
 have hb' := frs_mem _ _ hb
 rcases hab with g | g
 · refine .inl ?_
   unfold mkH namL
   exact List.mem_map.2 ⟨a, List.contains_iff_mem.1 (by rw [h2 a ha']; exact g), rfl⟩
 · exact .inr (by rw [← amo_p hb' ha']; exact g)
theorem NI_mem {l : List Nat} {t : Nat} : ((t : Nat) : Int) ∈ NI l ↔ t ∈ l := by
 rw [← List.contains_iff_mem, NI_has, List.contains_iff_mem]
theorem NI_idxOf (t : Nat) : ∀ l : List Nat, (NI l).idxOf (t : Int) = l.idxOf t
 | [] => rfl
 | a :: l => by
   show ((a : Int) :: NI l).idxOf (t : Int) = _
   rw [List.idxOf_cons, List.idxOf_cons, NI_idxOf t l, show ((a : Int) == (t : Int)) = (a == t) by rw [Bool.eq_iff_iff, beq_iff_eq, beq_iff_eq]; omega]
theorem NI_idx (l : List Nat) (t : Nat) : idxJ (NI l) (t : Int) = if t ∈ l then ((l.idxOf t : Nat) : Int) else -1 := by
 unfold idxJ
 rw [NI_has, NI_idxOf]
 by_cases h : t ∈ l
 · rw [if_pos (List.contains_iff_mem.2 h), if_pos h]
 · rw [if_neg (fun g => h (List.contains_iff_mem.1 g)), if_neg h]
theorem mk_stB (h16 : (chgL l inn S n).length ≤ 16) : stB (NI (chgL l inn S n)) (NI (mkH l inn S n)) = true := by
 refine all_yes fun i hi => ?_
 rw [NI_len] at hi
 have hg := NI_get hi
 have hc : (NI (chgL l inn S n)).contains ((NI (mkH l inn S n)).getD i 0) = true := by
   rw [hg, NI_has, List.contains_iff_mem]
   exact mkH_mem h16 _ (List.getElem_mem hi)
 by_cases h0 : 0 < i
 · refine stT_yes2 hc ?_
   have := rise_get (mkH_rise h16) (show i - 1 < i by omega) hi
   have e1 := NI_get (l := mkH l inn S n) (i := i - 1) (by omega)
   rw [List.getD_eq_getElem?_getD, List.getD_eq_getElem?_getD, List.getElem?_eq_getElem hi, List.getElem?_eq_getElem (by omega)] at this
   rw [e1, hg]
   simp only [Option.getD_some] at this
   omega
 · exact stT_yes1 hc h0
theorem mk_plB (h16 : (chgL l inn S n).length ≤ 16) : plB l inn S n (NI (mkQ l inn S n)) (NI (mkH l inn S n)) = true := by
 refine all_yes fun u hu => all_yes fun t ht => ?_
 cases hr : rdsB l inn S u t with
 | false => rfl
 | true =>
   have h1 := rdsB_chg hr
   have hum : u ∈ mkQ l inn S n := (mkQ_mem h16).2 (mem_chgL.2 ⟨hu, h1.1⟩)
   have htm : t ∈ mkQ l inn S n := (mkQ_mem h16).2 (mem_chgL.2 ⟨ht, h1.2⟩)
   rw [Bool.not_true, Bool.false_or]
   by_cases hs : t ∈ mkH l inn S n
   · exact okT_yes1 (by rw [NI_has]; exact List.contains_iff_mem.2 hs)
   · refine okT_yes2 fun hlt => ?_
     rw [NI_idx, NI_idx, if_pos hum, if_pos htm] at hlt
     have hul := List.idxOf_lt_length_iff.2 hum
     have htl := List.idxOf_lt_length_iff.2 htm
     have := List.pairwise_iff_getElem.1 (mk_pair h16) _ _ htl hul (by omega)
     rw [List.getElem_idxOf, List.getElem_idxOf, hr] at this
     rcases this with g | g
     · exact hs g
     · cases g
end
section
variable {lf : Bool} {inn out sz n : Int} {ops : List Po} {ol : Nat}
theorem mkE_ok (h : mkE lf inn out sz n ops ol = 0) : chkE inn out ops = 0 ∧ lf = false ∧ sizB sz n inn out = true ∧ (ol : Int) = inn ∧ (chgL (symL ops) inn sz.toNat n.toNat).length ≤ 16 := by
 unfold mkE at h
 split at h
 · omega
 · rename_i h1
   split at h
   · omega
   · rename_i h2
     split at h
     · omega
     · rename_i h3
       split at h
       · omega
       · rename_i h4
         split at h
         · omega
         · rename_i h5
           refine ⟨by omega, by simpa using h2, by simpa using h3, by omega, by omega⟩
/-- A plan that is made is valid. -/
theorem mk_val (h : mkE lf inn out sz n ops ol = 0) : vldB lf sz n inn out ops (NI (mkQ (symL ops) inn sz.toNat n.toNat)) (NI (mkH (symL ops) inn sz.toNat n.toNat)) = true := by
 obtain ⟨h1, h2, h3, h4, h5⟩ := mkE_ok h
 refine val_iff.2 ⟨h1, h2, h3, (srt_iff (chgL_pair _ _ _ _)).2 ⟨by rw [NI_len, mkQ_len h5], fun t ht => NI_mem.2 ((mkQ_mem h5).2 ht)⟩, mk_stB h5, mk_plB h5⟩
end
end Go.Sl
end
/-
  The plans that the laws speak of: what they are.
-/
section
namespace Go.Sl

section
variable (a z : UInt8) (l : List T3)
theorem mdQ_is : mdQ a z l = NI (mkQ (symL (mdK a l).1) (mdI a : Int) (mdS z) (mdW a z l)) := rfl
theorem mdH_is : mdH a z l = NI (mkH (symL (mdK a l).1) (mdI a : Int) (mdS z) (mdW a z l)) := rfl
theorem mdQ_len : (mdQ a z l).length ≤ 16 := by
 have := mdC_len a z l
 rw [mdQ_is, NI_len, mkQ_len (mdC_len a z l)]
 exact this
theorem mdH_len : (mdH a z l).length ≤ 16 := by
 rw [mdH_is, NI_len]
 exact Nat.le_trans (mkH_len (mdC_len a z l)) (mdC_len a z l)
theorem md_at {k : Nat} (hk : k < (mdQ a z l).length) : ∃ t : Nat, (mdQ a z l).getD k 0 = (t : Int) ∧ t ∈ mdC a z l ∧ t < mdW a z l := by
 rw [mdQ_is, NI_len] at hk
 have hm := (mkQ_mem (mdC_len a z l)).1 (List.getElem_mem hk)
 exact ⟨_, NI_get hk, hm, (mem_chgL.1 hm).1⟩
theorem mdH_at {k : Nat} (hk : k < (mdH a z l).length) : ∃ t : Nat, (mdH a z l).getD k 0 = (t : Int) ∧ t ∈ mdC a z l ∧ t < mdW a z l := by
 rw [mdH_is, NI_len] at hk
 have hm := mkH_mem (mdC_len a z l) _ (List.getElem_mem hk)
 exact ⟨_, NI_get hk, hm, (mem_chgL.1 hm).1⟩
theorem md_bd (k : Nat) : 0 ≤ (mdQ a z l).getD k 0 ∧ (mdQ a z l).getD k 0 < 18 := by
 by_cases h : k < (mdQ a z l).length
 · obtain ⟨t, h1, _, h2⟩ := md_at a z l h
   have := mdW_le a z l
   omega
 · rw [getD_ge (by omega)]
   decide
theorem md_val : vldB false (mdS z : Int) (mdW a z l : Int) (mdI a : Int) ((mdK a l).2 : Int) (mdK a l).1 (mdQ a z l) (mdH a z l) = true := mk_val (md_mk a z l (mdI a) rfl).1
end
end Go.Sl
end
