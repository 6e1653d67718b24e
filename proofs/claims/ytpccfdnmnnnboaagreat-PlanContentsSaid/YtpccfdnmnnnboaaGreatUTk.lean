/-
  What a plan that is made is, as plain data.
-/
import Derived.Test.YtpccfdnmnnnboaaGreatUTh
import Derived.Test.YtpccfdnmnnnboaaGreatUWPlO
section
namespace Go.Sl

theorem getD_mem {l : List Nat} {i : Nat} (h : i < l.length) : l.getD i 0 ∈ l := by
 rw [List.getD_eq_getElem?_getD, List.getElem?_eq_getElem h]
 exact List.getElem_mem h
theorem rise_get {l : List Nat} (h : l.Pairwise (· < ·)) {i k : Nat} (hik : i < k) (hk : k < l.length) : l.getD i 0 < l.getD k 0 := by
 rw [List.getD_eq_getElem?_getD, List.getD_eq_getElem?_getD, List.getElem?_eq_getElem hk, List.getElem?_eq_getElem (by omega)]
 exact List.pairwise_iff_getElem.1 h i k (by omega) hk hik
theorem rise_inj {l : List Nat} (h : l.Pairwise (· < ·)) {i k : Nat} (hi : i < l.length) (hk : k < l.length) (e : l.getD i 0 = l.getD k 0) : i = k := by
 rcases Nat.lt_trichotomy i k with g | g | g
 · have := rise_get h g hk
   omega
 · exact g
 · have := rise_get h g hi
   omega
section
variable {l : List Sy} {inn : Int} {S n : Nat}
/-- The readings among the sectors that change. -/
def amoM (l : List Sy) (inn : Int) (S n : Nat) : List (List Int) := amoL (chgL l inn S n) (rdsL l inn S n n) (chgL l inn S n).length
/-- The order of a plan, and its stash. -/
def mkQ (l : List Sy) (inn : Int) (S n : Nat) : List Nat := namL (chgL l inn S n) (ordQ (amoM l inn S n))
def mkH (l : List Sy) (inn : Int) (S n : Nat) : List Nat := namL (chgL l inn S n) (ordH (amoM l inn S n))
theorem amo_p {i k : Nat} (hi : i < (chgL l inn S n).length) (hk : k < (chgL l inn S n).length) : rdP (amoM l inn S n) i k = rdsB l inn S ((chgL l inn S n).getD i 0) ((chgL l inn S n).getD k 0) := by
 unfold rdP amoM amoL
 rw [map_range_getD hi, NI_has, Bool.eq_iff_iff, List.contains_iff_mem]
 unfold amoR
 rw [List.mem_filter, List.mem_range, rdsL_has (chg_lt hi).1 (chg_lt hk).1]
 exact ⟨fun h => h.2, fun h => ⟨hk, h⟩⟩
theorem mk_set (h16 : (chgL l inn S n).length ≤ 16) : ∃ s, ordH (amoM l inn S n) = mem s (chgL l inn S n).length ∧ (∀ t, t < (chgL l inn S n).length → ((ordH (amoM l inn S n)).contains t = s.testBit t)) ∧ ordQ (amoM l inn S n) = frs (chgL l inn S n).length (rdP (amoM l inn S n)) s.testBit (chgL l inn S n).length ∧ (ordQ (amoM l inn S n)).length = (chgL l inn S n).length := by
 have hlen : (amoM l inn S n).length = (chgL l inn S n).length := amoL_len _ _ _
 obtain ⟨s, h1, h2, h3, h4, _⟩ := ord16 (ls := amoM l inn S n) amo_ok (by rw [hlen]; exact h16)
 rw [hlen] at h1 h3 h4
 have hb : 2 ^ (chgL l inn S n).length ≤ 2 ^ 16 := Nat.pow_le_pow_right (by decide) h16
 have h16' : (2 : Nat) ^ 16 = 65536 := by decide
 refine ⟨s, by rw [h2, mem64 (by omega) h1], fun t ht => ?_, h3, by rw [h3]; exact full_iff.1 h4⟩
 rw [h2, mem_has (by omega)]
theorem mkQ_len (h16 : (chgL l inn S n).length ≤ 16) : (mkQ l inn S n).length = (chgL l inn S n).length := by
 obtain ⟨s, _, _, _, h⟩ := mk_set h16
 unfold mkQ
 rw [namL_len, h]
theorem mkQ_mem (h16 : (chgL l inn S n).length ≤ 16) {t : Nat} : t ∈ mkQ l inn S n ↔ t ∈ chgL l inn S n := by
 obtain ⟨s, _, _, h3, h⟩ := mk_set h16
 unfold mkQ namL
 rw [List.mem_map]
 constructor
 · rintro ⟨i, hi, rfl⟩
   rw [h3] at hi
   exact getD_mem (frs_mem _ i hi)
 · intro ht
   obtain ⟨i, hi, rfl⟩ := List.getElem_of_mem ht
   refine ⟨i, ?_, by rw [List.getD_eq_getElem?_getD, List.getElem?_eq_getElem hi]; rfl⟩
   rw [h3] at h ⊢
   exact full_has (frs_nodup _) (frs_mem _) h hi
theorem mkQ_nodup (h16 : (chgL l inn S n).length ≤ 16) : (mkQ l inn S n).Nodup := by
 obtain ⟨s, _, _, h3, h⟩ := mk_set h16
 unfold mkQ namL
 rw [h3, List.nodup_iff_pairwise_ne, List.pairwise_map]
 refine List.Pairwise.imp_of_mem (fun {a b} ha hb hne e => ?_) (List.nodup_iff_pairwise_ne.1 (frs_nodup _))
 exact hne (rise_inj (chgL_pair l inn S n) (frs_mem _ _ ha) (frs_mem _ _ hb) e)
theorem mkH_mem (h16 : (chgL l inn S n).length ≤ 16) : ∀ t ∈ mkH l inn S n, t ∈ chgL l inn S n := by
 obtain ⟨s, h1, _⟩ := mk_set h16
 unfold mkH namL
 rw [h1]
 intro t ht
 obtain ⟨i, hi, rfl⟩ := List.mem_map.1 ht
 unfold mem at hi
 exact getD_mem (List.mem_range.1 (List.mem_filter.1 hi).1)
theorem mkH_rise (h16 : (chgL l inn S n).length ≤ 16) : (mkH l inn S n).Pairwise (· < ·) := by
 obtain ⟨s, h1, _⟩ := mk_set h16
 unfold mkH namL
 rw [h1, List.pairwise_map]
 refine List.Pairwise.imp_of_mem (fun {a b} ha hb hab => ?_) (mem_rise s _)
 unfold mem at hb
 exact rise_get (chgL_pair l inn S n) hab (List.mem_range.1 (List.mem_filter.1 hb).1)
theorem mkH_len (h16 : (chgL l inn S n).length ≤ 16) : (mkH l inn S n).length ≤ (chgL l inn S n).length := by
 obtain ⟨s, h1, _⟩ := mk_set h16
 unfold mkH
 rw [namL_len, h1]
 exact mem_len _ _
/-- No sector is written before one that reads it, unless it is stashed. -/
theorem mk_pair (h16 : (chgL l inn S n).length ≤ 16) : (mkQ l inn S n).Pairwise fun x y => x ∈ mkH l inn S n ∨ rdsB l inn S y x = false := by
 obtain ⟨s, h1, h2, h3, h⟩ := mk_set h16
 unfold mkQ namL
 rw [List.pairwise_map, h3]
 refine List.Pairwise.imp_of_mem (fun {a b} ha hb hab => ?_) (frs_pair (n := (chgL l inn S n).length) (p := rdP (amoM l inn S n)) (st := s.testBit) _).1
 have ha' := frs_mem _ _ ha
 have hb' := frs_mem _ _ hb
 rcases hab with g | g
 · refine .inl ?_
   unfold mkH namL
   exact List.mem_map.2 ⟨a, List.contains_iff_mem.1 (by rw [h2 a ha']; exact g), rfl⟩
 · exact .inr (by rw [← amo_p hb' ha']; exact g)
theorem NI_mem {l : List Nat} {t : Nat} : ((t : Nat) : Int) ∈ NI l ↔ t ∈ l := by
 rw [← List.contains_iff_mem, NI_has, List.contains_iff_mem]
theorem NI_idxOf (t : Nat) : ∀ l : List Nat, (NI l).idxOf (t : Int) = l.idxOf t
 | [] => rfl
 | a :: l => by
   show ((a : Int) :: NI l).idxOf (t : Int) = _
   rw [List.idxOf_cons, List.idxOf_cons, NI_idxOf t l, show ((a : Int) == (t : Int)) = (a == t) by rw [Bool.eq_iff_iff, beq_iff_eq, beq_iff_eq]; omega]
theorem NI_idx (l : List Nat) (t : Nat) : idxJ (NI l) (t : Int) = if t ∈ l then ((l.idxOf t : Nat) : Int) else -1 := by
 unfold idxJ
 rw [NI_has, NI_idxOf]
 by_cases h : t ∈ l
 · rw [if_pos (List.contains_iff_mem.2 h), if_pos h]
 · rw [if_neg (fun g => h (List.contains_iff_mem.1 g)), if_neg h]
theorem mk_stB (h16 : (chgL l inn S n).length ≤ 16) : stB (NI (chgL l inn S n)) (NI (mkH l inn S n)) = true := by
 refine all_yes fun i hi => ?_
 rw [NI_len] at hi
 have hg := NI_get hi
 have hc : (NI (chgL l inn S n)).contains ((NI (mkH l inn S n)).getD i 0) = true := by
   rw [hg, NI_has, List.contains_iff_mem]
   exact mkH_mem h16 _ (List.getElem_mem hi)
 by_cases h0 : 0 < i
 · refine stT_yes2 hc ?_
   have := rise_get (mkH_rise h16) (show i - 1 < i by omega) hi
   have e1 := NI_get (l := mkH l inn S n) (i := i - 1) (by omega)
   rw [List.getD_eq_getElem?_getD, List.getD_eq_getElem?_getD, List.getElem?_eq_getElem hi, List.getElem?_eq_getElem (by omega)] at this
   rw [e1, hg]
   simp only [Option.getD_some] at this
   omega
 · exact stT_yes1 hc h0
theorem mk_plB (h16 : (chgL l inn S n).length ≤ 16) : plB l inn S n (NI (mkQ l inn S n)) (NI (mkH l inn S n)) = true := by
 refine all_yes fun u hu => all_yes fun t ht => ?_
 cases hr : rdsB l inn S u t with
 | false => rfl
 | true =>
   have h1 := rdsB_chg hr
   have hum : u ∈ mkQ l inn S n := (mkQ_mem h16).2 (mem_chgL.2 ⟨hu, h1.1⟩)
   have htm : t ∈ mkQ l inn S n := (mkQ_mem h16).2 (mem_chgL.2 ⟨ht, h1.2⟩)
   rw [Bool.not_true, Bool.false_or]
   by_cases hs : t ∈ mkH l inn S n
   · exact okT_yes1 (by rw [NI_has]; exact List.contains_iff_mem.2 hs)
   · refine okT_yes2 fun hlt => ?_
     rw [NI_idx, NI_idx, if_pos hum, if_pos htm] at hlt
     have hul := List.idxOf_lt_length_iff.2 hum
     have htl := List.idxOf_lt_length_iff.2 htm
     have := List.pairwise_iff_getElem.1 (mk_pair h16) _ _ htl hul (by omega)
     rw [List.getElem_idxOf, List.getElem_idxOf, hr] at this
     rcases this with g | g
     · exact hs g
     · cases g
end
section
variable {lf : Bool} {inn out sz n : Int} {ops : List Po} {ol : Nat}
theorem mkE_ok (h : mkE lf inn out sz n ops ol = 0) : chkE inn out ops = 0 ∧ lf = false ∧ sizB sz n inn out = true ∧ (ol : Int) = inn ∧ (chgL (symL ops) inn sz.toNat n.toNat).length ≤ 16 := by
 unfold mkE at h
 split at h
 · omega
 · rename_i h1
   split at h
   · omega
   · rename_i h2
     split at h
     · omega
     · rename_i h3
       split at h
       · omega
       · rename_i h4
         split at h
         · omega
         · rename_i h5
           refine ⟨by omega, by simpa using h2, by simpa using h3, by omega, by omega⟩
/-- A plan that is made is valid. -/
theorem mk_val (h : mkE lf inn out sz n ops ol = 0) : vldB lf sz n inn out ops (NI (mkQ (symL ops) inn sz.toNat n.toNat)) (NI (mkH (symL ops) inn sz.toNat n.toNat)) = true := by
 obtain ⟨h1, h2, h3, h4, h5⟩ := mkE_ok h
 refine val_iff.2 ⟨h1, h2, h3, (srt_iff (chgL_pair _ _ _ _)).2 ⟨by rw [NI_len, mkQ_len h5], fun t ht => NI_mem.2 ((mkQ_mem h5).2 ht)⟩, mk_stB h5, mk_plB h5⟩
end
end Go.Sl
end
/-
  The contract of the law PlanMatchesReference.
-/
section
namespace Go.Proofs.YtpccfdnmnnnboaaGreat
open Go.Sl

theorem Ev.neStr {β : Base} {Γ : Env} {R H : List Pr} {t ty : Nat} {x y : Operand} {a b : ByteArray} (hx : ev Γ x = some (.string a)) (hy : ev Γ y = some (.string b)) : Ev X β Γ R H (.binOp .neq t x y ty) (.bool (!(a.toList == b.toList))) := by
 intro ρ w hρ hw o ho
 have hg : (eqGuard .neq t x y (.string a) (.string b)).run X.P w = .ok () w := by unfold eqGuard; rfl
 simp [execOp, ho, hρ _ _ hx, hρ _ _ hy, hg, binOp_string_neq]
theorem content_m (f : Nat) (hf : f = 18 ∨ f = 19) (fs : Int) (data : List (List UInt8)) (dhs : List Hd) (hdh : dhs.length = data.length) (DA : Option Addr) (dc dl : Nat) (hdl0 : data.length = dl) (wv lv ev : Value) (ls : Int) (lst : List Int) (LA : Option Addr) (lc ll : Nat) (hll0 : lst.length = ll) (j0 j1 s0 s1 gv uv : Value) (sz n : Int) (lf : Bool) (inn out : Int) (ops : List Po) (seq st : List Int) (OA QA HA : Option Addr) (oc ql qc hl hc : Nat) (hql0 : seq.length = ql) (hhl0 : st.length = hl) (hops : ops.length ≤ 9223372036854775807) (hql : seq.length ≤ 1000000) (hhl : st.length ≤ 1000000) (k : Int) (hll : lst.length ≤ 9223372036854775807) (hdl : data.length ≤ 9223372036854775807) (hdr : ∀ i, (data.getD i []).length ≤ 9223372036854775807) (hlc : lst.length ≤ lc) :
   Ctr X f [.agg (List.toArray [.int .i64 fs, .slice DA dl dc, wv, lv, ev]), .agg (List.toArray [.int .i64 ls, j0, j1, s0, s1, gv, uv, .slice LA ll lc]), .agg (List.toArray [.int .i64 sz, .int .i64 n, .bool lf, .int .i64 inn, .int .i64 out, .slice OA ops.length oc, .slice QA ql qc, .slice HA hl hc]), .int .i64 k] [Rd DA (rowsV dhs (B8 data)), KidsR dhs (B8 data), Rd LA (I64 lst), Rd OA (opsV ops), Rd QA (I64 seq), Rd HA (I64 st)] [] (fun v R' H' => ∃ (A : Option Addr) (c : Nat), v = .tuple #[.slice A (cntV lf sz n inn out ops seq st data fs ls lst k).length c, .int .i64 (cntE lf sz n inn out ops seq st data fs ls lst k)] ∧ R' = [] ∧ H' = [Own 5 1 A (cntV lf sz n inn out ops seq st data fs ls lst k).length c (U8 (cntV lf sz n inn out ops seq st data fs ls lst k))]) := by
 subst hdl0 hll0 hql0 hhl0
 rcases hf with rfl | rfl
 · exact content_c fs data dhs hdh DA dc wv lv ev ls lst LA lc j0 j1 s0 s1 gv uv sz n lf inn out ops seq st OA QA HA oc qc hc hops hql hhl k hll hdl hdr hlc
 · exact contentR_c fs data dhs hdh DA dc wv lv ev ls lst LA lc j0 j1 s0 s1 gv uv sz n lf inn out ops seq st OA QA HA oc qc hc hops hql hhl k hll hdl hdr
end Go.Proofs.YtpccfdnmnnnboaaGreat
end
/-
  The plans that the laws speak of: what they are.
-/
section
namespace Go.Sl

section
variable (a z : UInt8) (l : List T3)
theorem mdQ_is : mdQ a z l = NI (mkQ (symL (mdK a l).1) (mdI a : Int) (mdS z) (mdW a z l)) := rfl
theorem mdH_is : mdH a z l = NI (mkH (symL (mdK a l).1) (mdI a : Int) (mdS z) (mdW a z l)) := rfl
theorem mdQ_len : (mdQ a z l).length ≤ 16 := by
 have := mdC_len a z l
 rw [mdQ_is, NI_len, mkQ_len (mdC_len a z l)]
 exact this
theorem mdH_len : (mdH a z l).length ≤ 16 := by
 rw [mdH_is, NI_len]
 exact Nat.le_trans (mkH_len (mdC_len a z l)) (mdC_len a z l)
theorem md_at {k : Nat} (hk : k < (mdQ a z l).length) : ∃ t : Nat, (mdQ a z l).getD k 0 = (t : Int) ∧ t ∈ mdC a z l ∧ t < mdW a z l := by
 rw [mdQ_is, NI_len] at hk
 have hm := (mkQ_mem (mdC_len a z l)).1 (List.getElem_mem hk)
 exact ⟨_, NI_get hk, hm, (mem_chgL.1 hm).1⟩
theorem mdH_at {k : Nat} (hk : k < (mdH a z l).length) : ∃ t : Nat, (mdH a z l).getD k 0 = (t : Int) ∧ t ∈ mdC a z l ∧ t < mdW a z l := by
 rw [mdH_is, NI_len] at hk
 have hm := mkH_mem (mdC_len a z l) _ (List.getElem_mem hk)
 exact ⟨_, NI_get hk, hm, (mem_chgL.1 hm).1⟩
theorem md_val : vldB false (mdS z : Int) (mdW a z l : Int) (mdI a : Int) ((mdK a l).2 : Int) (mdK a l).1 (mdQ a z l) (mdH a z l) = true := mk_val (md_mk a z l (mdI a) rfl).1
end
end Go.Sl
end
/-
  The plans that the laws speak of: their order.
-/
section
namespace Go.Sl

section
variable (a z : UInt8) (l : List T3)
theorem mdQ_nodup : (mdQ a z l).Nodup := by
 rw [mdQ_is]
 unfold NI
 rw [List.nodup_iff_pairwise_ne, List.pairwise_map]
 exact (List.nodup_iff_pairwise_ne.1 (mkQ_nodup (mdC_len a z l))).imp fun h => by omega
theorem mdQ_ne {i k : Nat} (hik : i < k) (hk : k < (mdQ a z l).length) : (mdQ a z l).getD k 0 ≠ (mdQ a z l).getD i 0 := (nodupI_ne (mdQ_nodup a z l) i k hik hk).symm
end
end Go.Sl
end
/-
  What the plans that the laws speak of need, as plain data.
-/
section
namespace Go.Sl

/-! ### The patch that changes nothing -/
section
variable {n S W : Nat}
end
/-! ### What the plans need -/
section
variable {old new : List UInt8} {S : Nat} {seq : List Int}
end
section
variable (a z : UInt8) (l : List T3) (b : List UInt8)
def neW : List UInt8 := runB (inpF b (mdI a)) (symL (mdK a l).1)
end
end Go.Sl
end
/-
  The contract of the law PlanNeeds.
-/
section
namespace Go.Proofs.YtpccfdnmnnnboaaGreat
open Go.Sl

theorem neW_len (a : UInt8) (l : List T3) (b : List UInt8) : (neW a l b).length ≤ 32 := by
 have h1 := mdK_out a l
 have hsl : ((symL (mdK a l).1).length : Int) = ((mdK a l).2 : Int) := chkG_tot _ _ (by omega) (chkE_ok (mdE a l)).2.2.2.2.2
 unfold neW
 rw [runB_len]
 omega

end Go.Proofs.YtpccfdnmnnnboaaGreat
end
/-
  The image of a plan that is written, as plain data.
-/
section
namespace Go.Sl

/-! ### The stashed sectors are copied -/
def stD (FD : List (List UInt8)) (p : Nat) (H : List Int) : Nat → List (List UInt8)
 | 0 => FD
 | k + 1 => (stD FD p H k).set (p + k) ((stD FD p H k).getD (H.getD k 0).toNat [])
section
variable {FD : List (List UInt8)} {p S : Nat} {H : List Int}
theorem stD_len : ∀ k, (stD FD p H k).length = FD.length
 | 0 => rfl
 | k + 1 => by rw [stD, List.length_set, stD_len k]
theorem stD_lo {t : Nat} (ht : t < p) : ∀ k, (stD FD p H k).getD t [] = FD.getD t []
 | 0 => rfl
 | k + 1 => by rw [stD, getD_set_ne (by omega), stD_lo ht k]
theorem stD_hi (hp : ∀ i, i < H.length → (H.getD i 0).toNat < p) (hl : p + H.length ≤ FD.length) : ∀ k, k ≤ H.length → ∀ i, i < k → (stD FD p H k).getD (p + i) [] = FD.getD (H.getD i 0).toNat []
 | 0, _, i, h => absurd h (Nat.not_lt_zero _)
 | k + 1, hk, i, h => by
   rw [stD]
   by_cases e : i = k
   · subst e
     rw [getD_set_eq (by rw [stD_len]; omega), stD_lo (hp i (by omega))]
   · rw [getD_set_ne (by omega)]
     exact stD_hi hp hl k (by omega) i (by omega)
theorem stD_row (h : ∀ i, i < FD.length → (FD.getD i []).length = S) (hp : ∀ i, i < H.length → (H.getD i 0).toNat < FD.length) : ∀ k, k ≤ H.length → ∀ i, i < FD.length → ((stD FD p H k).getD i []).length = S
 | 0, _, i, hi => h i hi
 | k + 1, hk, i, hi => by
   rw [stD]
   by_cases e : p + k = i
   · subst e
     rw [getD_set_eq (by rw [stD_len]; exact hi)]
     exact stD_row h hp k (by omega) _ (hp k (by omega))
   · rw [getD_set_ne e]
     exact stD_row h hp k (by omega) i hi
end
/-! ### The sectors are written -/
def wrD (sy : List Sy) (H lst : List Int) (S I : Nat) (Q : List Int) (D : List (List UInt8)) : Nat → List (List UInt8)
 | 0 => D
 | k + 1 => (wrD sy H lst S I Q D k).set (Q.getD k 0).toNat (ctF (runB (inL (wrD sy H lst S I Q D k) H lst S I) sy) (Q.getD k 0).toNat S)
theorem wrD_len {sy : List Sy} {H lst : List Int} {S I : Nat} {Q : List Int} {D : List (List UInt8)} : ∀ k, (wrD sy H lst S I Q D k).length = D.length
 | 0 => rfl
 | k + 1 => by rw [wrD, List.length_set, wrD_len k]
theorem wrD_row {sy : List Sy} {H lst : List Int} {S I : Nat} {Q : List Int} {D : List (List UInt8)} (h : ∀ i, i < D.length → (D.getD i []).length = S) : ∀ k i, i < D.length → ((wrD sy H lst S I Q D k).getD i []).length = S
 | 0, i, hi => h i hi
 | k + 1, i, hi => by
   rw [wrD]
   by_cases e : (Q.getD k 0).toNat = i
   · rw [e, getD_set_eq (by rw [wrD_len]; exact hi), ctF_len]
   · rw [getD_set_ne e]
     exact wrD_row h k i hi
theorem ctF_eq {x y : List UInt8} {t S : Nat} (hl : x.length = y.length) (h : ∀ j, j < S → t * S + j < x.length → x.getD (t * S + j) 0 = y.getD (t * S + j) 0) : ctF x t S = ctF y t S := by
 unfold ctF ctK
 refine List.map_congr_left fun j hj => ?_
 have hj := List.mem_range.1 hj
 unfold ctB
 rw [hl]
 split
 · rename_i g
   exact h j hj (by omega)
 · rfl
theorem runB_at {old : List UInt8} {l : List Sy} {i : Nat} (h : i < l.length) : (runB old l).getD i 0 = symB old (l.getD i Sy.zero) := runB_get h
section
variable (a z : UInt8) (l : List T3) (b : List UInt8)
def wrF : List (List UInt8) := flD (inpF b (mdI a)) (mdS z) (mdW a z l) (mdW a z l + (6 + (mdH a z l).length))
def wrS : List (List UInt8) := stD (wrF a z l b) (mdW a z l + 4 + 1 + 1) (mdH a z l) (mdH a z l).length
def wrK (k : Nat) : List (List UInt8) := wrD (symL (mdK a l).1) (mdH a z l) (upI (mdW a z l + 4 + 1 + 1) (mdH a z l).length) (mdS z) (mdI a) (mdQ a z l) (wrS a z l b) k
theorem wrF_len : (wrF a z l b).length = mdW a z l + (6 + (mdH a z l).length) := flD_len _ _ _ _
theorem mdH_lt {i : Nat} (h : i < (mdH a z l).length) : ((mdH a z l).getD i 0).toNat < mdW a z l := by
 obtain ⟨t, h1, _, h2⟩ := mdH_at a z l h
 omega
theorem wrS_len : (wrS a z l b).length = mdW a z l + (6 + (mdH a z l).length) := (stD_len _).trans (wrF_len a z l b)
theorem wrF_row (i : Nat) (h : i < (wrF a z l b).length) : ((wrF a z l b).getD i []).length = mdS z := by
 rw [wrF_len] at h
 unfold wrF
 rw [flD_get h, flC_len]
theorem wrF_lo {t : Nat} (h : t < mdW a z l) : (wrF a z l b).getD t [] = ctF (inpF b (mdI a)) t (mdS z) := by
 unfold wrF
 rw [flD_get (by omega)]
 unfold flC
 rw [if_pos h]
theorem wrS_row (i : Nat) (h : i < (wrS a z l b).length) : ((wrS a z l b).getD i []).length = mdS z := by
 rw [wrS_len] at h
 refine stD_row (wrF_row a z l b) (fun i hi => ?_) _ (Nat.le_refl _) i (by rw [wrF_len]; exact h)
 have := mdH_lt a z l hi
 rw [wrF_len]
 omega
theorem wrK_len (k : Nat) : (wrK a z l b k).length = mdW a z l + (6 + (mdH a z l).length) := (wrD_len k).trans (wrS_len a z l b)
theorem wrK_row (k i : Nat) (h : i < (wrK a z l b k).length) : ((wrK a z l b k).getD i []).length = mdS z := wrD_row (wrS_row a z l b) k i (by rw [wrS_len]; rw [wrK_len] at h; exact h)
theorem wrK_fit (k : Nat) : fitB (wrK a z l b k) (mdS z : Int) (mdW a z l : Int) (mdS z : Int) (mdW a z l) (mdH a z l) (upI (mdW a z l + 4 + 1 + 1) (mdH a z l).length) = true := by
 refine fit_iff.2 ⟨rfl, rfl, by rw [upI_len]; exact Nat.le_refl _, fun t ht => secB_yes (by omega) (by rw [wrK_len]; omega) ?_, fun i hi => ?_⟩
 · rw [Int.toNat_natCast, wrK_row a z l b k t (by rw [wrK_len]; omega)]
 · rw [upI_get hi]
   exact secB_yes (by omega) (by rw [wrK_len]; omega) (by rw [Int.toNat_natCast, wrK_row a z l b k _ (by rw [wrK_len]; omega)])
/-- The contents that a plan gives. -/
theorem wrK_cnt {k i : Nat} (hi : i < (mdQ a z l).length) : cntE false (mdS z : Int) (mdW a z l : Int) (mdI a : Int) ((mdK a l).2 : Int) (mdK a l).1 (mdQ a z l) (mdH a z l) (wrK a z l b k) (mdS z : Int) (mdW a z l : Int) (upI (mdW a z l + 4 + 1 + 1) (mdH a z l).length) (i : Int) = 0 ∧
   cntV false (mdS z : Int) (mdW a z l : Int) (mdI a : Int) ((mdK a l).2 : Int) (mdK a l).1 (mdQ a z l) (mdH a z l) (wrK a z l b k) (mdS z : Int) (mdW a z l : Int) (upI (mdW a z l + 4 + 1 + 1) (mdH a z l).length) (i : Int) = ctF (runB (inL (wrK a z l b k) (mdH a z l) (upI (mdW a z l + 4 + 1 + 1) (mdH a z l).length) (mdS z) (mdI a)) (symL (mdK a l).1)) ((mdQ a z l).getD i 0).toNat (mdS z) := by
 have h0 := cntE_0 (data := wrK a z l b k) (fs := (mdS z : Int)) (ls := (mdW a z l : Int)) (lst := upI (mdW a z l + 4 + 1 + 1) (mdH a z l).length) (k := (i : Int)) (md_val a z l) (by omega) (by rw [Int.toNat_natCast]; exact wrK_fit a z l b k)
 refine ⟨h0, (cntV_ok h0).trans ?_⟩
 unfold cntL
 rw [Int.toNat_natCast, Int.toNat_natCast, Int.toNat_natCast]
theorem wr_run : runOk (inpF b (mdI a)) (symL (mdK a l).1) := by
 obtain ⟨k1, k2, k3, k4, k5, k6⟩ := chkE_ok (mdE a l)
 intro i hi ho
 have hat := symL_atI k6 (k := i) hi
 have := hat.2.1 ho
 rw [inpF_len]
 omega
theorem wr_len : (symL (mdK a l).1).length = (mdK a l).2 := by
 have h1 := mdK_out a l
 have : ((symL (mdK a l).1).length : Int) = ((mdK a l).2 : Int) := chkG_tot _ _ (by omega) (chkE_ok (mdE a l)).2.2.2.2.2
 omega
/-- What holds while the sectors are written. -/
def WrOk (k : Nat) : Prop :=
 (∀ t, t < mdW a z l → (wrK a z l b k).getD t [] = if (t : Int) ∈ (mdQ a z l).take k then ctF (neW a l b) t (mdS z) else ctF (inpF b (mdI a)) t (mdS z)) ∧
 ∀ i, i < (mdH a z l).length → (wrK a z l b k).getD (mdW a z l + 4 + 1 + 1 + i) [] = ctF (inpF b (mdI a)) ((mdH a z l).getD i 0).toNat (mdS z)
theorem wr_in {k : Nat} (hk : k < (mdQ a z l).length) (hw : WrOk a z l b k) : ctF (runB (inL (wrK a z l b k) (mdH a z l) (upI (mdW a z l + 4 + 1 + 1) (mdH a z l).length) (mdS z) (mdI a)) (symL (mdK a l).1)) ((mdQ a z l).getD k 0).toNat (mdS z) = ctF (neW a l b) ((mdQ a z l).getD k 0).toNat (mdS z) := by
 have hS := mdS_le z
 have hcov := mdW_cov a z l
 obtain ⟨t, ht, htC, htn⟩ := md_at a z l hk
 rw [ht, Int.toNat_natCast]
 unfold neW
 refine ctF_eq (by rw [runB_len, runB_len]) fun j hj hlt => ?_
 rw [runB_len] at hlt
 rw [runB_at hlt, runB_at hlt]
 have hok := wr_run a l b _ hlt
 have hit : (t * mdS z + j) / mdS z = t := (in_sector (by omega)).2 ⟨by omega, by omega⟩
 have hhit : ∀ u, rdT ((symL (mdK a l).1).getD (t * mdS z + j) Sy.zero) (mdS z) = u → ((symL (mdK a l).1).getD (t * mdS z + j) Sy.zero).old = true → hitB (symL (mdK a l).1) (mdS z) t u = true := by
   intro u hu ho
   refine any_yes (p := fun j => decide (t * mdS z + j < (symL (mdK a l).1).length) && ((symL (mdK a l).1).getD (t * mdS z + j) Sy.zero).old && decide (rdT ((symL (mdK a l).1).getD (t * mdS z + j) Sy.zero) (mdS z) = u)) (k := j) hj ?_
   rw [decide_eq_true hlt, ho, decide_eq_true hu]
   rfl
 generalize (symL (mdK a l).1).getD (t * mdS z + j) Sy.zero = s at hok hhit ⊢
 unfold symB
 cases ho : s.old with
 | false => rfl
 | true =>
   rw [if_pos rfl, if_pos rfl]
   have hp := hok ho
   rw [inpF_len] at hp
   obtain ⟨hp0, hp1⟩ := hp
   congr 1
   generalize hpe : s.at_.toNat = p
   have hpI : p < mdI a := by omega
   unfold inL
   rw [map_range_getD hpI]
   unfold inB
   rw [secT_idx]
   have hq := Nat.div_add_mod p (mdS z)
   rw [Nat.mul_comm] at hq
   have hm := Nat.mod_lt p (show 0 < mdS z by omega)
   have hold : ∀ u, u = p / mdS z → (ctF (inpF b (mdI a)) u (mdS z)).getD (p % mdS z) 0 = (inpF b (mdI a)).getD p 0 := by
     rintro u rfl
     rw [ctF_get hm, hq]
     unfold ctB
     rw [if_pos (by rw [inpF_len]; exact hpI)]
   have hun : p / mdS z < mdW a z l := by
     rw [Nat.div_lt_iff_lt_mul (by omega), Nat.mul_comm]
     omega
   by_cases hm2 : ((p / mdS z : Nat) : Int) ∈ mdH a z l
   · obtain ⟨i, e1, e2, e3⟩ := idxJ_mem hm2
     rw [e1, if_pos (by omega), Int.toNat_natCast, upI_get e2, Int.toNat_natCast, hw.2 i e2]
     exact hold _ (by rw [e3, Int.toNat_natCast])
   · have hneg := idxJ_neg.2 hm2
     rw [if_neg (by omega), Int.toNat_natCast, hw.1 _ hun]
     have hno : ¬ ((p / mdS z : Nat) : Int) ∈ (mdQ a z l).take k := by
       intro hin
       obtain ⟨i, hi, hie⟩ := List.getElem_of_mem hin
       rw [List.length_take] at hi
       rw [List.getElem_take] at hie
       have hik : i < k := by omega
       have hu0 : (mdQ a z l).getD i 0 = ((p / mdS z : Nat) : Int) := by
         rw [List.getD_eq_getElem?_getD, List.getElem?_eq_getElem (by omega)]
         exact hie
       obtain ⟨u', hu1, huC, _⟩ := md_at a z l (k := i) (by omega)
       have huu : u' = p / mdS z := by omega
       subst huu
       have hne := mdQ_ne a z l hik hk
       rw [hu0, ht] at hne
       have hkm : k < (mkQ (symL (mdK a l).1) (mdI a : Int) (mdS z) (mdW a z l)).length := by rw [mdQ_is, NI_len] at hk; exact hk
       have hpair := List.pairwise_iff_getElem.1 (mk_pair (mdC_len a z l)) i k (by omega) hkm hik
       rw [mdQ_is, NI_get hkm] at ht
       rw [mdQ_is, NI_get (by omega)] at hu0
       rw [show (mkQ (symL (mdK a l).1) (mdI a : Int) (mdS z) (mdW a z l))[i] = p / mdS z by omega, show (mkQ (symL (mdK a l).1) (mdI a : Int) (mdS z) (mdW a z l))[k] = t by omega] at hpair
       rcases hpair with h | h
       · exact hm2 (by rw [mdH_is]; exact NI_mem.2 h)
       · unfold rdsB at h
         rw [decide_eq_false (by omega), (mem_chgL.1 htC).2, (mem_chgL.1 huC).2, hhit (p / mdS z) (by unfold rdT; rw [hpe]) ho] at h
         cases h
     rw [if_neg hno]
     exact hold _ rfl
theorem wr_ok : ∀ k, k ≤ (mdQ a z l).length → WrOk a z l b k
 | 0, _ => by
   refine ⟨fun t ht => ?_, fun i hi => ?_⟩
   · rw [List.take_zero, if_neg (by simp)]
     exact (stD_lo (by omega) _).trans (wrF_lo a z l b ht)
   · have := stD_hi (FD := wrF a z l b) (p := mdW a z l + 4 + 1 + 1) (H := mdH a z l) (fun i hi => by have := mdH_lt a z l hi; omega) (by rw [wrF_len]; omega) _ (Nat.le_refl _) i hi
     exact this.trans (wrF_lo a z l b (mdH_lt a z l hi))
 | k + 1, hk => by
   have ih := wr_ok k (by omega)
   obtain ⟨t0, ht0, _, htn⟩ := md_at a z l (k := k) (by omega)
   have hrow := wr_in a z l b (by omega) ih
   have hlen := wrK_len a z l b k
   have hs : wrK a z l b (k + 1) = (wrK a z l b k).set t0 (ctF (neW a l b) t0 (mdS z)) := by
     show (wrK a z l b k).set ((mdQ a z l).getD k 0).toNat _ = _
     have e := hrow
     unfold wrK at e
     rw [ht0, Int.toNat_natCast] at e ⊢
     rw [← e]
   have htk : (mdQ a z l).take (k + 1) = (mdQ a z l).take k ++ [(t0 : Int)] := by rw [take_snoc' (mdQ a z l) 0 k (by omega), ht0]
   rw [WrOk, hs]
   refine ⟨fun t ht => ?_, fun i hi => ?_⟩
   · by_cases e : t0 = t
     · subst e
       rw [getD_set_eq (by rw [hlen]; omega), if_pos (by rw [htk]; simp)]
     · rw [getD_set_ne e, ih.1 t ht]
       have : (t : Int) ∈ (mdQ a z l).take (k + 1) ↔ (t : Int) ∈ (mdQ a z l).take k := by
         rw [htk, List.mem_append, List.mem_singleton]
         constructor
         · rintro (h | h)
           · exact h
           · omega
         · exact .inl
       simp only [this]
   · rw [getD_set_ne (by omega)]
     exact ih.2 i hi
/-- In the end, the image is the output. -/
theorem wr_all {t : Nat} (ht : t < mdW a z l) : (wrK a z l b (mdQ a z l).length).getD t [] = ctF (neW a l b) t (mdS z) := by
 have hS := mdS_le z
 rw [(wr_ok a z l b _ (Nat.le_refl _)).1 t ht, List.take_length]
 split
 · rfl
 · rename_i hno
   have hch : chgB (symL (mdK a l).1) (mdI a : Int) (mdS z) t = false := by
     cases hc : chgB (symL (mdK a l).1) (mdI a : Int) (mdS z) t with
     | false => rfl
     | true => exact absurd (by rw [mdQ_is]; exact NI_mem.2 ((mkQ_mem (mdC_len a z l)).2 (mem_chgL.2 ⟨ht, hc⟩))) hno
   unfold ctF ctK
   refine List.map_congr_left fun j hj => ?_
   have hj := List.mem_range.1 hj
   have hit : (t * mdS z + j) / mdS z = t := (in_sector (by omega)).2 ⟨by omega, by omega⟩
   have h1 := chY_no (by omega) hch hit
   have hok := wr_run a l b (t * mdS z + j)
   unfold chY at h1
   unfold ctB neW
   rw [runB_len, inpF_len]
   generalize hi : t * mdS z + j = i at *
   by_cases hil : i < (symL (mdK a l).1).length
   · rw [if_pos hil, decide_eq_false_iff_not, Classical.not_not] at h1
     have h2 := hok hil
     rw [h1] at h2
     have h3 := h2 rfl
     rw [inpF_len] at h3
     dsimp only at h3
     rw [if_pos (by omega), if_pos hil, runB_at hil, h1]
     unfold symB
     rw [if_pos rfl]
     dsimp only
     rw [Int.toNat_natCast, UInt8.zero_add]
   · rw [if_neg hil, decide_eq_false_iff_not] at h1
     rw [if_neg (by omega), if_neg hil]
end
end Go.Sl
end
