/-
  The plans that the laws speak of: their order.
-/
import Derived.Test.YtpccfdnmnnnboaaGreatVTk
import Derived.Test.YtpccfdnmnnnboaaGreatVWPlR
section
namespace Go.Sl

section
variable (a z : UInt8) (l : List T3)
/-- The readings of the patch. -/
def mdn (a z : UInt8) (l : List T3) : Nat := rdN (mdI a : Int) ((mdK a l).2 : Int) (mdS z)
def mdr (a z : UInt8) (l : List T3) : List (List Int) := rdsL (symL (mdK a l).1) (mdI a : Int) (mdS z) (mdn a z l) (mdn a z l)
theorem md_rd : rdE false (mdI a : Int) ((mdK a l).2 : Int) (mdS z : Int) (mdK a l).1 = 0 ∧ rdM false (mdI a : Int) ((mdK a l).2 : Int) (mdS z : Int) (mdK a l).1 = mdr a z l ∧ mdn a z l ≤ mdW a z l := by
 have h2 := mdS_le z
 have h3 := mdW_le a z l
 have h4 := sizB_iff.1 (md_siz a z l)
 obtain ⟨e1, e2, e3, _⟩ := rd_fine (S := mdS z) (n := mdW a z l) (mdE a l) (by omega) (by omega) (by omega) h4.2.2.2.2.1 h4.2.2.2.2.2
 exact ⟨e1, e2, e3⟩
theorem mdr_len : (mdr a z l).length = mdn a z l := rdsL_len _ _ _ _ _
theorem mdr_row (i : Nat) : ((mdr a z l).getD i []).length ≤ 9223372036854775807 := by
 have h3 := mdW_le a z l
 have h4 := (md_rd a z l).2.2
 by_cases h : i < mdn a z l
 · unfold mdr
   rw [rdsL_get h, NI_len]
   have := List.length_filter_le (rdsB (symL (mdK a l).1) (mdI a : Int) (mdS z) i) (List.range (mdn a z l))
   rw [List.length_range] at this
   unfold rdsR
   omega
 · rw [getD_ge (by rw [mdr_len]; omega)]
   exact Nat.zero_le _
theorem md_has {i : Nat} (hi : i < (mdQ a z l).length) : (NI (mdC a z l)).contains ((mdQ a z l).getD i 0) = true := by
 obtain ⟨t, h1, h2, _⟩ := md_at a z l hi
 rw [h1, NI_has]
 exact List.contains_iff_mem.2 h2
theorem mdH_has {i : Nat} (hi : i < (mdH a z l).length) : (NI (mdC a z l)).contains ((mdH a z l).getD i 0) = true := by
 obtain ⟨t, h1, h2, _⟩ := mdH_at a z l hi
 rw [h1, NI_has]
 exact List.contains_iff_mem.2 h2
theorem mdQ_num : (mdQ a z l).length = (mdC a z l).length := by
 rw [mdQ_is, NI_len, mkQ_len (mdC_len a z l)]
 rfl
theorem mdQ_nodup : (mdQ a z l).Nodup := by
 rw [mdQ_is]
 unfold NI
 rw [List.nodup_iff_pairwise_ne, List.pairwise_map]
 exact (List.nodup_iff_pairwise_ne.1 (mkQ_nodup (mdC_len a z l))).imp fun h => by omega
theorem mdQ_ne {i k : Nat} (hik : i < k) (hk : k < (mdQ a z l).length) : (mdQ a z l).getD k 0 ≠ (mdQ a z l).getD i 0 := (nodupI_ne (mdQ_nodup a z l) i k hik hk).symm
theorem md_stash {i k u t : Nat} (hik : i < k) (hk : k < (mdQ a z l).length) (hu : (mdQ a z l).getD k 0 = (u : Int)) (ht : (mdQ a z l).getD i 0 = (t : Int)) (hn : u < mdn a z l) (hc : ((mdr a z l).getD u []).contains (t : Int) = true) : (mdH a z l).contains (t : Int) = true := by
 unfold mdr at hc
 rw [rdsL_get hn, NI_has, List.contains_iff_mem] at hc
 unfold rdsR at hc
 rw [List.mem_filter] at hc
 rw [mdQ_is] at hu ht hk
 rw [NI_len] at hk
 rw [NI_get hk] at hu
 rw [NI_get (by omega)] at ht
 have := List.pairwise_iff_getElem.1 (mk_pair (mdC_len a z l)) i k (by omega) hk hik
 rw [show (mkQ (symL (mdK a l).1) (mdI a : Int) (mdS z) (mdW a z l))[i] = t by omega, show (mkQ (symL (mdK a l).1) (mdI a : Int) (mdS z) (mdW a z l))[k] = u by omega, hc.2] at this
 rcases this with h | h
 · rw [mdH_is, NI_has]
   exact List.contains_iff_mem.2 h
 · cases h
end
end Go.Sl
end
/-
  The contract of the law PlanOrders.
-/
section
namespace Go.Proofs.YtpccfdnmnnnboaaGreat
open Go.Sl

theorem has_md (A : Option Addr) (l : List Int) (c : Nat) (n : Int) (m : Nat) (hm : l.length = m) (hl : l.length ≤ 9223372036854775807) :
   Ctr X 23 [.slice A m c, .int .i64 n] [Rd A (I64 l)] [] (fun v R' H' => v = .bool (l.contains n) ∧ R' = [] ∧ H' = []) := by
 subst hm
 exact has_c A l c n hl
theorem changes_md (a z : UInt8) (l : List T3) (OA : Option Addr) (oc : Nat) (qv hv : Value) :
   Ctr X 20 [.agg (List.toArray [.int .i64 ((mdS z : Nat) : Int), .int .i64 ((mdW a z l : Nat) : Int), .bool false, .int .i64 ((mdI a : Nat) : Int), .int .i64 (((mdK a l).2 : Nat) : Int), .slice OA (mdK a l).1.length oc, qv, hv])] [Rd OA (opsV (mdK a l).1)] [] (fun v R' H' => ∃ (A : Option Addr) (c : Nat), v = .slice A (mdC a z l).length c ∧ R' = [] ∧ H' = [Own 3 1 A (mdC a z l).length c (I64 (NI (mdC a z l)))]) :=
 changes19_c (mdS z) (mdW a z l) false ((mdI a : Nat) : Int) (((mdK a l).2 : Nat) : Int) (mdK a l).1 OA oc qv hv (by have := mdK_ops a l; omega) (by have := mdS_le z; omega) (by have := mdS_le z; omega) (mdW_le a z l).1 (by have := mdW_le a z l; omega) (mdE a l)
theorem reads_md (a z : UInt8) (l : List T3) (OA : Option Addr) (oc : Nat) :
   Ctr X 24 [.agg (List.toArray [.bool false, .int .i64 ((mdI a : Nat) : Int), .int .i64 (((mdK a l).2 : Nat) : Int), .slice OA (mdK a l).1.length oc]), .int .i64 ((mdS z : Nat) : Int)] [Rd OA (opsV (mdK a l).1)] [] (fun v R' H' => ∃ (A : Option Addr) (c : Nat) (hs : List Hd), v = .tuple #[.slice A (mdr a z l).length c, .int .i64 0] ∧ R' = [Rd A (rowsV hs (J8 (mdr a z l))), KidsR hs (J8 (mdr a z l))] ∧ H' = [] ∧ hs.length = (mdr a z l).length) := by
 have := readsR_c false ((mdI a : Nat) : Int) (((mdK a l).2 : Nat) : Int) (mdK a l).1 OA oc (by have := mdK_ops a l; omega) ((mdS z : Nat) : Int)
 rw [(md_rd a z l).1, (md_rd a z l).2.1] at this
 exact this

set_option maxHeartbeats 4000000 in
theorem pOrders_c (LA : Option Addr) (l : List T3) (lc : Nat) (hl : l.length ≤ 9223372036854775807) (a z : UInt8) (BA : Option Addr) (b : List UInt8) (bc : Nat) (hbl : b.length ≤ 9223372036854775807) :
   Ctr X 4 [.agg (List.toArray [.slice LA l.length lc, .int .u8 (a.toNat : Int), .int .u8 (z.toNat : Int), .slice BA b.length bc])] [Rd LA (triV l), Rd BA (U8 b)] [] (fun v R' H' => v = .bool true ∧ R' = [] ∧ H' = []) := by
 refine Ctr.of (X := X) (fn := Tryz.f4) Tryz.func4 rfl (by kernel_rfl) rfl ?_
 intro β
 have hops := mdK_ops a l
 have hI := mdI_le a
 have hil := inpF_len b (mdI a)
 have hS := mdS_le z
 have hW := mdW_le a z l
 have hO := mdK_out a l
 have hQl := mdQ_len a z l
 have hHl := mdH_len a z l
 have hmk := md_mk a z l (inpF b (mdI a)).length (inpF_len b (mdI a))
 have hQC := mdQ_num a z l
 have hC := mdC_len a z l
 have hrd := md_rd a z l
 have hrl := mdr_len a z l
 refine C.seq (C.region ?_)
 refine L.boxA rfl rfl (fun A1 => ?_)
 refine Lpu rfl rfl ?_; refine L.nil (QE.seq (C.seq ?_)); refine C.freeze 0 rfl [] (by decide) (by decide) ?_; refine C.region ?_; refine L.call (js := []) (js' := []) (sanity19_c) rfl rfl rfl (by decide) trivial rfl ?_
 rintro _ _ _ ⟨rfl, rfl, rfl⟩
 refine Lpu rfl rfl ?_; refine L.nil (QE.seq (C.seq (C.region ?_))); refine L.step (Ev.loadA (vs := [.slice LA l.length lc, .int .u8 (a.toNat : Int), .int .u8 (z.toNat : Int), .slice BA b.length bc]) rfl rfl rfl (Src.r 0 rfl) rfl rfl (by decide)) rfl ?_; refine L.callR (js := []) (js' := []) (made19_c LA l lc hl a z BA b bc hbl) rfl rfl rfl (by decide) (Hq [1, 2] rfl) rfl ?_
 rintro _ _ _ ⟨YA, OA, yc, oc, rfl, rfl, rfl⟩
 refine L.norm (H' := [_]) [0] ⟨rfl, trivial⟩ (by decide) ?_
 refine L.alloc rfl rfl rfl (fun A4 => ?_)
 refine L.storeA (vs := [.slice YA (inpF b (mdI a)).length yc, .bool false, .int .i64 ((mdI a : Nat) : Int), .int .i64 (((mdK a l).2 : Nat) : Int), .slice OA (mdK a l).1.length oc, .int .i64 ((mdS z : Nat) : Int), .int .i64 ((mdW a z l : Nat) : Int)]) (j := 1) rfl rfl rfl rfl rfl (Nat.zero_lt_succ _) rfl rfl ?_; refine L.nil (QE.seq (C.seq ?_)); refine C.freeze 1 rfl [0] (by decide) (by decide) ?_; refine C.norm (H' := [_]) [0] ⟨rfl, trivial⟩ (by decide) ?_; refine C.region ?_; refine L.step (Ev.fieldAddr rfl rfl rfl rfl rfl rfl (Src.r 0 rfl) (Nat.zero_lt_succ _) rfl) rfl ?_; refine L.step (Ev.load rfl rfl rfl (Src.r 0 rfl) rfl) rfl ?_; refine L.step (Ev.fieldAddr rfl rfl rfl rfl rfl rfl (Src.r 0 rfl) (Nat.zero_lt_succ _) rfl) rfl ?_; refine L.step (Ev.loadA rfl rfl rfl (Src.r 0 rfl) rfl rfl (by decide)) rfl ?_; refine L.step (Ev.fieldAddr rfl rfl rfl rfl rfl rfl (Src.r 0 rfl) (Nat.zero_lt_succ _) rfl) rfl ?_; refine L.step (Ev.load rfl rfl rfl (Src.r 0 rfl) rfl) rfl ?_; refine L.step (Ev.fieldAddr rfl rfl rfl rfl rfl rfl (Src.r 0 rfl) (Nat.zero_lt_succ _) rfl) rfl ?_; refine L.step (Ev.load rfl rfl rfl (Src.r 0 rfl) rfl) rfl ?_; refine L.callR (js := []) (js' := [0]) (make_k YA (inpF b (mdI a)).length yc ((mdS z : Nat) : Int) ((mdW a z l : Nat) : Int) false ((mdI a : Nat) : Int) (((mdK a l).2 : Nat) : Int) (mdK a l).1 OA oc (by omega) (by omega) (mdQ a z l) (mdH a z l) (mdK a l).1 hmk.1 hmk.2) rfl rfl rfl (by decide) (Hq [1] rfl) rfl ?_
 rintro _ _ _ ⟨O1, Q1, H1, c1, d1, e1, rfl, rfl, rfl⟩
 refine L.norm (H' := [_]) [0] ⟨rfl, trivial⟩ (by decide) ?_; refine Lpu rfl rfl ?_; refine Lpu rfl rfl ?_; refine Lpu rfl rfl ?_
 refine L.alloc rfl rfl rfl (fun A5 => ?_)
 refine L.storeA (vs := [.int .i64 ((mdS z : Nat) : Int), .int .i64 ((mdW a z l : Nat) : Int), .bool false, .int .i64 ((mdI a : Nat) : Int), .int .i64 (((mdK a l).2 : Nat) : Int), .slice O1 (mdK a l).1.length c1, .slice Q1 (mdQ a z l).length d1, .slice H1 (mdH a z l).length e1]) (j := 1) rfl rfl rfl rfl rfl (Nat.zero_lt_succ _) rfl rfl ?_; refine Lpu rfl rfl ?_; refine L.nil (QE.seq (C.seq ?_)); refine C.freeze 1 rfl [0] (by decide) (by decide) ?_; refine C.norm (H' := [_]) [0] ⟨rfl, trivial⟩ (by decide) ?_; refine C.region ?_; refine L.step (Ev.fieldAddr rfl rfl rfl rfl rfl rfl (Src.r 4 rfl) (Nat.zero_lt_succ _) rfl) rfl ?_; refine L.step (Ev.load rfl rfl rfl (Src.r 4 rfl) rfl) rfl ?_; refine L.step (Ev.fieldAddr rfl rfl rfl rfl rfl rfl (Src.r 4 rfl) (Nat.zero_lt_succ _) rfl) rfl ?_; refine L.step (Ev.load rfl rfl rfl (Src.r 4 rfl) rfl) rfl ?_; refine L.step (Ev.fieldAddr rfl rfl rfl rfl rfl rfl (Src.r 4 rfl) (Nat.zero_lt_succ _) rfl) rfl ?_; refine L.step (Ev.loadA rfl rfl rfl (Src.r 4 rfl) rfl rfl (by decide)) rfl ?_; refine L.step (Ev.build rfl rfl rfl rfl rfl rfl rfl) rfl ?_; refine L.call (js := []) (js' := [0]) (changes_md a z l OA oc (.slice none 0 0) (.slice none 0 0)) rfl rfl rfl (by decide) (Hq [5] rfl) rfl ?_
 rintro _ _ _ ⟨A38, c38, rfl, rfl, rfl⟩
 refine L.norm (H' := [_, _]) [0, 1] ⟨rfl, rfl, trivial⟩ (by decide) ?_; refine Lpu rfl rfl ?_; refine L.nil (QE.seq (C.seq (C.seq ?_))); refine C.freeze 0 rfl [1] (by decide) (by decide) ?_; refine C.norm (H' := [_]) [0] ⟨rfl, trivial⟩ (by decide) ?_; refine C.region ?_; refine Lpu rfl rfl ?_; refine Lpu rfl rfl ?_; refine Lpu rfl rfl ?_; refine L.nil (QE.seq ?_)
 refine C.condB 41 rfl (fun hc41 => ?_) (fun hc41 => ?_)
 ·
  replace hc41 := of_decide_eq_true hc41
  omega
 ·
  replace hc41 := of_decide_eq_false hc41
  refine C.skip (QE.seq (C.seq (C.seq (C.region ?_)))); refine Lpu rfl rfl ?_; refine L.step (Ev.cast (u := .bool false) (Ev.pure rfl) (congrArg Value.bool (by decide))) rfl ?_; refine Lpu rfl rfl ?_
  refine L.bool 49 rfl (fun hg49 => ?_) (fun hg49 => ?_)
  ·
   cases hg49
  ·
   refine L.yes rfl ?_; refine L.step (Ev.loadA (vs := [.int .i64 ((mdS z : Nat) : Int), .int .i64 ((mdW a z l : Nat) : Int), .bool false, .int .i64 ((mdI a : Nat) : Int), .int .i64 (((mdK a l).2 : Nat) : Int), .slice O1 (mdK a l).1.length c1, .slice Q1 (mdQ a z l).length d1, .slice H1 (mdH a z l).length e1]) rfl rfl rfl (Src.r 1 rfl) rfl rfl (by decide)) rfl ?_; refine L.yes rfl ?_; refine L.call (js := []) (js' := [0]) (valid_k ((mdS z : Nat) : Int) ((mdW a z l : Nat) : Int) false ((mdI a : Nat) : Int) (((mdK a l).2 : Nat) : Int) (mdK a l).1 (mdQ a z l) (mdH a z l) O1 Q1 H1 c1 d1 e1 (by omega) (by omega) (by omega) true (md_val a z l)) rfl rfl rfl (by decide) (Hq [2, 3, 4] rfl) rfl ?_
   rintro _ _ _ ⟨rfl, rfl, rfl⟩
   refine L.norm (H' := [_]) [0] ⟨rfl, trivial⟩ (by decide) ?_; refine L.yes rfl ?_; refine Lpu rfl rfl ?_; refine Lpu rfl rfl ?_; refine Lpu rfl rfl ?_; refine L.yes rfl ?_; refine L.step (Ev.fieldAddr rfl rfl rfl rfl rfl rfl (Src.r 1 rfl) (Nat.zero_lt_succ _) rfl) rfl ?_; refine L.yes rfl ?_; refine L.step (Ev.load rfl rfl rfl (Src.r 1 rfl) rfl) rfl ?_; refine L.yes rfl ?_; refine Lpu rfl rfl ?_; refine L.yes rfl ?_; refine Lpu rfl rfl ?_; refine L.yes rfl ?_; refine Lpu rfl rfl ?_; refine L.yes rfl ?_; refine L.step (Ev.cast (u := .bool false) (Ev.pure rfl) (congrArg Value.bool (by rw [hQC]; simp))) rfl ?_; refine Lpu rfl rfl ?_; refine Lpu rfl rfl ?_
   refine L.bool 62 rfl (fun hg62 => ?_) (fun hg62 => ?_)
   ·
    cases hg62
   ·
    refine L.yes rfl ?_; refine L.step (Ev.fieldAddr rfl rfl rfl rfl rfl rfl (Src.r 1 rfl) (Nat.zero_lt_succ _) rfl) rfl ?_; refine L.yes rfl ?_; refine L.step (Ev.load rfl rfl rfl (Src.r 1 rfl) rfl) rfl ?_; refine L.yes rfl ?_; refine L.step (Ev.fieldAddr rfl rfl rfl rfl rfl rfl (Src.r 5 rfl) (Nat.zero_lt_succ _) rfl) rfl ?_; refine L.yes rfl ?_; refine L.step (Ev.load rfl rfl rfl (Src.r 5 rfl) rfl) rfl ?_; refine L.yes rfl ?_; refine L.step (Ev.cast (u := .bool false) (Ev.pure rfl) (congrArg Value.bool (by simp))) rfl ?_; refine Lpu rfl rfl ?_; refine Lpu rfl rfl ?_
    refine L.bool 69 rfl (fun hg69 => ?_) (fun hg69 => ?_)
    ·
     cases hg69
    ·
     refine L.yes rfl ?_; refine L.step (Ev.fieldAddr rfl rfl rfl rfl rfl rfl (Src.r 1 rfl) (Nat.zero_lt_succ _) rfl) rfl ?_; refine L.yes rfl ?_; refine L.step (Ev.load rfl rfl rfl (Src.r 1 rfl) rfl) rfl ?_; refine L.yes rfl ?_; refine L.step (Ev.fieldAddr rfl rfl rfl rfl rfl rfl (Src.r 5 rfl) (Nat.zero_lt_succ _) rfl) rfl ?_; refine L.yes rfl ?_; refine L.step (Ev.load rfl rfl rfl (Src.r 5 rfl) rfl) rfl ?_; refine L.yes rfl ?_; refine L.step (Ev.cast (u := .bool false) (Ev.pure rfl) (congrArg Value.bool (by simp))) rfl ?_; refine Lpu rfl rfl ?_; refine Lpu rfl rfl ?_
     refine L.bool 76 rfl (fun hg76 => ?_) (fun hg76 => ?_)
     ·
      cases hg76
     ·
      refine L.yes rfl ?_; refine L.step (Ev.fieldAddr rfl rfl rfl rfl rfl rfl (Src.r 1 rfl) (Nat.zero_lt_succ _) rfl) rfl ?_; refine L.yes rfl ?_; refine L.step (Ev.loadA rfl rfl rfl (Src.r 1 rfl) rfl rfl (by decide)) rfl ?_; refine L.yes rfl ?_; refine L.step (Ev.fieldAddr rfl rfl rfl rfl rfl rfl (Src.r 5 rfl) (Nat.zero_lt_succ _) rfl) rfl ?_; refine L.yes rfl ?_; refine L.step (Ev.loadA rfl rfl rfl (Src.r 5 rfl) rfl rfl (by decide)) rfl ?_; refine L.yes rfl ?_; refine L.call (js := []) (js' := [0]) (sameP_c false ((mdI a : Nat) : Int) (((mdK a l).2 : Nat) : Int) (mdK a l).1 O1 c1 (by omega) OA oc) rfl rfl rfl (by decide) (Hq [2, 6] rfl) rfl ?_
      rintro _ _ _ ⟨rfl, rfl, rfl⟩
      refine L.norm (H' := [_]) [0] ⟨rfl, trivial⟩ (by decide) ?_; refine L.yes rfl ?_; refine Lpu rfl rfl ?_; refine Lpu rfl rfl ?_; refine L.nil (QE.seq ?_)
      refine C.cond rfl (fun h => by cases h) (fun _ => ?_)
      refine C.skip (QE.seq (C.seq (C.seq (C.region ?_)))); refine Lpu rfl rfl ?_; refine L.nil (QE.seq (C.block ?_)); refine C.loop (fun i : Nat => [(3, .bool true), (4, ptrOf A4 0), (5, ptrOf A5 0), (7, .slice A38 (mdC a z l).length c38), (8, .int .i64 (i : Int))]) (fun i : Nat => [Rd A4 [.slice YA (inpF b (mdI a)).length yc, .bool false, .int .i64 ((mdI a : Nat) : Int), .int .i64 (((mdK a l).2 : Nat) : Int), .slice OA (mdK a l).1.length oc, .int .i64 ((mdS z : Nat) : Int), .int .i64 ((mdW a z l : Nat) : Int)], Rd A5 [.int .i64 ((mdS z : Nat) : Int), .int .i64 ((mdW a z l : Nat) : Int), .bool false, .int .i64 ((mdI a : Nat) : Int), .int .i64 (((mdK a l).2 : Nat) : Int), .slice O1 (mdK a l).1.length c1, .slice Q1 (mdQ a z l).length d1, .slice H1 (mdH a z l).length e1], Rd OA (opsV (mdK a l).1), Rd Q1 (I64 (mdQ a z l)), Rd H1 (I64 (mdH a z l)), Rd A38 (I64 (NI (mdC a z l)))]) (fun i : Nat => []) (fun i : Nat => i ≤ (mdQ a z l).length) (fun i : Nat => (mdQ a z l).length - i) 0 (Nat.zero_le _) (by exact Le.mk' (rs := [5, 1, 6, 3, 4, 0]) (hs := []) ⟨rfl, rfl, rfl, rfl, rfl, trivial⟩ ⟨rfl, rfl, rfl, rfl, rfl, rfl, trivial⟩ trivial (by decide)) ?_
      intro i hi
      refine C.seq (C.seq (C.region ?_)); refine Lpu rfl rfl ?_; refine L.step (Ev.fieldAddr rfl rfl rfl rfl rfl rfl (Src.r 1 rfl) (Nat.zero_lt_succ _) rfl) rfl ?_; refine L.step (Ev.load rfl rfl rfl (Src.r 1 rfl) rfl) rfl ?_; refine Lpu rfl rfl ?_; refine Lpu rfl rfl ?_; refine L.nil (QE.seq ?_)
      refine C.condB 88 rfl (fun hc88 => ?_) (fun hc88 => ?_)
      ·
       replace hc88 := of_decide_eq_true hc88
       refine C.skip (QE.seq (C.seq (C.block (C.seq (C.region ?_))))); refine Lpu rfl rfl ?_; refine L.step (Ev.fieldAddr rfl rfl rfl rfl rfl rfl (Src.r 1 rfl) (Nat.zero_lt_succ _) rfl) rfl ?_; refine L.step (Ev.load rfl rfl rfl (Src.r 1 rfl) rfl) rfl ?_; refine Lpu rfl rfl ?_; refine L.step (Ev.idx1 (k := i) rfl rfl rfl rfl rfl rfl rfl (by omega) (Src.r 3 rfl) (by rw [I64_len]; omega)) rfl ?_; refine L.step (Ev.load rfl rfl rfl (Src.r 3 rfl) (I64_get (by omega))) rfl ?_; refine L.call (js := []) (js' := []) (Ctr.tb true (has_md A38 (NI (mdC a z l)) c38 ((mdQ a z l).getD i 0) (mdC a z l).length (NI_len _) (by rw [NI_len]; omega)) (md_has a z l (by omega))) rfl rfl rfl (by decide) (Hq [5] rfl) rfl ?_
       rintro _ _ _ ⟨rfl, rfl, rfl⟩
       refine Lpu rfl rfl ?_; refine L.nil (QE.seq ?_)
       refine C.cond rfl (fun h => by cases h) (fun _ => ?_)
       refine C.skip ?_; refine QE.blkN ?_; refine QE.seq (C.region ?_); refine Lpu rfl rfl ?_; refine L.step (Ev.add rfl rfl (by omega) (by omega)) rfl ?_; refine Lpu rfl rfl ?_; refine L.nil ?_
       refine QE.round (i + 1) (by omega) (by omega) (by exact Le.mk' (rs := [0, 1, 2, 3, 4, 5]) (hs := []) ⟨rfl, rfl, rfl, rfl, rfl, trivial⟩ ⟨rfl, rfl, rfl, rfl, rfl, rfl, trivial⟩ trivial (by decide))
      ·
       replace hc88 := of_decide_eq_false hc88
       refine C.exit ?_; refine QE.tX ?_; refine QE.tX ?_; refine QE.blk ?_; refine QE.seq (C.seq (C.region ?_)); refine L.step (Ev.fieldAddr rfl rfl rfl rfl rfl rfl (Src.r 0 rfl) (Nat.zero_lt_succ _) rfl) rfl ?_; refine L.step (Ev.loadA rfl rfl rfl (Src.r 0 rfl) rfl rfl (by decide)) rfl ?_; refine L.step (Ev.fieldAddr rfl rfl rfl rfl rfl rfl (Src.r 0 rfl) (Nat.zero_lt_succ _) rfl) rfl ?_; refine L.step (Ev.load rfl rfl rfl (Src.r 0 rfl) rfl) rfl ?_; refine L.callR (js := []) (js' := []) (reads_md a z l OA oc) rfl rfl rfl (by decide) (Hq [2] rfl) rfl ?_
       rintro _ _ _ ⟨A104, c104, hs, rfl, rfl, rfl, hh⟩
       refine Lpu rfl rfl ?_; refine Lpu rfl rfl ?_; refine Lpu rfl rfl ?_; refine Lpu rfl rfl ?_; refine Lpu rfl rfl ?_; refine L.nil (QE.seq (C.seq (C.seq (C.region ?_)))); refine Lpu rfl rfl ?_; refine L.nil (QE.seq (C.block ?_)); refine C.loop (fun i : Nat => [(3, .bool true), (4, ptrOf A4 0), (5, ptrOf A5 0), (7, .slice A38 (mdC a z l).length c38), (9, .slice A104 (mdr a z l).length c104), (11, .int .i64 (i : Int))]) (fun i : Nat => [Rd A4 [.slice YA (inpF b (mdI a)).length yc, .bool false, .int .i64 ((mdI a : Nat) : Int), .int .i64 (((mdK a l).2 : Nat) : Int), .slice OA (mdK a l).1.length oc, .int .i64 ((mdS z : Nat) : Int), .int .i64 ((mdW a z l : Nat) : Int)], Rd A5 [.int .i64 ((mdS z : Nat) : Int), .int .i64 ((mdW a z l : Nat) : Int), .bool false, .int .i64 ((mdI a : Nat) : Int), .int .i64 (((mdK a l).2 : Nat) : Int), .slice O1 (mdK a l).1.length c1, .slice Q1 (mdQ a z l).length d1, .slice H1 (mdH a z l).length e1], Rd OA (opsV (mdK a l).1), Rd Q1 (I64 (mdQ a z l)), Rd H1 (I64 (mdH a z l)), Rd A38 (I64 (NI (mdC a z l))), Rd A104 (rowsV hs (J8 (mdr a z l))), KidsR hs (J8 (mdr a z l))]) (fun i : Nat => []) (fun i : Nat => i ≤ (mdQ a z l).length) (fun i : Nat => (mdQ a z l).length - i) 0 (Nat.zero_le _) (by exact Le.mk' (rs := [2, 3, 4, 5, 6, 7, 0, 1]) (hs := []) ⟨rfl, rfl, rfl, rfl, rfl, rfl, trivial⟩ ⟨rfl, rfl, rfl, rfl, rfl, rfl, rfl, rfl, trivial⟩ trivial (by decide)) ?_
       intro i hi
       refine C.seq (C.seq (C.region ?_)); refine Lpu rfl rfl ?_; refine L.step (Ev.fieldAddr rfl rfl rfl rfl rfl rfl (Src.r 1 rfl) (Nat.zero_lt_succ _) rfl) rfl ?_; refine L.step (Ev.load rfl rfl rfl (Src.r 1 rfl) rfl) rfl ?_; refine Lpu rfl rfl ?_; refine Lpu rfl rfl ?_; refine L.nil (QE.seq ?_)
       refine C.condB 111 rfl (fun hc111 => ?_) (fun hc111 => ?_)
       ·
        replace hc111 := of_decide_eq_true hc111
        refine C.skip (QE.seq (C.seq (C.block (C.seq (C.region ?_))))); refine L.step (Ev.fieldAddr rfl rfl rfl rfl rfl rfl (Src.r 1 rfl) (Nat.zero_lt_succ _) rfl) rfl ?_; refine L.step (Ev.load rfl rfl rfl (Src.r 1 rfl) rfl) rfl ?_; refine Lpu rfl rfl ?_; refine L.step (Ev.idx1 (k := i) rfl rfl rfl rfl rfl rfl rfl (by omega) (Src.r 3 rfl) (by rw [I64_len]; omega)) rfl ?_; refine L.step (Ev.load rfl rfl rfl (Src.r 3 rfl) (I64_get (by omega))) rfl ?_; refine Lpu rfl rfl ?_; refine L.nil (QE.seq (C.seq (C.region ?_))); refine Lpu rfl rfl ?_; refine L.step (Ev.add rfl rfl (by omega) (by omega)) rfl ?_; refine Lpu rfl rfl ?_; refine L.nil (QE.seq (C.block ?_)); refine C.loop (fun k : Nat => [(3, .bool true), (4, ptrOf A4 0), (5, ptrOf A5 0), (7, .slice A38 (mdC a z l).length c38), (9, .slice A104 (mdr a z l).length c104), (11, .int .i64 (i : Int)), (12, .int .i64 ((mdQ a z l).getD i 0)), (13, .int .i64 (k : Int))]) (fun k : Nat => [Rd A4 [.slice YA (inpF b (mdI a)).length yc, .bool false, .int .i64 ((mdI a : Nat) : Int), .int .i64 (((mdK a l).2 : Nat) : Int), .slice OA (mdK a l).1.length oc, .int .i64 ((mdS z : Nat) : Int), .int .i64 ((mdW a z l : Nat) : Int)], Rd A5 [.int .i64 ((mdS z : Nat) : Int), .int .i64 ((mdW a z l : Nat) : Int), .bool false, .int .i64 ((mdI a : Nat) : Int), .int .i64 (((mdK a l).2 : Nat) : Int), .slice O1 (mdK a l).1.length c1, .slice Q1 (mdQ a z l).length d1, .slice H1 (mdH a z l).length e1], Rd OA (opsV (mdK a l).1), Rd Q1 (I64 (mdQ a z l)), Rd H1 (I64 (mdH a z l)), Rd A38 (I64 (NI (mdC a z l))), Rd A104 (rowsV hs (J8 (mdr a z l))), KidsR hs (J8 (mdr a z l))]) (fun k : Nat => []) (fun k : Nat => i < k ∧ k ≤ (mdQ a z l).length) (fun k : Nat => (mdQ a z l).length - k) (i + 1) ⟨Nat.lt_succ_self _, by omega⟩ (by exact Le.mk' (rs := [0, 1, 2, 3, 4, 5, 6, 7]) (hs := []) ⟨rfl, rfl, rfl, rfl, rfl, rfl, rfl, rfl, trivial⟩ ⟨rfl, rfl, rfl, rfl, rfl, rfl, rfl, rfl, trivial⟩ trivial (by decide)) ?_
        intro k ⟨hik, hk⟩
        refine C.seq (C.seq (C.region ?_)); refine Lpu rfl rfl ?_; refine L.step (Ev.fieldAddr rfl rfl rfl rfl rfl rfl (Src.r 1 rfl) (Nat.zero_lt_succ _) rfl) rfl ?_; refine L.step (Ev.load rfl rfl rfl (Src.r 1 rfl) rfl) rfl ?_; refine Lpu rfl rfl ?_; refine Lpu rfl rfl ?_; refine L.nil (QE.seq ?_)
        refine C.condB 125 rfl (fun hc125 => ?_) (fun hc125 => ?_)
        ·
         replace hc125 := of_decide_eq_true hc125
         refine C.skip (QE.seq (C.seq (C.block (C.seq (C.region ?_))))); refine L.step (Ev.fieldAddr rfl rfl rfl rfl rfl rfl (Src.r 1 rfl) (Nat.zero_lt_succ _) rfl) rfl ?_; refine L.step (Ev.load rfl rfl rfl (Src.r 1 rfl) rfl) rfl ?_; refine Lpu rfl rfl ?_; refine L.step (Ev.idx1 (k := k) rfl rfl rfl rfl rfl rfl rfl (by omega) (Src.r 3 rfl) (by rw [I64_len]; omega)) rfl ?_; refine L.step (Ev.load rfl rfl rfl (Src.r 3 rfl) (I64_get (by omega))) rfl ?_; refine Lpu rfl rfl ?_; refine L.nil (QE.seq (C.seq ?_))
         obtain ⟨u, hu, -, hun⟩ := md_at a z l (k := k) (by omega)
         obtain ⟨t, ht, -, htn⟩ := md_at a z l (k := i) (by omega)
         have hne := mdQ_ne a z l (i := i) (k := k) (by omega) (by omega)
         rw [hu, ht] at hne
         rw [hu, ht]
         refine C.region ?_; refine Lpu rfl rfl ?_; refine Lpu rfl rfl ?_; refine Lpu rfl rfl ?_; refine Lpu rfl rfl ?_
         refine L.bool 136 rfl (fun hg136 => ?_) (fun hg136 => ?_)
         ·
          replace hg136 := i_eq hg136
          exact absurd hg136 hne
         ·
          replace hg136 := i_ne hg136
          refine L.yes rfl ?_; refine Lpu rfl rfl ?_; refine L.yes rfl ?_; refine Lpu rfl rfl ?_; refine L.yes rfl ?_; refine Lpu rfl rfl ?_; refine L.yes rfl ?_; refine Lpu rfl rfl ?_; refine L.yes rfl ?_; refine Lpu rfl rfl ?_
          refine L.bool 141 rfl (fun hg141 => ?_) (fun hg141 => ?_)
          ·
           replace hg141 := of_decide_eq_true hg141
           refine L.yes rfl ?_; refine Lpu rfl rfl ?_; refine L.yes rfl ?_; refine Lpu rfl rfl ?_; refine L.yes rfl ?_; refine L.step (Ev.idx1 (k := u) rfl rfl rfl rfl rfl rfl rfl (by omega) (Src.r 6 rfl) (by rw [rowsV_len (by rw [J8_len]; exact hh), J8_len]; omega)) rfl ?_; refine L.yes rfl ?_; refine L.step (Ev.load rfl rfl rfl (Src.r 6 rfl) (rowsJ_get hh (by omega))) rfl ?_; refine L.yes rfl ?_; refine Lpu rfl rfl ?_; refine L.yes rfl ?_; refine L.call (js := []) (js' := []) (has_md (hs.getD u (none, 0)).1 ((mdr a z l).getD u []) (hs.getD u (none, 0)).2 (t : Int) ((mdr a z l).getD u []).length rfl (mdr_row a z l u)) rfl rfl rfl (by decide) ⟨((Has.kid 7 rfl (by rw [J8_len]; exact hh) u (by rw [J8_len]; omega)).cast (J8_get u)), trivial⟩ rfl ?_
           rintro _ _ _ ⟨rfl, rfl, rfl⟩
           refine L.yes rfl ?_; refine Lpu rfl rfl ?_; refine L.yes rfl ?_; refine Lpu rfl rfl ?_
           refine L.bool 149 rfl (fun hg149 => ?_) (fun hg149 => ?_)
           ·
            refine L.yes rfl ?_; refine L.step (Ev.fieldAddr rfl rfl rfl rfl rfl rfl (Src.r 1 rfl) (Nat.zero_lt_succ _) rfl) rfl ?_; refine L.yes rfl ?_; refine L.step (Ev.load rfl rfl rfl (Src.r 1 rfl) rfl) rfl ?_; refine L.yes rfl ?_; refine Lpu rfl rfl ?_; refine L.yes rfl ?_; refine L.call (js := []) (js' := []) (Ctr.tb true (has_md H1 (mdH a z l) e1 (t : Int) (mdH a z l).length rfl (by omega)) (md_stash a z l (i := i) (k := k) (by omega) (by omega) hu ht (by omega) hg149)) rfl rfl rfl (by decide) (Hq [4] rfl) rfl ?_
            rintro _ _ _ ⟨rfl, rfl, rfl⟩
            refine L.yes rfl ?_; refine Lpu rfl rfl ?_; refine L.yes rfl ?_; refine Lpu rfl rfl ?_; refine Lpu rfl rfl ?_; refine L.nil (QE.seq ?_)
            refine C.cond rfl (fun h => by cases h) (fun _ => ?_)
            refine C.skip ?_; refine QE.blkN ?_; refine QE.seq (C.region ?_); refine Lpu rfl rfl ?_; refine L.step (Ev.add rfl rfl (by omega) (by omega)) rfl ?_; refine Lpu rfl rfl ?_; refine L.nil ?_
            refine QE.round (k + 1) (by exact ⟨by omega, by omega⟩) (by omega) (by exact Le.mk' (rs := [0, 1, 2, 3, 4, 5, 6, 7]) (hs := []) ⟨rfl, rfl, rfl, rfl, rfl, rfl, rfl, rfl, trivial⟩ ⟨rfl, rfl, rfl, rfl, rfl, rfl, rfl, rfl, trivial⟩ trivial (by decide))
           ·
            refine L.no rfl rfl rfl ?_; refine L.no rfl rfl rfl ?_; refine L.no rfl rfl rfl ?_; refine L.no rfl rfl rfl ?_; refine L.no rfl rfl rfl ?_; refine L.yes rfl ?_; refine Lpu rfl rfl ?_; refine Lpu rfl rfl ?_; refine L.nil (QE.seq ?_)
            refine C.cond rfl (fun h => by cases h) (fun _ => ?_)
            refine C.skip ?_; refine QE.blkN ?_; refine QE.seq (C.region ?_); refine Lpu rfl rfl ?_; refine L.step (Ev.add rfl rfl (by omega) (by omega)) rfl ?_; refine Lpu rfl rfl ?_; refine L.nil ?_
            refine QE.round (k + 1) (by exact ⟨by omega, by omega⟩) (by omega) (by exact Le.mk' (rs := [0, 1, 2, 3, 4, 5, 6, 7]) (hs := []) ⟨rfl, rfl, rfl, rfl, rfl, rfl, rfl, rfl, trivial⟩ ⟨rfl, rfl, rfl, rfl, rfl, rfl, rfl, rfl, trivial⟩ trivial (by decide))
          ·
           replace hg141 := of_decide_eq_false hg141
           refine L.no rfl rfl rfl ?_; refine L.no rfl rfl rfl ?_; refine L.no rfl rfl rfl ?_; refine L.no rfl rfl rfl ?_; refine L.no rfl rfl rfl ?_; refine L.no rfl rfl rfl ?_; refine L.yes rfl ?_; refine Lpu rfl rfl ?_; refine L.yes rfl ?_; refine Lpu rfl rfl ?_; refine L.no rfl rfl rfl ?_; refine L.no rfl rfl rfl ?_; refine L.no rfl rfl rfl ?_; refine L.no rfl rfl rfl ?_; refine L.no rfl rfl rfl ?_; refine L.yes rfl ?_; refine Lpu rfl rfl ?_; refine Lpu rfl rfl ?_; refine L.nil (QE.seq ?_)
           refine C.cond rfl (fun h => by cases h) (fun _ => ?_)
           refine C.skip ?_; refine QE.blkN ?_; refine QE.seq (C.region ?_); refine Lpu rfl rfl ?_; refine L.step (Ev.add rfl rfl (by omega) (by omega)) rfl ?_; refine Lpu rfl rfl ?_; refine L.nil ?_
           refine QE.round (k + 1) (by exact ⟨by omega, by omega⟩) (by omega) (by exact Le.mk' (rs := [0, 1, 2, 3, 4, 5, 6, 7]) (hs := []) ⟨rfl, rfl, rfl, rfl, rfl, rfl, rfl, rfl, trivial⟩ ⟨rfl, rfl, rfl, rfl, rfl, rfl, rfl, rfl, trivial⟩ trivial (by decide))
        ·
         replace hc125 := of_decide_eq_false hc125
         refine C.exit ?_; refine QE.tX ?_; refine QE.tX ?_; refine QE.blk ?_; refine QE.blkN ?_; refine QE.seq (C.region ?_); refine Lpu rfl rfl ?_; refine L.step (Ev.add rfl rfl (by omega) (by omega)) rfl ?_; refine Lpu rfl rfl ?_; refine L.nil ?_
         refine QE.round (i + 1) (by omega) (by omega) (by exact Le.mk' (rs := [0, 1, 2, 3, 4, 5, 6, 7]) (hs := []) ⟨rfl, rfl, rfl, rfl, rfl, rfl, trivial⟩ ⟨rfl, rfl, rfl, rfl, rfl, rfl, rfl, rfl, trivial⟩ trivial (by decide))
       ·
        replace hc111 := of_decide_eq_false hc111
        refine C.exit ?_; refine QE.tX ?_; refine QE.tX ?_; refine QE.blk ?_; refine QE.seq (C.seq (C.seq (C.region ?_))); refine Lpu rfl rfl ?_; refine L.nil (QE.seq (C.block ?_)); refine C.loop (fun m : Nat => [(3, .bool true), (4, ptrOf A4 0), (5, ptrOf A5 0), (7, .slice A38 (mdC a z l).length c38), (9, .slice A104 (mdr a z l).length c104), (15, .int .i64 (m : Int))]) (fun m : Nat => [Rd A4 [.slice YA (inpF b (mdI a)).length yc, .bool false, .int .i64 ((mdI a : Nat) : Int), .int .i64 (((mdK a l).2 : Nat) : Int), .slice OA (mdK a l).1.length oc, .int .i64 ((mdS z : Nat) : Int), .int .i64 ((mdW a z l : Nat) : Int)], Rd A5 [.int .i64 ((mdS z : Nat) : Int), .int .i64 ((mdW a z l : Nat) : Int), .bool false, .int .i64 ((mdI a : Nat) : Int), .int .i64 (((mdK a l).2 : Nat) : Int), .slice O1 (mdK a l).1.length c1, .slice Q1 (mdQ a z l).length d1, .slice H1 (mdH a z l).length e1], Rd OA (opsV (mdK a l).1), Rd Q1 (I64 (mdQ a z l)), Rd H1 (I64 (mdH a z l)), Rd A38 (I64 (NI (mdC a z l))), Rd A104 (rowsV hs (J8 (mdr a z l))), KidsR hs (J8 (mdr a z l))]) (fun m : Nat => []) (fun m : Nat => m ≤ (mdH a z l).length) (fun m : Nat => (mdH a z l).length - m) 0 (Nat.zero_le _) (by exact Le.mk' (rs := [0, 1, 2, 3, 4, 5, 6, 7]) (hs := []) ⟨rfl, rfl, rfl, rfl, rfl, rfl, trivial⟩ ⟨rfl, rfl, rfl, rfl, rfl, rfl, rfl, rfl, trivial⟩ trivial (by decide)) ?_
        intro m hm
        refine C.seq (C.seq (C.region ?_)); refine Lpu rfl rfl ?_; refine L.step (Ev.fieldAddr rfl rfl rfl rfl rfl rfl (Src.r 1 rfl) (Nat.zero_lt_succ _) rfl) rfl ?_; refine L.step (Ev.load rfl rfl rfl (Src.r 1 rfl) rfl) rfl ?_; refine Lpu rfl rfl ?_; refine Lpu rfl rfl ?_; refine L.nil (QE.seq ?_)
        refine C.condB 161 rfl (fun hc161 => ?_) (fun hc161 => ?_)
        ·
         replace hc161 := of_decide_eq_true hc161
         refine C.skip (QE.seq (C.seq (C.block (C.seq (C.region ?_))))); refine Lpu rfl rfl ?_; refine L.step (Ev.fieldAddr rfl rfl rfl rfl rfl rfl (Src.r 1 rfl) (Nat.zero_lt_succ _) rfl) rfl ?_; refine L.step (Ev.load rfl rfl rfl (Src.r 1 rfl) rfl) rfl ?_; refine Lpu rfl rfl ?_; refine L.step (Ev.idx1 (k := m) rfl rfl rfl rfl rfl rfl rfl (by omega) (Src.r 4 rfl) (by rw [I64_len]; omega)) rfl ?_; refine L.step (Ev.load rfl rfl rfl (Src.r 4 rfl) (I64_get (by omega))) rfl ?_; refine L.call (js := []) (js' := []) (Ctr.tb true (has_md A38 (NI (mdC a z l)) c38 ((mdH a z l).getD m 0) (mdC a z l).length (NI_len _) (by rw [NI_len]; omega)) (mdH_has a z l (by omega))) rfl rfl rfl (by decide) (Hq [5] rfl) rfl ?_
         rintro _ _ _ ⟨rfl, rfl, rfl⟩
         refine Lpu rfl rfl ?_; refine L.nil (QE.seq ?_)
         refine C.cond rfl (fun h => by cases h) (fun _ => ?_)
         refine C.skip ?_; refine QE.blkN ?_; refine QE.seq (C.region ?_); refine Lpu rfl rfl ?_; refine L.step (Ev.add rfl rfl (by omega) (by omega)) rfl ?_; refine Lpu rfl rfl ?_; refine L.nil ?_
         refine QE.round (m + 1) (by omega) (by omega) (by exact Le.mk' (rs := [0, 1, 2, 3, 4, 5, 6, 7]) (hs := []) ⟨rfl, rfl, rfl, rfl, rfl, rfl, trivial⟩ ⟨rfl, rfl, rfl, rfl, rfl, rfl, rfl, rfl, trivial⟩ trivial (by decide))
        ·
         replace hc161 := of_decide_eq_false hc161
         refine C.exit ?_; refine QE.tX ?_; refine QE.tX ?_; refine QE.blk ?_; refine QE.seq (C.seq (C.region ?_)); refine Lpu rfl rfl ?_; refine Lpu rfl rfl ?_; refine L.nil (QE.seq (C.ret ?_)); refine QE.ret (js := []) (hs := []) (vs := [_]) rfl ⟨rfl, trivial⟩ (by decide) ?_
         exact ⟨rfl, rfl, rfl⟩

end Go.Proofs.YtpccfdnmnnnboaaGreat
end
