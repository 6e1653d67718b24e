/-
  Valid, of the program and of the reference.
-/
import Derived.Test.YtpccfdnmnnnboaaGreatQTd
namespace Go.Proofs.YtpccfdnmnnnboaaGreat
open Go.Sl

theorem srt_len (l : List Int) : (srtI l).length = l.length := (srt_perm l).length_eq
theorem contains_n (A : Option Addr) (l : List Nat) (c : Nat) (n : Int) (hl : l.length ≤ 9223372036854775807) : Ctr X 62 [.slice A l.length c, .int .i64 n] [Rd A (I64 (NI l))] [] (fun v R' H' => v = .bool ((NI l).contains n) ∧ R' = [] ∧ H' = []) := by
 have := contains_c A (NI l) c n (by rw [NI_len]; exact hl)
 rw [NI_len] at this
 exact this
theorem index_n (A : Option Addr) (l : List Nat) (c : Nat) (n : Int) (hl : l.length ≤ 9223372036854775807) : Ctr X 72 [.slice A l.length c, .int .i64 n] [Rd A (I64 (NI l))] [] (fun v R' H' => v = .int .i64 (idxJ (NI l) n) ∧ R' = [] ∧ H' = []) := by
 have := index19_c A (NI l) c n (by rw [NI_len]; exact hl)
 rw [NI_len] at this
 exact this
theorem idx_no {l : List Int} {t : Int} (h : idxJ l t < 0) : l.contains t = false := by
 have := idxJ_has (l := l) (t := t)
 rw [decide_eq_true h] at this
 simpa using this.symm
theorem idx_yes {l : List Int} {t : Int} (h : ¬idxJ l t < 0) : l.contains t = true := by
 have := idxJ_has (l := l) (t := t)
 rw [decide_eq_false h] at this
 simpa using this.symm
theorem row_step {row : List Int} {p : Nat → Bool} {j t : Nat} (h : ∀ k, k < j → ∀ t : Nat, row.getD k 0 = (t : Int) → p t = true) (ht : row.getD j 0 = (t : Int)) (hx : p t = true) : ∀ k, k < j + 1 → ∀ t : Nat, row.getD k 0 = (t : Int) → p t = true := by
 intro k hk t' ht'
 rcases Nat.lt_or_ge k j with g | g
 · exact h k g t' ht'
 · obtain rfl : k = j := by omega
   rw [ht] at ht'
   obtain rfl : t = t' := by omega
   exact hx

set_option maxHeartbeats 2000000 in
theorem valid19_c (sz n : Int) (lf : Bool) (inn out : Int) (ops : List Po) (seq st : List Int) (OA QA HA : Option Addr) (oc qc hc : Nat) (hops : ops.length ≤ 9223372036854775807) (hql : seq.length ≤ 1000000) (hhl : st.length ≤ 1000000) :
   Ctr X 21 [.agg (List.toArray [.int .i64 sz, .int .i64 n, .bool lf, .int .i64 inn, .int .i64 out, .slice OA ops.length oc, .slice QA seq.length qc, .slice HA st.length hc])] [Rd OA (opsV ops), Rd QA (I64 seq), Rd HA (I64 st)] [] (fun v R' H' => v = .bool (vldB lf sz n inn out ops seq st) ∧ R' = [] ∧ H' = []) := by
 refine Ctr.of (X := X) (fn := Tryz.f21) Tryz.func21 rfl (by kernel_rfl) rfl ?_
 intro β
 refine C.seq (C.region ?_)
 refine L.boxA rfl rfl (fun A1 => ?_)
 refine Lpu rfl rfl ?_; refine L.nil (QE.seq (C.seq (C.seq ?_))); refine C.freeze 0 rfl [] (by decide) (by decide) ?_; refine C.region ?_; refine L.step (Ev.fieldAddr rfl rfl rfl rfl rfl rfl (Src.r 0 rfl) (Nat.zero_lt_succ _) rfl) rfl ?_; refine L.step (Ev.loadA (vs := [.bool lf, .int .i64 inn, .int .i64 out, .slice OA ops.length oc]) rfl rfl rfl (Src.r 0 rfl) rfl rfl (by decide)) rfl ?_; refine L.call (js := []) (js' := []) (check6_c lf inn out ops OA oc hops) rfl rfl rfl (by decide) (Hq [1] rfl) rfl ?_
 rintro _ _ _ ⟨_, rfl, rfl, rfl⟩
 refine Lpu rfl rfl ?_; refine Lpu rfl rfl ?_; refine Lpu rfl rfl ?_; refine Lpu rfl rfl ?_; refine Lpu rfl rfl ?_; refine L.nil (QE.seq (C.seq (C.region ?_))); refine Lpu rfl rfl ?_; refine Lpu rfl rfl ?_; refine Lpu rfl rfl ?_
 refine L.bool 23 rfl (fun hg23 => ?_) (fun hg23 => ?_)
 ·
  replace hg23 := b_ne hg23
  refine L.no rfl rfl rfl ?_; refine L.no rfl rfl rfl ?_; refine L.no rfl rfl rfl ?_; refine Lpu rfl rfl ?_; refine Lpu rfl rfl ?_; refine L.no rfl rfl rfl ?_; refine L.no rfl rfl rfl ?_; refine L.no rfl rfl rfl ?_; refine Lpu rfl rfl ?_; refine L.nil (QE.seq ?_)
  refine C.cond rfl (fun _ => ?_) (fun h => by cases h)
  refine C.seq (C.region ?_); refine Lpu rfl rfl ?_; refine L.nil (QE.seq (C.ret (QE.tR ?_))); refine QE.ret (js := []) (hs := []) (vs := [_]) rfl ⟨rfl, trivial⟩ (by decide) ?_
  exact ⟨congrArg Value.bool ((val_no fun h => hg23 h.1).symm), rfl, rfl⟩
 ·
  replace hg23 := b_eq hg23
  refine L.yes rfl ?_; refine L.step (Ev.fieldAddr rfl rfl rfl rfl rfl rfl (Src.r 0 rfl) (Nat.zero_lt_succ _) rfl) rfl ?_; refine L.yes rfl ?_; refine L.step (Ev.fieldAddr rfl rfl rfl rfl rfl rfl (Src.r 0 rfl) (Nat.zero_lt_succ _) rfl) rfl ?_; refine L.yes rfl ?_; refine L.step (Ev.load rfl rfl rfl (Src.r 0 rfl) rfl) rfl ?_; refine Lpu rfl rfl ?_; refine Lpu rfl rfl ?_
  refine L.bool 28 rfl (fun hg28 => ?_) (fun hg28 => ?_)
  ·
   refine L.no rfl rfl rfl ?_; refine L.no rfl rfl rfl ?_; refine L.no rfl rfl rfl ?_; refine Lpu rfl rfl ?_; refine L.nil (QE.seq ?_)
   refine C.cond rfl (fun _ => ?_) (fun h => by cases h)
   refine C.seq (C.region ?_); refine Lpu rfl rfl ?_; refine L.nil (QE.seq (C.ret (QE.tR ?_))); refine QE.ret (js := []) (hs := []) (vs := [_]) rfl ⟨rfl, trivial⟩ (by decide) ?_
   exact ⟨congrArg Value.bool ((val_no fun h => by rw [h.2.1] at hg28; cases hg28).symm), rfl, rfl⟩
  ·
   have hlf0 : lf = false := hg28
   have hE0 : chkE inn out ops = 0 := hg23
   refine L.yes rfl ?_; refine L.step (Ev.loadA (vs := [.int .i64 sz, .int .i64 n, .bool lf, .int .i64 inn, .int .i64 out, .slice OA ops.length oc, .slice QA seq.length qc, .slice HA st.length hc]) rfl rfl rfl (Src.r 0 rfl) rfl rfl (by decide)) rfl ?_; refine L.yes rfl ?_; refine L.call (js := []) (js' := []) (sized_c sz n lf inn out ops OA oc (.slice QA seq.length qc) (.slice HA st.length hc)) rfl rfl rfl (by decide) trivial rfl ?_
   rintro _ _ _ ⟨rfl, rfl, rfl⟩
   refine L.yes rfl ?_; refine Lpu rfl rfl ?_; refine Lpu rfl rfl ?_; refine L.nil (QE.seq ?_)
   refine C.condB 32 rfl (fun hc32 => ?_) (fun hc32 => ?_)
   ·
    have hszb1 : sizB sz n inn out = false := by simpa using hc32
    refine C.seq (C.region ?_); refine Lpu rfl rfl ?_; refine L.nil (QE.seq (C.ret (QE.tR ?_))); refine QE.ret (js := []) (hs := []) (vs := [_]) rfl ⟨rfl, trivial⟩ (by decide) ?_
    exact ⟨congrArg Value.bool ((val_no fun h => by rw [h.2.2.1] at hszb1; cases hszb1).symm), rfl, rfl⟩
   ·
    have hszb0 : sizB sz n inn out = true := by simpa using hc32
    subst hlf0
    have hszb := sizB_iff.1 hszb0
    obtain ⟨S, rfl⟩ : ∃ q : Nat, sz = (q : Int) := ⟨sz.toNat, by omega⟩
    obtain ⟨n, rfl⟩ : ∃ q : Nat, n = (q : Int) := ⟨n.toNat, by omega⟩
    obtain ⟨hS1, hS2, hn1, hn2, hi1, hi2⟩ : 1 ≤ S ∧ S ≤ 4096 ∧ 1 ≤ n ∧ n ≤ 64 ∧ inn ≤ (S : Int) * (n : Int) ∧ out ≤ (S : Int) * (n : Int) := ⟨by omega, by omega, by omega, by omega, hszb.2.2.2.2.1, hszb.2.2.2.2.2⟩
    have hcl := chgL_len (symL ops) inn S n
    have hcp := chgL_pair (symL ops) inn S n
    have hvv := val_iff (lf := false) (sz := (S : Int)) (n := (n : Int)) (inn := inn) (out := out) (ops := ops) (seq := seq) (st := st)
    rw [Int.toNat_natCast, Int.toNat_natCast] at hvv
    have hvn : ∀ {P : Prop}, (vldB false (S : Int) (n : Int) inn out ops seq st = true → P) → ¬P → vldB false (S : Int) (n : Int) inn out ops seq st = false := fun f g => by
      cases hb : vldB false (S : Int) (n : Int) inn out ops seq st with
      | false => rfl
      | true => exact absurd (f hb) g
    refine C.skip (QE.seq (C.seq (C.region ?_))); refine L.step (Ev.loadA (vs := [.int .i64 (S : Int), .int .i64 (n : Int), .bool false, .int .i64 inn, .int .i64 out, .slice OA ops.length oc, .slice QA seq.length qc, .slice HA st.length hc]) rfl rfl rfl (Src.r 0 rfl) rfl rfl (by decide)) rfl ?_; refine L.call (js := []) (js' := []) (changing_c S n false inn out ops OA oc (.slice QA seq.length qc) (.slice HA st.length hc) hops hS1 hS2 hn1 hn2 hE0) rfl rfl rfl (by decide) (Hq [1] rfl) rfl ?_
    rintro _ _ _ ⟨CA, cc, rfl, rfl, rfl⟩
    refine L.norm (H' := [_]) [0] ⟨rfl, trivial⟩ (by decide) ?_; refine Lpu rfl rfl ?_; refine L.nil (QE.seq (C.seq (C.seq ?_))); refine C.freeze 0 rfl [] (by decide) (by decide) ?_; refine C.region ?_; refine L.step (Ev.fieldAddr rfl rfl rfl rfl rfl rfl (Src.r 1 rfl) (Nat.zero_lt_succ _) rfl) rfl ?_; refine L.step (Ev.load rfl rfl rfl (Src.r 1 rfl) rfl) rfl ?_; refine L.callR (js := []) (js' := []) (values_c QA seq.length qc) rfl rfl rfl (by decide) trivial rfl ?_
    rintro _ _ _ ⟨PA, rfl, rfl, rfl⟩
    refine L.call (js := []) (js' := []) (sorted_c PA QA seq qc hql) rfl rfl rfl (by decide) (Hq [0, 4] rfl) rfl ?_
    rintro _ _ _ ⟨TA, tc, rfl, rfl, rfl⟩
    refine L.norm (H' := [_]) [0] ⟨rfl, trivial⟩ (by decide) ?_; refine Lpu rfl rfl ?_; refine L.freeze 0 rfl [] (by decide) (by decide) ?_; refine L.call (js := []) (js' := []) (equal_c TA (srtI seq) tc CA (NI (chgL (symL ops) inn S n)) cc seq.length (chgL (symL ops) inn S n).length (srt_len seq) (NI_len _) (by rw [srt_len]; omega) (by rw [NI_len]; omega)) rfl rfl rfl (by decide) (Hq [0, 2] rfl) rfl ?_
    rintro _ _ _ ⟨rfl, rfl, rfl⟩
    refine Lpu rfl rfl ?_; refine L.nil (QE.seq ?_)
    refine C.condB 41 rfl (fun hc41 => ?_) (fun hc41 => ?_)
    ·
     have hns : ¬srtI seq = NI (chgL (symL ops) inn S n) := by simpa using hc41
     refine C.seq (C.region ?_); refine Lpu rfl rfl ?_; refine L.nil (QE.seq (C.ret (QE.tR ?_))); refine QE.ret (js := []) (hs := []) (vs := [_]) rfl ⟨rfl, trivial⟩ (by decide) ?_
     exact ⟨congrArg Value.bool ((hvn (fun h => (hvv.1 h).2.2.2.1) (hns)).symm), rfl, rfl⟩
    ·
     have hys : srtI seq = NI (chgL (symL ops) inn S n) := by simpa using hc41
     have hnd := srt_nodup hcp hys
     obtain ⟨hsl2, hsm⟩ := (srt_iff hcp).1 hys
     refine C.skip (QE.seq (C.seq (C.seq (C.region ?_)))); refine L.step (Ev.fieldAddr rfl rfl rfl rfl rfl rfl (Src.r 3 rfl) (Nat.zero_lt_succ _) rfl) rfl ?_; refine L.step (Ev.load rfl rfl rfl (Src.r 3 rfl) rfl) rfl ?_; refine Lpu rfl rfl ?_; refine Lpu rfl rfl ?_; refine L.nil (QE.seq (C.block ?_)); refine C.loop (fun i : Nat => [(1, ptrOf A1 0), (5, .slice CA (chgL (symL ops) inn S n).length cc), (43, .slice HA st.length hc), (44, .int .i64 (st.length : Int)), (45, .int .i64 (i : Int))]) (fun i : Nat => [Rd A1 [.int .i64 (S : Int), .int .i64 (n : Int), .bool false, .int .i64 inn, .int .i64 out, .slice OA ops.length oc, .slice QA seq.length qc, .slice HA st.length hc], Rd CA (I64 (NI (chgL (symL ops) inn S n))), Rd OA (opsV ops), Rd QA (I64 seq), Rd HA (I64 st)]) (fun i : Nat => []) (fun i : Nat => i ≤ st.length ∧ ∀ k, k < i → stT (NI (chgL (symL ops) inn S n)) st k = true) (fun i : Nat => st.length - i) 0 ⟨Nat.zero_le _, all_zero⟩ (by exact Le.mk' (rs := [3, 2, 4, 5, 6]) (hs := []) ⟨rfl, rfl, rfl, rfl, rfl, trivial⟩ ⟨rfl, rfl, rfl, rfl, rfl, trivial⟩ trivial (by decide)) ?_
     rintro i ⟨hi, hall⟩
     refine C.seq (C.region ?_); refine Lpu rfl rfl ?_; refine L.nil (QE.seq (C.seq ?_))
     refine C.condB 46 rfl (fun hc46 => ?_) (fun hc46 => ?_)
     ·
      replace hc46 := of_decide_eq_true hc46
      refine C.skip (QE.seq (C.seq (C.block (C.seq (C.region ?_))))); refine Lpu rfl rfl ?_; refine L.step (Ev.idx1 (k := i) rfl rfl rfl rfl rfl rfl rfl (by omega) (Src.r 4 rfl) (by rw [I64_len]; omega)) rfl ?_; refine L.step (Ev.load rfl rfl rfl (Src.r 4 rfl) (I64_get (by omega))) rfl ?_; refine Lpu rfl rfl ?_; refine Lpu rfl rfl ?_; refine L.nil (QE.seq (C.seq (C.region ?_))); refine Lpu rfl rfl ?_; refine Lpu rfl rfl ?_; refine L.call (js := []) (js' := []) (contains_n CA (chgL (symL ops) inn S n) cc _ (by omega)) rfl rfl rfl (by decide) (Hq [1] rfl) rfl ?_
      rintro _ _ _ ⟨rfl, rfl, rfl⟩
      refine Lpu rfl rfl ?_; refine Lpu rfl rfl ?_
      refine L.bool 54 rfl (fun hg54 => ?_) (fun hg54 => ?_)
      ·
       have hx : stT (NI (chgL (symL ops) inn S n)) st i = false := stT_no1 (by simpa using hg54)
       refine L.no rfl rfl rfl ?_; refine L.no rfl rfl rfl ?_; refine L.no rfl rfl rfl ?_; refine L.no rfl rfl rfl ?_; refine L.no rfl rfl rfl ?_; refine L.no rfl rfl rfl ?_; refine L.no rfl rfl rfl ?_; refine L.no rfl rfl rfl ?_; refine L.no rfl rfl rfl ?_; refine L.no rfl rfl rfl ?_; refine L.no rfl rfl rfl ?_; refine L.no rfl rfl rfl ?_; refine Lpu rfl rfl ?_; refine L.nil (QE.seq ?_)
       refine C.cond rfl (fun _ => ?_) (fun h => by cases h)
       refine C.seq (C.region ?_); refine Lpu rfl rfl ?_; refine L.nil (QE.seq (C.ret (QE.bR (QE.tR (QE.tR (QE.bR (QE.tR ?_))))))); refine QE.ret (js := []) (hs := []) (vs := [_]) rfl ⟨rfl, trivial⟩ (by decide) ?_
       exact ⟨congrArg Value.bool ((hvn (fun h => (hvv.1 h).2.2.2.2.1) (fun g => by rw [show stB _ st = false from all_no (k := i) (by omega) hx] at g; cases g)).symm), rfl, rfl⟩
      ·
       refine L.yes rfl ?_; refine Lpu rfl rfl ?_; refine L.yes rfl ?_; refine Lpu rfl rfl ?_; refine L.yes rfl ?_; refine Lpu rfl rfl ?_
       refine L.bool 57 rfl (fun hg57 => ?_) (fun hg57 => ?_)
       ·
        replace hg57 := of_decide_eq_true hg57
        refine L.yes rfl ?_; refine L.step (Ev.fieldAddr rfl rfl rfl rfl rfl rfl (Src.r 0 rfl) (Nat.zero_lt_succ _) rfl) rfl ?_; refine L.yes rfl ?_; refine L.step (Ev.load rfl rfl rfl (Src.r 0 rfl) rfl) rfl ?_; refine L.yes rfl ?_; refine Lpu rfl rfl ?_; refine L.yes rfl ?_; refine L.step (Ev.sub rfl rfl (by omega) (by omega)) rfl ?_; refine L.yes rfl ?_; refine L.step (Ev.idx1 (k := (i - 1)) rfl rfl rfl rfl rfl rfl (by omega) (by omega) (Src.r 4 rfl) (by rw [I64_len]; omega)) rfl ?_; refine L.yes rfl ?_; refine L.step (Ev.load rfl rfl rfl (Src.r 4 rfl) (I64_get (by omega))) rfl ?_; refine L.yes rfl ?_; refine Lpu rfl rfl ?_; refine L.yes rfl ?_; refine Lpu rfl rfl ?_; refine L.yes rfl ?_; refine Lpu rfl rfl ?_; refine Lpu rfl rfl ?_; refine L.nil (QE.seq ?_)
        refine C.condB 67 rfl (fun hc67 => ?_) (fun hc67 => ?_)
        ·
         replace hc67 := of_decide_eq_true hc67
         have hx : stT (NI (chgL (symL ops) inn S n)) st i = false := stT_no2 (by omega) hc67
         refine C.seq (C.region ?_); refine Lpu rfl rfl ?_; refine L.nil (QE.seq (C.ret (QE.bR (QE.tR (QE.tR (QE.bR (QE.tR ?_))))))); refine QE.ret (js := []) (hs := []) (vs := [_]) rfl ⟨rfl, trivial⟩ (by decide) ?_
         exact ⟨congrArg Value.bool ((hvn (fun h => (hvv.1 h).2.2.2.2.1) (fun g => by rw [show stB _ st = false from all_no (k := i) (by omega) hx] at g; cases g)).symm), rfl, rfl⟩
        ·
         replace hc67 := of_decide_eq_false hc67
         have hx : stT (NI (chgL (symL ops) inn S n)) st i = true := stT_yes2 (by simpa using hg54) hc67
         refine C.skip ?_; refine QE.blkN ?_; refine QE.seq (C.region ?_); refine L.step (Ev.add rfl rfl (by omega) (by omega)) rfl ?_; refine Lpu rfl rfl ?_; refine L.nil ?_
         refine QE.round (i + 1) (by exact ⟨by omega, all_step hall hx⟩) (by omega) (by exact Le.mk' (rs := [0, 1, 2, 3, 4]) (hs := []) ⟨rfl, rfl, rfl, rfl, rfl, trivial⟩ ⟨rfl, rfl, rfl, rfl, rfl, trivial⟩ trivial (by decide))
       ·
        replace hg57 := of_decide_eq_false hg57
        have hx : stT (NI (chgL (symL ops) inn S n)) st i = true := stT_yes1 (by simpa using hg54) (by omega)
        refine L.no rfl rfl rfl ?_; refine L.no rfl rfl rfl ?_; refine L.no rfl rfl rfl ?_; refine L.no rfl rfl rfl ?_; refine L.no rfl rfl rfl ?_; refine L.no rfl rfl rfl ?_; refine L.no rfl rfl rfl ?_; refine L.no rfl rfl rfl ?_; refine L.yes rfl ?_; refine Lpu rfl rfl ?_; refine Lpu rfl rfl ?_; refine L.nil (QE.seq ?_)
        refine C.cond rfl (fun h => by cases h) (fun _ => ?_)
        refine C.skip ?_; refine QE.blkN ?_; refine QE.seq (C.region ?_); refine L.step (Ev.add rfl rfl (by omega) (by omega)) rfl ?_; refine Lpu rfl rfl ?_; refine L.nil ?_
        refine QE.round (i + 1) (by exact ⟨by omega, all_step hall hx⟩) (by omega) (by exact Le.mk' (rs := [0, 1, 2, 3, 4]) (hs := []) ⟨rfl, rfl, rfl, rfl, rfl, trivial⟩ ⟨rfl, rfl, rfl, rfl, rfl, trivial⟩ trivial (by decide))
     ·
      replace hc46 := of_decide_eq_false hc46
      refine C.exit ?_; refine QE.tX ?_; refine QE.tX ?_; refine QE.blk ?_; refine QE.seq (C.seq (C.region ?_))
      refine L.makeMap .i64 rfl (fun g => ?_)
      refine Lpu rfl rfl ?_; refine L.nil (QE.seq (C.seq (C.seq (C.region ?_)))); refine L.step (Ev.fieldAddr rfl rfl rfl rfl rfl rfl (Src.r 0 rfl) (Nat.zero_lt_succ _) rfl) rfl ?_; refine L.step (Ev.load rfl rfl rfl (Src.r 0 rfl) rfl) rfl ?_; refine Lpu rfl rfl ?_; refine Lpu rfl rfl ?_; refine L.nil (QE.seq (C.block ?_))
      have hst : stB (NI (chgL (symL ops) inn S n)) st = true := all_yes fun k hk => hall k (by omega)
      refine C.loop (fun i : Nat => [(1, ptrOf A1 0), (5, .slice CA (chgL (symL ops) inn S n).length cc), (8, .map (some g)), (71, .slice QA seq.length qc), (72, .int .i64 (seq.length : Int)), (73, .int .i64 (i : Int))]) (fun i : Nat => [Rd A1 [.int .i64 (S : Int), .int .i64 (n : Int), .bool false, .int .i64 inn, .int .i64 out, .slice OA ops.length oc, .slice QA seq.length qc, .slice HA st.length hc], Rd CA (I64 (NI (chgL (symL ops) inn S n))), Rd OA (opsV ops), Rd QA (I64 seq), Rd HA (I64 st)]) (fun i : Nat => [MapP .i64 g (numZ seq i)]) (fun i : Nat => i ≤ seq.length) (fun i : Nat => seq.length - i) 0 (Nat.zero_le _) (by exact Le.mk' (rs := [0, 1, 2, 3, 4]) (hs := [0]) ⟨rfl, rfl, rfl, rfl, rfl, rfl, trivial⟩ ⟨rfl, rfl, rfl, rfl, rfl, trivial⟩ ⟨rfl, trivial⟩ (by decide)) ?_
      intro i hi
      refine C.seq (C.region ?_); refine Lpu rfl rfl ?_; refine L.nil (QE.seq (C.seq ?_))
      refine C.condB 74 rfl (fun hc74 => ?_) (fun hc74 => ?_)
      ·
       replace hc74 := of_decide_eq_true hc74
       refine C.skip (QE.seq (C.seq (C.block (C.seq (C.region ?_))))); refine Lpu rfl rfl ?_; refine L.step (Ev.idx1 (k := i) rfl rfl rfl rfl rfl rfl rfl (by omega) (Src.r 3 rfl) (by rw [I64_len]; omega)) rfl ?_; refine L.step (Ev.load rfl rfl rfl (Src.r 3 rfl) (I64_get (by omega))) rfl ?_; refine Lpu rfl rfl ?_; refine Lpu rfl rfl ?_; refine L.nil (QE.seq (C.region ?_)); refine Lpu rfl rfl ?_; refine Lpu rfl rfl ?_; refine Lpu rfl rfl ?_; refine L.mapSet (j := 0) rfl rfl rfl rfl rfl rfl rfl rfl ?_; refine L.nil ?_; refine QE.blkN ?_; refine QE.seq (C.region ?_); refine L.step (Ev.add rfl rfl (by omega) (by omega)) rfl ?_; refine Lpu rfl rfl ?_; refine L.nil ?_
       refine QE.round (i + 1) (by omega) (by omega) (by exact Le.mk' (rs := [0, 1, 2, 3, 4]) (hs := [0]) ⟨rfl, rfl, rfl, rfl, rfl, rfl, trivial⟩ ⟨rfl, rfl, rfl, rfl, rfl, trivial⟩ ⟨(congrArg some (congrArg (MapP .i64 g) (by rw [numZ_snoc]; exact mset_new (numZ_no fun j hj => nodupI_ne hnd j i hj (by omega))))), trivial⟩ (by decide))
      ·
       replace hc74 := of_decide_eq_false hc74
       refine C.exit ?_; refine QE.tX ?_; refine QE.tX ?_; refine QE.blk ?_; refine QE.seq (C.seq (C.seq ?_))
       obtain rfl : i = seq.length := by omega
       refine C.freezeAny 0 rfl [] (by decide) (by decide) ?_; refine C.region ?_; refine L.step (Ev.loadA (vs := [.int .i64 (S : Int), .int .i64 (n : Int), .bool false, .int .i64 inn, .int .i64 out, .slice OA ops.length oc, .slice QA seq.length qc, .slice HA st.length hc]) rfl rfl rfl (Src.r 1 rfl) rfl rfl (by decide)) rfl ?_; refine L.callR (js := []) (js' := []) (readings19_c S n inn out ops OA oc (.slice QA seq.length qc) (.slice HA st.length hc) hops hS1 hS2 hn1 hn2 hE0 hi1 hi2) rfl rfl rfl (by decide) (Hq [3] rfl) rfl ?_
       rintro _ _ _ ⟨MA, mhs, rfl, rfl, rfl, hmhs⟩
       refine Lpu rfl rfl ?_; refine Lpu rfl rfl ?_; refine L.nil (QE.seq (C.block ?_)); refine C.loop (fun u : Nat => [(1, ptrOf A1 0), (5, .slice CA (chgL (symL ops) inn S n).length cc), (8, .map (some g)), (83, .slice MA n n), (84, .int .i64 (n : Int)), (85, .int .i64 (u : Int))]) (fun u : Nat => [Rd MA (rowsV mhs (J8 (rdsL (symL ops) inn S n n))), KidsR mhs (J8 (rdsL (symL ops) inn S n n)), MapP .i64 g (numZ seq seq.length), Rd A1 [.int .i64 (S : Int), .int .i64 (n : Int), .bool false, .int .i64 inn, .int .i64 out, .slice OA ops.length oc, .slice QA seq.length qc, .slice HA st.length hc], Rd CA (I64 (NI (chgL (symL ops) inn S n))), Rd OA (opsV ops), Rd QA (I64 seq), Rd HA (I64 st)]) (fun u : Nat => []) (fun u : Nat => u ≤ n ∧ ∀ k, k < u → okU (symL ops) inn S n seq st k = true) (fun u : Nat => n - u) 0 ⟨Nat.zero_le _, all_zero⟩ (by exact Le.mk' (rs := [0, 1, 2, 3, 4, 5, 6, 7]) (hs := []) ⟨rfl, rfl, rfl, rfl, rfl, rfl, trivial⟩ ⟨rfl, rfl, rfl, rfl, rfl, rfl, rfl, rfl, trivial⟩ trivial (by decide)) ?_
       rintro u ⟨hu, hallu⟩
       refine C.seq (C.region ?_); refine Lpu rfl rfl ?_; refine L.nil (QE.seq (C.seq ?_))
       refine C.condB 86 rfl (fun hc86 => ?_) (fun hc86 => ?_)
       ·
        replace hc86 := of_decide_eq_true hc86
        refine C.skip (QE.seq (C.seq (C.block (C.seq ?_))))
        have hrl : ((rdsL (symL ops) inn S n n).getD u []).length ≤ n := by rw [rdsL_get (by omega), NI_len]; exact rdsR_len _ _ _ _ _
        refine C.region ?_; refine Lpu rfl rfl ?_; refine L.step (Ev.idx1 (k := u) rfl rfl rfl rfl rfl rfl rfl (by omega) (Src.r 0 rfl) (by rw [rowsV_len (by rw [J8_len, rdsL_len]; exact hmhs), J8_len, rdsL_len]; omega)) rfl ?_; refine L.step (Ev.load rfl rfl rfl (Src.r 0 rfl) (rowsJ_get (by rw [rdsL_len]; exact hmhs) (by rw [rdsL_len]; omega))) rfl ?_; refine Lpu rfl rfl ?_; refine Lpu rfl rfl ?_; refine L.nil (QE.seq (C.seq (C.region ?_))); refine Lpu rfl rfl ?_; refine Lpu rfl rfl ?_; refine Lpu rfl rfl ?_; refine L.nil (QE.seq (C.block ?_)); refine C.loop (fun j : Nat => [(1, ptrOf A1 0), (5, .slice CA (chgL (symL ops) inn S n).length cc), (8, .map (some g)), (83, .slice MA n n), (84, .int .i64 (n : Int)), (85, .int .i64 (u : Int)), (11, .int .i64 (u : Int)), (90, .slice (mhs.getD u (none, 0)).1 ((rdsL (symL ops) inn S n n).getD u []).length (mhs.getD u (none, 0)).2), (91, .int .i64 (((rdsL (symL ops) inn S n n).getD u []).length : Int)), (92, .int .i64 (j : Int))]) (fun j : Nat => [Rd MA (rowsV mhs (J8 (rdsL (symL ops) inn S n n))), KidsR mhs (J8 (rdsL (symL ops) inn S n n)), MapP .i64 g (numZ seq seq.length), Rd A1 [.int .i64 (S : Int), .int .i64 (n : Int), .bool false, .int .i64 inn, .int .i64 out, .slice OA ops.length oc, .slice QA seq.length qc, .slice HA st.length hc], Rd CA (I64 (NI (chgL (symL ops) inn S n))), Rd OA (opsV ops), Rd QA (I64 seq), Rd HA (I64 st)]) (fun j : Nat => []) (fun j : Nat => j ≤ ((rdsL (symL ops) inn S n n).getD u []).length ∧ ∀ k, k < j → ∀ t : Nat, ((rdsL (symL ops) inn S n n).getD u []).getD k 0 = (t : Int) → okT seq st u t = true) (fun j : Nat => ((rdsL (symL ops) inn S n n).getD u []).length - j) 0 ⟨Nat.zero_le _, fun _ h => absurd h (Nat.not_lt_zero _)⟩ (by exact Le.mk' (rs := [0, 1, 2, 3, 4, 5, 6, 7]) (hs := []) ⟨rfl, rfl, rfl, rfl, rfl, rfl, rfl, rfl, rfl, rfl, trivial⟩ ⟨rfl, rfl, rfl, rfl, rfl, rfl, rfl, rfl, trivial⟩ trivial (by decide)) ?_
        rintro j ⟨hj, hallj⟩
        refine C.seq (C.region ?_); refine Lpu rfl rfl ?_; refine L.nil (QE.seq (C.seq ?_))
        refine C.condB 93 rfl (fun hc93 => ?_) (fun hc93 => ?_)
        ·
         replace hc93 := of_decide_eq_true hc93
         refine C.skip (QE.seq (C.seq (C.block (C.seq ?_))))
         obtain ⟨t, htj, htn, htr, htm⟩ := row_mem (l := (symL ops)) (inn := inn) (S := S) (n := n) (u := u) (j := j) (by omega) (by omega)
         refine C.region ?_; refine L.step (Ev.idx1 (k := j) rfl rfl rfl rfl rfl rfl rfl (by omega) (Src.cast (Src.kid 1 rfl (by rw [J8_len, rdsL_len]; exact hmhs) u (by rw [J8_len, rdsL_len]; omega)) (J8_get _)) (by rw [I64_len]; omega)) rfl ?_; refine L.step (Ev.cast (u := .int .i64 (t : Int)) (Ev.load rfl rfl rfl (Src.cast (Src.kid 1 rfl (by rw [J8_len, rdsL_len]; exact hmhs) u (by rw [J8_len, rdsL_len]; omega)) (J8_get _)) (I64_get (by omega))) (congrArg (Value.int .i64) htj)) rfl ?_; refine Lpu rfl rfl ?_; refine L.nil (QE.seq (C.seq ?_))
         have hmu : mget (numZ seq seq.length) (u : Int) = some (.int .i64 (idxJ seq u)) := numZ_idx hnd (hsm u (mem_chgL.2 ⟨by omega, (rdsB_chg htr).1⟩))
         have hmt : mget (numZ seq seq.length) (t : Int) = some (.int .i64 (idxJ seq t)) := numZ_idx hnd (hsm t htm)
         refine C.region ?_; refine L.step (Ev.fieldAddr rfl rfl rfl rfl rfl rfl (Src.r 3 rfl) (Nat.zero_lt_succ _) rfl) rfl ?_; refine L.step (Ev.load rfl rfl rfl (Src.r 3 rfl) rfl) rfl ?_; refine Lpu rfl rfl ?_; refine L.call (js := []) (js' := []) (contains_c HA st hc (t : Int) (by omega)) rfl rfl rfl (by decide) (Hq [7] rfl) rfl ?_
         rintro _ _ _ ⟨rfl, rfl, rfl⟩
         refine Lpu rfl rfl ?_; refine Lpu rfl rfl ?_
         refine L.bool 101 rfl (fun hg101 => ?_) (fun hg101 => ?_)
         ·
          refine L.yes rfl ?_; refine Lpu rfl rfl ?_; refine L.yes rfl ?_; refine Lpu rfl rfl ?_; refine L.yes rfl ?_; refine L.step (Ev.lookup1 rfl rfl rfl rfl rfl rfl rfl (HasMap.r 2 rfl) hmu) rfl ?_; refine L.yes rfl ?_; refine Lpu rfl rfl ?_; refine L.yes rfl ?_; refine Lpu rfl rfl ?_; refine L.yes rfl ?_; refine L.step (Ev.lookup1 rfl rfl rfl rfl rfl rfl rfl (HasMap.r 2 rfl) hmt) rfl ?_; refine L.yes rfl ?_; refine Lpu rfl rfl ?_; refine Lpu rfl rfl ?_; refine L.nil (QE.seq ?_)
          refine C.condB 109 rfl (fun hc109 => ?_) (fun hc109 => ?_)
          ·
           replace hc109 := of_decide_eq_true hc109
           have hx : okT seq st u t = false := okT_no (by simpa using hg101) hc109
           refine C.seq (C.region ?_); refine Lpu rfl rfl ?_; refine L.nil (QE.seq (C.ret (QE.bR (QE.tR (QE.tR (QE.bR (QE.bR (QE.tR (QE.tR (QE.bR (QE.tR ?_))))))))))); refine QE.ret (js := []) (hs := []) (vs := [_]) rfl ⟨rfl, trivial⟩ (by decide) ?_
           exact ⟨congrArg Value.bool ((hvn (fun h => (hvv.1 h).2.2.2.2.2) (fun g => by rw [show plB (symL ops) inn S n seq st = false from all_no (k := u) (by omega) (okU_no htr htn hx)] at g; cases g)).symm), rfl, rfl⟩
          ·
           replace hc109 := of_decide_eq_false hc109
           have hx : okT seq st u t = true := okT_yes2 hc109
           refine C.skip ?_; refine QE.blkN ?_; refine QE.seq (C.region ?_); refine L.step (Ev.add rfl rfl (by omega) (by omega)) rfl ?_; refine Lpu rfl rfl ?_; refine L.nil ?_
           refine QE.round (j + 1) (by exact ⟨by omega, row_step hallj htj hx⟩) (by omega) (by exact Le.mk' (rs := [0, 1, 2, 3, 4, 5, 6, 7]) (hs := []) ⟨rfl, rfl, rfl, rfl, rfl, rfl, rfl, rfl, rfl, rfl, trivial⟩ ⟨rfl, rfl, rfl, rfl, rfl, rfl, rfl, rfl, trivial⟩ trivial (by decide))
         ·
          have hx : okT seq st u t = true := okT_yes1 (by simpa using hg101)
          refine L.no rfl rfl rfl ?_; refine L.no rfl rfl rfl ?_; refine L.no rfl rfl rfl ?_; refine L.no rfl rfl rfl ?_; refine L.no rfl rfl rfl ?_; refine L.no rfl rfl rfl ?_; refine L.no rfl rfl rfl ?_; refine Lpu rfl rfl ?_; refine L.nil (QE.seq ?_)
          refine C.cond rfl (fun h => by cases h) (fun _ => ?_)
          refine C.skip ?_; refine QE.blkN ?_; refine QE.seq (C.region ?_); refine L.step (Ev.add rfl rfl (by omega) (by omega)) rfl ?_; refine Lpu rfl rfl ?_; refine L.nil ?_
          refine QE.round (j + 1) (by exact ⟨by omega, row_step hallj htj hx⟩) (by omega) (by exact Le.mk' (rs := [0, 1, 2, 3, 4, 5, 6, 7]) (hs := []) ⟨rfl, rfl, rfl, rfl, rfl, rfl, rfl, rfl, rfl, rfl, trivial⟩ ⟨rfl, rfl, rfl, rfl, rfl, rfl, rfl, rfl, trivial⟩ trivial (by decide))
        ·
         replace hc93 := of_decide_eq_false hc93
         refine C.exit ?_; refine QE.tX ?_; refine QE.tX ?_; refine QE.blk ?_; refine QE.blkN ?_; refine QE.seq (C.region ?_); refine L.step (Ev.add rfl rfl (by omega) (by omega)) rfl ?_; refine Lpu rfl rfl ?_; refine L.nil ?_
         obtain rfl : j = ((rdsL (symL ops) inn S n n).getD u []).length := by omega
         have hux : okU (symL ops) inn S n seq st u = true := okU_yes hallj (by omega)
         refine QE.round (u + 1) (by exact ⟨by omega, all_step hallu hux⟩) (by omega) (by exact Le.mk' (rs := [0, 1, 2, 3, 4, 5, 6, 7]) (hs := []) ⟨rfl, rfl, rfl, rfl, rfl, rfl, trivial⟩ ⟨rfl, rfl, rfl, rfl, rfl, rfl, rfl, rfl, trivial⟩ trivial (by decide))
       ·
        replace hc86 := of_decide_eq_false hc86
        refine C.exit ?_; refine QE.tX ?_; refine QE.tX ?_; refine QE.blk ?_; refine QE.seq (C.seq (C.region ?_)); refine Lpu rfl rfl ?_; refine L.nil (QE.seq (C.ret ?_)); refine QE.ret (js := []) (hs := []) (vs := [_]) rfl ⟨rfl, trivial⟩ (by decide) ?_
        exact ⟨congrArg Value.bool ((hvv.2 ⟨hE0, rfl, hszb0, hys, hst, all_yes fun k hk => hallu k (by omega)⟩).symm), rfl, rfl⟩

set_option maxHeartbeats 2000000 in
theorem validR_c (sz n : Int) (lf : Bool) (inn out : Int) (ops : List Po) (seq st : List Int) (OA QA HA : Option Addr) (oc qc hc : Nat) (hops : ops.length ≤ 9223372036854775807) (hql : seq.length ≤ 1000000) (hhl : st.length ≤ 1000000) :
   Ctr X 28 [.agg (List.toArray [.int .i64 sz, .int .i64 n, .bool lf, .int .i64 inn, .int .i64 out, .slice OA ops.length oc, .slice QA seq.length qc, .slice HA st.length hc])] [Rd OA (opsV ops), Rd QA (I64 seq), Rd HA (I64 st)] [] (fun v R' H' => v = .bool (vldB lf sz n inn out ops seq st) ∧ R' = [] ∧ H' = []) := by
 refine Ctr.of (X := X) (fn := Tryz.f28) Tryz.func28 rfl (by kernel_rfl) rfl ?_
 intro β
 refine C.seq (C.region ?_)
 refine L.boxA rfl rfl (fun A1 => ?_)
 refine Lpu rfl rfl ?_; refine L.nil (QE.seq (C.seq (C.seq ?_))); refine C.freeze 0 rfl [] (by decide) (by decide) ?_; refine C.region ?_; refine L.step (Ev.fieldAddr rfl rfl rfl rfl rfl rfl (Src.r 0 rfl) (Nat.zero_lt_succ _) rfl) rfl ?_; refine L.step (Ev.loadA (vs := [.bool lf, .int .i64 inn, .int .i64 out, .slice OA ops.length oc]) rfl rfl rfl (Src.r 0 rfl) rfl rfl (by decide)) rfl ?_; refine L.call (js := []) (js' := []) (right06_c lf inn out ops OA oc hops) rfl rfl rfl (by decide) (Hq [1] rfl) rfl ?_
 rintro _ _ _ ⟨rfl, rfl, rfl⟩
 refine Lpu rfl rfl ?_; refine Lpu rfl rfl ?_
 refine L.bool 15 rfl (fun hg15 => ?_) (fun hg15 => ?_)
 ·
  refine L.no rfl rfl rfl ?_; refine L.no rfl rfl rfl ?_; refine L.no rfl rfl rfl ?_; refine Lpu rfl rfl ?_; refine Lpu rfl rfl ?_; refine L.no rfl rfl rfl ?_; refine L.no rfl rfl rfl ?_; refine L.no rfl rfl rfl ?_; refine Lpu rfl rfl ?_; refine L.nil (QE.seq ?_)
  refine C.cond rfl (fun _ => ?_) (fun h => by cases h)
  refine C.seq (C.region ?_); refine Lpu rfl rfl ?_; refine L.nil (QE.seq (C.ret (QE.tR ?_))); refine QE.ret (js := []) (hs := []) (vs := [_]) rfl ⟨rfl, trivial⟩ (by decide) ?_
  exact ⟨congrArg Value.bool ((val_no fun h => by rw [h.1] at hg15; cases hg15).symm), rfl, rfl⟩
 ·
  refine L.yes rfl ?_; refine L.step (Ev.fieldAddr rfl rfl rfl rfl rfl rfl (Src.r 0 rfl) (Nat.zero_lt_succ _) rfl) rfl ?_; refine L.yes rfl ?_; refine L.step (Ev.fieldAddr rfl rfl rfl rfl rfl rfl (Src.r 0 rfl) (Nat.zero_lt_succ _) rfl) rfl ?_; refine L.yes rfl ?_; refine L.step (Ev.load rfl rfl rfl (Src.r 0 rfl) rfl) rfl ?_; refine Lpu rfl rfl ?_; refine Lpu rfl rfl ?_
  refine L.bool 20 rfl (fun hg20 => ?_) (fun hg20 => ?_)
  ·
   refine L.no rfl rfl rfl ?_; refine L.no rfl rfl rfl ?_; refine L.no rfl rfl rfl ?_; refine Lpu rfl rfl ?_; refine L.nil (QE.seq ?_)
   refine C.cond rfl (fun _ => ?_) (fun h => by cases h)
   refine C.seq (C.region ?_); refine Lpu rfl rfl ?_; refine L.nil (QE.seq (C.ret (QE.tR ?_))); refine QE.ret (js := []) (hs := []) (vs := [_]) rfl ⟨rfl, trivial⟩ (by decide) ?_
   exact ⟨congrArg Value.bool ((val_no fun h => by rw [h.2.1] at hg20; cases hg20).symm), rfl, rfl⟩
  ·
   have hlf0 : lf = false := hg20
   have hE0 : chkE inn out ops = 0 := by simpa using hg15
   refine L.yes rfl ?_; refine L.step (Ev.loadA (vs := [.int .i64 sz, .int .i64 n, .bool lf, .int .i64 inn, .int .i64 out, .slice OA ops.length oc, .slice QA seq.length qc, .slice HA st.length hc]) rfl rfl rfl (Src.r 0 rfl) rfl rfl (by decide)) rfl ?_; refine L.yes rfl ?_; refine L.call (js := []) (js' := []) (sizes_c sz n lf inn out ops OA oc (.slice QA seq.length qc) (.slice HA st.length hc)) rfl rfl rfl (by decide) trivial rfl ?_
   rintro _ _ _ ⟨rfl, rfl, rfl⟩
   refine L.yes rfl ?_; refine Lpu rfl rfl ?_; refine Lpu rfl rfl ?_; refine L.nil (QE.seq ?_)
   refine C.condB 24 rfl (fun hc24 => ?_) (fun hc24 => ?_)
   ·
    have hszb1 : sizB sz n inn out = false := by simpa using hc24
    refine C.seq (C.region ?_); refine Lpu rfl rfl ?_; refine L.nil (QE.seq (C.ret (QE.tR ?_))); refine QE.ret (js := []) (hs := []) (vs := [_]) rfl ⟨rfl, trivial⟩ (by decide) ?_
    exact ⟨congrArg Value.bool ((val_no fun h => by rw [h.2.2.1] at hszb1; cases hszb1).symm), rfl, rfl⟩
   ·
    have hszb0 : sizB sz n inn out = true := by simpa using hc24
    subst hlf0
    have hszb := sizB_iff.1 hszb0
    obtain ⟨S, rfl⟩ : ∃ q : Nat, sz = (q : Int) := ⟨sz.toNat, by omega⟩
    obtain ⟨n, rfl⟩ : ∃ q : Nat, n = (q : Int) := ⟨n.toNat, by omega⟩
    obtain ⟨hS1, hS2, hn1, hn2, hi1, hi2⟩ : 1 ≤ S ∧ S ≤ 4096 ∧ 1 ≤ n ∧ n ≤ 64 ∧ inn ≤ (S : Int) * (n : Int) ∧ out ≤ (S : Int) * (n : Int) := ⟨by omega, by omega, by omega, by omega, hszb.2.2.2.2.1, hszb.2.2.2.2.2⟩
    have hcl := chgL_len (symL ops) inn S n
    have hcp := chgL_pair (symL ops) inn S n
    have hvv := val_iff (lf := false) (sz := (S : Int)) (n := (n : Int)) (inn := inn) (out := out) (ops := ops) (seq := seq) (st := st)
    rw [Int.toNat_natCast, Int.toNat_natCast] at hvv
    have hvn : ∀ {P : Prop}, (vldB false (S : Int) (n : Int) inn out ops seq st = true → P) → ¬P → vldB false (S : Int) (n : Int) inn out ops seq st = false := fun f g => by
      cases hb : vldB false (S : Int) (n : Int) inn out ops seq st with
      | false => rfl
      | true => exact absurd (f hb) g
    obtain ⟨r1, r2, r3, r4⟩ := rd_fine (n := n) hE0 hS1 hS2 hn2 hi1 hi2
    have hpad := rds_pad (n := n) hS1 r4 r3
    have hml := rdsL_len (symL ops) inn S (rdN inn out S) (rdN inn out S)
    refine C.skip (QE.seq (C.seq (C.region ?_))); refine L.step (Ev.loadA (vs := [.int .i64 (S : Int), .int .i64 (n : Int), .bool false, .int .i64 inn, .int .i64 out, .slice OA ops.length oc, .slice QA seq.length qc, .slice HA st.length hc]) rfl rfl rfl (Src.r 0 rfl) rfl rfl (by decide)) rfl ?_; refine L.call (js := []) (js' := []) (changes19_c S n false inn out ops OA oc (.slice QA seq.length qc) (.slice HA st.length hc) hops hS1 hS2 hn1 hn2 hE0) rfl rfl rfl (by decide) (Hq [1] rfl) rfl ?_
    rintro _ _ _ ⟨CA, cc, rfl, rfl, rfl⟩
    refine L.norm (H' := [_]) [0] ⟨rfl, trivial⟩ (by decide) ?_; refine Lpu rfl rfl ?_; refine L.nil (QE.seq (C.seq (C.seq ?_))); refine C.freeze 0 rfl [] (by decide) (by decide) ?_; refine C.region ?_; refine L.step (Ev.fieldAddr rfl rfl rfl rfl rfl rfl (Src.r 1 rfl) (Nat.zero_lt_succ _) rfl) rfl ?_; refine L.step (Ev.load rfl rfl rfl (Src.r 1 rfl) rfl) rfl ?_; refine Lpu rfl rfl ?_; refine Lpu rfl rfl ?_; refine Lpu rfl rfl ?_; refine Lpu rfl rfl ?_; refine L.nil (QE.seq ?_)
    refine C.condB 32 rfl (fun hc32 => ?_) (fun hc32 => ?_)
    ·
     replace hc32 := b_ne hc32
     refine C.seq (C.region ?_); refine Lpu rfl rfl ?_; refine L.nil (QE.seq (C.ret (QE.tR ?_))); refine QE.ret (js := []) (hs := []) (vs := [_]) rfl ⟨rfl, trivial⟩ (by decide) ?_
     exact ⟨congrArg Value.bool ((hvn (fun h => ((srt_iff hcp).1 (hvv.1 h).2.2.2.1).1) (by omega)).symm), rfl, rfl⟩
    ·
     replace hc32 := b_eq hc32
     refine C.skip (QE.seq (C.seq (C.seq (C.region ?_)))); refine Lpu rfl rfl ?_; refine L.nil (QE.seq (C.block ?_)); refine C.loop (fun i : Nat => [(1, ptrOf A1 0), (3, .slice CA (chgL (symL ops) inn S n).length cc), (4, .int .i64 (i : Int))]) (fun i : Nat => [Rd A1 [.int .i64 (S : Int), .int .i64 (n : Int), .bool false, .int .i64 inn, .int .i64 out, .slice OA ops.length oc, .slice QA seq.length qc, .slice HA st.length hc], Rd CA (I64 (NI (chgL (symL ops) inn S n))), Rd OA (opsV ops), Rd QA (I64 seq), Rd HA (I64 st)]) (fun i : Nat => []) (fun i : Nat => i ≤ (chgL (symL ops) inn S n).length ∧ ∀ k, k < i → ¬idxJ seq (((chgL (symL ops) inn S n).getD k 0 : Nat) : Int) < 0) (fun i : Nat => (chgL (symL ops) inn S n).length - i) 0 ⟨Nat.zero_le _, all_zero⟩ (by exact Le.mk' (rs := [1, 0, 2, 3, 4]) (hs := []) ⟨rfl, rfl, rfl, trivial⟩ ⟨rfl, rfl, rfl, rfl, rfl, trivial⟩ trivial (by decide)) ?_
     rintro i ⟨hi, halli⟩
     refine C.seq (C.seq (C.region ?_)); refine Lpu rfl rfl ?_; refine Lpu rfl rfl ?_; refine Lpu rfl rfl ?_; refine Lpu rfl rfl ?_; refine L.nil (QE.seq ?_)
     refine C.condB 36 rfl (fun hc36 => ?_) (fun hc36 => ?_)
     ·
      replace hc36 := of_decide_eq_true hc36
      refine C.skip (QE.seq (C.seq (C.block (C.seq ?_)))); refine C.regionQ (by kernel_rfl) ?_; refine LQ.step (Ev.fieldAddr rfl rfl rfl rfl rfl rfl (Src.r 0 rfl) (Nat.zero_lt_succ _) rfl) rfl ?_; refine LQ.step (Ev.load rfl rfl rfl (Src.r 0 rfl) rfl) rfl ?_; refine LQ.step (Ev.pure rfl) rfl ?_; refine LQ.step (Ev.pure rfl) rfl ?_; refine LQ.step (Ev.idx1 (k := i) rfl rfl rfl rfl rfl rfl rfl (by omega) (Src.r 1 rfl) (by rw [I64_len, NI_len]; omega)) rfl ?_; refine LQ.step (Ev.load rfl rfl rfl (Src.r 1 rfl) (NI_at (by omega))) rfl ?_; refine LQ.call (.int .i64 (idxJ seq (((chgL (symL ops) inn S n).getD i 0 : Nat) : Int))) (index19_c QA seq qc (((chgL (symL ops) inn S n).getD i 0 : Nat) : Int) (by omega)) (fun _ _ _ h => h.1) rfl (Hq [3] rfl) rfl ?_; refine LQ.step (Ev.pure rfl) rfl ?_; refine LQ.nil ?_; refine QE.seq ?_
      refine C.condB 46 rfl (fun hc46 => ?_) (fun hc46 => ?_)
      ·
       replace hc46 := of_decide_eq_true hc46
       refine C.seq (C.region ?_); refine Lpu rfl rfl ?_; refine L.nil (QE.seq (C.ret (QE.bR (QE.tR (QE.tR (QE.bR (QE.tR ?_))))))); refine QE.ret (js := []) (hs := []) (vs := [_]) rfl ⟨rfl, trivial⟩ (by decide) ?_
       exact ⟨congrArg Value.bool ((hvn (fun h => ((srt_iff hcp).1 (hvv.1 h).2.2.2.1).2 ((chgL (symL ops) inn S n).getD i 0) (getD_mem (by omega))) (idxJ_neg.1 hc46)).symm), rfl, rfl⟩
      ·
       replace hc46 := of_decide_eq_false hc46
       refine C.skip ?_; refine QE.blkN ?_; refine QE.seq (C.region ?_); refine Lpu rfl rfl ?_; refine L.step (Ev.add rfl rfl (by omega) (by omega)) rfl ?_; refine Lpu rfl rfl ?_; refine L.nil ?_
       refine QE.round (i + 1) (by exact ⟨by omega, all_step halli hc46⟩) (by omega) (by exact Le.mk' (rs := [0, 1, 2, 3, 4]) (hs := []) ⟨rfl, rfl, rfl, trivial⟩ ⟨rfl, rfl, rfl, rfl, rfl, trivial⟩ trivial (by decide))
     ·
      replace hc36 := of_decide_eq_false hc36
      refine C.exit ?_; refine QE.tX ?_; refine QE.tX ?_; refine QE.blk ?_; refine QE.seq (C.seq (C.seq (C.region ?_))); refine Lpu rfl rfl ?_; refine L.nil (QE.seq (C.block ?_))
      have hys : srtI seq = NI (chgL (symL ops) inn S n) := (srt_iff hcp).2 ⟨by omega, fun t ht => Classical.byContradiction fun g => by
        have hm := idx_at ht
        refine halli (idxN (chgL (symL ops) inn S n) t) (by omega) ?_
        rw [hm.2]
        exact idxJ_neg.2 g⟩
      refine C.loop (fun i : Nat => [(1, ptrOf A1 0), (3, .slice CA (chgL (symL ops) inn S n).length cc), (5, .int .i64 (i : Int))]) (fun i : Nat => [Rd A1 [.int .i64 (S : Int), .int .i64 (n : Int), .bool false, .int .i64 inn, .int .i64 out, .slice OA ops.length oc, .slice QA seq.length qc, .slice HA st.length hc], Rd CA (I64 (NI (chgL (symL ops) inn S n))), Rd OA (opsV ops), Rd QA (I64 seq), Rd HA (I64 st)]) (fun i : Nat => []) (fun i : Nat => i ≤ st.length ∧ ∀ k, k < i → stT (NI (chgL (symL ops) inn S n)) st k = true) (fun i : Nat => st.length - i) 0 ⟨Nat.zero_le _, all_zero⟩ (by exact Le.mk' (rs := [0, 1, 2, 3, 4]) (hs := []) ⟨rfl, rfl, rfl, trivial⟩ ⟨rfl, rfl, rfl, rfl, rfl, trivial⟩ trivial (by decide)) ?_
      rintro i ⟨hi, hall⟩
      refine C.seq (C.seq (C.region ?_)); refine Lpu rfl rfl ?_; refine L.step (Ev.fieldAddr rfl rfl rfl rfl rfl rfl (Src.r 0 rfl) (Nat.zero_lt_succ _) rfl) rfl ?_; refine L.step (Ev.load rfl rfl rfl (Src.r 0 rfl) rfl) rfl ?_; refine Lpu rfl rfl ?_; refine Lpu rfl rfl ?_; refine L.nil (QE.seq ?_)
      refine C.condB 51 rfl (fun hc51 => ?_) (fun hc51 => ?_)
      ·
       replace hc51 := of_decide_eq_true hc51
       refine C.skip (QE.seq (C.seq (C.block (C.seq ?_)))); refine C.regionQ (by kernel_rfl) ?_; refine LQ.step (Ev.pure rfl) rfl ?_; refine LQ.step (Ev.fieldAddr rfl rfl rfl rfl rfl rfl (Src.r 0 rfl) (Nat.zero_lt_succ _) rfl) rfl ?_; refine LQ.step (Ev.load rfl rfl rfl (Src.r 0 rfl) rfl) rfl ?_; refine LQ.step (Ev.pure rfl) rfl ?_; refine LQ.step (Ev.idx1 (k := i) rfl rfl rfl rfl rfl rfl rfl (by omega) (Src.r 4 rfl) (by rw [I64_len]; omega)) rfl ?_; refine LQ.step (Ev.load rfl rfl rfl (Src.r 4 rfl) (I64_get (by omega))) rfl ?_; refine LQ.call (.int .i64 (idxJ (NI (chgL (symL ops) inn S n)) (st.getD i 0))) (index_n CA (chgL (symL ops) inn S n) cc (st.getD i 0) (by omega)) (fun _ _ _ h => h.1) rfl (Hq [1] rfl) rfl ?_; refine LQ.step (Ev.pure rfl) rfl ?_; refine LQ.step (Ev.pure rfl) rfl ?_
       refine LQ.bool 62 rfl (fun hg62 => ?_) (fun hg62 => ?_)
       ·
        replace hg62 := of_decide_eq_true hg62
        have hx : stT (NI (chgL (symL ops) inn S n)) st i = false := stT_no1 (idx_no hg62)
        refine LQ.no rfl rfl rfl ?_; refine LQ.no rfl rfl rfl ?_; refine LQ.no rfl rfl rfl ?_; refine LQ.no rfl rfl rfl ?_; refine LQ.no rfl rfl rfl ?_; refine LQ.no rfl rfl rfl ?_; refine LQ.no rfl rfl rfl ?_; refine LQ.no rfl rfl rfl ?_; refine LQ.no rfl rfl rfl ?_; refine LQ.no rfl rfl rfl ?_; refine LQ.no rfl rfl rfl ?_; refine LQ.no rfl rfl rfl ?_; refine LQ.no rfl rfl rfl ?_; refine LQ.no rfl rfl rfl ?_; refine LQ.no rfl rfl rfl ?_; refine LQ.no rfl rfl rfl ?_; refine LQ.step (Ev.pure rfl) rfl ?_; refine LQ.nil ?_; refine QE.seq ?_
        refine C.cond rfl (fun _ => ?_) (fun h => by cases h)
        refine C.seq (C.region ?_); refine Lpu rfl rfl ?_; refine L.nil (QE.seq (C.ret (QE.bR (QE.tR (QE.tR (QE.bR (QE.tR ?_))))))); refine QE.ret (js := []) (hs := []) (vs := [_]) rfl ⟨rfl, trivial⟩ (by decide) ?_
        exact ⟨congrArg Value.bool ((hvn (fun h => (hvv.1 h).2.2.2.2.1) (fun g => by rw [show stB _ st = false from all_no (k := i) (by omega) hx] at g; cases g)).symm), rfl, rfl⟩
       ·
        replace hg62 := of_decide_eq_false hg62
        refine LQ.yes rfl ?_; refine LQ.step (Ev.pure rfl) rfl ?_; refine LQ.yes rfl ?_; refine LQ.step (Ev.pure rfl) rfl ?_; refine LQ.yes rfl ?_; refine LQ.step (Ev.pure rfl) rfl ?_
        refine LQ.bool 65 rfl (fun hg65 => ?_) (fun hg65 => ?_)
        ·
         replace hg65 := of_decide_eq_true hg65
         refine LQ.yes rfl ?_; refine LQ.step (Ev.fieldAddr rfl rfl rfl rfl rfl rfl (Src.r 0 rfl) (Nat.zero_lt_succ _) rfl) rfl ?_; refine LQ.yes rfl ?_; refine LQ.step (Ev.load rfl rfl rfl (Src.r 0 rfl) rfl) rfl ?_; refine LQ.yes rfl ?_; refine LQ.step (Ev.pure rfl) rfl ?_; refine LQ.yes rfl ?_; refine LQ.step (Ev.sub rfl rfl (by omega) (by omega)) rfl ?_; refine LQ.yes rfl ?_; refine LQ.step (Ev.idx1 (k := (i - 1)) rfl rfl rfl rfl rfl rfl (by omega) (by omega) (Src.r 4 rfl) (by rw [I64_len]; omega)) rfl ?_; refine LQ.yes rfl ?_; refine LQ.step (Ev.load rfl rfl rfl (Src.r 4 rfl) (I64_get (by omega))) rfl ?_; refine LQ.yes rfl ?_; refine LQ.step (Ev.fieldAddr rfl rfl rfl rfl rfl rfl (Src.r 0 rfl) (Nat.zero_lt_succ _) rfl) rfl ?_; refine LQ.yes rfl ?_; refine LQ.step (Ev.load rfl rfl rfl (Src.r 0 rfl) rfl) rfl ?_; refine LQ.yes rfl ?_; refine LQ.step (Ev.pure rfl) rfl ?_; refine LQ.yes rfl ?_; refine LQ.step (Ev.idx1 (k := i) rfl rfl rfl rfl rfl rfl rfl (by omega) (Src.r 4 rfl) (by rw [I64_len]; omega)) rfl ?_; refine LQ.yes rfl ?_; refine LQ.step (Ev.load rfl rfl rfl (Src.r 4 rfl) (I64_get (by omega))) rfl ?_; refine LQ.yes rfl ?_; refine LQ.step (Ev.pure rfl) rfl ?_; refine LQ.yes rfl ?_; refine LQ.step (Ev.pure rfl) rfl ?_; refine LQ.step (Ev.pure rfl) rfl ?_; refine LQ.nil ?_; refine QE.seq ?_
         refine C.condB 79 rfl (fun hc79 => ?_) (fun hc79 => ?_)
         ·
          replace hc79 := of_decide_eq_true hc79
          have hx : stT (NI (chgL (symL ops) inn S n)) st i = false := stT_no2 (by omega) hc79
          refine C.seq (C.region ?_); refine Lpu rfl rfl ?_; refine L.nil (QE.seq (C.ret (QE.bR (QE.tR (QE.tR (QE.bR (QE.tR ?_))))))); refine QE.ret (js := []) (hs := []) (vs := [_]) rfl ⟨rfl, trivial⟩ (by decide) ?_
          exact ⟨congrArg Value.bool ((hvn (fun h => (hvv.1 h).2.2.2.2.1) (fun g => by rw [show stB _ st = false from all_no (k := i) (by omega) hx] at g; cases g)).symm), rfl, rfl⟩
         ·
          replace hc79 := of_decide_eq_false hc79
          have hx : stT (NI (chgL (symL ops) inn S n)) st i = true := stT_yes2 (idx_yes hg62) hc79
          refine C.skip ?_; refine QE.blkN ?_; refine QE.seq (C.region ?_); refine Lpu rfl rfl ?_; refine L.step (Ev.add rfl rfl (by omega) (by omega)) rfl ?_; refine Lpu rfl rfl ?_; refine L.nil ?_
          refine QE.round (i + 1) (by exact ⟨by omega, all_step hall hx⟩) (by omega) (by exact Le.mk' (rs := [0, 1, 2, 3, 4]) (hs := []) ⟨rfl, rfl, rfl, trivial⟩ ⟨rfl, rfl, rfl, rfl, rfl, trivial⟩ trivial (by decide))
        ·
         replace hg65 := of_decide_eq_false hg65
         have hx : stT (NI (chgL (symL ops) inn S n)) st i = true := stT_yes1 (idx_yes hg62) (by omega)
         refine LQ.no rfl rfl rfl ?_; refine LQ.no rfl rfl rfl ?_; refine LQ.no rfl rfl rfl ?_; refine LQ.no rfl rfl rfl ?_; refine LQ.no rfl rfl rfl ?_; refine LQ.no rfl rfl rfl ?_; refine LQ.no rfl rfl rfl ?_; refine LQ.no rfl rfl rfl ?_; refine LQ.no rfl rfl rfl ?_; refine LQ.no rfl rfl rfl ?_; refine LQ.no rfl rfl rfl ?_; refine LQ.no rfl rfl rfl ?_; refine LQ.yes rfl ?_; refine LQ.step (Ev.pure rfl) rfl ?_; refine LQ.step (Ev.pure rfl) rfl ?_; refine LQ.nil ?_; refine QE.seq ?_
         refine C.cond rfl (fun h => by cases h) (fun _ => ?_)
         refine C.skip ?_; refine QE.blkN ?_; refine QE.seq (C.region ?_); refine Lpu rfl rfl ?_; refine L.step (Ev.add rfl rfl (by omega) (by omega)) rfl ?_; refine Lpu rfl rfl ?_; refine L.nil ?_
         refine QE.round (i + 1) (by exact ⟨by omega, all_step hall hx⟩) (by omega) (by exact Le.mk' (rs := [0, 1, 2, 3, 4]) (hs := []) ⟨rfl, rfl, rfl, trivial⟩ ⟨rfl, rfl, rfl, rfl, rfl, trivial⟩ trivial (by decide))
      ·
       replace hc51 := of_decide_eq_false hc51
       refine C.exit ?_; refine QE.tX ?_; refine QE.tX ?_; refine QE.blk ?_; refine QE.seq (C.seq (C.region ?_)); refine L.step (Ev.fieldAddr rfl rfl rfl rfl rfl rfl (Src.r 0 rfl) (Nat.zero_lt_succ _) rfl) rfl ?_; refine L.step (Ev.loadA (vs := [.bool false, .int .i64 inn, .int .i64 out, .slice OA ops.length oc]) rfl rfl rfl (Src.r 0 rfl) rfl rfl (by decide)) rfl ?_; refine L.step (Ev.fieldAddr rfl rfl rfl rfl rfl rfl (Src.r 0 rfl) (Nat.zero_lt_succ _) rfl) rfl ?_; refine L.step (Ev.load rfl rfl rfl (Src.r 0 rfl) rfl) rfl ?_; refine L.callR (js := []) (js' := []) (readsR_c false inn out ops OA oc hops (S : Int)) rfl rfl rfl (by decide) (Hq [2] rfl) rfl ?_
       rw [r1, r2]
       rintro _ _ _ ⟨MA, mc, mhs, rfl, rfl, rfl, hmhs⟩
       refine Lpu rfl rfl ?_; refine Lpu rfl rfl ?_; refine Lpu rfl rfl ?_; refine Lpu rfl rfl ?_; refine Lpu rfl rfl ?_; refine L.nil (QE.seq (C.seq (C.seq (C.region ?_)))); refine Lpu rfl rfl ?_; refine L.nil (QE.seq (C.block ?_))
       have hst : stB (NI (chgL (symL ops) inn S n)) st = true := all_yes fun k hk => hall k (by omega)
       refine C.loop (fun u : Nat => [(1, ptrOf A1 0), (3, .slice CA (chgL (symL ops) inn S n).length cc), (6, .slice MA (rdsL (symL ops) inn S (rdN inn out S) (rdN inn out S)).length mc), (8, .int .i64 (u : Int))]) (fun u : Nat => [Rd MA (rowsV mhs (J8 (rdsL (symL ops) inn S (rdN inn out S) (rdN inn out S)))), KidsR mhs (J8 (rdsL (symL ops) inn S (rdN inn out S) (rdN inn out S))), Rd A1 [.int .i64 (S : Int), .int .i64 (n : Int), .bool false, .int .i64 inn, .int .i64 out, .slice OA ops.length oc, .slice QA seq.length qc, .slice HA st.length hc], Rd CA (I64 (NI (chgL (symL ops) inn S n))), Rd OA (opsV ops), Rd QA (I64 seq), Rd HA (I64 st)]) (fun u : Nat => []) (fun u : Nat => u ≤ (rdN inn out S) ∧ ∀ k, k < u → okU (symL ops) inn S n seq st k = true) (fun u : Nat => (rdN inn out S) - u) 0 ⟨Nat.zero_le _, all_zero⟩ (by exact Le.mk' (rs := [0, 1, 2, 3, 4, 5, 6]) (hs := []) ⟨rfl, rfl, rfl, rfl, trivial⟩ ⟨rfl, rfl, rfl, rfl, rfl, rfl, rfl, trivial⟩ trivial (by decide)) ?_
       rintro u ⟨hu, hallu⟩
       refine C.seq (C.seq (C.region ?_)); refine Lpu rfl rfl ?_; refine Lpu rfl rfl ?_; refine Lpu rfl rfl ?_; refine Lpu rfl rfl ?_; refine L.nil (QE.seq ?_)
       refine C.condB 91 rfl (fun hc91 => ?_) (fun hc91 => ?_)
       ·
        replace hc91 := of_decide_eq_true hc91
        refine C.skip (QE.seq (C.seq (C.block (C.seq (C.region ?_))))); refine Lpu rfl rfl ?_; refine L.nil (QE.seq (C.block ?_)); refine C.loop (fun j : Nat => [(1, ptrOf A1 0), (3, .slice CA (chgL (symL ops) inn S n).length cc), (6, .slice MA (rdsL (symL ops) inn S (rdN inn out S) (rdN inn out S)).length mc), (8, .int .i64 (u : Int)), (9, .int .i64 (j : Int))]) (fun j : Nat => [Rd MA (rowsV mhs (J8 (rdsL (symL ops) inn S (rdN inn out S) (rdN inn out S)))), KidsR mhs (J8 (rdsL (symL ops) inn S (rdN inn out S) (rdN inn out S))), Rd A1 [.int .i64 (S : Int), .int .i64 (n : Int), .bool false, .int .i64 inn, .int .i64 out, .slice OA ops.length oc, .slice QA seq.length qc, .slice HA st.length hc], Rd CA (I64 (NI (chgL (symL ops) inn S n))), Rd OA (opsV ops), Rd QA (I64 seq), Rd HA (I64 st)]) (fun j : Nat => []) (fun j : Nat => j ≤ ((rdsL (symL ops) inn S (rdN inn out S) (rdN inn out S)).getD u []).length ∧ ∀ k, k < j → ∀ t : Nat, ((rdsL (symL ops) inn S (rdN inn out S) (rdN inn out S)).getD u []).getD k 0 = (t : Int) → okT seq st u t = true) (fun j : Nat => ((rdsL (symL ops) inn S (rdN inn out S) (rdN inn out S)).getD u []).length - j) 0 ⟨Nat.zero_le _, fun _ h => absurd h (Nat.not_lt_zero _)⟩ (by exact Le.mk' (rs := [0, 1, 2, 3, 4, 5, 6]) (hs := []) ⟨rfl, rfl, rfl, rfl, rfl, trivial⟩ ⟨rfl, rfl, rfl, rfl, rfl, rfl, rfl, trivial⟩ trivial (by decide)) ?_
        rintro j ⟨hj, hallj⟩
        refine C.seq (C.seq ?_)
        have hmr : ((rdsL (symL ops) inn S (rdN inn out S) (rdN inn out S)).getD u []) = (rdsL (symL ops) inn S n n).getD u [] := by rw [← hpad, padM_get]
        have hrl : ((rdsL (symL ops) inn S (rdN inn out S) (rdN inn out S)).getD u []).length ≤ n := by rw [hmr, rdsL_get (by omega), NI_len]; exact rdsR_len _ _ _ _ _
        refine C.region ?_; refine Lpu rfl rfl ?_; refine Lpu rfl rfl ?_; refine Lpu rfl rfl ?_; refine L.step (Ev.idx1 (k := u) rfl rfl rfl rfl rfl rfl rfl (by omega) (Src.r 0 rfl) (by rw [rowsV_len (by rw [J8_len]; exact hmhs), J8_len]; omega)) rfl ?_; refine L.step (Ev.load rfl rfl rfl (Src.r 0 rfl) (rowsJ_get hmhs (by omega))) rfl ?_; refine Lpu rfl rfl ?_; refine Lpu rfl rfl ?_; refine L.nil (QE.seq ?_)
        refine C.condB 100 rfl (fun hc100 => ?_) (fun hc100 => ?_)
        ·
         replace hc100 := of_decide_eq_true hc100
         refine C.skip (QE.seq (C.seq (C.block (C.seq ?_))))
         obtain ⟨t, htj, htn, htr, htm⟩ := row_mem (l := (symL ops)) (inn := inn) (S := S) (n := n) (u := u) (j := j) (by omega) (by rw [← hmr]; omega)
         rw [← hmr] at htj
         refine C.region ?_; refine Lpu rfl rfl ?_; refine Lpu rfl rfl ?_; refine L.step (Ev.idx1 (k := u) rfl rfl rfl rfl rfl rfl rfl (by omega) (Src.r 0 rfl) (by rw [rowsV_len (by rw [J8_len]; exact hmhs), J8_len]; omega)) rfl ?_; refine L.step (Ev.load rfl rfl rfl (Src.r 0 rfl) (rowsJ_get hmhs (by omega))) rfl ?_; refine Lpu rfl rfl ?_; refine L.step (Ev.idx1 (k := j) rfl rfl rfl rfl rfl rfl rfl (by omega) (Src.cast (Src.kid 1 rfl (by rw [J8_len]; exact hmhs) u (by rw [J8_len]; omega)) (J8_get _)) (by rw [I64_len]; omega)) rfl ?_; refine L.step (Ev.cast (u := .int .i64 (t : Int)) (Ev.load rfl rfl rfl (Src.cast (Src.kid 1 rfl (by rw [J8_len]; exact hmhs) u (by rw [J8_len]; omega)) (J8_get _)) (I64_get (by omega))) (congrArg (Value.int .i64) htj)) rfl ?_; refine Lpu rfl rfl ?_; refine L.nil (QE.seq (C.seq ?_)); refine C.regionQ (by kernel_rfl) ?_; refine LQ.step (Ev.fieldAddr rfl rfl rfl rfl rfl rfl (Src.r 2 rfl) (Nat.zero_lt_succ _) rfl) rfl ?_; refine LQ.step (Ev.load rfl rfl rfl (Src.r 2 rfl) rfl) rfl ?_; refine LQ.step (Ev.pure rfl) rfl ?_; refine LQ.call (.int .i64 (idxJ st (t : Int))) (index19_c HA st hc (t : Int) (by omega)) (fun _ _ _ h => h.1) rfl (Hq [6] rfl) rfl ?_; refine LQ.step (Ev.pure rfl) rfl ?_; refine LQ.step (Ev.pure rfl) rfl ?_
         refine LQ.bool 115 rfl (fun hg115 => ?_) (fun hg115 => ?_)
         ·
          replace hg115 := of_decide_eq_true hg115
          refine LQ.yes rfl ?_; refine LQ.step (Ev.fieldAddr rfl rfl rfl rfl rfl rfl (Src.r 2 rfl) (Nat.zero_lt_succ _) rfl) rfl ?_; refine LQ.yes rfl ?_; refine LQ.step (Ev.load rfl rfl rfl (Src.r 2 rfl) rfl) rfl ?_; refine LQ.yes rfl ?_; refine LQ.step (Ev.pure rfl) rfl ?_; refine LQ.yes rfl ?_; refine LQ.call (.int .i64 (idxJ seq (u : Int))) (index19_c QA seq qc (u : Int) (by omega)) (fun _ _ _ h => h.1) rfl (Hq [5] rfl) rfl ?_; refine LQ.yes rfl ?_; refine LQ.step (Ev.fieldAddr rfl rfl rfl rfl rfl rfl (Src.r 2 rfl) (Nat.zero_lt_succ _) rfl) rfl ?_; refine LQ.yes rfl ?_; refine LQ.step (Ev.load rfl rfl rfl (Src.r 2 rfl) rfl) rfl ?_; refine LQ.yes rfl ?_; refine LQ.step (Ev.pure rfl) rfl ?_; refine LQ.yes rfl ?_; refine LQ.call (.int .i64 (idxJ seq (t : Int))) (index19_c QA seq qc (t : Int) (by omega)) (fun _ _ _ h => h.1) rfl (Hq [5] rfl) rfl ?_; refine LQ.yes rfl ?_; refine LQ.step (Ev.pure rfl) rfl ?_; refine LQ.step (Ev.pure rfl) rfl ?_; refine LQ.nil ?_; refine QE.seq ?_
          refine C.condB 125 rfl (fun hc125 => ?_) (fun hc125 => ?_)
          ·
           replace hc125 := of_decide_eq_true hc125
           have hx : okT seq st u t = false := okT_no (idx_no hg115) hc125
           refine C.seq (C.region ?_); refine Lpu rfl rfl ?_; refine L.nil (QE.seq (C.ret (QE.bR (QE.tR (QE.tR (QE.bR (QE.bR (QE.tR (QE.tR (QE.bR (QE.tR ?_))))))))))); refine QE.ret (js := []) (hs := []) (vs := [_]) rfl ⟨rfl, trivial⟩ (by decide) ?_
           exact ⟨congrArg Value.bool ((hvn (fun h => (hvv.1 h).2.2.2.2.2) (fun g => by rw [show plB (symL ops) inn S n seq st = false from all_no (k := u) (by omega) (okU_no htr htn hx)] at g; cases g)).symm), rfl, rfl⟩
          ·
           replace hc125 := of_decide_eq_false hc125
           have hx : okT seq st u t = true := okT_yes2 hc125
           refine C.skip ?_; refine QE.blkN ?_; refine QE.seq (C.region ?_); refine Lpu rfl rfl ?_; refine L.step (Ev.add rfl rfl (by omega) (by omega)) rfl ?_; refine Lpu rfl rfl ?_; refine L.nil ?_
           refine QE.round (j + 1) (by exact ⟨by omega, row_step hallj htj hx⟩) (by omega) (by exact Le.mk' (rs := [0, 1, 2, 3, 4, 5, 6]) (hs := []) ⟨rfl, rfl, rfl, rfl, rfl, trivial⟩ ⟨rfl, rfl, rfl, rfl, rfl, rfl, rfl, trivial⟩ trivial (by decide))
         ·
          replace hg115 := of_decide_eq_false hg115
          have hx : okT seq st u t = true := okT_yes1 (idx_yes hg115)
          refine LQ.no rfl rfl rfl ?_; refine LQ.no rfl rfl rfl ?_; refine LQ.no rfl rfl rfl ?_; refine LQ.no rfl rfl rfl ?_; refine LQ.no rfl rfl rfl ?_; refine LQ.no rfl rfl rfl ?_; refine LQ.no rfl rfl rfl ?_; refine LQ.no rfl rfl rfl ?_; refine LQ.no rfl rfl rfl ?_; refine LQ.step (Ev.pure rfl) rfl ?_; refine LQ.nil ?_; refine QE.seq ?_
          refine C.cond rfl (fun h => by cases h) (fun _ => ?_)
          refine C.skip ?_; refine QE.blkN ?_; refine QE.seq (C.region ?_); refine Lpu rfl rfl ?_; refine L.step (Ev.add rfl rfl (by omega) (by omega)) rfl ?_; refine Lpu rfl rfl ?_; refine L.nil ?_
          refine QE.round (j + 1) (by exact ⟨by omega, row_step hallj htj hx⟩) (by omega) (by exact Le.mk' (rs := [0, 1, 2, 3, 4, 5, 6]) (hs := []) ⟨rfl, rfl, rfl, rfl, rfl, trivial⟩ ⟨rfl, rfl, rfl, rfl, rfl, rfl, rfl, trivial⟩ trivial (by decide))
        ·
         replace hc100 := of_decide_eq_false hc100
         refine C.exit ?_; refine QE.tX ?_; refine QE.tX ?_; refine QE.blk ?_; refine QE.blkN ?_; refine QE.seq (C.region ?_); refine Lpu rfl rfl ?_; refine L.step (Ev.add rfl rfl (by omega) (by omega)) rfl ?_; refine Lpu rfl rfl ?_; refine L.nil ?_
         obtain rfl : j = ((rdsL (symL ops) inn S (rdN inn out S) (rdN inn out S)).getD u []).length := by omega
         rw [hmr] at hallj
         have hux : okU (symL ops) inn S n seq st u = true := okU_yes hallj (by omega)
         refine QE.round (u + 1) (by exact ⟨by omega, all_step hallu hux⟩) (by omega) (by exact Le.mk' (rs := [0, 1, 2, 3, 4, 5, 6]) (hs := []) ⟨rfl, rfl, rfl, rfl, trivial⟩ ⟨rfl, rfl, rfl, rfl, rfl, rfl, rfl, trivial⟩ trivial (by decide))
       ·
        replace hc91 := of_decide_eq_false hc91
        refine C.exit ?_; refine QE.tX ?_; refine QE.tX ?_; refine QE.blk ?_; refine QE.seq (C.seq (C.region ?_)); refine Lpu rfl rfl ?_; refine L.nil (QE.seq (C.ret ?_)); refine QE.ret (js := []) (hs := []) (vs := [_]) rfl ⟨rfl, trivial⟩ (by decide) ?_
        exact ⟨congrArg Value.bool ((hvv.2 ⟨hE0, rfl, hszb0, hys, hst, all_yes fun k hk => by
          rcases Nat.lt_or_ge k (rdN inn out S) with g | g
          · exact hallu k (by omega)
          · exact okU_hi (chgB_hi hS1 r4 g)⟩).symm), rfl, rfl⟩

end Go.Proofs.YtpccfdnmnnnboaaGreat
