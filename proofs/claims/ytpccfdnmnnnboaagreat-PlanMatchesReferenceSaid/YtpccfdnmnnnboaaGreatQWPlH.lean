/-
  Contents that a plan gives, of the program and of the reference.
-/
import Derived.Test.YtpccfdnmnnnboaaGreatQWPlG
import Derived.Test.YtpccfdnmnnnboaaGreatQTf
namespace Go.Proofs.YtpccfdnmnnnboaaGreat
open Go.Sl

theorem flat_succ (ls : List (List Int)) {i : Nat} (h : i < ls.length) : (ls.take (i + 1)).flatten = (ls.take i).flatten ++ ls.getD i [] := by
 rw [take_snoc' ls [] i h, List.flatten_append]
 simp
theorem flat_le (ls : List (List Int)) (i : Nat) : (ls.take i).flatten.length ≤ ls.flatten.length := by
 have := congrArg List.length (congrArg List.flatten (List.take_append_drop i ls))
 rw [List.flatten_append, List.length_append] at this
 omega
theorem idxJ_lt2 {st : List Int} {t : Int} (h : 0 ≤ idxJ st t) : idxJ st t < (st.length : Int) := by
 have hm : t ∈ st := Classical.byContradiction fun g => by
   have := idxJ_neg.2 g
   omega
 obtain ⟨k, h1, h2, _⟩ := idxJ_mem hm
 omega
theorem sec_ok {data : List (List UInt8)} {fs : Int} {n t : Nat} {st lst : List Int} (_hsl : st.length ≤ lst.length) (hs1 : ∀ t, t < n → secB data fs (t : Int) = true) (hs2 : ∀ i, i < st.length → secB data fs (lst.getD i 0) = true) (ht : t < n) : secB data fs (secT st lst st.length t) = true := by
 rw [secT_idx]
 split
 · rename_i h
   have := idxJ_lt2 h
   exact hs2 _ (by omega)
 · exact hs1 t ht

theorem grow0_c (m : Nat) (hm : m ≤ 1000000) :
   Ctr X 97 [.slice none 0 0, .int .i64 (m : Int)] [] [] (fun v R' H' => ∃ (A : Option Addr) (c : Nat), v = .slice A 0 c ∧ R' = [] ∧ H' = [Own 3 1 A 0 c []]) := by
 refine Ctr.of (X := X) (fn := Tryz.f97) Tryz.func97 rfl (by kernel_rfl) rfl ?_
 intro β
 refine C.seq (C.region ?_); refine Lpu rfl rfl ?_; refine L.nil (QE.seq (C.seq (C.seq (C.region ?_)))); refine Lpu rfl rfl ?_; refine Lpu rfl rfl ?_; refine L.nil (QE.seq ?_)
 refine C.condB 6 rfl (fun hc6 => ?_) (fun hc6 => ?_)
 ·
  replace hc6 := of_decide_eq_true hc6
  omega
 ·
  replace hc6 := of_decide_eq_false hc6
  refine C.skip (QE.seq (C.seq (C.seq (C.region ?_)))); refine Lpu rfl rfl ?_; refine Lpu rfl rfl ?_; refine L.step (Ev.capS rfl rfl rfl) rfl ?_; refine Lpu rfl rfl ?_; refine Lpu rfl rfl ?_; refine L.step (Ev.sub rfl rfl (by omega) (by omega)) rfl ?_; refine L.step (Ev.cast (u := .int .i64 ((m : Nat) : Int)) (Ev.sub rfl rfl (by omega) (by omega)) (congrArg (Value.int .i64) (by omega))) rfl ?_; refine Lpu rfl rfl ?_; refine L.nil (QE.seq (C.seq (C.region ?_))); refine Lpu rfl rfl ?_; refine Lpu rfl rfl ?_; refine L.nil (QE.seq ?_)
  refine C.condB 16 rfl (fun hc16 => ?_) (fun hc16 => ?_)
  ·
   replace hc16 := of_decide_eq_true hc16
   refine C.region ?_; refine Lpu rfl rfl ?_; refine Lpu rfl rfl ?_; refine L.step (Ev.capS rfl rfl rfl) rfl ?_; refine L.step (Ev.sliceH (h := 0) rfl rfl rfl rfl rfl rfl (Nat.le_refl _)) rfl ?_; refine Lpu rfl rfl ?_
   refine L.nilZ rfl rfl rfl rfl rfl rfl rfl rfl rfl rfl (by omega) (by omega) (by show _ * 8 ≤ _; omega) rfl (fun A22 c22 => ?_)
   refine Lpu rfl rfl ?_; refine Lpu rfl rfl ?_; refine L.step (Ev.sliceH (h := 0) rfl rfl rfl rfl rfl rfl (Nat.zero_le _)) rfl ?_; refine L.empty ?_; refine Lpu rfl rfl ?_; refine L.nil (QE.seq (C.seq (C.region ?_))); refine Lpu rfl rfl ?_; refine Lpu rfl rfl ?_; refine L.nil (QE.seq (C.ret ?_)); refine QE.ret (js := []) (hs := [0]) (vs := [_]) rfl ⟨rfl, trivial⟩ (by decide) ?_
   exact ⟨A22, c22, rfl, rfl, rfl⟩
  ·
   replace hc16 := of_decide_eq_false hc16
   refine C.skip (QE.seq (C.seq (C.region ?_))); refine Lpu rfl rfl ?_; refine Lpu rfl rfl ?_; refine L.nil (QE.seq (C.ret ?_)); refine QE.nil_own 3 1 ?_; refine QE.ret (js := []) (hs := [0]) (vs := [_]) rfl ⟨rfl, trivial⟩ (by decide) ?_
   exact ⟨none, 0, rfl, rfl, rfl⟩

theorem concat_c (LA : Option Addr) (ls : List (List Int)) (lc : Nat) (hs : List Hd) (hh : hs.length = ls.length) (hll : ls.length ≤ 9223372036854775807) (_hlr : ∀ i, (ls.getD i []).length ≤ 9223372036854775807) (hsum : ls.flatten.length ≤ 1000000) :
   Ctr X 54 [.slice LA ls.length lc] [Rd LA (rowsV hs (J8 ls)), KidsR hs (J8 ls)] [] (fun v R' H' => ∃ (A : Option Addr) (c : Nat), v = .slice A ls.flatten.length c ∧ R' = [] ∧ H' = [Own 3 1 A ls.flatten.length c (I64 ls.flatten)]) := by
 refine Ctr.of (X := X) (fn := Tryz.f54) Tryz.func54 rfl (by kernel_rfl) rfl ?_
 intro β
 refine C.seq (C.region ?_); refine Lpu rfl rfl ?_; refine L.nil (QE.seq (C.seq (C.region ?_))); refine Lpu rfl rfl ?_; refine L.nil (QE.seq (C.seq (C.seq (C.region ?_)))); refine Lpu rfl rfl ?_; refine Lpu rfl rfl ?_; refine Lpu rfl rfl ?_; refine L.nil (QE.seq (C.block ?_)); refine C.loop (fun i : Nat => [(0, .slice LA ls.length lc), (9, .slice LA ls.length lc), (10, .int .i64 (ls.length : Int)), (11, .int .i64 (i : Int)), (3, .int .i64 (((ls.take i).flatten.length : Nat) : Int))]) (fun i : Nat => [Rd LA (rowsV hs (J8 ls)), KidsR hs (J8 ls)]) (fun i : Nat => []) (fun i : Nat => i ≤ ls.length) (fun i : Nat => ls.length - i) 0 (Nat.zero_le _) (by exact Le.mk' (rs := [0, 1]) (hs := []) ⟨rfl, rfl, rfl, rfl, rfl, trivial⟩ ⟨rfl, rfl, trivial⟩ trivial (by decide)) ?_
 intro i hi
 refine C.seq (C.region ?_); refine Lpu rfl rfl ?_; refine L.nil (QE.seq (C.seq ?_))
 refine C.condB 12 rfl (fun hc12 => ?_) (fun hc12 => ?_)
 ·
  replace hc12 := of_decide_eq_true hc12
  refine C.skip (QE.seq (C.seq (C.block (C.seq (C.region ?_))))); refine L.step (Ev.idx1 (k := i) rfl rfl rfl rfl rfl rfl rfl (by omega) (Src.r 0 rfl) (by rw [rowsV_len (by rw [J8_len]; exact hh), J8_len]; omega)) rfl ?_; refine L.step (Ev.load rfl rfl rfl (Src.r 0 rfl) (rowsJ_get hh (by omega))) rfl ?_; refine Lpu rfl rfl ?_; refine L.nil (QE.seq (C.seq ?_))
  have hf1 := flat_succ ls (i := i) (by omega)
  have hf2 := congrArg List.length hf1
  rw [List.length_append] at hf2
  have hf3 := flat_le ls (i + 1)
  refine C.region ?_; refine Lpu rfl rfl ?_; refine Lpu rfl rfl ?_; refine Lpu rfl rfl ?_; refine L.step (Ev.add rfl rfl (by omega) (by omega)) rfl ?_; refine Lpu rfl rfl ?_; refine L.nil (QE.seq (C.seq (C.region ?_))); refine Lpu rfl rfl ?_; refine Lpu rfl rfl ?_; refine L.nil (QE.seq ?_)
  refine C.condB 20 rfl (fun hc20 => ?_) (fun hc20 => ?_)
  ·
   replace hc20 := of_decide_eq_true hc20
   omega
  ·
   replace hc20 := of_decide_eq_false hc20
   refine C.skip ?_; refine QE.blkN ?_; refine QE.seq (C.region ?_); refine L.step (Ev.add rfl rfl (by omega) (by omega)) rfl ?_; refine Lpu rfl rfl ?_; refine L.nil ?_
   refine QE.round (i + 1) (by omega) (by omega) (by exact Le.mk' (rs := [0, 1]) (hs := []) ⟨rfl, rfl, rfl, rfl, (congrArg some (congrArg (Value.int .i64) (by omega))), trivial⟩ ⟨rfl, rfl, trivial⟩ trivial (by decide))
 ·
  replace hc12 := of_decide_eq_false hc12
  refine C.exit ?_; refine QE.tX ?_; refine QE.tX ?_; refine QE.blk ?_; refine QE.seq (C.seq ?_)
  obtain rfl : i = ls.length := by omega
  rw [List.take_length]
  refine C.region ?_; refine Lpu rfl rfl ?_; refine L.call (js := []) (js' := []) (grow0_c ls.flatten.length hsum) rfl rfl rfl (by decide) trivial rfl ?_
  rintro _ _ _ ⟨GA, gc, rfl, rfl, rfl⟩
  refine L.norm (H' := [_]) [0] ⟨rfl, trivial⟩ (by decide) ?_; refine Lpu rfl rfl ?_; refine L.nil (QE.seq (C.seq (C.seq (C.region ?_)))); refine Lpu rfl rfl ?_; refine Lpu rfl rfl ?_; refine Lpu rfl rfl ?_; refine L.nil (QE.seq (C.block ?_)); refine C.loop (fun q : Nat × Option Addr × Nat => [(25, .slice LA ls.length lc), (26, .int .i64 (ls.length : Int)), (27, .int .i64 (q.1 : Int)), (6, .slice q.2.1 (ls.take q.1).flatten.length q.2.2)]) (fun q : Nat × Option Addr × Nat => [Rd LA (rowsV hs (J8 ls)), KidsR hs (J8 ls)]) (fun q : Nat × Option Addr × Nat => [Own 3 1 q.2.1 (ls.take q.1).flatten.length q.2.2 (I64 (ls.take q.1).flatten)]) (fun q : Nat × Option Addr × Nat => q.1 ≤ ls.length) (fun q : Nat × Option Addr × Nat => ls.length - q.1) (0, GA, gc) (Nat.zero_le _) (by exact Le.mk' (rs := [0, 1]) (hs := [0]) ⟨rfl, rfl, rfl, rfl, trivial⟩ ⟨rfl, rfl, trivial⟩ ⟨rfl, trivial⟩ (by decide)) ?_
  rintro ⟨i, A, c⟩ hi
  dsimp only at hi ⊢
  refine C.seq (C.region ?_); refine Lpu rfl rfl ?_; refine L.nil (QE.seq (C.seq ?_))
  refine C.condB 28 rfl (fun hc28 => ?_) (fun hc28 => ?_)
  ·
   replace hc28 := of_decide_eq_true hc28
   refine C.skip (QE.seq (C.seq (C.block (C.seq (C.region ?_))))); refine L.step (Ev.idx1 (k := i) rfl rfl rfl rfl rfl rfl rfl (by omega) (Src.r 0 rfl) (by rw [rowsV_len (by rw [J8_len]; exact hh), J8_len]; omega)) rfl ?_; refine L.step (Ev.load rfl rfl rfl (Src.r 0 rfl) (rowsJ_get hh (by omega))) rfl ?_; refine Lpu rfl rfl ?_; refine L.nil (QE.seq ?_)
   have hf1 := flat_succ ls (i := i) (by omega)
   have hf2 := congrArg List.length hf1
   rw [List.length_append] at hf2
   have hf3 := flat_le ls (i + 1)
   refine C.region ?_; refine Lpu rfl rfl ?_; refine Lpu rfl rfl ?_
   refine L.append (j := 0) rfl rfl rfl rfl (by decide) rfl rfl rfl rfl (Src.cast (Src.kid 1 rfl (by rw [J8_len]; exact hh) i (by rw [J8_len]; omega)) (J8_get _)) ((I64_len _).trans (Nat.mul_one _).symm) (I64_one _) (by omega) (by show _ * 8 ≤ _; omega) rfl (fun A33 cc33 => ?_)
   refine Lpu rfl rfl ?_; refine L.nil ?_; refine QE.blkN ?_; refine QE.seq (C.region ?_); refine L.step (Ev.add rfl rfl (by omega) (by omega)) rfl ?_; refine Lpu rfl rfl ?_; refine L.nil ?_
   refine QE.round (i := (i, A, c)) ((i + 1, A33, cc33)) (by dsimp only; omega) (by dsimp only; omega) (by exact Le.mk' (rs := [0, 1]) (hs := [0]) ⟨rfl, rfl, rfl, (by dsimp only; rw [hf2]; rfl), trivial⟩ ⟨rfl, rfl, trivial⟩ ⟨(congrArg some (own_eq hf2.symm (by dsimp only; rw [hf1, ← I64_app]))), trivial⟩ (by decide))
  ·
   replace hc28 := of_decide_eq_false hc28
   refine C.exit ?_; refine QE.tX ?_; refine QE.tX ?_; refine QE.blk ?_; refine QE.seq (C.seq (C.region ?_)); refine Lpu rfl rfl ?_; refine Lpu rfl rfl ?_; refine L.nil (QE.seq (C.ret ?_)); refine QE.ret (js := []) (hs := [0]) (vs := [_]) rfl ⟨rfl, trivial⟩ (by decide) ?_
   obtain rfl : i = ls.length := by omega
   rw [List.take_length]
   exact ⟨A, c, rfl, rfl, rfl⟩

theorem sector19_c (fs : Int) (data : List (List UInt8)) (dhs : List Hd) (hdh : dhs.length = data.length) (DA : Option Addr) (dc : Nat) (wv lv ev : Value) (i : Int) (hdl : data.length ≤ 9223372036854775807) (_hdr : ∀ i, (data.getD i []).length ≤ 9223372036854775807) :
   Ctr X 98 [.agg (List.toArray [.int .i64 fs, .slice DA data.length dc, wv, lv, ev]), .int .i64 i] [Rd DA (rowsV dhs (B8 data))] [] (fun v R' H' => v = .bool (secB data fs i) ∧ R' = [] ∧ H' = []) := by
 refine Ctr.of (X := X) (fn := Tryz.f98) Tryz.func98 rfl (by kernel_rfl) rfl ?_
 intro β
 refine C.seq (C.region ?_)
 refine L.boxA rfl rfl (fun A2 => ?_)
 refine Lpu rfl rfl ?_; refine L.nil (QE.seq (C.seq ?_)); refine C.freeze 0 rfl [] (by decide) (by decide) ?_; refine C.regionQ (by kernel_rfl) ?_; refine LQ.step (Ev.pure rfl) rfl ?_; refine LQ.step (Ev.pure rfl) rfl ?_; refine LQ.step (Ev.pure rfl) rfl ?_
 refine LQ.bool 7 rfl (fun hg7 => ?_) (fun hg7 => ?_)
 ·
  replace hg7 := of_decide_eq_true hg7
  refine LQ.yes rfl ?_; refine LQ.step (Ev.pure rfl) rfl ?_; refine LQ.yes rfl ?_; refine LQ.step (Ev.fieldAddr rfl rfl rfl rfl rfl rfl (Src.r 0 rfl) (Nat.zero_lt_succ _) rfl) rfl ?_; refine LQ.yes rfl ?_; refine LQ.step (Ev.load rfl rfl rfl (Src.r 0 rfl) rfl) rfl ?_; refine LQ.yes rfl ?_; refine LQ.step (Ev.pure rfl) rfl ?_; refine LQ.yes rfl ?_; refine LQ.step (Ev.pure rfl) rfl ?_; refine LQ.step (Ev.pure rfl) rfl ?_; refine LQ.step (Ev.pure rfl) rfl ?_
  refine LQ.bool 14 rfl (fun hg14 => ?_) (fun hg14 => ?_)
  ·
   replace hg14 := of_decide_eq_true hg14
   refine LQ.yes rfl ?_; refine LQ.step (Ev.fieldAddr rfl rfl rfl rfl rfl rfl (Src.r 0 rfl) (Nat.zero_lt_succ _) rfl) rfl ?_; refine LQ.yes rfl ?_; refine LQ.step (Ev.load rfl rfl rfl (Src.r 0 rfl) rfl) rfl ?_; refine LQ.yes rfl ?_; refine LQ.step (Ev.pure rfl) rfl ?_; refine LQ.yes rfl ?_; refine LQ.step (Ev.idx1 (k := i.toNat) rfl rfl rfl rfl rfl rfl (by omega) (by omega) (Src.r 1 rfl) (by rw [rowsV_len (by rw [B8_len]; exact hdh), B8_len]; omega)) rfl ?_; refine LQ.yes rfl ?_; refine LQ.step (Ev.load rfl rfl rfl (Src.r 1 rfl) (rows8_get hdh (by omega))) rfl ?_; refine LQ.yes rfl ?_; refine LQ.step (Ev.pure rfl) rfl ?_; refine LQ.yes rfl ?_; refine LQ.step (Ev.fieldAddr rfl rfl rfl rfl rfl rfl (Src.r 0 rfl) (Nat.zero_lt_succ _) rfl) rfl ?_; refine LQ.yes rfl ?_; refine LQ.step (Ev.load rfl rfl rfl (Src.r 0 rfl) rfl) rfl ?_; refine LQ.yes rfl ?_; refine LQ.step (Ev.pure rfl) rfl ?_; refine LQ.step (Ev.pure rfl) rfl ?_; refine LQ.step (Ev.pure rfl) rfl ?_; refine LQ.nil ?_; refine QE.seq (C.ret ?_); refine QE.ret (js := []) (hs := []) (vs := [_]) rfl ⟨rfl, trivial⟩ (by decide) ?_
   exact ⟨congrArg Value.bool (by rw [Bool.eq_iff_iff, secB_iff, beq_iff_eq]; exact ⟨fun h => ⟨by omega, by omega, h⟩, fun h => h.2.2⟩), rfl, rfl⟩
  ·
   replace hg14 := of_decide_eq_false hg14
   refine LQ.no rfl rfl rfl ?_; refine LQ.no rfl rfl rfl ?_; refine LQ.no rfl rfl rfl ?_; refine LQ.no rfl rfl rfl ?_; refine LQ.no rfl rfl rfl ?_; refine LQ.no rfl rfl rfl ?_; refine LQ.no rfl rfl rfl ?_; refine LQ.no rfl rfl rfl ?_; refine LQ.no rfl rfl rfl ?_; refine LQ.step (Ev.pure rfl) rfl ?_; refine LQ.step (Ev.pure rfl) rfl ?_; refine LQ.nil ?_; refine QE.seq (C.ret ?_); refine QE.ret (js := []) (hs := []) (vs := [_]) rfl ⟨rfl, trivial⟩ (by decide) ?_
   exact ⟨congrArg Value.bool ((secB_no2 (by omega)).symm), rfl, rfl⟩
 ·
  replace hg7 := of_decide_eq_false hg7
  refine LQ.no rfl rfl rfl ?_; refine LQ.no rfl rfl rfl ?_; refine LQ.no rfl rfl rfl ?_; refine LQ.no rfl rfl rfl ?_; refine LQ.no rfl rfl rfl ?_; refine LQ.step (Ev.pure rfl) rfl ?_; refine LQ.step (Ev.pure rfl) rfl ?_; refine LQ.no rfl rfl rfl ?_; refine LQ.no rfl rfl rfl ?_; refine LQ.no rfl rfl rfl ?_; refine LQ.no rfl rfl rfl ?_; refine LQ.no rfl rfl rfl ?_; refine LQ.no rfl rfl rfl ?_; refine LQ.no rfl rfl rfl ?_; refine LQ.no rfl rfl rfl ?_; refine LQ.no rfl rfl rfl ?_; refine LQ.step (Ev.pure rfl) rfl ?_; refine LQ.step (Ev.pure rfl) rfl ?_; refine LQ.nil ?_; refine QE.seq (C.ret ?_); refine QE.ret (js := []) (hs := []) (vs := [_]) rfl ⟨rfl, trivial⟩ (by decide) ?_
  exact ⟨congrArg Value.bool ((secB_no1 (by omega)).symm), rfl, rfl⟩

set_option maxHeartbeats 1000000 in
theorem fits_c (fs : Int) (data : List (List UInt8)) (dhs : List Hd) (hdh : dhs.length = data.length) (DA : Option Addr) (dc : Nat) (wv lv ev : Value) (ls : Int) (lst : List Int) (LA : Option Addr) (lc : Nat) (j0 j1 s0 s1 gv uv : Value) (sz : Int) (n : Nat) (lf : Bool) (inn out : Int) (ops : List Po) (seq st : List Int) (OA QA HA : Option Addr) (oc qc hc : Nat) (hn64 : n ≤ 64) (hhl : st.length ≤ 1000000) (hdl : data.length ≤ 9223372036854775807) (hdr : ∀ i, (data.getD i []).length ≤ 9223372036854775807) :
   Ctr X 55 [.agg (List.toArray [.int .i64 fs, .slice DA data.length dc, wv, lv, ev]), .agg (List.toArray [.int .i64 ls, j0, j1, s0, s1, gv, uv, .slice LA lst.length lc]), .agg (List.toArray [.int .i64 sz, .int .i64 (n : Int), .bool lf, .int .i64 inn, .int .i64 out, .slice OA ops.length oc, .slice QA seq.length qc, .slice HA st.length hc])] [Rd DA (rowsV dhs (B8 data)), KidsR dhs (B8 data), Rd LA (I64 lst)] [] (fun v R' H' => v = .bool (fitB data fs ls sz n st lst) ∧ R' = [] ∧ H' = []) := by
 refine Ctr.of (X := X) (fn := Tryz.f55) Tryz.func55 rfl (by kernel_rfl) rfl ?_
 intro β
 refine C.seq (C.region ?_)
 refine L.boxA rfl rfl (fun A3 => ?_)
 refine L.boxA rfl rfl (fun A4 => ?_)
 refine L.boxA rfl rfl (fun A5 => ?_)
 refine Lpu rfl rfl ?_; refine L.nil (QE.seq (C.seq (C.seq ?_))); refine C.freeze 0 rfl [1, 2] (by decide) (by decide) ?_; refine C.freeze 0 rfl [1] (by decide) (by decide) ?_; refine C.freeze 0 rfl [] (by decide) (by decide) ?_; refine C.region ?_; refine L.step (Ev.fieldAddr rfl rfl rfl rfl rfl rfl (Src.r 2 rfl) (Nat.zero_lt_succ _) rfl) rfl ?_; refine L.step (Ev.load rfl rfl rfl (Src.r 2 rfl) rfl) rfl ?_; refine L.step (Ev.fieldAddr rfl rfl rfl rfl rfl rfl (Src.r 0 rfl) (Nat.zero_lt_succ _) rfl) rfl ?_; refine L.step (Ev.load rfl rfl rfl (Src.r 0 rfl) rfl) rfl ?_; refine Lpu rfl rfl ?_; refine Lpu rfl rfl ?_
 refine L.bool 14 rfl (fun hg14 => ?_) (fun hg14 => ?_)
 ·
  replace hg14 := b_ne hg14
  refine L.no rfl rfl rfl ?_; refine L.no rfl rfl rfl ?_; refine L.no rfl rfl rfl ?_; refine L.no rfl rfl rfl ?_; refine L.no rfl rfl rfl ?_; refine Lpu rfl rfl ?_; refine Lpu rfl rfl ?_; refine L.no rfl rfl rfl ?_; refine L.no rfl rfl rfl ?_; refine L.no rfl rfl rfl ?_; refine L.no rfl rfl rfl ?_; refine L.no rfl rfl rfl ?_; refine L.no rfl rfl rfl ?_; refine L.no rfl rfl rfl ?_; refine Lpu rfl rfl ?_; refine L.nil (QE.seq ?_)
  refine C.cond rfl (fun _ => ?_) (fun h => by cases h)
  refine C.seq (C.region ?_); refine Lpu rfl rfl ?_; refine L.nil (QE.seq (C.ret (QE.tR ?_))); refine QE.ret (js := []) (hs := []) (vs := [_]) rfl ⟨rfl, trivial⟩ (by decide) ?_
  exact ⟨congrArg Value.bool ((fit_no (fun h => hg14 h.1)).symm), rfl, rfl⟩
 ·
  replace hg14 := b_eq hg14
  refine L.yes rfl ?_; refine L.step (Ev.fieldAddr rfl rfl rfl rfl rfl rfl (Src.r 1 rfl) (Nat.zero_lt_succ _) rfl) rfl ?_; refine L.yes rfl ?_; refine L.step (Ev.load rfl rfl rfl (Src.r 1 rfl) rfl) rfl ?_; refine L.yes rfl ?_; refine L.step (Ev.fieldAddr rfl rfl rfl rfl rfl rfl (Src.r 0 rfl) (Nat.zero_lt_succ _) rfl) rfl ?_; refine L.yes rfl ?_; refine L.step (Ev.load rfl rfl rfl (Src.r 0 rfl) rfl) rfl ?_; refine L.yes rfl ?_; refine Lpu rfl rfl ?_; refine Lpu rfl rfl ?_; refine Lpu rfl rfl ?_
  refine L.bool 21 rfl (fun hg21 => ?_) (fun hg21 => ?_)
  ·
   replace hg21 := b_ne hg21
   refine L.no rfl rfl rfl ?_; refine L.no rfl rfl rfl ?_; refine L.no rfl rfl rfl ?_; refine L.no rfl rfl rfl ?_; refine L.no rfl rfl rfl ?_; refine L.no rfl rfl rfl ?_; refine L.no rfl rfl rfl ?_; refine Lpu rfl rfl ?_; refine L.nil (QE.seq ?_)
   refine C.cond rfl (fun _ => ?_) (fun h => by cases h)
   refine C.seq (C.region ?_); refine Lpu rfl rfl ?_; refine L.nil (QE.seq (C.ret (QE.tR ?_))); refine QE.ret (js := []) (hs := []) (vs := [_]) rfl ⟨rfl, trivial⟩ (by decide) ?_
   exact ⟨congrArg Value.bool ((fit_no (fun h => hg21 h.2.1)).symm), rfl, rfl⟩
  ·
   replace hg21 := b_eq hg21
   refine L.yes rfl ?_; refine L.step (Ev.fieldAddr rfl rfl rfl rfl rfl rfl (Src.r 1 rfl) (Nat.zero_lt_succ _) rfl) rfl ?_; refine L.yes rfl ?_; refine L.step (Ev.load rfl rfl rfl (Src.r 1 rfl) rfl) rfl ?_; refine L.yes rfl ?_; refine Lpu rfl rfl ?_; refine L.yes rfl ?_; refine L.step (Ev.fieldAddr rfl rfl rfl rfl rfl rfl (Src.r 0 rfl) (Nat.zero_lt_succ _) rfl) rfl ?_; refine L.yes rfl ?_; refine L.step (Ev.load rfl rfl rfl (Src.r 0 rfl) rfl) rfl ?_; refine L.yes rfl ?_; refine Lpu rfl rfl ?_; refine L.yes rfl ?_; refine Lpu rfl rfl ?_; refine Lpu rfl rfl ?_; refine L.nil (QE.seq ?_)
   refine C.condB 29 rfl (fun hc29 => ?_) (fun hc29 => ?_)
   ·
    replace hc29 := of_decide_eq_true hc29
    refine C.seq (C.region ?_); refine Lpu rfl rfl ?_; refine L.nil (QE.seq (C.ret (QE.tR ?_))); refine QE.ret (js := []) (hs := []) (vs := [_]) rfl ⟨rfl, trivial⟩ (by decide) ?_
    exact ⟨congrArg Value.bool ((fit_no (fun h => by omega)).symm), rfl, rfl⟩
   ·
    replace hc29 := of_decide_eq_false hc29
    refine C.skip (QE.seq (C.seq (C.seq (C.region ?_)))); refine Lpu rfl rfl ?_; refine L.nil (QE.seq (C.block ?_)); refine C.loop (fun i : Nat => [(3, ptrOf A3 0), (4, ptrOf A4 0), (5, ptrOf A5 0), (7, .int .i64 (i : Int))]) (fun i : Nat => [Rd A3 [.int .i64 fs, .slice DA data.length dc, wv, lv, ev], Rd A4 [.int .i64 ls, j0, j1, s0, s1, gv, uv, .slice LA lst.length lc], Rd A5 [.int .i64 sz, .int .i64 (n : Int), .bool lf, .int .i64 inn, .int .i64 out, .slice OA ops.length oc, .slice QA seq.length qc, .slice HA st.length hc], Rd DA (rowsV dhs (B8 data)), KidsR dhs (B8 data), Rd LA (I64 lst)]) (fun i : Nat => []) (fun i : Nat => i ≤ n ∧ ∀ k : Nat, k < i → secB data fs (k : Int) = true) (fun i : Nat => n - i) 0 ⟨Nat.zero_le _, all_zero⟩ (by exact Le.mk' (rs := [2, 1, 0, 3, 4, 5]) (hs := []) ⟨rfl, rfl, rfl, rfl, trivial⟩ ⟨rfl, rfl, rfl, rfl, rfl, rfl, trivial⟩ trivial (by decide)) ?_
    rintro i ⟨hi, hall⟩
    refine C.seq (C.seq (C.region ?_)); refine Lpu rfl rfl ?_; refine L.step (Ev.fieldAddr rfl rfl rfl rfl rfl rfl (Src.r 2 rfl) (Nat.zero_lt_succ _) rfl) rfl ?_; refine L.step (Ev.load rfl rfl rfl (Src.r 2 rfl) rfl) rfl ?_; refine Lpu rfl rfl ?_; refine L.nil (QE.seq ?_)
    refine C.condB 33 rfl (fun hc33 => ?_) (fun hc33 => ?_)
    ·
     replace hc33 := of_decide_eq_true hc33
     refine C.skip (QE.seq (C.seq (C.block (C.seq (C.region ?_))))); refine L.step (Ev.loadA (vs := [.int .i64 fs, .slice DA data.length dc, wv, lv, ev]) rfl rfl rfl (Src.r 0 rfl) rfl rfl (by decide)) rfl ?_; refine Lpu rfl rfl ?_; refine L.call (js := []) (js' := []) (sector19_c fs data dhs hdh DA dc wv lv ev (i : Int) hdl hdr) rfl rfl rfl (by decide) (Hq [3] rfl) rfl ?_
     rintro _ _ _ ⟨rfl, rfl, rfl⟩
     refine Lpu rfl rfl ?_; refine L.nil (QE.seq ?_)
     refine C.condB 39 rfl (fun hc39 => ?_) (fun hc39 => ?_)
     ·
      have hx : secB data fs (i : Int) = false := by simpa using hc39
      refine C.seq (C.region ?_); refine Lpu rfl rfl ?_; refine L.nil (QE.seq (C.ret (QE.bR (QE.tR (QE.tR (QE.bR (QE.tR ?_))))))); refine QE.ret (js := []) (hs := []) (vs := [_]) rfl ⟨rfl, trivial⟩ (by decide) ?_
      exact ⟨congrArg Value.bool ((fit_no (fun h => by rw [h.2.2.2.1 i (by omega)] at hx; cases hx)).symm), rfl, rfl⟩
     ·
      have hx : secB data fs (i : Int) = true := by simpa using hc39
      refine C.skip ?_; refine QE.blkN ?_; refine QE.seq (C.region ?_); refine Lpu rfl rfl ?_; refine L.step (Ev.add rfl rfl (by omega) (by omega)) rfl ?_; refine Lpu rfl rfl ?_; refine L.nil ?_
      refine QE.round (i + 1) (by exact ⟨by omega, all_step (p := fun k => secB data fs ((k : Nat) : Int) = true) hall hx⟩) (by omega) (by exact Le.mk' (rs := [0, 1, 2, 3, 4, 5]) (hs := []) ⟨rfl, rfl, rfl, rfl, trivial⟩ ⟨rfl, rfl, rfl, rfl, rfl, rfl, trivial⟩ trivial (by decide))
    ·
     replace hc33 := of_decide_eq_false hc33
     refine C.exit ?_; refine QE.tX ?_; refine QE.tX ?_; refine QE.blk ?_; refine QE.seq (C.seq (C.seq (C.region ?_))); refine Lpu rfl rfl ?_; refine L.nil (QE.seq (C.block ?_))
     obtain ⟨n0, hn0⟩ : ∃ x, x = i := ⟨_, rfl⟩
     have hall0 : ∀ k : Nat, k < n → secB data fs (k : Int) = true := fun k hk => hall k (by omega)
     refine C.loop (fun i : Nat => [(3, ptrOf A3 0), (4, ptrOf A4 0), (5, ptrOf A5 0), (8, .int .i64 (i : Int))]) (fun i : Nat => [Rd A3 [.int .i64 fs, .slice DA data.length dc, wv, lv, ev], Rd A4 [.int .i64 ls, j0, j1, s0, s1, gv, uv, .slice LA lst.length lc], Rd A5 [.int .i64 sz, .int .i64 (n : Int), .bool lf, .int .i64 inn, .int .i64 out, .slice OA ops.length oc, .slice QA seq.length qc, .slice HA st.length hc], Rd DA (rowsV dhs (B8 data)), KidsR dhs (B8 data), Rd LA (I64 lst)]) (fun i : Nat => []) (fun i : Nat => i ≤ st.length ∧ ∀ k : Nat, k < i → secB data fs (lst.getD k 0) = true) (fun i : Nat => st.length - i) 0 ⟨Nat.zero_le _, all_zero⟩ (by exact Le.mk' (rs := [0, 1, 2, 3, 4, 5]) (hs := []) ⟨rfl, rfl, rfl, rfl, trivial⟩ ⟨rfl, rfl, rfl, rfl, rfl, rfl, trivial⟩ trivial (by decide)) ?_
     rintro i ⟨hi, hall⟩
     refine C.seq (C.seq (C.region ?_)); refine Lpu rfl rfl ?_; refine L.step (Ev.fieldAddr rfl rfl rfl rfl rfl rfl (Src.r 2 rfl) (Nat.zero_lt_succ _) rfl) rfl ?_; refine L.step (Ev.load rfl rfl rfl (Src.r 2 rfl) rfl) rfl ?_; refine Lpu rfl rfl ?_; refine Lpu rfl rfl ?_; refine L.nil (QE.seq ?_)
     refine C.condB 44 rfl (fun hc44 => ?_) (fun hc44 => ?_)
     ·
      replace hc44 := of_decide_eq_true hc44
      refine C.skip (QE.seq (C.seq (C.block (C.seq ?_)))); refine C.regionQ (by kernel_rfl) ?_; refine LQ.step (Ev.loadA (vs := [.int .i64 fs, .slice DA data.length dc, wv, lv, ev]) rfl rfl rfl (Src.r 0 rfl) rfl rfl (by decide)) rfl ?_; refine LQ.step (Ev.fieldAddr rfl rfl rfl rfl rfl rfl (Src.r 1 rfl) (Nat.zero_lt_succ _) rfl) rfl ?_; refine LQ.step (Ev.load rfl rfl rfl (Src.r 1 rfl) rfl) rfl ?_; refine LQ.step (Ev.pure rfl) rfl ?_; refine LQ.step (Ev.idx1 (k := i) rfl rfl rfl rfl rfl rfl rfl (by omega) (Src.r 5 rfl) (by rw [I64_len]; omega)) rfl ?_; refine LQ.step (Ev.load rfl rfl rfl (Src.r 5 rfl) (I64_get (by omega))) rfl ?_; refine LQ.call (.bool (secB data fs (lst.getD i 0))) (sector19_c fs data dhs hdh DA dc wv lv ev (lst.getD i 0) hdl hdr) (fun _ _ _ h => h.1) rfl (Hq [3] rfl) rfl ?_; refine LQ.step (Ev.pure rfl) rfl ?_; refine LQ.nil ?_; refine QE.seq ?_
      refine C.condB 54 rfl (fun hc54 => ?_) (fun hc54 => ?_)
      ·
       have hx : secB data fs (lst.getD i 0) = false := (Bool.not_eq_true' _).mp hc54
       refine C.seq (C.region ?_); refine Lpu rfl rfl ?_; refine L.nil (QE.seq (C.ret (QE.bR (QE.tR (QE.tR (QE.bR (QE.tR ?_))))))); refine QE.ret (js := []) (hs := []) (vs := [_]) rfl ⟨rfl, trivial⟩ (by decide) ?_
       exact ⟨congrArg Value.bool ((fit_no (fun h => by rw [h.2.2.2.2 i (by omega)] at hx; cases hx)).symm), rfl, rfl⟩
      ·
       have hx : secB data fs (lst.getD i 0) = true := (Bool.not_eq_false' _).mp hc54
       refine C.skip ?_; refine QE.blkN ?_; refine QE.seq (C.region ?_); refine Lpu rfl rfl ?_; refine L.step (Ev.add rfl rfl (by omega) (by omega)) rfl ?_; refine Lpu rfl rfl ?_; refine L.nil ?_
       refine QE.round (i + 1) (by exact ⟨by omega, all_step (p := fun k => secB data fs (lst.getD k 0) = true) hall hx⟩) (by omega) (by exact Le.mk' (rs := [0, 1, 2, 3, 4, 5]) (hs := []) ⟨rfl, rfl, rfl, rfl, trivial⟩ ⟨rfl, rfl, rfl, rfl, rfl, rfl, trivial⟩ trivial (by decide))
     ·
      replace hc44 := of_decide_eq_false hc44
      refine C.exit ?_; refine QE.tX ?_; refine QE.tX ?_; refine QE.blk ?_; refine QE.seq (C.seq (C.region ?_)); refine Lpu rfl rfl ?_; refine L.nil (QE.seq (C.ret ?_)); refine QE.ret (js := []) (hs := []) (vs := [_]) rfl ⟨rfl, trivial⟩ (by decide) ?_
      exact ⟨congrArg Value.bool ((fit_iff.2 ⟨by omega, by omega, by omega, hall0, fun k hk => hall k (by omega)⟩).symm), rfl, rfl⟩

set_option maxHeartbeats 1000000 in
theorem input19_c (data : List (List UInt8)) (dhs : List Hd) (hdh : dhs.length = data.length) (DA : Option Addr) (dc : Nat) (wv lv ev : Value) (ls : Int) (lst : List Int) (LA : Option Addr) (lc : Nat) (j0 j1 s0 s1 gv uv : Value) (S n m : Nat) (lf : Bool) (out : Int) (ops : List Po) (seq st : List Int) (OA QA HA : Option Addr) (oc qc hc : Nat) (hS1 : 1 ≤ S) (hm : m ≤ n * S) (hm2 : m ≤ 1000000) (hhl : st.length ≤ 1000000) (hll : lst.length ≤ 9223372036854775807) (hsl : st.length ≤ lst.length) (hs1 : ∀ t, t < n → secB data (S : Int) (t : Int) = true) (hs2 : ∀ i, i < st.length → secB data (S : Int) (lst.getD i 0) = true) :
   Ctr X 56 [.agg (List.toArray [.int .i64 (S : Int), .slice DA data.length dc, wv, lv, ev]), .agg (List.toArray [.int .i64 ls, j0, j1, s0, s1, gv, uv, .slice LA lst.length lc]), .agg (List.toArray [.int .i64 (S : Int), .int .i64 (n : Int), .bool lf, .int .i64 (m : Int), .int .i64 out, .slice OA ops.length oc, .slice QA seq.length qc, .slice HA st.length hc])] [Rd DA (rowsV dhs (B8 data)), KidsR dhs (B8 data), Rd LA (I64 lst), Rd HA (I64 st)] [] (fun v R' H' => ∃ (A : Option Addr) (c : Nat), v = .slice A (inL data st lst S m).length c ∧ R' = [] ∧ H' = [Own 5 1 A (inL data st lst S m).length c (U8 (inL data st lst S m))]) := by
 refine Ctr.of (X := X) (fn := Tryz.f56) Tryz.func56 rfl (by kernel_rfl) rfl ?_
 intro β
 refine C.seq (C.region ?_)
 refine L.boxA rfl rfl (fun A3 => ?_)
 refine L.boxA rfl rfl (fun A4 => ?_)
 refine L.boxA rfl rfl (fun A5 => ?_)
 refine Lpu rfl rfl ?_; refine L.nil (QE.seq (C.seq ?_)); refine C.freeze 0 rfl [1, 2] (by decide) (by decide) ?_; refine C.norm (H' := [_, _]) [0, 1] ⟨rfl, rfl, trivial⟩ (by decide) ?_; refine C.freeze 0 rfl [1] (by decide) (by decide) ?_; refine C.norm (H' := [_]) [0] ⟨rfl, trivial⟩ (by decide) ?_; refine C.freeze 0 rfl [] (by decide) (by decide) ?_; refine C.region ?_
 refine L.lit0S rfl rfl rfl rfl (fun A11 => ?_)
 refine Lpu rfl rfl ?_; refine L.nil (QE.seq (C.seq (C.seq (C.region ?_)))); refine Lpu rfl rfl ?_; refine L.nil (QE.seq (C.block ?_)); refine C.loop (fun q : Nat × Option Addr × Nat => [(3, ptrOf A3 0), (4, ptrOf A4 0), (5, ptrOf A5 0), (8, .int .i64 (q.1 : Int)), (7, .slice q.2.1 (inL data st lst S q.1).length q.2.2)]) (fun q : Nat × Option Addr × Nat => [Rd A3 [.int .i64 (S : Int), .slice DA data.length dc, wv, lv, ev], Rd A4 [.int .i64 ls, j0, j1, s0, s1, gv, uv, .slice LA lst.length lc], Rd A5 [.int .i64 (S : Int), .int .i64 (n : Int), .bool lf, .int .i64 (m : Int), .int .i64 out, .slice OA ops.length oc, .slice QA seq.length qc, .slice HA st.length hc], Rd DA (rowsV dhs (B8 data)), KidsR dhs (B8 data), Rd LA (I64 lst), Rd HA (I64 st)]) (fun q : Nat × Option Addr × Nat => [Own 5 1 q.2.1 (inL data st lst S q.1).length q.2.2 (U8 (inL data st lst S q.1))]) (fun q : Nat × Option Addr × Nat => q.1 ≤ m) (fun q : Nat × Option Addr × Nat => m - q.1) (0, A11, 0) (Nat.zero_le _) (by exact Le.mk' (rs := [2, 1, 0, 3, 4, 5, 6]) (hs := [0]) ⟨rfl, rfl, rfl, rfl, rfl, trivial⟩ ⟨rfl, rfl, rfl, rfl, rfl, rfl, rfl, trivial⟩ ⟨rfl, trivial⟩ (by decide)) ?_
 rintro ⟨i, A, c⟩ hi
 dsimp only at hi ⊢
 refine C.seq (C.seq (C.region ?_)); refine Lpu rfl rfl ?_; refine L.step (Ev.fieldAddr rfl rfl rfl rfl rfl rfl (Src.r 2 rfl) (Nat.zero_lt_succ _) rfl) rfl ?_; refine L.step (Ev.fieldAddr rfl rfl rfl rfl rfl rfl (Src.r 2 rfl) (Nat.zero_lt_succ _) rfl) rfl ?_; refine L.step (Ev.load rfl rfl rfl (Src.r 2 rfl) rfl) rfl ?_; refine Lpu rfl rfl ?_; refine L.nil (QE.seq ?_)
 refine C.condB 16 rfl (fun hc16 => ?_) (fun hc16 => ?_)
 ·
  replace hc16 := of_decide_eq_true hc16
  refine C.skip (QE.seq (C.seq (C.block (C.seq (C.region ?_))))); refine Lpu rfl rfl ?_; refine L.step (Ev.fieldAddr rfl rfl rfl rfl rfl rfl (Src.r 2 rfl) (Nat.zero_lt_succ _) rfl) rfl ?_; refine L.step (Ev.load rfl rfl rfl (Src.r 2 rfl) rfl) rfl ?_; refine L.step (Ev.cast (u := .int .i64 (((i / S) : Nat) : Int)) (Ev.quo rfl rfl (by omega) (by omega) (by omega)) (congrArg (Value.int .i64) (Int.natCast_ediv i S).symm)) rfl ?_; refine Lpu rfl rfl ?_; refine L.nil (QE.seq (C.seq (C.region ?_))); refine L.step (Ev.fieldAddr rfl rfl rfl rfl rfl rfl (Src.r 2 rfl) (Nat.zero_lt_succ _) rfl) rfl ?_; refine L.step (Ev.load rfl rfl rfl (Src.r 2 rfl) rfl) rfl ?_; refine Lpu rfl rfl ?_; refine L.call (js := []) (js' := [0]) (index19_c HA st hc ((i / S : Nat) : Int) (by omega)) rfl rfl rfl (by decide) (Hq [6] rfl) rfl ?_
  rintro _ _ _ ⟨rfl, rfl, rfl⟩
  refine L.norm (H' := [_]) [0] ⟨rfl, trivial⟩ (by decide) ?_; refine Lpu rfl rfl ?_; refine L.nil (QE.seq ?_); refine C.seqJ (fun z : Int => [(3, ptrOf A3 0), (4, ptrOf A4 0), (5, ptrOf A5 0), (8, .int .i64 (i : Int)), (7, .slice A (inL data st lst S i).length c), (9, .int .i64 z)]) (fun z : Int => [Rd A3 [.int .i64 (S : Int), .slice DA data.length dc, wv, lv, ev], Rd A4 [.int .i64 ls, j0, j1, s0, s1, gv, uv, .slice LA lst.length lc], Rd A5 [.int .i64 (S : Int), .int .i64 (n : Int), .bool lf, .int .i64 (m : Int), .int .i64 out, .slice OA ops.length oc, .slice QA seq.length qc, .slice HA st.length hc], Rd DA (rowsV dhs (B8 data)), KidsR dhs (B8 data), Rd LA (I64 lst), Rd HA (I64 st)]) (fun z : Int => [Own 5 1 A (inL data st lst S i).length c (U8 (inL data st lst S i))]) (fun z : Int => z = (secT st lst st.length (i / S))) ?_ ?_
  ·
   refine C.seq (C.region ?_); refine Lpu rfl rfl ?_; refine Lpu rfl rfl ?_; refine L.nil (QE.seq ?_)
   refine C.condB 28 rfl (fun hc28 => ?_) (fun hc28 => ?_)
   ·
    replace hc28 := of_decide_eq_true hc28
    have hmem := idxJ_lt2 (st := st) (t := ((i / S : Nat) : Int)) hc28
    refine C.region ?_; refine L.step (Ev.fieldAddr rfl rfl rfl rfl rfl rfl (Src.r 1 rfl) (Nat.zero_lt_succ _) rfl) rfl ?_; refine L.step (Ev.load rfl rfl rfl (Src.r 1 rfl) rfl) rfl ?_; refine Lpu rfl rfl ?_; refine L.step (Ev.idx1 (k := (idxJ st ((i / S : Nat) : Int)).toNat) rfl rfl rfl rfl rfl rfl (by omega) (by omega) (Src.r 5 rfl) (by rw [I64_len]; omega)) rfl ?_; refine L.step (Ev.load rfl rfl rfl (Src.r 5 rfl) (I64_get (by omega))) rfl ?_; refine Lpu rfl rfl ?_; refine L.nil ?_
    refine QE.join ((lst.getD (idxJ st ((i / S : Nat) : Int)).toNat 0)) (by rw [secT_idx, if_pos (by omega)]) (by exact Le.mk' (rs := [0, 1, 2, 3, 4, 5, 6]) (hs := [0]) ⟨rfl, rfl, rfl, rfl, rfl, rfl, trivial⟩ ⟨rfl, rfl, rfl, rfl, rfl, rfl, rfl, trivial⟩ ⟨rfl, trivial⟩ (by decide))
   ·
    replace hc28 := of_decide_eq_false hc28
    refine C.skip ?_
    refine QE.join (((i / S : Nat) : Int)) (by rw [secT_idx, if_neg (by omega)]) (by exact Le.mk' (rs := [0, 1, 2, 3, 4, 5, 6]) (hs := [0]) ⟨rfl, rfl, rfl, rfl, rfl, rfl, trivial⟩ ⟨rfl, rfl, rfl, rfl, rfl, rfl, rfl, trivial⟩ ⟨rfl, trivial⟩ (by decide))
  ·
   intro z hz
   have hmod := Nat.mod_lt i (show 0 < S by omega)
   have hil := inL_len data st lst S i
   have hzs := secB_iff.1 (sec_ok hsl hs1 hs2 (t := i / S) (by rw [Nat.div_lt_iff_lt_mul (by omega)]; omega))
   rw [← hz] at hzs
   refine C.regionM [Rd A3 [.int .i64 (S : Int), .slice DA data.length dc, wv, lv, ev], Rd A4 [.int .i64 ls, j0, j1, s0, s1, gv, uv, .slice LA lst.length lc], Rd A5 [.int .i64 (S : Int), .int .i64 (n : Int), .bool lf, .int .i64 (m : Int), .int .i64 out, .slice OA ops.length oc, .slice QA seq.length qc, .slice HA st.length hc], Rd DA (rowsV dhs (B8 data)), KidsR dhs (B8 data), Rd LA (I64 lst), Rd HA (I64 st)] (Hq [0, 1, 2, 3, 4, 5, 6] rfl) ?_; refine LM.q 0 rfl (by kernel_rfl) (Ev.pure rfl) rfl (Hq [0, 1, 2, 3, 4, 5, 6] rfl) ?_; refine LM.q 1 rfl (by kernel_rfl) (Ev.fieldAddr rfl rfl rfl rfl rfl rfl (Src.r 0 rfl) (Nat.zero_lt_succ _) rfl) rfl (Hq [0, 1, 2, 3, 4, 5, 6] rfl) ?_; refine LM.q 2 rfl (by kernel_rfl) (Ev.load rfl rfl rfl (Src.r 0 rfl) rfl) rfl (Hq [0, 1, 2, 3, 4, 5, 6] rfl) ?_; refine LM.q 3 rfl (by kernel_rfl) (Ev.pure rfl) rfl (Hq [0, 1, 2, 3, 4, 5, 6] rfl) ?_; refine LM.q 4 rfl (by kernel_rfl) (Ev.idx1 (k := z.toNat) rfl rfl rfl rfl rfl rfl (by omega) (by omega) (Src.r 3 rfl) (by rw [rowsV_len (by rw [B8_len]; exact hdh), B8_len]; omega)) rfl (Hq [0, 1, 2, 3, 4, 5, 6] rfl) ?_; refine LM.q 5 rfl (by kernel_rfl) (Ev.load rfl rfl rfl (Src.r 3 rfl) (rows8_get hdh (by omega))) rfl (Hq [0, 1, 2, 3, 4, 5, 6] rfl) ?_; refine LM.q 6 rfl (by kernel_rfl) (Ev.pure rfl) rfl (Hq [0, 1, 2, 3, 4, 5, 6] rfl) ?_; refine LM.f 7 rfl (by kernel_rfl) (Hq [0, 1, 2, 3, 4, 5, 6] rfl) ?_; refine L.step (Ev.fieldAddr rfl rfl rfl rfl rfl rfl (Src.r 2 rfl) (Nat.zero_lt_succ _) rfl) rfl ?_
   refine L.nil (QE.m (by kernel_rfl) ?_)
   refine LM.f 8 rfl (by kernel_rfl) (Hq [0, 1, 2, 3, 4, 5, 6] rfl) ?_; refine L.step (Ev.load rfl rfl rfl (Src.r 2 rfl) rfl) rfl ?_
   refine L.nil (QE.m (by kernel_rfl) ?_)
   refine LM.f 9 rfl (by kernel_rfl) (Hq [0, 1, 2, 3, 4, 5, 6] rfl) ?_; refine L.step (Ev.cast (u := .int .i64 (((i % S) : Nat) : Int)) (Ev.rem rfl rfl (by omega) (by omega)) (congrArg (Value.int .i64) (Int.natCast_emod i S).symm)) rfl ?_
   refine L.nil (QE.m (by kernel_rfl) ?_)
   refine LM.f 10 rfl (by kernel_rfl) (Hq [0, 1, 2, 3, 4, 5, 6] rfl) ?_; refine L.step (Ev.idx1 (k := i % S) rfl rfl rfl rfl rfl rfl rfl (by omega) (Src.cast (Src.kid 4 rfl (by rw [B8_len]; exact hdh) z.toNat (by rw [B8_len]; omega)) (B8_get _)) (by rw [U8_len]; omega)) rfl ?_
   refine L.nil (QE.m (by kernel_rfl) ?_)
   refine LM.f 11 rfl (by kernel_rfl) (Hq [0, 1, 2, 3, 4, 5, 6] rfl) ?_; refine L.step (Ev.load rfl rfl rfl (Src.cast (Src.kid 4 rfl (by rw [B8_len]; exact hdh) z.toNat (by rw [B8_len]; omega)) (B8_get _)) (U8_get (by omega))) rfl ?_
   refine L.nil (QE.m (by kernel_rfl) ?_)
   refine LM.f 12 rfl (by kernel_rfl) (Hq [0, 1, 2, 3, 4, 5, 6] rfl) ?_
   refine L.lit rfl rfl rfl rfl rfl (by rfl) (by rfl) (by rfl) rfl rfl (fun A46 => ?_)
   refine L.nil (QE.m (by kernel_rfl) ?_)
   refine LM.cut [] (by kernel_rfl) (Hq [0, 1, 2, 3, 4, 5, 6] rfl) ?_; refine LM.f 13 rfl (by kernel_rfl) trivial ?_
   refine L.append (j := 0) rfl rfl rfl rfl (by decide) rfl rfl rfl rfl (Src.o 1 rfl) rfl (allOne rfl) (by rw [inL_len]; omega) (by show _ * 1 ≤ _; omega) rfl (fun A47 cc47 => ?_)
   refine L.nil (QE.m (by kernel_rfl) ?_)
   refine LM.f 14 rfl (by kernel_rfl) trivial ?_; refine Lpu rfl rfl ?_
   refine L.nil (QE.m (by kernel_rfl) ?_)
   refine LM.nil (by kernel_rfl) trivial ?_; refine QE.blkN ?_; refine QE.seq (C.region ?_); refine Lpu rfl rfl ?_; refine L.step (Ev.add rfl rfl (by omega) (by omega)) rfl ?_; refine Lpu rfl rfl ?_; refine L.nil ?_
   have he := inL_succ data st lst S i
   have hbb : inB data st lst S i = (data.getD z.toNat []).getD (i % S) 0 := by rw [hz]; rfl
   rw [hbb] at he
   have hel : (inL data st lst S (i + 1)).length = (inL data st lst S i).length + 1 := by rw [he, List.length_append]; rfl
   refine QE.round (i := (i, A, c)) ((i + 1, A47, cc47)) (by dsimp only; omega) (by dsimp only; omega) (by exact Le.mk' (rs := [0, 1, 2, 3, 4, 5, 6]) (hs := [0]) ⟨rfl, rfl, rfl, rfl, (by dsimp only; rw [hel]; rfl), trivial⟩ ⟨rfl, rfl, rfl, rfl, rfl, rfl, rfl, trivial⟩ ⟨(congrArg some (own_eq hel.symm (by dsimp only; rw [he, ← U8_app]; rfl))), trivial⟩ (by decide))
 ·
  replace hc16 := of_decide_eq_false hc16
  refine C.exit ?_; refine QE.tX ?_; refine QE.tX ?_; refine QE.blk ?_; refine QE.seq (C.seq (C.region ?_)); refine Lpu rfl rfl ?_; refine Lpu rfl rfl ?_; refine L.nil (QE.seq (C.ret ?_)); refine QE.ret (js := []) (hs := [0]) (vs := [_]) rfl ⟨rfl, trivial⟩ (by decide) ?_
  obtain rfl : i = m := by omega
  exact ⟨A, c, rfl, rfl, rfl⟩

set_option maxHeartbeats 3000000 in
theorem contentR_c (fs : Int) (data : List (List UInt8)) (dhs : List Hd) (hdh : dhs.length = data.length) (DA : Option Addr) (dc : Nat) (wv lv ev : Value) (ls : Int) (lst : List Int) (LA : Option Addr) (lc : Nat) (j0 j1 s0 s1 gv uv : Value) (sz n : Int) (lf : Bool) (inn out : Int) (ops : List Po) (seq st : List Int) (OA QA HA : Option Addr) (oc qc hc : Nat) (hops : ops.length ≤ 9223372036854775807) (hql : seq.length ≤ 1000000) (hhl : st.length ≤ 1000000) (k : Int) (hll : lst.length ≤ 9223372036854775807) (hdl : data.length ≤ 9223372036854775807) (hdr : ∀ i, (data.getD i []).length ≤ 9223372036854775807) :
   Ctr X 19 [.agg (List.toArray [.int .i64 fs, .slice DA data.length dc, wv, lv, ev]), .agg (List.toArray [.int .i64 ls, j0, j1, s0, s1, gv, uv, .slice LA lst.length lc]), .agg (List.toArray [.int .i64 sz, .int .i64 n, .bool lf, .int .i64 inn, .int .i64 out, .slice OA ops.length oc, .slice QA seq.length qc, .slice HA st.length hc]), .int .i64 k] [Rd DA (rowsV dhs (B8 data)), KidsR dhs (B8 data), Rd LA (I64 lst), Rd OA (opsV ops), Rd QA (I64 seq), Rd HA (I64 st)] [] (fun v R' H' => ∃ (A : Option Addr) (c : Nat), v = .tuple #[.slice A (cntV lf sz n inn out ops seq st data fs ls lst k).length c, .int .i64 (cntE lf sz n inn out ops seq st data fs ls lst k)] ∧ R' = [] ∧ H' = [Own 5 1 A (cntV lf sz n inn out ops seq st data fs ls lst k).length c (U8 (cntV lf sz n inn out ops seq st data fs ls lst k))]) := by
 refine Ctr.of (X := X) (fn := Tryz.f19) Tryz.func19 rfl (by kernel_rfl) rfl ?_
 intro β
 refine C.seq (C.region ?_)
 refine L.boxA rfl rfl (fun A4 => ?_)
 refine L.boxA rfl rfl (fun A5 => ?_)
 refine L.boxA rfl rfl (fun A6 => ?_)
 refine Lpu rfl rfl ?_; refine Lpu rfl rfl ?_; refine L.nil (QE.seq (C.seq ?_)); refine C.freeze 0 rfl [1, 2] (by decide) (by decide) ?_; refine C.norm (H' := [_, _]) [0, 1] ⟨rfl, rfl, trivial⟩ (by decide) ?_; refine C.freeze 0 rfl [1] (by decide) (by decide) ?_; refine C.norm (H' := [_]) [0] ⟨rfl, trivial⟩ (by decide) ?_; refine C.freeze 0 rfl [] (by decide) (by decide) ?_; refine C.region ?_; refine L.step (Ev.loadA (vs := [.int .i64 sz, .int .i64 n, .bool lf, .int .i64 inn, .int .i64 out, .slice OA ops.length oc, .slice QA seq.length qc, .slice HA st.length hc]) rfl rfl rfl (Src.r 0 rfl) rfl rfl (by decide)) rfl ?_; refine L.call (js := []) (js' := []) (validR_c sz n lf inn out ops seq st OA QA HA oc qc hc hops hql hhl) rfl rfl rfl (by decide) (Hq [6, 7, 8] rfl) rfl ?_
 rintro _ _ _ ⟨rfl, rfl, rfl⟩
 refine Lpu rfl rfl ?_; refine L.nil (QE.seq (C.seq (C.seq (C.region ?_)))); refine Lpu rfl rfl ?_; refine Lpu rfl rfl ?_; refine L.nil (QE.seq ?_)
 refine C.condB 16 rfl (fun hc16 => ?_) (fun hc16 => ?_)
 ·
  have hvl : vldB lf sz n inn out ops seq st = false := by simpa using hc16
  refine C.seq (C.region ?_); refine Lpu rfl rfl ?_; refine Lpu rfl rfl ?_; refine L.nil (QE.seq (C.ret (QE.tR ?_))); refine QE.nil_own 5 1 ?_; refine QE.ret (js := []) (hs := [0]) (vs := [_, _]) rfl ⟨rfl, rfl, trivial⟩ (by decide) ?_
  have hE : cntE lf sz n inn out ops seq st data fs ls lst k = _ := cntE_1 hvl
  have hV := cntV_no (by rw [hE]; decide : cntE lf sz n inn out ops seq st data fs ls lst k ≠ 0)
  rw [hE, hV]
  exact ⟨none, 0, rfl, rfl, rfl⟩
 ·
  refine C.skip (QE.seq (C.seq (C.seq (C.region ?_)))); refine Lpu rfl rfl ?_; refine Lpu rfl rfl ?_; refine Lpu rfl rfl ?_
  refine L.bool 19 rfl (fun hg19 => ?_) (fun hg19 => ?_)
  ·
   replace hg19 := of_decide_eq_true hg19
   refine L.no rfl rfl rfl ?_; refine L.no rfl rfl rfl ?_; refine L.no rfl rfl rfl ?_; refine L.no rfl rfl rfl ?_; refine L.no rfl rfl rfl ?_; refine Lpu rfl rfl ?_; refine L.nil (QE.seq ?_)
   refine C.cond rfl (fun _ => ?_) (fun h => by cases h)
   refine C.seq (C.region ?_); refine Lpu rfl rfl ?_; refine Lpu rfl rfl ?_; refine L.nil (QE.seq (C.ret (QE.tR ?_))); refine QE.nil_own 5 1 ?_; refine QE.ret (js := []) (hs := [0]) (vs := [_, _]) rfl ⟨rfl, rfl, trivial⟩ (by decide) ?_
   have hE : cntE lf sz n inn out ops seq st data fs ls lst k = _ := cntE_2 (by simpa using hc16) (.inl (by omega))
   have hV := cntV_no (by rw [hE]; decide : cntE lf sz n inn out ops seq st data fs ls lst k ≠ 0)
   rw [hE, hV]
   exact ⟨none, 0, rfl, rfl, rfl⟩
  ·
   replace hg19 := of_decide_eq_false hg19
   refine L.yes rfl ?_; refine Lpu rfl rfl ?_; refine L.yes rfl ?_; refine L.step (Ev.fieldAddr rfl rfl rfl rfl rfl rfl (Src.r 0 rfl) (Nat.zero_lt_succ _) rfl) rfl ?_; refine L.yes rfl ?_; refine L.step (Ev.load rfl rfl rfl (Src.r 0 rfl) rfl) rfl ?_; refine L.yes rfl ?_; refine Lpu rfl rfl ?_; refine L.yes rfl ?_; refine Lpu rfl rfl ?_; refine Lpu rfl rfl ?_; refine L.nil (QE.seq ?_)
   refine C.condB 25 rfl (fun hc25 => ?_) (fun hc25 => ?_)
   ·
    replace hc25 := of_decide_eq_true hc25
    refine C.seq (C.region ?_); refine Lpu rfl rfl ?_; refine Lpu rfl rfl ?_; refine L.nil (QE.seq (C.ret (QE.tR ?_))); refine QE.nil_own 5 1 ?_; refine QE.ret (js := []) (hs := [0]) (vs := [_, _]) rfl ⟨rfl, rfl, trivial⟩ (by decide) ?_
    have hE : cntE lf sz n inn out ops seq st data fs ls lst k = _ := cntE_2 (by simpa using hc16) (.inr (by omega))
    have hV := cntV_no (by rw [hE]; decide : cntE lf sz n inn out ops seq st data fs ls lst k ≠ 0)
    rw [hE, hV]
    exact ⟨none, 0, rfl, rfl, rfl⟩
   ·
    replace hc25 := of_decide_eq_false hc25
    have hvl : vldB lf sz n inn out ops seq st = true := by simpa using hc16
    obtain ⟨kk, rfl⟩ : ∃ q : Nat, k = (q : Int) := ⟨k.toNat, by omega⟩
    obtain ⟨hE0, hlf0, hszb0, -, -, -⟩ := val_iff.1 hvl
    have hseq := val_seq hvl
    have hszb := sizB_iff.1 hszb0
    subst hlf0
    obtain ⟨S, rfl⟩ : ∃ q : Nat, sz = (q : Int) := ⟨sz.toNat, by omega⟩
    obtain ⟨n, rfl⟩ : ∃ q : Nat, n = (q : Int) := ⟨n.toNat, by omega⟩
    rw [Int.toNat_natCast, Int.toNat_natCast] at hseq
    obtain ⟨hS1, hS2, hn1, hn2, hi1, hi2⟩ : 1 ≤ S ∧ S ≤ 4096 ∧ 1 ≤ n ∧ n ≤ 64 ∧ inn ≤ (S : Int) * (n : Int) ∧ out ≤ (S : Int) * (n : Int) := ⟨by omega, by omega, by omega, by omega, hszb.2.2.2.2.1, hszb.2.2.2.2.2⟩
    have hcl := chgL_len (symL ops) inn S n
    have hk64 : seq.length ≤ 64 := by omega
    obtain ⟨k1, k2, k3, k4, k5, k6⟩ := chkE_ok hE0
    have hsl : ((symL ops).length : Int) = out := chkG_tot ops out k3 k6
    have hsy : syS inn out ops = symL ops := by unfold syS; rw [if_pos hE0]
    obtain ⟨m, rfl⟩ : ∃ q : Nat, inn = (q : Int) := ⟨inn.toNat, by omega⟩
    obtain ⟨-, -, -, hsrt, hstb, -⟩ := val_iff.1 hvl
    rw [Int.toNat_natCast, Int.toNat_natCast] at hsrt hstb
    obtain ⟨hstn, hstm⟩ := st_fine hstb
    rw [← Int.natCast_mul, Nat.mul_comm] at hi1
    refine C.skip (QE.seq (C.seq (C.seq (C.region ?_)))); refine L.step (Ev.loadA (vs := [.int .i64 fs, .slice DA data.length dc, wv, lv, ev]) rfl rfl rfl (Src.r 2 rfl) rfl rfl (by decide)) rfl ?_; refine L.step (Ev.loadA (vs := [.int .i64 ls, j0, j1, s0, s1, gv, uv, .slice LA lst.length lc]) rfl rfl rfl (Src.r 1 rfl) rfl rfl (by decide)) rfl ?_; refine L.step (Ev.loadA (vs := [.int .i64 (S : Int), .int .i64 (n : Int), .bool false, .int .i64 (m : Int), .int .i64 out, .slice OA ops.length oc, .slice QA seq.length qc, .slice HA st.length hc]) rfl rfl rfl (Src.r 0 rfl) rfl rfl (by decide)) rfl ?_; refine L.call (js := []) (js' := []) (fits_c fs data dhs hdh DA dc wv lv ev ls lst LA lc j0 j1 s0 s1 gv uv (S : Int) n false (m : Int) out ops seq st OA QA HA oc qc hc hn2 hhl hdl hdr) rfl rfl rfl (by decide) (Hq [3, 4, 5] rfl) rfl ?_
    rintro _ _ _ ⟨rfl, rfl, rfl⟩
    refine Lpu rfl rfl ?_; refine L.nil (QE.seq ?_)
    refine C.condB 30 rfl (fun hc30 => ?_) (fun hc30 => ?_)
    ·
     have hfit : fitB data fs ls (S : Int) n st lst = false := by simpa using hc30
     refine C.seq (C.region ?_); refine Lpu rfl rfl ?_; refine Lpu rfl rfl ?_; refine L.nil (QE.seq (C.ret (QE.tR ?_))); refine QE.nil_own 5 1 ?_; refine QE.ret (js := []) (hs := [0]) (vs := [_, _]) rfl ⟨rfl, rfl, trivial⟩ (by decide) ?_
     have hE : cntE false (S : Int) (n : Int) (m : Int) out ops seq st data fs ls lst (kk : Int) = _ := cntE_3 hvl (by omega) (by rw [Int.toNat_natCast]; exact hfit)
     have hV := cntV_no (by rw [hE]; decide : cntE false (S : Int) (n : Int) (m : Int) out ops seq st data fs ls lst (kk : Int) ≠ 0)
     rw [hE, hV]
     exact ⟨none, 0, rfl, rfl, rfl⟩
    ·
     have hfit : fitB data fs ls (S : Int) n st lst = true := by simpa using hc30
     obtain ⟨hfs0, hls0, hfs⟩ := fit_iff.1 hfit
     subst hfs0
     obtain ⟨t, hst, htn, htc⟩ := hseq.2 kk (by omega)
     have htS : t * S ≤ 64 * 4096 := Nat.mul_le_mul (by omega) hS2
     have hnl2 : (runB (inL data st lst S m) (symL ops)).length = (symL ops).length := runB_len _ _
     refine C.skip (QE.seq (C.seq ?_)); refine C.regionM [Rd A6 [.int .i64 (S : Int), .int .i64 (n : Int), .bool false, .int .i64 (m : Int), .int .i64 out, .slice OA ops.length oc, .slice QA seq.length qc, .slice HA st.length hc], Rd A5 [.int .i64 ls, j0, j1, s0, s1, gv, uv, .slice LA lst.length lc], Rd A4 [.int .i64 (S : Int), .slice DA data.length dc, wv, lv, ev], Rd DA (rowsV dhs (B8 data)), KidsR dhs (B8 data), Rd LA (I64 lst), Rd OA (opsV ops), Rd QA (I64 seq), Rd HA (I64 st)] (Hq [0, 1, 2, 3, 4, 5, 6, 7, 8] rfl) ?_; refine LM.q 0 rfl (by kernel_rfl) (Ev.loadA (vs := [.int .i64 (S : Int), .slice DA data.length dc, wv, lv, ev]) rfl rfl rfl (Src.r 2 rfl) rfl rfl (by decide)) rfl (Hq [0, 1, 2, 3, 4, 5, 6, 7, 8] rfl) ?_; refine LM.q 1 rfl (by kernel_rfl) (Ev.loadA (vs := [.int .i64 ls, j0, j1, s0, s1, gv, uv, .slice LA lst.length lc]) rfl rfl rfl (Src.r 1 rfl) rfl rfl (by decide)) rfl (Hq [0, 1, 2, 3, 4, 5, 6, 7, 8] rfl) ?_; refine LM.q 2 rfl (by kernel_rfl) (Ev.loadA (vs := [.int .i64 (S : Int), .int .i64 (n : Int), .bool false, .int .i64 (m : Int), .int .i64 out, .slice OA ops.length oc, .slice QA seq.length qc, .slice HA st.length hc]) rfl rfl rfl (Src.r 0 rfl) rfl rfl (by decide)) rfl (Hq [0, 1, 2, 3, 4, 5, 6, 7, 8] rfl) ?_; refine LM.q 4 rfl (by kernel_rfl) (Ev.fieldAddr rfl rfl rfl rfl rfl rfl (Src.r 0 rfl) (Nat.zero_lt_succ _) rfl) rfl (Hq [0, 1, 2, 3, 4, 5, 6, 7, 8] rfl) ?_; refine LM.q 5 rfl (by kernel_rfl) (Ev.loadA (vs := [.bool false, .int .i64 (m : Int), .int .i64 out, .slice OA ops.length oc]) rfl rfl rfl (Src.r 0 rfl) rfl rfl (by decide)) rfl (Hq [0, 1, 2, 3, 4, 5, 6, 7, 8] rfl) ?_; refine LM.f 3 rfl (by kernel_rfl) (Hq [0, 1, 2, 3, 4, 5, 6, 7, 8] rfl) ?_; refine L.call (js := []) (js' := []) (input19_c data dhs hdh DA dc wv lv ev ls lst LA lc j0 j1 s0 s1 gv uv S n m false out ops seq st OA QA HA oc qc hc hS1 (by omega) (by omega) hhl hll hfs.1 hfs.2.1 hfs.2.2) rfl rfl rfl (by decide) (Hq [3, 4, 5, 8] rfl) rfl ?_
     rintro _ _ _ ⟨IA, ic, rfl, rfl, rfl⟩
     refine L.norm (H' := [_]) [0] ⟨rfl, trivial⟩ (by decide) ?_
     refine L.nil (QE.m (by kernel_rfl) ?_)
     refine LM.f 6 rfl (by kernel_rfl) (Hq [0, 1, 2, 3, 4, 5, 6, 7, 8] rfl) ?_; refine L.call (js := []) (js' := [0]) (applyR_c IA (inL data st lst S m) ic false (m : Int) out ops OA oc hops (by rw [inL_len]; omega) rfl hE0 (by rw [inL_len])) rfl rfl rfl (by decide) ⟨(Has.o 0 rfl), (Has.r 6 rfl), trivial⟩ rfl ?_
     rw [hsy]
     rintro _ _ _ ⟨NA, nc, rfl, rfl, rfl⟩
     refine L.norm (H' := [_, _]) [0, 1] ⟨rfl, rfl, trivial⟩ (by decide) ?_
     refine L.nil (QE.m (by kernel_rfl) ?_)
     refine LM.cut [] (by kernel_rfl) (Hq [0, 1, 2, 3, 4, 5, 6, 7, 8] rfl) ?_; refine LM.q 7 rfl (by kernel_rfl) (Ev.pure rfl) rfl trivial ?_; refine LM.q 8 rfl (by kernel_rfl) (Ev.pure rfl) rfl trivial ?_; refine LM.q 9 rfl (by kernel_rfl) (Ev.pure rfl) rfl trivial ?_; refine LM.f 10 rfl (by kernel_rfl) trivial ?_; refine Lpu rfl rfl ?_
     refine L.nil (QE.m (by kernel_rfl) ?_)
     refine LM.f 11 rfl (by kernel_rfl) trivial ?_; refine Lpu rfl rfl ?_
     refine L.nil (QE.m (by kernel_rfl) ?_)
     refine LM.nil (by kernel_rfl) trivial ?_; refine QE.seq (C.seq ?_); refine C.regionM [Rd A6 [.int .i64 (S : Int), .int .i64 (n : Int), .bool false, .int .i64 (m : Int), .int .i64 out, .slice OA ops.length oc, .slice QA seq.length qc, .slice HA st.length hc], Rd A5 [.int .i64 ls, j0, j1, s0, s1, gv, uv, .slice LA lst.length lc], Rd A4 [.int .i64 (S : Int), .slice DA data.length dc, wv, lv, ev], Rd DA (rowsV dhs (B8 data)), KidsR dhs (B8 data), Rd LA (I64 lst), Rd OA (opsV ops), Rd QA (I64 seq), Rd HA (I64 st)] (Hq [0, 1, 2, 3, 4, 5, 6, 7, 8] rfl) ?_; refine LM.q 0 rfl (by kernel_rfl) (Ev.pure rfl) rfl (Hq [0, 1, 2, 3, 4, 5, 6, 7, 8] rfl) ?_; refine LM.q 1 rfl (by kernel_rfl) (Ev.fieldAddr rfl rfl rfl rfl rfl rfl (Src.r 0 rfl) (Nat.zero_lt_succ _) rfl) rfl (Hq [0, 1, 2, 3, 4, 5, 6, 7, 8] rfl) ?_; refine LM.q 2 rfl (by kernel_rfl) (Ev.load rfl rfl rfl (Src.r 0 rfl) rfl) rfl (Hq [0, 1, 2, 3, 4, 5, 6, 7, 8] rfl) ?_; refine LM.q 3 rfl (by kernel_rfl) (Ev.pure rfl) rfl (Hq [0, 1, 2, 3, 4, 5, 6, 7, 8] rfl) ?_; refine LM.q 4 rfl (by kernel_rfl) (Ev.idx1 (k := kk) rfl rfl rfl rfl rfl rfl rfl (by omega) (Src.r 7 rfl) (by rw [I64_len]; omega)) rfl (Hq [0, 1, 2, 3, 4, 5, 6, 7, 8] rfl) ?_; refine LM.q 5 rfl (by kernel_rfl) (Ev.cast (u := .int .i64 (t : Int)) (Ev.load rfl rfl rfl (Src.r 7 rfl) (I64_get (by omega))) (congrArg (Value.int .i64) hst)) rfl (Hq [0, 1, 2, 3, 4, 5, 6, 7, 8] rfl) ?_; refine LM.f 6 rfl (by kernel_rfl) (Hq [0, 1, 2, 3, 4, 5, 6, 7, 8] rfl) ?_; refine L.step (Ev.fieldAddr rfl rfl rfl rfl rfl rfl (Src.r 0 rfl) (Nat.zero_lt_succ _) rfl) rfl ?_
     refine L.nil (QE.m (by kernel_rfl) ?_)
     refine LM.f 7 rfl (by kernel_rfl) (Hq [0, 1, 2, 3, 4, 5, 6, 7, 8] rfl) ?_; refine L.step (Ev.load rfl rfl rfl (Src.r 0 rfl) rfl) rfl ?_
     refine L.nil (QE.m (by kernel_rfl) ?_)
     refine LM.cut [] (by kernel_rfl) (Hq [0, 1, 2, 3, 4, 5, 6, 7, 8] rfl) ?_; refine LM.f 8 rfl (by kernel_rfl) trivial ?_; refine L.call (js := []) (js' := [0, 1]) (contentsR_c NA (runB (inL data st lst S m) (symL ops)) nc t S (by omega) (by omega) (by omega) hS1 hS2) rfl rfl rfl (by decide) ⟨(Has.o 0 rfl), trivial⟩ rfl ?_
     rintro _ _ _ ⟨YA, yc, rfl, rfl, rfl⟩
     refine L.norm (H' := [_, _, _]) [0, 1, 2] ⟨rfl, rfl, rfl, trivial⟩ (by decide) ?_
     refine L.nil (QE.m (by kernel_rfl) ?_)
     refine LM.f 9 rfl (by kernel_rfl) trivial ?_; refine Lpu rfl rfl ?_
     refine L.nil (QE.m (by kernel_rfl) ?_)
     refine LM.f 10 rfl (by kernel_rfl) trivial ?_; refine Lpu rfl rfl ?_
     refine L.nil (QE.m (by kernel_rfl) ?_)
     refine LM.nil (by kernel_rfl) trivial ?_; refine QE.seq (C.ret ?_); refine QE.ret (js := []) (hs := [0]) (vs := [_, _]) rfl ⟨rfl, rfl, trivial⟩ (by decide) ?_
     have hE : cntE false (S : Int) (n : Int) (m : Int) out ops seq st data (S : Int) ls lst (kk : Int) = 0 := cntE_0 hvl (by omega) (by rw [Int.toNat_natCast]; exact hfit)
     have hV := cntV_ok hE
     have hL : cntL (S : Int) (m : Int) ops seq st data lst (kk : Int) = ctF (runB (inL data st lst S m) (symL ops)) t S := by unfold cntL; rw [Int.toNat_natCast, Int.toNat_natCast, Int.toNat_natCast, hst]; rfl
     have hLl := ctF_len (runB (inL data st lst S m) (symL ops)) t S
     rw [hE, hV, hL, hLl]
     exact ⟨YA, yc, rfl, rfl, rfl⟩

end Go.Proofs.YtpccfdnmnnnboaaGreat
