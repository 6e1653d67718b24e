/-
  Contents that a plan gives, of the program.
-/
import Derived.Test.YtpccfdnmnnnboaaGreatQWPlH
namespace Go.Proofs.YtpccfdnmnnnboaaGreat
open Go.Sl

theorem two_le {a b : List Int} {m : Nat} (ha : a.length ≤ m) (hb : b.length ≤ m) : ∀ i, ([a, b].getD i []).length ≤ m
 | 0 => ha
 | 1 => hb
 | _ + 2 => Nat.zero_le _
theorem two_rows {A B : Option Addr} {a b : List Int} {n m c d : Nat} (ha : a.length = n) (hb : b.length = m) : [Value.slice A n c, .slice B m d] = rowsV [(A, c), (B, d)] (J8 [a, b]) := by
 subst ha hb
 simp [rowsV, J8, I64_len]
theorem must_flat {n m : Nat} {lst : List Int} : [NI (List.range n), lst.take m].flatten = mustL n lst m := by simp [mustL]
theorem st_count {chg : List Nat} {st : List Int} {n : Nat} (hn : st.Nodup) (hm : ∀ i, i < st.length → ∃ t : Nat, st.getD i 0 = (t : Int) ∧ t ∈ chg) (hc : chg.length ≤ n) : st.length ≤ n := by
 refine Nat.le_trans (Nat.le_of_not_lt fun h => ?_) hc
 have hsub : ∀ x ∈ st, x ∈ NI chg := fun x hx => by
   obtain ⟨i, hi, rfl⟩ := List.getElem_of_mem hx
   obtain ⟨t, h1, h2⟩ := hm i hi
   rw [List.getD_eq_getElem?_getD, List.getElem?_eq_getElem hi] at h1
   exact List.mem_map.2 ⟨t, h2, by simpa using h1.symm⟩
 have hp := perm_sub hn hsub (by rw [NI_len]; omega)
 have := hp.length_eq
 rw [NI_len] at this
 omega
theorem must_no {data : List (List UInt8)} {S n i : Nat} {st lst : List Int} (h : (S : Int) = (S : Int) ∧ (n : Int) = (n : Int) ∧ st.length ≤ lst.length ∧ (∀ t, t < n → secB data (S : Int) (t : Int) = true) ∧ ∀ i, i < st.length → secB data (S : Int) (lst.getD i 0) = true) (hx : secB data (S : Int) ((mustL n lst st.length).getD i 0) = false) (hi : i < n + st.length) : False := by
 rcases Nat.lt_or_ge i n with g | g
 · rw [must_lo g, h.2.2.2.1 i g] at hx
   cases hx
 · have := must_hi (n := n) (m := st.length) (i := i - n) (lst := lst) (by omega)
   rw [show n + (i - n) = i by omega] at this
   rw [this, h.2.2.2.2 _ (by omega)] at hx
   cases hx
theorem apply_m (B : Option Addr) (old : List UInt8) (bc ol : Nat) (hol : old.length = ol) (lf : Bool) (inn out : Int) (ops : List Po) (OA : Option Addr) (oc : Nat) (hops : ops.length ≤ 9223372036854775807) (hlf : lf = false) (hE : chkE inn out ops = 0) (hin : inn = (old.length : Int)) :
   Ctr X 26 [.slice B ol bc, .agg (List.toArray [.bool lf, .int .i64 inn, .int .i64 out, .slice OA ops.length oc])] [Rd B (U8 old), Rd OA (opsV ops)] [] (fun v R' H' => ∃ (A : Option Addr) (c : Nat), v = .tuple #[.slice A (runB old (syS inn out ops)).length c, .int .i64 0] ∧ R' = [] ∧ H' = [Own 5 1 A (runB old (syS inn out ops)).length c (U8 (runB old (syS inn out ops)))]) := by
 subst hol
 exact apply_c B old bc lf inn out ops OA oc hops hlf hE hin

set_option maxHeartbeats 4000000 in
theorem content_c (fs : Int) (data : List (List UInt8)) (dhs : List Hd) (hdh : dhs.length = data.length) (DA : Option Addr) (dc : Nat) (wv lv ev : Value) (ls : Int) (lst : List Int) (LA : Option Addr) (lc : Nat) (j0 j1 s0 s1 gv uv : Value) (sz n : Int) (lf : Bool) (inn out : Int) (ops : List Po) (seq st : List Int) (OA QA HA : Option Addr) (oc qc hc : Nat) (hops : ops.length ≤ 9223372036854775807) (hql : seq.length ≤ 1000000) (hhl : st.length ≤ 1000000) (k : Int) (hll : lst.length ≤ 9223372036854775807) (hdl : data.length ≤ 9223372036854775807) (_hdr : ∀ i, (data.getD i []).length ≤ 9223372036854775807) (hlc : lst.length ≤ lc) :
   Ctr X 18 [.agg (List.toArray [.int .i64 fs, .slice DA data.length dc, wv, lv, ev]), .agg (List.toArray [.int .i64 ls, j0, j1, s0, s1, gv, uv, .slice LA lst.length lc]), .agg (List.toArray [.int .i64 sz, .int .i64 n, .bool lf, .int .i64 inn, .int .i64 out, .slice OA ops.length oc, .slice QA seq.length qc, .slice HA st.length hc]), .int .i64 k] [Rd DA (rowsV dhs (B8 data)), KidsR dhs (B8 data), Rd LA (I64 lst), Rd OA (opsV ops), Rd QA (I64 seq), Rd HA (I64 st)] [] (fun v R' H' => ∃ (A : Option Addr) (c : Nat), v = .tuple #[.slice A (cntV lf sz n inn out ops seq st data fs ls lst k).length c, .int .i64 (cntE lf sz n inn out ops seq st data fs ls lst k)] ∧ R' = [] ∧ H' = [Own 5 1 A (cntV lf sz n inn out ops seq st data fs ls lst k).length c (U8 (cntV lf sz n inn out ops seq st data fs ls lst k))]) := by
 refine Ctr.of (X := X) (fn := Tryz.f18) Tryz.func18 rfl (by kernel_rfl) rfl ?_
 intro β
 refine C.seq (C.region ?_)
 refine L.boxA rfl rfl (fun A4 => ?_)
 refine L.boxA rfl rfl (fun A5 => ?_)
 refine L.boxA rfl rfl (fun A6 => ?_)
 refine Lpu rfl rfl ?_; refine Lpu rfl rfl ?_; refine L.nil (QE.seq (C.seq (C.block (C.seq ?_)))); refine C.freeze 0 rfl [1, 2] (by decide) (by decide) ?_; refine C.norm (H' := [_, _]) [0, 1] ⟨rfl, rfl, trivial⟩ (by decide) ?_; refine C.freeze 0 rfl [1] (by decide) (by decide) ?_; refine C.norm (H' := [_]) [0] ⟨rfl, trivial⟩ (by decide) ?_; refine C.freeze 0 rfl [] (by decide) (by decide) ?_; refine C.region ?_; refine L.step (Ev.loadA (vs := [.int .i64 sz, .int .i64 n, .bool lf, .int .i64 inn, .int .i64 out, .slice OA ops.length oc, .slice QA seq.length qc, .slice HA st.length hc]) rfl rfl rfl (Src.r 0 rfl) rfl rfl (by decide)) rfl ?_; refine L.call (js := []) (js' := []) (valid19_c sz n lf inn out ops seq st OA QA HA oc qc hc hops hql hhl) rfl rfl rfl (by decide) (Hq [6, 7, 8] rfl) rfl ?_
 rintro _ _ _ ⟨rfl, rfl, rfl⟩
 refine Lpu rfl rfl ?_; refine Lpu rfl rfl ?_; refine L.nil (QE.seq ?_)
 refine C.condB 21 rfl (fun hc21 => ?_) (fun hc21 => ?_)
 ·
  have hvl : vldB lf sz n inn out ops seq st = false := by simpa using hc21
  refine C.seq (C.region ?_); refine Lpu rfl rfl ?_; refine Lpu rfl rfl ?_; refine L.nil (QE.seq (C.ret (QE.bR (QE.tR ?_)))); refine QE.nil_own 5 1 ?_; refine QE.ret (js := []) (hs := [0]) (vs := [_, _]) rfl ⟨rfl, rfl, trivial⟩ (by decide) ?_
  have hE : cntE lf sz n inn out ops seq st data fs ls lst k = _ := cntE_1 hvl
  have hV := cntV_no (by rw [hE]; decide : cntE lf sz n inn out ops seq st data fs ls lst k ≠ 0)
  rw [hE, hV]
  exact ⟨none, 0, rfl, rfl, rfl⟩
 ·
  refine C.seq (C.region ?_); refine Lpu rfl rfl ?_; refine Lpu rfl rfl ?_; refine Lpu rfl rfl ?_
  refine L.bool 28 rfl (fun hg28 => ?_) (fun hg28 => ?_)
  ·
   replace hg28 := of_decide_eq_true hg28
   refine L.no rfl rfl rfl ?_; refine L.no rfl rfl rfl ?_; refine L.no rfl rfl rfl ?_; refine L.no rfl rfl rfl ?_; refine L.no rfl rfl rfl ?_; refine Lpu rfl rfl ?_; refine Lpu rfl rfl ?_; refine L.nil (QE.seq ?_)
   refine C.cond rfl (fun _ => ?_) (fun h => by cases h)
   refine C.seq (C.region ?_); refine Lpu rfl rfl ?_; refine Lpu rfl rfl ?_; refine L.nil (QE.seq (C.ret (QE.bR (QE.tR ?_)))); refine QE.nil_own 5 1 ?_; refine QE.ret (js := []) (hs := [0]) (vs := [_, _]) rfl ⟨rfl, rfl, trivial⟩ (by decide) ?_
   have hE : cntE lf sz n inn out ops seq st data fs ls lst k = _ := cntE_2 (by simpa using hc21) (.inl (by omega))
   have hV := cntV_no (by rw [hE]; decide : cntE lf sz n inn out ops seq st data fs ls lst k ≠ 0)
   rw [hE, hV]
   exact ⟨none, 0, rfl, rfl, rfl⟩
  ·
   replace hg28 := of_decide_eq_false hg28
   refine L.yes rfl ?_; refine Lpu rfl rfl ?_; refine L.yes rfl ?_; refine L.step (Ev.fieldAddr rfl rfl rfl rfl rfl rfl (Src.r 0 rfl) (Nat.zero_lt_succ _) rfl) rfl ?_; refine L.yes rfl ?_; refine L.step (Ev.load rfl rfl rfl (Src.r 0 rfl) rfl) rfl ?_; refine L.yes rfl ?_; refine Lpu rfl rfl ?_; refine L.yes rfl ?_; refine Lpu rfl rfl ?_; refine Lpu rfl rfl ?_; refine Lpu rfl rfl ?_; refine L.nil (QE.seq ?_)
   refine C.condB 25 rfl (fun hc25 => ?_) (fun hc25 => ?_)
   ·
    replace hc25 := of_decide_eq_true hc25
    refine C.seq (C.region ?_); refine Lpu rfl rfl ?_; refine Lpu rfl rfl ?_; refine L.nil (QE.seq (C.ret (QE.bR (QE.tR ?_)))); refine QE.nil_own 5 1 ?_; refine QE.ret (js := []) (hs := [0]) (vs := [_, _]) rfl ⟨rfl, rfl, trivial⟩ (by decide) ?_
    have hE : cntE lf sz n inn out ops seq st data fs ls lst k = _ := cntE_2 (by simpa using hc21) (.inr (by omega))
    have hV := cntV_no (by rw [hE]; decide : cntE lf sz n inn out ops seq st data fs ls lst k ≠ 0)
    rw [hE, hV]
    exact ⟨none, 0, rfl, rfl, rfl⟩
   ·
    replace hc25 := of_decide_eq_false hc25
    have hvl : vldB lf sz n inn out ops seq st = true := by simpa using hc21
    obtain ⟨kk, rfl⟩ : ∃ q : Nat, k = (q : Int) := ⟨k.toNat, by omega⟩
    obtain ⟨hE0, hlf0, hszb0, -, -, -⟩ := val_iff.1 hvl
    have hseq := val_seq hvl
    have hszb := sizB_iff.1 hszb0
    subst hlf0
    obtain ⟨S, rfl⟩ : ∃ q : Nat, sz = (q : Int) := ⟨sz.toNat, by omega⟩
    obtain ⟨n, rfl⟩ : ∃ q : Nat, n = (q : Int) := ⟨n.toNat, by omega⟩
    rw [Int.toNat_natCast, Int.toNat_natCast] at hseq
    obtain ⟨hS1, hS2, hn1, hn2, hi1, hi2⟩ : 1 ≤ S ∧ S ≤ 4096 ∧ 1 ≤ n ∧ n ≤ 64 ∧ inn ≤ (S : Int) * (n : Int) ∧ out ≤ (S : Int) * (n : Int) := ⟨by omega, by omega, by omega, by omega, hszb.2.2.2.2.1, hszb.2.2.2.2.2⟩
    have hcl := chgL_len (symL ops) inn S n
    have hk64 : seq.length ≤ 64 := by omega
    obtain ⟨k1, k2, k3, k4, k5, k6⟩ := chkE_ok hE0
    have hsl : ((symL ops).length : Int) = out := chkG_tot ops out k3 k6
    have hsy : syS inn out ops = symL ops := by unfold syS; rw [if_pos hE0]
    obtain ⟨m, rfl⟩ : ∃ q : Nat, inn = (q : Int) := ⟨inn.toNat, by omega⟩
    obtain ⟨-, -, -, hsrt, hstb, -⟩ := val_iff.1 hvl
    rw [Int.toNat_natCast, Int.toNat_natCast] at hsrt hstb
    obtain ⟨hstn, hstm⟩ := st_fine hstb
    rw [← Int.natCast_mul, Nat.mul_comm] at hi1
    refine C.seq (C.region ?_); refine L.step (Ev.fieldAddr rfl rfl rfl rfl rfl rfl (Src.r 2 rfl) (Nat.zero_lt_succ _) rfl) rfl ?_; refine L.step (Ev.load rfl rfl rfl (Src.r 2 rfl) rfl) rfl ?_; refine L.step (Ev.fieldAddr rfl rfl rfl rfl rfl rfl (Src.r 0 rfl) (Nat.zero_lt_succ _) rfl) rfl ?_; refine L.step (Ev.load rfl rfl rfl (Src.r 0 rfl) rfl) rfl ?_; refine Lpu rfl rfl ?_; refine Lpu rfl rfl ?_
    refine L.bool 41 rfl (fun hg41 => ?_) (fun hg41 => ?_)
    ·
     replace hg41 := b_ne hg41
     refine L.no rfl rfl rfl ?_; refine L.no rfl rfl rfl ?_; refine L.no rfl rfl rfl ?_; refine L.no rfl rfl rfl ?_; refine L.no rfl rfl rfl ?_; refine Lpu rfl rfl ?_; refine Lpu rfl rfl ?_; refine L.no rfl rfl rfl ?_; refine L.no rfl rfl rfl ?_; refine L.no rfl rfl rfl ?_; refine L.no rfl rfl rfl ?_; refine L.no rfl rfl rfl ?_; refine L.no rfl rfl rfl ?_; refine L.no rfl rfl rfl ?_; refine Lpu rfl rfl ?_; refine Lpu rfl rfl ?_; refine L.nil (QE.seq ?_)
     refine C.cond rfl (fun _ => ?_) (fun h => by cases h)
     refine C.seq (C.region ?_); refine Lpu rfl rfl ?_; refine Lpu rfl rfl ?_; refine L.nil (QE.seq (C.ret (QE.bR (QE.tR ?_)))); refine QE.nil_own 5 1 ?_; refine QE.ret (js := []) (hs := [0]) (vs := [_, _]) rfl ⟨rfl, rfl, trivial⟩ (by decide) ?_
     have hE : cntE false (S : Int) (n : Int) (m : Int) out ops seq st data fs ls lst (kk : Int) = _ := cntE_3 hvl (by omega) (by rw [Int.toNat_natCast]; exact fit_no (fun h => hg41 h.1))
     have hV := cntV_no (by rw [hE]; decide : cntE false (S : Int) (n : Int) (m : Int) out ops seq st data fs ls lst (kk : Int) ≠ 0)
     rw [hE, hV]
     exact ⟨none, 0, rfl, rfl, rfl⟩
    ·
     replace hg41 := b_eq hg41
     refine L.yes rfl ?_; refine L.step (Ev.fieldAddr rfl rfl rfl rfl rfl rfl (Src.r 1 rfl) (Nat.zero_lt_succ _) rfl) rfl ?_; refine L.yes rfl ?_; refine L.step (Ev.load rfl rfl rfl (Src.r 1 rfl) rfl) rfl ?_; refine L.yes rfl ?_; refine L.step (Ev.fieldAddr rfl rfl rfl rfl rfl rfl (Src.r 0 rfl) (Nat.zero_lt_succ _) rfl) rfl ?_; refine L.yes rfl ?_; refine L.step (Ev.load rfl rfl rfl (Src.r 0 rfl) rfl) rfl ?_; refine L.yes rfl ?_; refine Lpu rfl rfl ?_; refine Lpu rfl rfl ?_; refine Lpu rfl rfl ?_
     refine L.bool 48 rfl (fun hg48 => ?_) (fun hg48 => ?_)
     ·
      replace hg48 := b_ne hg48
      refine L.no rfl rfl rfl ?_; refine L.no rfl rfl rfl ?_; refine L.no rfl rfl rfl ?_; refine L.no rfl rfl rfl ?_; refine L.no rfl rfl rfl ?_; refine L.no rfl rfl rfl ?_; refine L.no rfl rfl rfl ?_; refine Lpu rfl rfl ?_; refine Lpu rfl rfl ?_; refine L.nil (QE.seq ?_)
      refine C.cond rfl (fun _ => ?_) (fun h => by cases h)
      refine C.seq (C.region ?_); refine Lpu rfl rfl ?_; refine Lpu rfl rfl ?_; refine L.nil (QE.seq (C.ret (QE.bR (QE.tR ?_)))); refine QE.nil_own 5 1 ?_; refine QE.ret (js := []) (hs := [0]) (vs := [_, _]) rfl ⟨rfl, rfl, trivial⟩ (by decide) ?_
      have hE : cntE false (S : Int) (n : Int) (m : Int) out ops seq st data fs ls lst (kk : Int) = _ := cntE_3 hvl (by omega) (by rw [Int.toNat_natCast]; exact fit_no (fun h => hg48 h.2.1))
      have hV := cntV_no (by rw [hE]; decide : cntE false (S : Int) (n : Int) (m : Int) out ops seq st data fs ls lst (kk : Int) ≠ 0)
      rw [hE, hV]
      exact ⟨none, 0, rfl, rfl, rfl⟩
     ·
      replace hg48 := b_eq hg48
      refine L.yes rfl ?_; refine L.step (Ev.fieldAddr rfl rfl rfl rfl rfl rfl (Src.r 1 rfl) (Nat.zero_lt_succ _) rfl) rfl ?_; refine L.yes rfl ?_; refine L.step (Ev.load rfl rfl rfl (Src.r 1 rfl) rfl) rfl ?_; refine L.yes rfl ?_; refine Lpu rfl rfl ?_; refine L.yes rfl ?_; refine L.step (Ev.fieldAddr rfl rfl rfl rfl rfl rfl (Src.r 0 rfl) (Nat.zero_lt_succ _) rfl) rfl ?_; refine L.yes rfl ?_; refine L.step (Ev.load rfl rfl rfl (Src.r 0 rfl) rfl) rfl ?_; refine L.yes rfl ?_; refine Lpu rfl rfl ?_; refine L.yes rfl ?_; refine Lpu rfl rfl ?_; refine Lpu rfl rfl ?_; refine Lpu rfl rfl ?_; refine L.nil (QE.seq ?_)
      refine C.condB 35 rfl (fun hc35 => ?_) (fun hc35 => ?_)
      ·
       replace hc35 := of_decide_eq_true hc35
       refine C.seq (C.region ?_); refine Lpu rfl rfl ?_; refine Lpu rfl rfl ?_; refine L.nil (QE.seq (C.ret (QE.bR (QE.tR ?_)))); refine QE.nil_own 5 1 ?_; refine QE.ret (js := []) (hs := [0]) (vs := [_, _]) rfl ⟨rfl, rfl, trivial⟩ (by decide) ?_
       have hE : cntE false (S : Int) (n : Int) (m : Int) out ops seq st data fs ls lst (kk : Int) = _ := cntE_3 hvl (by omega) (by rw [Int.toNat_natCast]; exact fit_no (fun h => by omega))
       have hV := cntV_no (by rw [hE]; decide : cntE false (S : Int) (n : Int) (m : Int) out ops seq st data fs ls lst (kk : Int) ≠ 0)
       rw [hE, hV]
       exact ⟨none, 0, rfl, rfl, rfl⟩
      ·
       replace hc35 := of_decide_eq_false hc35
       have hfs0 : fs = (S : Int) := hg41
       have hls0 : ls = (n : Int) := hg48
       subst hfs0 hls0
       obtain ⟨t, hst, htn, htc⟩ := hseq.2 kk (by omega)
       have htS : t * S ≤ 64 * 4096 := Nat.mul_le_mul (by omega) hS2
       have hnl2 : (runB (inL data st lst S m) (symL ops)).length = (symL ops).length := runB_len _ _
       have hml := must_len (n := n) (m := st.length) (lst := lst) (by omega)
       have hnS : n * S ≤ 64 * 4096 := Nat.mul_le_mul hn2 hS2
       have hst64 := st_count hstn hstm (chgL_len (symL ops) (m : Int) S n)
       refine C.skip ?_; refine QE.blkN ?_; refine QE.seq (C.seq (C.region ?_)); refine L.step (Ev.fieldAddr rfl rfl rfl rfl rfl rfl (Src.r 0 rfl) (Nat.zero_lt_succ _) rfl) rfl ?_; refine L.step (Ev.load rfl rfl rfl (Src.r 0 rfl) rfl) rfl ?_
       refine L.make (m := n) rfl rfl rfl rfl rfl rfl rfl rfl rfl (by show 8 * _ ≤ _; omega) (by omega) rfl (fun A59 => ?_)
       refine Lpu rfl rfl ?_; refine L.nil (QE.seq (C.seq (C.seq (C.region ?_)))); refine Lpu rfl rfl ?_; refine Lpu rfl rfl ?_; refine Lpu rfl rfl ?_; refine L.nil (QE.seq (C.block ?_)); refine C.loop (fun i : Nat => [(3, .int .i64 (kk : Int)), (4, ptrOf A4 0), (5, ptrOf A5 0), (6, ptrOf A6 0), (10, .slice A59 n n), (61, .int .i64 (n : Int)), (62, .int .i64 (i : Int))]) (fun i : Nat => [Rd A6 [.int .i64 (S : Int), .int .i64 (n : Int), .bool false, .int .i64 (m : Int), .int .i64 out, .slice OA ops.length oc, .slice QA seq.length qc, .slice HA st.length hc], Rd A5 [.int .i64 (n : Int), j0, j1, s0, s1, gv, uv, .slice LA lst.length lc], Rd A4 [.int .i64 (S : Int), .slice DA data.length dc, wv, lv, ev], Rd DA (rowsV dhs (B8 data)), KidsR dhs (B8 data), Rd LA (I64 lst), Rd OA (opsV ops), Rd QA (I64 seq), Rd HA (I64 st)]) (fun i : Nat => [Own 3 1 A59 n n (I64 (rngL n i))]) (fun i : Nat => i ≤ n) (fun i : Nat => n - i) 0 (Nat.zero_le _) (by exact Le.mk' (rs := [0, 1, 2, 3, 4, 5, 6, 7, 8]) (hs := [0]) ⟨rfl, rfl, rfl, rfl, rfl, rfl, rfl, trivial⟩ ⟨rfl, rfl, rfl, rfl, rfl, rfl, rfl, rfl, rfl, trivial⟩ ⟨(congrArg some (own_eq rfl (by rw [rngL_zero]; show List.replicate n (Value.int .i64 0) = _; simp [I64]))), trivial⟩ (by decide)) ?_
       intro i hi
       refine C.seq (C.region ?_); refine Lpu rfl rfl ?_; refine L.nil (QE.seq (C.seq ?_))
       refine C.condB 63 rfl (fun hc63 => ?_) (fun hc63 => ?_)
       ·
        replace hc63 := of_decide_eq_true hc63
        refine C.skip (QE.seq (C.seq (C.block (C.seq (C.region ?_))))); refine Lpu rfl rfl ?_; refine Lpu rfl rfl ?_; refine L.nil (QE.seq (C.region ?_)); refine Lpu rfl rfl ?_; refine Lpu rfl rfl ?_; refine Lpu rfl rfl ?_; refine L.step (Ev.idx1 (k := i) rfl rfl rfl rfl rfl rfl rfl (by omega) (Src.o 0 rfl) (by rw [I64_len, rngL_len]; omega)) rfl ?_; refine L.store (j := 0) rfl rfl rfl rfl rfl rfl rfl (by exact I64_get (by rw [rngL_len]; omega)) ?_; refine L.nil ?_; refine QE.blkN ?_; refine QE.seq (C.region ?_); refine L.step (Ev.add rfl rfl (by omega) (by omega)) rfl ?_; refine Lpu rfl rfl ?_; refine L.nil ?_
        refine QE.round (i + 1) (by omega) (by omega) (by exact Le.mk' (rs := [0, 1, 2, 3, 4, 5, 6, 7, 8]) (hs := [0]) ⟨rfl, rfl, rfl, rfl, rfl, rfl, rfl, trivial⟩ ⟨rfl, rfl, rfl, rfl, rfl, rfl, rfl, rfl, rfl, trivial⟩ ⟨(congrArg some (own_eq rfl (by rw [I64_set, rngL_set (by omega)]))), trivial⟩ (by decide))
       ·
        replace hc63 := of_decide_eq_false hc63
        refine C.exit ?_; refine QE.tX ?_; refine QE.tX ?_; refine QE.blk ?_; refine QE.seq (C.seq (C.seq ?_))
        obtain rfl : n = i := by omega
        rw [rngL_all]
        refine C.region ?_; refine Lpu rfl rfl ?_; refine L.step (Ev.fieldAddr rfl rfl rfl rfl rfl rfl (Src.r 1 rfl) (Nat.zero_lt_succ _) rfl) rfl ?_; refine L.step (Ev.load rfl rfl rfl (Src.r 1 rfl) rfl) rfl ?_; refine L.step (Ev.fieldAddr rfl rfl rfl rfl rfl rfl (Src.r 0 rfl) (Nat.zero_lt_succ _) rfl) rfl ?_; refine L.step (Ev.load rfl rfl rfl (Src.r 0 rfl) rfl) rfl ?_; refine Lpu rfl rfl ?_; refine L.step (Ev.sliceH (h := st.length) rfl rfl rfl rfl rfl rfl (by omega)) rfl ?_
        refine L.lit rfl rfl rfl rfl rfl (by rfl) (by rfl) (by rfl) rfl rfl (fun A77 => ?_)
        refine L.call (js := []) (js' := [0, 1]) (concat_c A77 [NI (List.range n), lst.take st.length] 2 [(A59, n), (LA, lc)] rfl (show 2 ≤ _ by omega) (two_le (by rw [NI_len, List.length_range]; omega) (by rw [List.length_take]; omega)) (by rw [must_flat, must_len (by omega)]; omega)) rfl rfl rfl (by decide) ⟨((Has.o 1 rfl).cast (two_rows (by rw [NI_len, List.length_range]) (by rw [List.length_take]; omega))), (Has.kids2 n lc (Has.o 0 rfl) ((Has.take (Has.r 5 rfl) st.length).cast (I64_take _ _))), trivial⟩ rfl ?_
        rw [must_flat]
        rintro _ _ _ ⟨CA, cc, rfl, rfl, rfl⟩
        refine L.norm (H' := [_, _, _]) [0, 1, 2] ⟨rfl, rfl, rfl, trivial⟩ (by decide) ?_; refine Lpu rfl rfl ?_; refine Lpu rfl rfl ?_; refine L.nil (QE.seq (C.block ?_)); refine C.freeze 0 rfl [1, 2] (by decide) (by decide) ?_; refine C.norm (H' := [_, _]) [0, 1] ⟨rfl, rfl, trivial⟩ (by decide) ?_; refine C.loop (fun i : Nat => [(3, .int .i64 (kk : Int)), (4, ptrOf A4 0), (5, ptrOf A5 0), (6, ptrOf A6 0), (10, .slice A59 n n), (78, .slice CA (mustL n lst st.length).length cc), (79, .int .i64 ((mustL n lst st.length).length : Int)), (80, .int .i64 (i : Int))]) (fun i : Nat => [Rd CA (I64 (mustL n lst st.length)), Rd A6 [.int .i64 (S : Int), .int .i64 (n : Int), .bool false, .int .i64 (m : Int), .int .i64 out, .slice OA ops.length oc, .slice QA seq.length qc, .slice HA st.length hc], Rd A5 [.int .i64 (n : Int), j0, j1, s0, s1, gv, uv, .slice LA lst.length lc], Rd A4 [.int .i64 (S : Int), .slice DA data.length dc, wv, lv, ev], Rd DA (rowsV dhs (B8 data)), KidsR dhs (B8 data), Rd LA (I64 lst), Rd OA (opsV ops), Rd QA (I64 seq), Rd HA (I64 st)]) (fun i : Nat => [Own 3 1 A59 n n (I64 (NI (List.range n)))]) (fun i : Nat => i ≤ (mustL n lst st.length).length ∧ ∀ k : Nat, k < i → secB data (S : Int) ((mustL n lst st.length).getD k 0) = true) (fun i : Nat => (mustL n lst st.length).length - i) 0 ⟨Nat.zero_le _, all_zero⟩ (by exact Le.mk' (rs := [0, 1, 2, 3, 4, 5, 6, 7, 8, 9]) (hs := [0]) ⟨rfl, rfl, rfl, rfl, rfl, rfl, rfl, rfl, trivial⟩ ⟨rfl, rfl, rfl, rfl, rfl, rfl, rfl, rfl, rfl, rfl, trivial⟩ ⟨rfl, trivial⟩ (by decide)) ?_
        rintro i ⟨hi, hall⟩
        refine C.seq (C.region ?_); refine Lpu rfl rfl ?_; refine L.nil (QE.seq (C.seq ?_))
        refine C.condB 81 rfl (fun hc81 => ?_) (fun hc81 => ?_)
        ·
         replace hc81 := of_decide_eq_true hc81
         refine C.skip (QE.seq (C.seq (C.block (C.seq (C.region ?_))))); refine L.step (Ev.idx1 (k := i) rfl rfl rfl rfl rfl rfl rfl (by omega) (Src.r 0 rfl) (by rw [I64_len]; omega)) rfl ?_; refine L.step (Ev.load rfl rfl rfl (Src.r 0 rfl) (I64_get (by omega))) rfl ?_; refine Lpu rfl rfl ?_; refine L.nil (QE.seq (C.seq ?_)); refine C.regionQ (by kernel_rfl) ?_; refine LQ.step (Ev.pure rfl) rfl ?_; refine LQ.step (Ev.pure rfl) rfl ?_; refine LQ.step (Ev.pure rfl) rfl ?_
         refine LQ.bool 86 rfl (fun hg86 => ?_) (fun hg86 => ?_)
         ·
          replace hg86 := of_decide_eq_true hg86
          have hx : secB data (S : Int) ((mustL n lst st.length).getD i 0) = false := secB_no1 (by omega)
          refine LQ.no rfl rfl rfl ?_; refine LQ.no rfl rfl rfl ?_; refine LQ.no rfl rfl rfl ?_; refine LQ.no rfl rfl rfl ?_; refine LQ.no rfl rfl rfl ?_; refine LQ.step (Ev.pure rfl) rfl ?_; refine LQ.step (Ev.pure rfl) rfl ?_; refine LQ.no rfl rfl rfl ?_; refine LQ.no rfl rfl rfl ?_; refine LQ.no rfl rfl rfl ?_; refine LQ.no rfl rfl rfl ?_; refine LQ.no rfl rfl rfl ?_; refine LQ.no rfl rfl rfl ?_; refine LQ.no rfl rfl rfl ?_; refine LQ.no rfl rfl rfl ?_; refine LQ.no rfl rfl rfl ?_; refine LQ.step (Ev.pure rfl) rfl ?_; refine LQ.nil ?_; refine QE.seq ?_
          refine C.cond rfl (fun _ => ?_) (fun h => by cases h)
          refine C.seq (C.region ?_); refine Lpu rfl rfl ?_; refine Lpu rfl rfl ?_; refine L.nil (QE.seq (C.ret (QE.bR (QE.tR (QE.tR (QE.bR (QE.tR ?_))))))); refine QE.nil_own 5 1 ?_; refine QE.ret (js := []) (hs := [1]) (vs := [_, _]) rfl ⟨rfl, rfl, trivial⟩ (by decide) ?_
          have hE : cntE false (S : Int) (n : Int) (m : Int) out ops seq st data (S : Int) (n : Int) lst (kk : Int) = _ := cntE_3 hvl (by omega) (by rw [Int.toNat_natCast]; exact fit_no (fun h => must_no h hx (by omega)))
          have hV := cntV_no (by rw [hE]; decide : cntE false (S : Int) (n : Int) (m : Int) out ops seq st data (S : Int) (n : Int) lst (kk : Int) ≠ 0)
          rw [hE, hV]
          exact ⟨none, 0, rfl, rfl, rfl⟩
         ·
          replace hg86 := of_decide_eq_false hg86
          refine LQ.yes rfl ?_; refine LQ.step (Ev.pure rfl) rfl ?_; refine LQ.yes rfl ?_; refine LQ.step (Ev.fieldAddr rfl rfl rfl rfl rfl rfl (Src.r 3 rfl) (Nat.zero_lt_succ _) rfl) rfl ?_; refine LQ.yes rfl ?_; refine LQ.step (Ev.load rfl rfl rfl (Src.r 3 rfl) rfl) rfl ?_; refine LQ.yes rfl ?_; refine LQ.step (Ev.pure rfl) rfl ?_; refine LQ.yes rfl ?_; refine LQ.step (Ev.pure rfl) rfl ?_; refine LQ.step (Ev.pure rfl) rfl ?_; refine LQ.step (Ev.pure rfl) rfl ?_
          refine LQ.bool 93 rfl (fun hg93 => ?_) (fun hg93 => ?_)
          ·
           replace hg93 := of_decide_eq_true hg93
           have hx : secB data (S : Int) ((mustL n lst st.length).getD i 0) = false := secB_no2 (by omega)
           refine LQ.no rfl rfl rfl ?_; refine LQ.no rfl rfl rfl ?_; refine LQ.no rfl rfl rfl ?_; refine LQ.no rfl rfl rfl ?_; refine LQ.no rfl rfl rfl ?_; refine LQ.no rfl rfl rfl ?_; refine LQ.no rfl rfl rfl ?_; refine LQ.no rfl rfl rfl ?_; refine LQ.no rfl rfl rfl ?_; refine LQ.step (Ev.pure rfl) rfl ?_; refine LQ.nil ?_; refine QE.seq ?_
           refine C.cond rfl (fun _ => ?_) (fun h => by cases h)
           refine C.seq (C.region ?_); refine Lpu rfl rfl ?_; refine Lpu rfl rfl ?_; refine L.nil (QE.seq (C.ret (QE.bR (QE.tR (QE.tR (QE.bR (QE.tR ?_))))))); refine QE.nil_own 5 1 ?_; refine QE.ret (js := []) (hs := [1]) (vs := [_, _]) rfl ⟨rfl, rfl, trivial⟩ (by decide) ?_
           have hE : cntE false (S : Int) (n : Int) (m : Int) out ops seq st data (S : Int) (n : Int) lst (kk : Int) = _ := cntE_3 hvl (by omega) (by rw [Int.toNat_natCast]; exact fit_no (fun h => must_no h hx (by omega)))
           have hV := cntV_no (by rw [hE]; decide : cntE false (S : Int) (n : Int) (m : Int) out ops seq st data (S : Int) (n : Int) lst (kk : Int) ≠ 0)
           rw [hE, hV]
           exact ⟨none, 0, rfl, rfl, rfl⟩
          ·
           replace hg93 := of_decide_eq_false hg93
           refine LQ.yes rfl ?_; refine LQ.step (Ev.fieldAddr rfl rfl rfl rfl rfl rfl (Src.r 3 rfl) (Nat.zero_lt_succ _) rfl) rfl ?_; refine LQ.yes rfl ?_; refine LQ.step (Ev.load rfl rfl rfl (Src.r 3 rfl) rfl) rfl ?_; refine LQ.yes rfl ?_; refine LQ.step (Ev.pure rfl) rfl ?_; refine LQ.yes rfl ?_; refine LQ.step (Ev.idx1 (k := ((mustL n lst st.length).getD i 0).toNat) rfl rfl rfl rfl rfl rfl (by omega) (by omega) (Src.r 4 rfl) (by rw [rowsV_len (by rw [B8_len]; exact hdh), B8_len]; omega)) rfl ?_; refine LQ.yes rfl ?_; refine LQ.step (Ev.load rfl rfl rfl (Src.r 4 rfl) (rows8_get hdh (by omega))) rfl ?_; refine LQ.yes rfl ?_; refine LQ.step (Ev.pure rfl) rfl ?_; refine LQ.yes rfl ?_; refine LQ.step (Ev.fieldAddr rfl rfl rfl rfl rfl rfl (Src.r 3 rfl) (Nat.zero_lt_succ _) rfl) rfl ?_; refine LQ.yes rfl ?_; refine LQ.step (Ev.load rfl rfl rfl (Src.r 3 rfl) rfl) rfl ?_; refine LQ.yes rfl ?_; refine LQ.step (Ev.pure rfl) rfl ?_; refine LQ.step (Ev.pure rfl) rfl ?_; refine LQ.nil ?_; refine QE.seq ?_
           refine C.condB 103 rfl (fun hc103 => ?_) (fun hc103 => ?_)
           ·
            replace hc103 := b_ne hc103
            have hx : secB data (S : Int) ((mustL n lst st.length).getD i 0) = false := secB_no3 hc103
            refine C.seq (C.region ?_); refine Lpu rfl rfl ?_; refine Lpu rfl rfl ?_; refine L.nil (QE.seq (C.ret (QE.bR (QE.tR (QE.tR (QE.bR (QE.tR ?_))))))); refine QE.nil_own 5 1 ?_; refine QE.ret (js := []) (hs := [1]) (vs := [_, _]) rfl ⟨rfl, rfl, trivial⟩ (by decide) ?_
            have hE : cntE false (S : Int) (n : Int) (m : Int) out ops seq st data (S : Int) (n : Int) lst (kk : Int) = _ := cntE_3 hvl (by omega) (by rw [Int.toNat_natCast]; exact fit_no (fun h => must_no h hx (by omega)))
            have hV := cntV_no (by rw [hE]; decide : cntE false (S : Int) (n : Int) (m : Int) out ops seq st data (S : Int) (n : Int) lst (kk : Int) ≠ 0)
            rw [hE, hV]
            exact ⟨none, 0, rfl, rfl, rfl⟩
           ·
            replace hc103 := b_eq hc103
            have hx : secB data (S : Int) ((mustL n lst st.length).getD i 0) = true := secB_yes (by omega) (by omega) hc103
            refine C.skip ?_; refine QE.blkN ?_; refine QE.seq (C.region ?_); refine L.step (Ev.add rfl rfl (by omega) (by omega)) rfl ?_; refine Lpu rfl rfl ?_; refine L.nil ?_
            refine QE.round (i + 1) (by exact ⟨by omega, all_step (p := fun k => secB data (S : Int) ((mustL n lst st.length).getD k 0) = true) hall hx⟩) (by omega) (by exact Le.mk' (rs := [0, 1, 2, 3, 4, 5, 6, 7, 8, 9]) (hs := [0]) ⟨rfl, rfl, rfl, rfl, rfl, rfl, rfl, rfl, trivial⟩ ⟨rfl, rfl, rfl, rfl, rfl, rfl, rfl, rfl, rfl, rfl, trivial⟩ ⟨rfl, trivial⟩ (by decide))
        ·
         replace hc81 := of_decide_eq_false hc81
         refine C.exit ?_; refine QE.tX ?_; refine QE.tX ?_; refine QE.blk ?_; refine QE.seq (C.seq (C.seq ?_))
         have hs1 : ∀ t, t < n → secB data (S : Int) (t : Int) = true := fun t ht => by
           have := hall t (by omega)
           rwa [must_lo ht] at this
         have hs2 : ∀ i, i < st.length → secB data (S : Int) (lst.getD i 0) = true := fun q hq => by
           have := hall (n + q) (by omega)
           rwa [must_hi hq] at this
         have hfit : fitB data (S : Int) (n : Int) (S : Int) n st lst = true := fit_iff.2 ⟨rfl, rfl, by omega, hs1, hs2⟩
         rw [← secL_zero (st := st) (lst := lst)]
         refine C.region ?_; refine L.step (Ev.fieldAddr rfl rfl rfl rfl rfl rfl (Src.r 1 rfl) (Nat.zero_lt_succ _) rfl) rfl ?_; refine L.step (Ev.load rfl rfl rfl (Src.r 1 rfl) rfl) rfl ?_; refine Lpu rfl rfl ?_; refine Lpu rfl rfl ?_; refine L.nil (QE.seq (C.block ?_)); refine C.loop (fun i : Nat => [(3, .int .i64 (kk : Int)), (4, ptrOf A4 0), (5, ptrOf A5 0), (6, ptrOf A6 0), (10, .slice A59 n n), (106, .slice HA st.length hc), (107, .int .i64 (st.length : Int)), (108, .int .i64 (i : Int))]) (fun i : Nat => [Rd A6 [.int .i64 (S : Int), .int .i64 (n : Int), .bool false, .int .i64 (m : Int), .int .i64 out, .slice OA ops.length oc, .slice QA seq.length qc, .slice HA st.length hc], Rd A5 [.int .i64 (n : Int), j0, j1, s0, s1, gv, uv, .slice LA lst.length lc], Rd A4 [.int .i64 (S : Int), .slice DA data.length dc, wv, lv, ev], Rd DA (rowsV dhs (B8 data)), KidsR dhs (B8 data), Rd LA (I64 lst), Rd OA (opsV ops), Rd QA (I64 seq), Rd HA (I64 st)]) (fun i : Nat => [Own 3 1 A59 n n (I64 (secL st lst n i))]) (fun i : Nat => i ≤ st.length) (fun i : Nat => st.length - i) 0 (Nat.zero_le _) (by exact Le.mk' (rs := [1, 2, 3, 4, 5, 6, 7, 8, 9]) (hs := [0]) ⟨rfl, rfl, rfl, rfl, rfl, rfl, rfl, rfl, trivial⟩ ⟨rfl, rfl, rfl, rfl, rfl, rfl, rfl, rfl, rfl, trivial⟩ ⟨rfl, trivial⟩ (by decide)) ?_
         intro i hi
         refine C.seq (C.region ?_); refine Lpu rfl rfl ?_; refine L.nil (QE.seq (C.seq ?_))
         refine C.condB 109 rfl (fun hc109 => ?_) (fun hc109 => ?_)
         ·
          replace hc109 := of_decide_eq_true hc109
          refine C.skip (QE.seq (C.seq (C.block (C.seq ?_))))
          obtain ⟨u, hsu, hum⟩ := hstm i (by omega)
          have hun := (mem_chgL.1 hum).1
          refine C.region ?_; refine Lpu rfl rfl ?_; refine L.step (Ev.idx1 (k := i) rfl rfl rfl rfl rfl rfl rfl (by omega) (Src.r 8 rfl) (by rw [I64_len]; omega)) rfl ?_; refine L.step (Ev.cast (u := .int .i64 (u : Int)) (Ev.load rfl rfl rfl (Src.r 8 rfl) (I64_get (by omega))) (congrArg (Value.int .i64) hsu)) rfl ?_; refine Lpu rfl rfl ?_; refine Lpu rfl rfl ?_; refine L.nil (QE.seq (C.region ?_)); refine Lpu rfl rfl ?_; refine Lpu rfl rfl ?_; refine L.step (Ev.fieldAddr rfl rfl rfl rfl rfl rfl (Src.r 1 rfl) (Nat.zero_lt_succ _) rfl) rfl ?_; refine L.step (Ev.load rfl rfl rfl (Src.r 1 rfl) rfl) rfl ?_; refine Lpu rfl rfl ?_; refine L.step (Ev.idx1 (k := i) rfl rfl rfl rfl rfl rfl rfl (by omega) (Src.r 5 rfl) (by rw [I64_len]; omega)) rfl ?_; refine L.step (Ev.load rfl rfl rfl (Src.r 5 rfl) (I64_get (by omega))) rfl ?_; refine L.step (Ev.idx1 (k := u) rfl rfl rfl rfl rfl rfl rfl (by omega) (Src.o 0 rfl) (by rw [I64_len, secL_len]; omega)) rfl ?_; refine L.store (j := 0) rfl rfl rfl rfl rfl rfl rfl (by exact I64_get (by rw [secL_len]; omega)) ?_; refine L.nil ?_; refine QE.blkN ?_; refine QE.seq (C.region ?_); refine L.step (Ev.add rfl rfl (by omega) (by omega)) rfl ?_; refine Lpu rfl rfl ?_; refine L.nil ?_
          refine QE.round (i + 1) (by omega) (by omega) (by exact Le.mk' (rs := [0, 1, 2, 3, 4, 5, 6, 7, 8]) (hs := [0]) ⟨rfl, rfl, rfl, rfl, rfl, rfl, rfl, rfl, trivial⟩ ⟨rfl, rfl, rfl, rfl, rfl, rfl, rfl, rfl, rfl, trivial⟩ ⟨(congrArg some (own_eq rfl (by rw [I64_set, secL_succ hstn (by omega) hsu]))), trivial⟩ (by decide))
         ·
          replace hc109 := of_decide_eq_false hc109
          refine C.exit ?_; refine QE.tX ?_; refine QE.tX ?_; refine QE.blk ?_; refine QE.seq (C.seq ?_)
          obtain rfl : i = st.length := by omega
          have hsok : ∀ q, q < n → secB data (S : Int) ((secL st lst n st.length).getD q 0) = true := fun q hq => by
            rw [secL_get hq]
            exact sec_ok (by omega) hs1 hs2 hq
          have hlen : ∀ q, q < (secL st lst n st.length).length → (data.getD ((secL st lst n st.length).getD q 0).toNat []).length = S := fun q hq => by
            rw [secL_len] at hq
            have := secB_iff.1 (hsok q hq)
            omega
          refine C.region ?_; refine Lpu rfl rfl ?_; refine L.nil (QE.seq (C.seq (C.seq (C.region ?_)))); refine Lpu rfl rfl ?_; refine Lpu rfl rfl ?_; refine Lpu rfl rfl ?_; refine L.nil (QE.seq (C.block ?_)); refine C.own0 5 1 ?_; refine C.loop (fun q : Nat × Option Addr × Nat => [(3, .int .i64 (kk : Int)), (4, ptrOf A4 0), (5, ptrOf A5 0), (6, ptrOf A6 0), (10, .slice A59 n n), (122, .slice A59 n n), (123, .int .i64 (n : Int)), (124, .int .i64 (q.1 : Int)), (16, .slice q.2.1 (catL data (secL st lst n st.length) q.1).length q.2.2)]) (fun q : Nat × Option Addr × Nat => [Rd A6 [.int .i64 (S : Int), .int .i64 (n : Int), .bool false, .int .i64 (m : Int), .int .i64 out, .slice OA ops.length oc, .slice QA seq.length qc, .slice HA st.length hc], Rd A5 [.int .i64 (n : Int), j0, j1, s0, s1, gv, uv, .slice LA lst.length lc], Rd A4 [.int .i64 (S : Int), .slice DA data.length dc, wv, lv, ev], Rd DA (rowsV dhs (B8 data)), KidsR dhs (B8 data), Rd LA (I64 lst), Rd OA (opsV ops), Rd QA (I64 seq), Rd HA (I64 st)]) (fun q : Nat × Option Addr × Nat => [Own 3 1 A59 n n (I64 (secL st lst n st.length)), Own 5 1 q.2.1 (catL data (secL st lst n st.length) q.1).length q.2.2 (U8 (catL data (secL st lst n st.length) q.1))]) (fun q : Nat × Option Addr × Nat => q.1 ≤ n) (fun q : Nat × Option Addr × Nat => n - q.1) (0, none, 0) (Nat.zero_le _) (by exact Le.mk' (rs := [0, 1, 2, 3, 4, 5, 6, 7, 8]) (hs := [0, 1]) ⟨rfl, rfl, rfl, rfl, rfl, rfl, rfl, rfl, rfl, trivial⟩ ⟨rfl, rfl, rfl, rfl, rfl, rfl, rfl, rfl, rfl, trivial⟩ ⟨rfl, rfl, trivial⟩ (by decide)) ?_
          rintro ⟨i, A, c⟩ hi
          dsimp only at hi ⊢
          refine C.seq (C.region ?_); refine Lpu rfl rfl ?_; refine L.nil (QE.seq (C.seq ?_))
          refine C.condB 125 rfl (fun hc125 => ?_) (fun hc125 => ?_)
          ·
           replace hc125 := of_decide_eq_true hc125
           refine C.skip (QE.seq (C.seq (C.block (C.seq (C.region ?_))))); refine L.step (Ev.idx1 (k := i) rfl rfl rfl rfl rfl rfl rfl (by omega) (Src.o 0 rfl) (by rw [I64_len, secL_len]; omega)) rfl ?_; refine L.step (Ev.load rfl rfl rfl (Src.o 0 rfl) (I64_get (by rw [secL_len]; omega))) rfl ?_; refine Lpu rfl rfl ?_; refine L.nil (QE.seq ?_)
           have hso := secB_iff.1 (hsok i (by omega))
           have hci := catL_succ (data := data) (secs := (secL st lst n st.length)) (k := i) (by rw [secL_len]; omega)
           have hcj := congrArg List.length hci
           rw [List.length_append] at hcj
           have hck := catL_len hlen i (by rw [secL_len]; omega)
           have hiS : i * S ≤ n * S := Nat.mul_le_mul_right S (by omega)
           refine C.region ?_; refine Lpu rfl rfl ?_; refine L.step (Ev.fieldAddr rfl rfl rfl rfl rfl rfl (Src.r 2 rfl) (Nat.zero_lt_succ _) rfl) rfl ?_; refine L.step (Ev.load rfl rfl rfl (Src.r 2 rfl) rfl) rfl ?_; refine Lpu rfl rfl ?_; refine L.step (Ev.idx1 (k := ((secL st lst n st.length).getD i 0).toNat) rfl rfl rfl rfl rfl rfl (by omega) (by omega) (Src.r 3 rfl) (by rw [rowsV_len (by rw [B8_len]; exact hdh), B8_len]; omega)) rfl ?_; refine L.step (Ev.load rfl rfl rfl (Src.r 3 rfl) (rows8_get hdh (by omega))) rfl ?_
           refine L.append (j := 1) rfl rfl rfl rfl (by decide) rfl rfl rfl rfl (Src.cast (Src.kid 4 rfl (by rw [B8_len]; exact hdh) ((secL st lst n st.length).getD i 0).toNat (by rw [B8_len]; omega)) (B8_get _)) ((U8_len _).trans (Nat.mul_one _).symm) (U8_one _) (by omega) (by show _ * 1 ≤ _; omega) rfl (fun A134 cc134 => ?_)
           refine Lpu rfl rfl ?_; refine L.nil ?_; refine QE.blkN ?_; refine QE.seq (C.region ?_); refine L.step (Ev.add rfl rfl (by omega) (by omega)) rfl ?_; refine Lpu rfl rfl ?_; refine L.nil ?_
           refine QE.round (i := (i, A, c)) ((i + 1, A134, cc134)) (by dsimp only; omega) (by dsimp only; omega) (by exact Le.mk' (rs := [0, 1, 2, 3, 4, 5, 6, 7, 8]) (hs := [0, 1]) ⟨rfl, rfl, rfl, rfl, rfl, rfl, rfl, rfl, (by dsimp only; rw [hcj]; rfl), trivial⟩ ⟨rfl, rfl, rfl, rfl, rfl, rfl, rfl, rfl, rfl, trivial⟩ ⟨rfl, (congrArg some (own_eq hcj.symm (by dsimp only; rw [hci, ← U8_app]))), trivial⟩ (by decide))
          ·
           replace hc125 := of_decide_eq_false hc125
           refine C.exit ?_; refine QE.tX ?_; refine QE.tX ?_; refine QE.blk ?_; refine QE.seq (C.seq ?_)
           obtain rfl : n = i := by omega
           refine C.cap 1 rfl (fun hcp => ?_)
           have hcl2 := catL_len hlen n (by rw [secL_len]; exact Nat.le_refl _)
           have hcat := in_cat (data := data) (st := st) (lst := lst) (n := n) (S := S) (m := m) hS1 (fun q hq => by have := hlen q (by rw [secL_len]; exact hq); rwa [secL_get hq] at this) (by omega)
           refine C.regionM [Rd A6 [.int .i64 (S : Int), .int .i64 (n : Int), .bool false, .int .i64 (m : Int), .int .i64 out, .slice OA ops.length oc, .slice QA seq.length qc, .slice HA st.length hc], Rd A5 [.int .i64 (n : Int), j0, j1, s0, s1, gv, uv, .slice LA lst.length lc], Rd A4 [.int .i64 (S : Int), .slice DA data.length dc, wv, lv, ev], Rd DA (rowsV dhs (B8 data)), KidsR dhs (B8 data), Rd LA (I64 lst), Rd OA (opsV ops), Rd QA (I64 seq), Rd HA (I64 st)] (Hq [0, 1, 2, 3, 4, 5, 6, 7, 8] rfl) ?_; refine LM.q 0 rfl (by kernel_rfl) (Ev.pure rfl) rfl (Hq [0, 1, 2, 3, 4, 5, 6, 7, 8] rfl) ?_; refine LM.q 1 rfl (by kernel_rfl) (Ev.fieldAddr rfl rfl rfl rfl rfl rfl (Src.r 0 rfl) (Nat.zero_lt_succ _) rfl) rfl (Hq [0, 1, 2, 3, 4, 5, 6, 7, 8] rfl) ?_; refine LM.q 2 rfl (by kernel_rfl) (Ev.fieldAddr rfl rfl rfl rfl rfl rfl (Src.r 0 rfl) (Nat.zero_lt_succ _) rfl) rfl (Hq [0, 1, 2, 3, 4, 5, 6, 7, 8] rfl) ?_; refine LM.q 3 rfl (by kernel_rfl) (Ev.load rfl rfl rfl (Src.r 0 rfl) rfl) rfl (Hq [0, 1, 2, 3, 4, 5, 6, 7, 8] rfl) ?_; refine LM.q 4 rfl (by kernel_rfl) (Ev.sliceH (h := m) rfl rfl rfl rfl rfl rfl (by omega)) rfl (Hq [0, 1, 2, 3, 4, 5, 6, 7, 8] rfl) ?_; refine LM.q 5 rfl (by kernel_rfl) (Ev.fieldAddr rfl rfl rfl rfl rfl rfl (Src.r 0 rfl) (Nat.zero_lt_succ _) rfl) rfl (Hq [0, 1, 2, 3, 4, 5, 6, 7, 8] rfl) ?_; refine LM.q 6 rfl (by kernel_rfl) (Ev.loadA (vs := [.bool false, .int .i64 (m : Int), .int .i64 out, .slice OA ops.length oc]) rfl rfl rfl (Src.r 0 rfl) rfl rfl (by decide)) rfl (Hq [0, 1, 2, 3, 4, 5, 6, 7, 8] rfl) ?_; refine LM.f 7 rfl (by kernel_rfl) (Hq [0, 1, 2, 3, 4, 5, 6, 7, 8] rfl) ?_; refine L.call (js := []) (js' := [0, 1]) (apply_m A (inL data st lst S m) c m (inL_len _ _ _ _ _) false (m : Int) out ops OA oc hops rfl hE0 (by rw [inL_len])) rfl rfl rfl (by decide) ⟨((Has.take (Has.o 1 rfl) m).cast (by rw [U8_take, hcat])), (Has.r 6 rfl), trivial⟩ rfl ?_
           rw [hsy]
           rintro _ _ _ ⟨NA, nc, rfl, rfl, rfl⟩
           refine L.norm (H' := [_, _, _]) [0, 1, 2] ⟨rfl, rfl, rfl, trivial⟩ (by decide) ?_
           refine L.nil (QE.m (by kernel_rfl) ?_)
           refine LM.cut [] (by kernel_rfl) (Hq [0, 1, 2, 3, 4, 5, 6, 7, 8] rfl) ?_; refine LM.q 8 rfl (by kernel_rfl) (Ev.pure rfl) rfl trivial ?_; refine LM.q 9 rfl (by kernel_rfl) (Ev.pure rfl) rfl trivial ?_; refine LM.q 10 rfl (by kernel_rfl) (Ev.pure rfl) rfl trivial ?_; refine LM.f 11 rfl (by kernel_rfl) trivial ?_; refine Lpu rfl rfl ?_
           refine L.nil (QE.m (by kernel_rfl) ?_)
           refine LM.f 12 rfl (by kernel_rfl) trivial ?_; refine Lpu rfl rfl ?_
           refine L.nil (QE.m (by kernel_rfl) ?_)
           refine LM.nil (by kernel_rfl) trivial ?_; refine QE.seq (C.seq ?_)
           refine C.cap 0 rfl (fun hnc => ?_)
           refine C.regionM [Rd A6 [.int .i64 (S : Int), .int .i64 (n : Int), .bool false, .int .i64 (m : Int), .int .i64 out, .slice OA ops.length oc, .slice QA seq.length qc, .slice HA st.length hc], Rd A5 [.int .i64 (n : Int), j0, j1, s0, s1, gv, uv, .slice LA lst.length lc], Rd A4 [.int .i64 (S : Int), .slice DA data.length dc, wv, lv, ev], Rd DA (rowsV dhs (B8 data)), KidsR dhs (B8 data), Rd LA (I64 lst), Rd OA (opsV ops), Rd QA (I64 seq), Rd HA (I64 st)] (Hq [0, 1, 2, 3, 4, 5, 6, 7, 8] rfl) ?_; refine LM.q 0 rfl (by kernel_rfl) (Ev.pure rfl) rfl (Hq [0, 1, 2, 3, 4, 5, 6, 7, 8] rfl) ?_; refine LM.q 1 rfl (by kernel_rfl) (Ev.fieldAddr rfl rfl rfl rfl rfl rfl (Src.r 0 rfl) (Nat.zero_lt_succ _) rfl) rfl (Hq [0, 1, 2, 3, 4, 5, 6, 7, 8] rfl) ?_; refine LM.q 2 rfl (by kernel_rfl) (Ev.load rfl rfl rfl (Src.r 0 rfl) rfl) rfl (Hq [0, 1, 2, 3, 4, 5, 6, 7, 8] rfl) ?_; refine LM.q 3 rfl (by kernel_rfl) (Ev.pure rfl) rfl (Hq [0, 1, 2, 3, 4, 5, 6, 7, 8] rfl) ?_; refine LM.q 4 rfl (by kernel_rfl) (Ev.idx1 (k := kk) rfl rfl rfl rfl rfl rfl rfl (by omega) (Src.r 7 rfl) (by rw [I64_len]; omega)) rfl (Hq [0, 1, 2, 3, 4, 5, 6, 7, 8] rfl) ?_; refine LM.q 5 rfl (by kernel_rfl) (Ev.cast (u := .int .i64 (t : Int)) (Ev.load rfl rfl rfl (Src.r 7 rfl) (I64_get (by omega))) (congrArg (Value.int .i64) hst)) rfl (Hq [0, 1, 2, 3, 4, 5, 6, 7, 8] rfl) ?_; refine LM.f 6 rfl (by kernel_rfl) (Hq [0, 1, 2, 3, 4, 5, 6, 7, 8] rfl) ?_; refine L.step (Ev.fieldAddr rfl rfl rfl rfl rfl rfl (Src.r 0 rfl) (Nat.zero_lt_succ _) rfl) rfl ?_
           refine L.nil (QE.m (by kernel_rfl) ?_)
           refine LM.f 7 rfl (by kernel_rfl) (Hq [0, 1, 2, 3, 4, 5, 6, 7, 8] rfl) ?_; refine L.step (Ev.load rfl rfl rfl (Src.r 0 rfl) rfl) rfl ?_
           refine L.nil (QE.m (by kernel_rfl) ?_)
           refine LM.cut [] (by kernel_rfl) (Hq [0, 1, 2, 3, 4, 5, 6, 7, 8] rfl) ?_; refine LM.f 8 rfl (by kernel_rfl) trivial ?_; refine L.call (js := []) (js' := [0, 1, 2]) (contents_c NA (runB (inL data st lst S m) (symL ops)) nc t S (by omega) (by omega) (by omega) hS1 hS2 hnc) rfl rfl rfl (by decide) ⟨(Has.o 0 rfl), trivial⟩ rfl ?_
           rintro _ _ _ ⟨YA, rfl, rfl, rfl⟩
           refine L.norm (H' := [_, _, _, _]) [0, 1, 2, 3] ⟨rfl, rfl, rfl, rfl, trivial⟩ (by decide) ?_
           refine L.nil (QE.m (by kernel_rfl) ?_)
           refine LM.f 9 rfl (by kernel_rfl) trivial ?_; refine Lpu rfl rfl ?_
           refine L.nil (QE.m (by kernel_rfl) ?_)
           refine LM.f 10 rfl (by kernel_rfl) trivial ?_; refine Lpu rfl rfl ?_
           refine L.nil (QE.m (by kernel_rfl) ?_)
           refine LM.nil (by kernel_rfl) trivial ?_; refine QE.seq (C.ret ?_); refine QE.ret (js := []) (hs := [0]) (vs := [_, _]) rfl ⟨rfl, rfl, trivial⟩ (by decide) ?_
           have hE : cntE false (S : Int) (n : Int) (m : Int) out ops seq st data (S : Int) (n : Int) lst (kk : Int) = 0 := cntE_0 hvl (by omega) (by rw [Int.toNat_natCast]; exact hfit)
           have hV := cntV_ok hE
           have hL : cntL (S : Int) (m : Int) ops seq st data lst (kk : Int) = ctF (runB (inL data st lst S m) (symL ops)) t S := by unfold cntL; rw [Int.toNat_natCast, Int.toNat_natCast, Int.toNat_natCast, hst]; rfl
           have hLl := ctF_len (runB (inL data st lst S m) (symL ops)) t S
           rw [hE, hV, hL, hLl]
           exact ⟨YA, S, rfl, rfl, rfl⟩

end Go.Proofs.YtpccfdnmnnnboaaGreat
