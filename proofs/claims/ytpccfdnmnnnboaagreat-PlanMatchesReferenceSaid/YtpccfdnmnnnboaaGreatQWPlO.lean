/-
  Contracts with fixed results, and the contract of the plan laws' sanity.
-/
import Derived.Test.YtpccfdnmnnnboaaGreatQTh
section
namespace Go.Proofs.YtpccfdnmnnnboaaGreat
open Go.Sl

theorem make_k (BA : Option Addr) (ol bc : Nat) (sz n : Int) (lf : Bool) (inn out : Int) (ops : List Po) (OA : Option Addr) (oc : Nat) (hops : ops.length ≤ 9223372036854775807) (hol : ol ≤ 9223372036854775807) (q h : List Int) (ops' : List Po) (he : mkE lf inn out sz n ops ol = 0) (hp : mkP lf inn out sz n ops ol = ⟨sz, n, lf, inn, out, ops', q, h⟩) :
   Ctr X 12 [.slice BA ol bc, .agg (List.toArray [.bool lf, .int .i64 inn, .int .i64 out, .slice OA ops.length oc]), .int .i64 sz, .int .i64 n] [Rd OA (opsV ops)] [] (fun v R' H' => ∃ (O Q Hh : Option Addr) (c1 c2 c3 : Nat), v = .tuple #[.agg (List.toArray [.int .i64 sz, .int .i64 n, .bool lf, .int .i64 inn, .int .i64 out, .slice O ops'.length c1, .slice Q q.length c2, .slice Hh h.length c3]), .int .i64 0] ∧ R' = [Rd O (opsV ops'), Rd Q (I64 q), Rd Hh (I64 h)] ∧ H' = []) := by
 have := make_c BA ol bc sz n lf inn out ops OA oc hops hol
 rw [he, hp] at this
 exact this
theorem make_z (BA : Option Addr) (ol bc : Nat) (sz n : Int) (lf : Bool) (inn out : Int) (ops : List Po) (OA : Option Addr) (oc : Nat) (hops : ops.length ≤ 9223372036854775807) (hol : ol ≤ 9223372036854775807) (e : Int) (he : mkE lf inn out sz n ops ol = e) (h0 : e ≠ 0) :
   Ctr X 12 [.slice BA ol bc, .agg (List.toArray [.bool lf, .int .i64 inn, .int .i64 out, .slice OA ops.length oc]), .int .i64 sz, .int .i64 n] [Rd OA (opsV ops)] [] (fun v R' H' => ∃ (O Q Hh : Option Addr) (c1 c2 c3 : Nat), v = .tuple #[.agg (List.toArray [.int .i64 0, .int .i64 0, .bool false, .int .i64 0, .int .i64 0, .slice O 0 c1, .slice Q 0 c2, .slice Hh 0 c3]), .int .i64 e] ∧ R' = [Rd O [], Rd Q [], Rd Hh []] ∧ H' = []) := by
 have := make_c BA ol bc sz n lf inn out ops OA oc hops hol
 rw [mkP_z he h0, he] at this
 exact this
theorem needs_k (BA : Option Addr) (old : List UInt8) (bc : Nat) (sz n : Int) (lf : Bool) (inn out : Int) (ops : List Po) (seq st : List Int) (OA QA HA : Option Addr) (oc qc hc : Nat) (hops : ops.length ≤ 9223372036854775807) (hql : seq.length ≤ 1000000) (hhl : st.length ≤ 1000000) (hol : old.length ≤ 9223372036854775807) (hbc : old.length ≤ bc) (e s u r er o : Int) (he : needE lf sz n inn out ops seq st old = e) (hv : needV lf sz n inn out ops seq st old = ⟨s, u, r, er, o⟩) :
   Ctr X 15 [.slice BA old.length bc, .agg (List.toArray [.int .i64 sz, .int .i64 n, .bool lf, .int .i64 inn, .int .i64 out, .slice OA ops.length oc, .slice QA seq.length qc, .slice HA st.length hc])] [Rd BA (U8 old), Rd OA (opsV ops), Rd QA (I64 seq), Rd HA (I64 st)] [] (fun v R' H' => v = .tuple #[.agg (List.toArray [.int .i64 s, .int .i64 u, .int .i64 r, .int .i64 er, .int .i64 o]), .int .i64 e] ∧ R' = [] ∧ H' = []) := by
 have := needs_c BA old bc sz n lf inn out ops seq st OA QA HA oc qc hc hops hql hhl hol hbc
 rw [he, hv] at this
 exact this
theorem content_z (sz n : Int) (lf : Bool) (inn out : Int) (ops : List Po) (seq st : List Int) (OA QA HA : Option Addr) (oc qc hc : Nat) (hops : ops.length ≤ 9223372036854775807) (hql : seq.length ≤ 1000000) (hhl : st.length ≤ 1000000) (k e : Int) (he : cntE lf sz n inn out ops seq st [] 0 0 [] k = e) (h0 : e ≠ 0) :
   Ctr X 18 [.agg (List.toArray [.int .i64 0, .slice none 0 0, .slice none 0 0, .int .i64 0, .slice none 0 0]), .agg (List.toArray [.int .i64 0, .int .i64 0, .int .i64 0, .int .i64 0, .int .i64 0, .slice none 0 0, .slice none 0 0, .slice none 0 0]), .agg (List.toArray [.int .i64 sz, .int .i64 n, .bool lf, .int .i64 inn, .int .i64 out, .slice OA ops.length oc, .slice QA seq.length qc, .slice HA st.length hc]), .int .i64 k] [Rd none (rowsV [] (B8 [])), KidsR [] (B8 []), Rd none (I64 []), Rd OA (opsV ops), Rd QA (I64 seq), Rd HA (I64 st)] [] (fun v R' H' => ∃ (A : Option Addr) (c : Nat), v = .tuple #[.slice A 0 c, .int .i64 e] ∧ R' = [] ∧ H' = [Own 5 1 A 0 c []]) := by
 have := content_c 0 [] [] rfl none 0 (.slice none 0 0) (.int .i64 0) (.slice none 0 0) 0 [] none 0 (.int .i64 0) (.int .i64 0) (.int .i64 0) (.int .i64 0) (.slice none 0 0) (.slice none 0 0) sz n lf inn out ops seq st OA QA HA oc qc hc hops hql hhl k (by decide) (by decide) (fun i => by simp) (by decide)
 rw [cntV_no (by rw [he]; exact h0), he] at this
 exact this
theorem valid_k (sz n : Int) (lf : Bool) (inn out : Int) (ops : List Po) (seq st : List Int) (OA QA HA : Option Addr) (oc qc hc : Nat) (hops : ops.length ≤ 9223372036854775807) (hql : seq.length ≤ 1000000) (hhl : st.length ≤ 1000000) (b : Bool) (hb : vldB lf sz n inn out ops seq st = b) :
   Ctr X 21 [.agg (List.toArray [.int .i64 sz, .int .i64 n, .bool lf, .int .i64 inn, .int .i64 out, .slice OA ops.length oc, .slice QA seq.length qc, .slice HA st.length hc])] [Rd OA (opsV ops), Rd QA (I64 seq), Rd HA (I64 st)] [] (fun v R' H' => v = .bool b ∧ R' = [] ∧ H' = []) := by
 subst hb
 exact valid19_c sz n lf inn out ops seq st OA QA HA oc qc hc hops hql hhl

set_option maxHeartbeats 2000000 in
theorem sanity19_c  :
   Ctr X 10 [] [] [] (fun v R' H' => v = .bool true ∧ R' = [] ∧ H' = []) := by
 refine Ctr.of (X := X) (fn := Tryz.f10) Tryz.func10 rfl (by kernel_rfl) rfl ?_
 intro β
 refine C.seq (C.region ?_); refine Lpu rfl rfl ?_; refine L.nil (QE.seq (C.seq (C.region ?_)))
 refine L.lit rfl rfl rfl rfl rfl (by rfl) (by rfl) (by rfl) rfl rfl (fun A22 => ?_)
 refine Lpu rfl rfl ?_; refine L.nil (QE.seq (C.seq ?_)); refine C.freeze 0 rfl [] (by decide) (by decide) ?_; refine C.region ?_; refine Lpu rfl rfl ?_; refine L.callR (js := []) (js' := []) (halves_c) rfl rfl rfl (by decide) trivial rfl ?_
 rintro _ _ _ ⟨J1, rfl, rfl, rfl⟩
 refine L.callR (js := []) (js' := []) (make_k A22 4 4 2 2 false 4 4 hOps J1 2 (by decide) (by decide) [0, 1] [0] hOps h_mkE h_mkP) rfl rfl rfl (by decide) (Hq [0] rfl) rfl ?_
 rintro _ _ _ ⟨O1, Q1, H1, c1, d1, e1, rfl, rfl, rfl⟩
 refine Lpu rfl rfl ?_; refine Lpu rfl rfl ?_; refine Lpu rfl rfl ?_
 refine L.alloc rfl rfl rfl (fun A2 => ?_)
 refine L.storeA (vs := [.int .i64 2, .int .i64 2, .bool false, .int .i64 4, .int .i64 4, .slice O1 2 c1, .slice Q1 2 d1, .slice H1 1 e1]) (j := 0) rfl rfl rfl rfl rfl (Nat.zero_lt_succ _) rfl rfl ?_; refine Lpu rfl rfl ?_; refine L.nil (QE.seq (C.seq (C.region ?_))); refine Lpu rfl rfl ?_; refine L.step (Ev.loadA (vs := [.int .i64 2, .int .i64 2, .bool false, .int .i64 4, .int .i64 4, .slice O1 2 c1, .slice Q1 2 d1, .slice H1 1 e1]) rfl rfl rfl (Src.o 0 rfl) rfl rfl (by decide)) rfl ?_; refine L.call (js := []) (js' := [0]) (needs_k A22 hOld 4 2 2 false 4 4 hOps [0, 1] [0] O1 Q1 H1 c1 d1 e1 (by decide) (by decide) (by decide) (by decide) (by decide) 0 1 11 15 56 148 h_needE h_needV) rfl rfl rfl (by decide) (Hq [4, 0, 1, 2] rfl) rfl ?_
 rintro _ _ _ ⟨rfl, rfl, rfl⟩
 refine L.norm (H' := [_]) [0] ⟨rfl, trivial⟩ (by decide) ?_; refine Lpu rfl rfl ?_; refine Lpu rfl rfl ?_; refine Lpu rfl rfl ?_
 refine L.alloc rfl rfl rfl (fun A4 => ?_)
 refine L.storeA (vs := [.int .i64 1, .int .i64 11, .int .i64 15, .int .i64 56, .int .i64 148]) (j := 1) rfl rfl rfl rfl rfl (Nat.zero_lt_succ _) rfl rfl ?_; refine Lpu rfl rfl ?_; refine L.nil (QE.seq (C.seq (C.region ?_))); refine L.callR (js := []) (js' := [0, 1]) (halves_c) rfl rfl rfl (by decide) trivial rfl ?_
 rintro _ _ _ ⟨J2, rfl, rfl, rfl⟩
 refine L.norm (H' := [_, _]) [0, 1] ⟨rfl, rfl, trivial⟩ (by decide) ?_
 refine L.alloc rfl rfl rfl (fun A6 => ?_)
 refine L.storeA (vs := [.bool false, .int .i64 4, .int .i64 4, .slice J2 2 2]) (j := 2) rfl rfl rfl rfl rfl (Nat.zero_lt_succ _) rfl rfl ?_; refine L.nil (QE.seq (C.seq (C.region ?_))); refine L.step (Ev.fieldAddr rfl rfl rfl rfl rfl rfl (Src.o 2 rfl) (Nat.zero_lt_succ _) rfl) rfl ?_; refine L.store (j := 2) rfl rfl rfl rfl rfl rfl rfl rfl ?_; refine L.nil (QE.seq (C.seq (C.region ?_))); refine Lpu rfl rfl ?_; refine L.step (Ev.loadA (vs := [.bool true, .int .i64 4, .int .i64 4, .slice J2 2 2]) rfl rfl rfl (Src.o 2 rfl) rfl rfl (by decide)) rfl ?_; refine L.callR (js := []) (js' := [0, 1, 2]) (make_z A22 4 4 2 2 true 4 4 hOps J2 2 (by decide) (by decide) 62 h_mk1 (by decide)) rfl rfl rfl (by decide) (Hq [0] rfl) rfl ?_
 rintro _ _ _ ⟨O2, Q2, H2, c2, d2, e2, rfl, rfl, rfl⟩
 refine L.norm (H' := [_, _, _]) [0, 1, 2] ⟨rfl, rfl, rfl, trivial⟩ (by decide) ?_; refine Lpu rfl rfl ?_; refine Lpu rfl rfl ?_; refine Lpu rfl rfl ?_
 refine L.alloc rfl rfl rfl (fun A7 => ?_)
 refine L.storeA (j := 3) rfl rfl rfl rfl rfl (Nat.zero_lt_succ _) rfl rfl ?_; refine Lpu rfl rfl ?_; refine L.nil (QE.seq (C.seq (C.region ?_))); refine Lpu rfl rfl ?_; refine L.callR (js := []) (js' := [0, 1, 2, 3]) (halves_c) rfl rfl rfl (by decide) trivial rfl ?_
 rintro _ _ _ ⟨J3, rfl, rfl, rfl⟩
 refine L.norm (H' := [_, _, _, _]) [0, 1, 2, 3] ⟨rfl, rfl, rfl, rfl, trivial⟩ (by decide) ?_; refine L.callR (js := []) (js' := [0, 1, 2, 3]) (make_z A22 4 4 2 1 false 4 4 hOps J3 2 (by decide) (by decide) 190 h_mk2 (by decide)) rfl rfl rfl (by decide) (Hq [0] rfl) rfl ?_
 rintro _ _ _ ⟨O3, Q3, H3, c3, d3, e3, rfl, rfl, rfl⟩
 refine L.norm (H' := [_, _, _, _]) [0, 1, 2, 3] ⟨rfl, rfl, rfl, rfl, trivial⟩ (by decide) ?_; refine Lpu rfl rfl ?_; refine Lpu rfl rfl ?_; refine Lpu rfl rfl ?_
 refine L.alloc rfl rfl rfl (fun A9 => ?_)
 refine L.storeA (j := 4) rfl rfl rfl rfl rfl (Nat.zero_lt_succ _) rfl rfl ?_; refine Lpu rfl rfl ?_; refine L.nil (QE.seq (C.seq ?_)); refine C.join (fun q : Unit => [(1, .slice A22 4 4), (2, ptrOf A2 0), (3, .int .i64 0), (4, ptrOf A4 0), (5, .int .i64 0), (8, .int .i64 62), (10, .int .i64 190), (12, .int .i64 61)]) (fun q : Unit => [Rd A22 (U8 hOld), Rd O1 (opsV hOps), Rd Q1 (I64 [0, 1]), Rd H1 (I64 [0])]) (fun q : Unit => [Own 36 8 A2 1 1 [.int .i64 2, .int .i64 2, .bool false, .int .i64 4, .int .i64 4, .slice O1 2 c1, .slice Q1 2 d1, .slice H1 1 e1], Own 43 5 A4 1 1 [.int .i64 1, .int .i64 11, .int .i64 15, .int .i64 56, .int .i64 148]]) (fun q : Unit => True) ?_ ?_
 ·
  refine C.regionM [Rd O3 [], Rd Q3 [], Rd H3 [], Rd J3 (opsV hOps), Rd O2 [], Rd Q2 [], Rd H2 [], Rd J2 (opsV hOps), Rd O1 (opsV hOps), Rd Q1 (I64 [0, 1]), Rd H1 (I64 [0]), Rd J1 (opsV hOps), Rd A22 (U8 hOld)] (Hq [0, 1, 2, 3, 4, 5, 6, 7, 8, 9, 10, 11, 12] rfl) ?_; refine LM.q 0 rfl (by kernel_rfl) (Ev.pure rfl) rfl (Hq [0, 1, 2, 3, 4, 5, 6, 7, 8, 9, 10, 11, 12] rfl) ?_; refine LM.q 1 rfl (by kernel_rfl) (Ev.sliceH (h := 3) rfl rfl rfl rfl rfl rfl (by decide)) rfl (Hq [0, 1, 2, 3, 4, 5, 6, 7, 8, 9, 10, 11, 12] rfl) ?_
  refine LM.alt [2, 7] (by kernel_rfl) (by decide) (Hq [0, 1, 2, 3, 4, 5, 6, 7, 8, 9, 10, 11, 12] rfl) ⟨⟨_, rfl, ?_⟩, ⟨_, rfl, ?_⟩, trivial⟩
  ·
   refine L.callR (js := []) (js' := [0, 1, 2, 3, 4]) (halves_c) rfl rfl rfl (by decide) trivial rfl ?_
   rintro _ _ _ ⟨J4, rfl, rfl, rfl⟩
   refine L.norm (H' := [_, _, _, _, _]) [0, 1, 2, 3, 4] ⟨rfl, rfl, rfl, rfl, rfl, trivial⟩ (by decide) ?_
   refine L.nil (QE.m (by kernel_rfl) ?_)
   refine LM.alt [3, 7] (by kernel_rfl) (by decide) (Hq [1, 2, 3, 4, 5, 6, 7, 8, 9, 10, 11, 12, 13] rfl) ⟨⟨_, rfl, ?_⟩, ⟨_, rfl, ?_⟩, trivial⟩
   ·
    refine L.callR (js := []) (js' := [0, 1, 2, 3, 4]) (make_z A22 3 4 2 2 false 4 4 hOps J4 2 (by decide) (by decide) 61 h_mk3 (by decide)) rfl rfl rfl (by decide) (Hq [0] rfl) rfl ?_
    rintro _ _ _ ⟨O4, Q4, H4, c4, d4, e4, rfl, rfl, rfl⟩
    refine L.norm (H' := [_, _, _, _, _]) [0, 1, 2, 3, 4] ⟨rfl, rfl, rfl, rfl, rfl, trivial⟩ (by decide) ?_
    refine L.nil (QE.m (by kernel_rfl) ?_)
    refine LM.q 4 rfl (by kernel_rfl) (Ev.pure rfl) rfl (Hq [4, 5, 6, 7, 8, 9, 10, 11, 12, 13, 14, 15, 16] rfl) ?_; refine LM.q 5 rfl (by kernel_rfl) (Ev.pure rfl) rfl (Hq [4, 5, 6, 7, 8, 9, 10, 11, 12, 13, 14, 15, 16] rfl) ?_; refine LM.q 6 rfl (by kernel_rfl) (Ev.pure rfl) rfl (Hq [4, 5, 6, 7, 8, 9, 10, 11, 12, 13, 14, 15, 16] rfl) ?_; refine LM.f 7 rfl (by kernel_rfl) (Hq [4, 5, 6, 7, 8, 9, 10, 11, 12, 13, 14, 15, 16] rfl) ?_
    refine L.alloc rfl rfl rfl (fun A11 => ?_)
    refine L.nil (QE.m (by kernel_rfl) ?_)
    refine LM.f 8 rfl (by kernel_rfl) (Hq [4, 5, 6, 7, 8, 9, 10, 11, 12, 13, 14, 15, 16] rfl) ?_; refine L.storeA (j := 5) rfl rfl rfl rfl rfl (Nat.zero_lt_succ _) rfl rfl ?_
    refine L.nil (QE.m (by kernel_rfl) ?_)
    refine LM.cut [] (by kernel_rfl) (Hq [4, 5, 6, 7, 8, 9, 10, 11, 12, 13, 14, 15, 16] rfl) ?_; refine LM.f 9 rfl (by kernel_rfl) trivial ?_; refine Lpu rfl rfl ?_
    refine L.nil (QE.m (by kernel_rfl) ?_)
    refine LM.nil (by kernel_rfl) trivial ?_
    refine QE.joined (()) (by exact trivial) (by exact Le.mk' (rs := [16, 12, 13, 14]) (hs := [0, 1]) ⟨rfl, rfl, rfl, rfl, rfl, rfl, rfl, rfl, trivial⟩ ⟨rfl, rfl, rfl, rfl, trivial⟩ ⟨rfl, rfl, trivial⟩ (by decide))
   ·
    refine L.alloc rfl rfl rfl (fun A11 => ?_)
    refine L.nil (QE.m (by kernel_rfl) ?_)
    refine LM.f 3 rfl (by kernel_rfl) (Hq [1, 2, 3, 4, 5, 6, 7, 8, 9, 10, 11, 12, 13] rfl) ?_; refine L.callR (js := []) (js' := [0, 1, 2, 3, 4, 5]) (make_z A22 3 4 2 2 false 4 4 hOps J4 2 (by decide) (by decide) 61 h_mk3 (by decide)) rfl rfl rfl (by decide) (Hq [0] rfl) rfl ?_
    rintro _ _ _ ⟨O4, Q4, H4, c4, d4, e4, rfl, rfl, rfl⟩
    refine L.norm (H' := [_, _, _, _, _, _]) [0, 1, 2, 3, 4, 5] ⟨rfl, rfl, rfl, rfl, rfl, rfl, trivial⟩ (by decide) ?_
    refine L.nil (QE.m (by kernel_rfl) ?_)
    refine LM.q 4 rfl (by kernel_rfl) (Ev.pure rfl) rfl (Hq [4, 5, 6, 7, 8, 9, 10, 11, 12, 13, 14, 15, 16] rfl) ?_; refine LM.q 5 rfl (by kernel_rfl) (Ev.pure rfl) rfl (Hq [4, 5, 6, 7, 8, 9, 10, 11, 12, 13, 14, 15, 16] rfl) ?_; refine LM.q 6 rfl (by kernel_rfl) (Ev.pure rfl) rfl (Hq [4, 5, 6, 7, 8, 9, 10, 11, 12, 13, 14, 15, 16] rfl) ?_; refine LM.f 8 rfl (by kernel_rfl) (Hq [4, 5, 6, 7, 8, 9, 10, 11, 12, 13, 14, 15, 16] rfl) ?_; refine L.storeA (j := 5) rfl rfl rfl rfl rfl (Nat.zero_lt_succ _) rfl rfl ?_
    refine L.nil (QE.m (by kernel_rfl) ?_)
    refine LM.cut [] (by kernel_rfl) (Hq [4, 5, 6, 7, 8, 9, 10, 11, 12, 13, 14, 15, 16] rfl) ?_; refine LM.f 9 rfl (by kernel_rfl) trivial ?_; refine Lpu rfl rfl ?_
    refine L.nil (QE.m (by kernel_rfl) ?_)
    refine LM.nil (by kernel_rfl) trivial ?_
    refine QE.joined (()) (by exact trivial) (by exact Le.mk' (rs := [16, 12, 13, 14]) (hs := [0, 1]) ⟨rfl, rfl, rfl, rfl, rfl, rfl, rfl, rfl, trivial⟩ ⟨rfl, rfl, rfl, rfl, trivial⟩ ⟨rfl, rfl, trivial⟩ (by decide))
  ·
   refine L.alloc rfl rfl rfl (fun A11 => ?_)
   refine L.nil (QE.m (by kernel_rfl) ?_)
   refine LM.f 2 rfl (by kernel_rfl) (Hq [0, 1, 2, 3, 4, 5, 6, 7, 8, 9, 10, 11, 12] rfl) ?_; refine L.callR (js := []) (js' := [0, 1, 2, 3, 4, 5]) (halves_c) rfl rfl rfl (by decide) trivial rfl ?_
   rintro _ _ _ ⟨J4, rfl, rfl, rfl⟩
   refine L.norm (H' := [_, _, _, _, _, _]) [0, 1, 2, 3, 4, 5] ⟨rfl, rfl, rfl, rfl, rfl, rfl, trivial⟩ (by decide) ?_
   refine L.nil (QE.m (by kernel_rfl) ?_)
   refine LM.f 3 rfl (by kernel_rfl) (Hq [1, 2, 3, 4, 5, 6, 7, 8, 9, 10, 11, 12, 13] rfl) ?_; refine L.callR (js := []) (js' := [0, 1, 2, 3, 4, 5]) (make_z A22 3 4 2 2 false 4 4 hOps J4 2 (by decide) (by decide) 61 h_mk3 (by decide)) rfl rfl rfl (by decide) (Hq [0] rfl) rfl ?_
   rintro _ _ _ ⟨O4, Q4, H4, c4, d4, e4, rfl, rfl, rfl⟩
   refine L.norm (H' := [_, _, _, _, _, _]) [0, 1, 2, 3, 4, 5] ⟨rfl, rfl, rfl, rfl, rfl, rfl, trivial⟩ (by decide) ?_
   refine L.nil (QE.m (by kernel_rfl) ?_)
   refine LM.q 4 rfl (by kernel_rfl) (Ev.pure rfl) rfl (Hq [4, 5, 6, 7, 8, 9, 10, 11, 12, 13, 14, 15, 16] rfl) ?_; refine LM.q 5 rfl (by kernel_rfl) (Ev.pure rfl) rfl (Hq [4, 5, 6, 7, 8, 9, 10, 11, 12, 13, 14, 15, 16] rfl) ?_; refine LM.q 6 rfl (by kernel_rfl) (Ev.pure rfl) rfl (Hq [4, 5, 6, 7, 8, 9, 10, 11, 12, 13, 14, 15, 16] rfl) ?_; refine LM.f 8 rfl (by kernel_rfl) (Hq [4, 5, 6, 7, 8, 9, 10, 11, 12, 13, 14, 15, 16] rfl) ?_; refine L.storeA (j := 5) rfl rfl rfl rfl rfl (Nat.zero_lt_succ _) rfl rfl ?_
   refine L.nil (QE.m (by kernel_rfl) ?_)
   refine LM.cut [] (by kernel_rfl) (Hq [4, 5, 6, 7, 8, 9, 10, 11, 12, 13, 14, 15, 16] rfl) ?_; refine LM.f 9 rfl (by kernel_rfl) trivial ?_; refine Lpu rfl rfl ?_
   refine L.nil (QE.m (by kernel_rfl) ?_)
   refine LM.nil (by kernel_rfl) trivial ?_
   refine QE.joined (()) (by exact trivial) (by exact Le.mk' (rs := [16, 12, 13, 14]) (hs := [0, 1]) ⟨rfl, rfl, rfl, rfl, rfl, rfl, rfl, rfl, trivial⟩ ⟨rfl, rfl, rfl, rfl, trivial⟩ ⟨rfl, rfl, trivial⟩ (by decide))
 ·
  intro q _
  refine QE.seq (C.seq (C.region ?_)); refine Lpu rfl rfl ?_; refine L.step (Ev.build rfl rfl rfl rfl rfl rfl rfl) rfl ?_; refine L.callR (js := []) (js' := [0, 1]) (make_z A22 4 4 2 2 false 4 1 [] none 0 (by decide) (by decide) 60 h_mk4 (by decide)) rfl rfl rfl (by decide) ⟨Has.nil, trivial⟩ rfl ?_
  rintro _ _ _ ⟨O5, Q5, H5, c5, d5, e5, rfl, rfl, rfl⟩
  refine L.norm (H' := [_, _]) [0, 1] ⟨rfl, rfl, trivial⟩ (by decide) ?_; refine Lpu rfl rfl ?_; refine Lpu rfl rfl ?_; refine Lpu rfl rfl ?_
  refine L.alloc rfl rfl rfl (fun A13 => ?_)
  refine L.storeA (j := 2) rfl rfl rfl rfl rfl (Nat.zero_lt_succ _) rfl rfl ?_; refine Lpu rfl rfl ?_; refine L.nil (QE.seq (C.seq (C.region ?_))); refine Lpu rfl rfl ?_; refine L.step (Ev.build rfl rfl rfl rfl rfl rfl rfl) rfl ?_; refine L.call (js := []) (js' := [0, 1, 2]) (needs_k A22 hOld 4 0 0 false 0 0 [] [] [] none none none 0 0 0 (by decide) (by decide) (by decide) (by decide) (by decide) 190 0 0 0 0 0 h_needz (needV_no (by rw [h_needz]; decide))) rfl rfl rfl (by decide) ⟨(Has.r 3 rfl), Has.nil, Has.nil, Has.nil, trivial⟩ rfl ?_
  rintro _ _ _ ⟨rfl, rfl, rfl⟩
  refine L.norm (H' := [_, _, _]) [0, 1, 2] ⟨rfl, rfl, rfl, trivial⟩ (by decide) ?_; refine Lpu rfl rfl ?_; refine Lpu rfl rfl ?_; refine Lpu rfl rfl ?_
  refine L.alloc rfl rfl rfl (fun A15 => ?_)
  refine L.storeA (j := 3) rfl rfl rfl rfl rfl (Nat.zero_lt_succ _) rfl rfl ?_; refine Lpu rfl rfl ?_; refine L.nil (QE.seq (C.seq (C.region ?_))); refine L.step (Ev.build rfl rfl rfl rfl rfl rfl rfl) rfl ?_; refine L.step (Ev.build rfl rfl rfl rfl rfl rfl rfl) rfl ?_; refine L.step (Ev.loadA (vs := [.int .i64 2, .int .i64 2, .bool false, .int .i64 4, .int .i64 4, .slice O1 2 c1, .slice Q1 2 d1, .slice H1 1 e1]) rfl rfl rfl (Src.o 0 rfl) rfl rfl (by decide)) rfl ?_; refine L.call (js := []) (js' := [0, 1, 2, 3]) (content_z 2 2 false 4 4 hOps [0, 1] [0] O1 Q1 H1 c1 d1 e1 (by decide) (by decide) (by decide) 2 1 h_cnt1 (by decide)) rfl rfl rfl (by decide) ⟨Has.nil, Has.kids0, Has.nil, (Has.r 4 rfl), (Has.r 5 rfl), (Has.r 6 rfl), trivial⟩ rfl ?_
  rintro _ _ _ ⟨Y2, y2, rfl, rfl, rfl⟩
  refine L.norm (H' := [_, _, _, _, _]) [0, 1, 2, 3, 4] ⟨rfl, rfl, rfl, rfl, rfl, trivial⟩ (by decide) ?_; refine Lpu rfl rfl ?_; refine Lpu rfl rfl ?_; refine Lpu rfl rfl ?_; refine Lpu rfl rfl ?_; refine Lpu rfl rfl ?_; refine L.nil (QE.seq (C.seq (C.region ?_))); refine L.step (Ev.build rfl rfl rfl rfl rfl rfl rfl) rfl ?_; refine L.step (Ev.build rfl rfl rfl rfl rfl rfl rfl) rfl ?_; refine L.step (Ev.loadA (vs := [.int .i64 2, .int .i64 2, .bool false, .int .i64 4, .int .i64 4, .slice O1 2 c1, .slice Q1 2 d1, .slice H1 1 e1]) rfl rfl rfl (Src.o 1 rfl) rfl rfl (by decide)) rfl ?_; refine L.call (js := []) (js' := [0, 1, 2, 3, 4]) (content_z 2 2 false 4 4 hOps [0, 1] [0] O1 Q1 H1 c1 d1 e1 (by decide) (by decide) (by decide) 0 220 h_cnt2 (by decide)) rfl rfl rfl (by decide) ⟨Has.nil, Has.kids0, Has.nil, (Has.r 4 rfl), (Has.r 5 rfl), (Has.r 6 rfl), trivial⟩ rfl ?_
  rintro _ _ _ ⟨Y0, y0, rfl, rfl, rfl⟩
  refine L.norm (H' := [_, _, _, _, _, _]) [0, 1, 2, 3, 4, 5] ⟨rfl, rfl, rfl, rfl, rfl, rfl, trivial⟩ (by decide) ?_; refine Lpu rfl rfl ?_; refine Lpu rfl rfl ?_; refine Lpu rfl rfl ?_; refine Lpu rfl rfl ?_; refine Lpu rfl rfl ?_; refine L.nil (QE.seq (C.seq (C.region ?_))); refine Lpu rfl rfl ?_; refine Lpu rfl rfl ?_; refine Lpu rfl rfl ?_
  refine L.bool 84 rfl (fun hg84 => ?_) (fun hg84 => ?_)
  ·
   replace hg84 := i_eq hg84
   refine L.yes rfl ?_; refine Lpu rfl rfl ?_; refine L.yes rfl ?_; refine Lpu rfl rfl ?_; refine Lpu rfl rfl ?_; refine Lpu rfl rfl ?_
   refine L.bool 88 rfl (fun hg88 => ?_) (fun hg88 => ?_)
   ·
    replace hg88 := i_eq hg88
    refine L.yes rfl ?_; refine Lpu rfl rfl ?_; refine L.yes rfl ?_; refine Lpu rfl rfl ?_; refine Lpu rfl rfl ?_; refine Lpu rfl rfl ?_
    refine L.bool 92 rfl (fun hg92 => ?_) (fun hg92 => ?_)
    ·
     replace hg92 := i_eq hg92
     refine L.yes rfl ?_; refine Lpu rfl rfl ?_; refine L.yes rfl ?_; refine Lpu rfl rfl ?_; refine Lpu rfl rfl ?_; refine Lpu rfl rfl ?_
     refine L.bool 96 rfl (fun hg96 => ?_) (fun hg96 => ?_)
     ·
      replace hg96 := i_eq hg96
      refine L.yes rfl ?_; refine Lpu rfl rfl ?_; refine L.yes rfl ?_; refine Lpu rfl rfl ?_; refine Lpu rfl rfl ?_; refine Lpu rfl rfl ?_
      refine L.bool 100 rfl (fun hg100 => ?_) (fun hg100 => ?_)
      ·
       replace hg100 := i_eq hg100
       refine L.yes rfl ?_; refine Lpu rfl rfl ?_; refine L.yes rfl ?_; refine Lpu rfl rfl ?_; refine Lpu rfl rfl ?_; refine Lpu rfl rfl ?_
       refine L.bool 104 rfl (fun hg104 => ?_) (fun hg104 => ?_)
       ·
        replace hg104 := i_eq hg104
        refine L.yes rfl ?_; refine Lpu rfl rfl ?_; refine L.yes rfl ?_; refine Lpu rfl rfl ?_; refine Lpu rfl rfl ?_; refine Lpu rfl rfl ?_
        refine L.bool 108 rfl (fun hg108 => ?_) (fun hg108 => ?_)
        ·
         replace hg108 := i_eq hg108
         refine L.yes rfl ?_; refine Lpu rfl rfl ?_; refine L.yes rfl ?_; refine Lpu rfl rfl ?_; refine Lpu rfl rfl ?_; refine Lpu rfl rfl ?_
         refine L.bool 112 rfl (fun hg112 => ?_) (fun hg112 => ?_)
         ·
          replace hg112 := i_eq hg112
          refine L.yes rfl ?_; refine Lpu rfl rfl ?_; refine L.yes rfl ?_; refine Lpu rfl rfl ?_; refine Lpu rfl rfl ?_; refine Lpu rfl rfl ?_; refine L.nil (QE.seq (C.seq (C.region ?_))); refine Lpu rfl rfl ?_; refine Lpu rfl rfl ?_
          refine L.bool 117 rfl (fun hg117 => ?_) (fun hg117 => ?_)
          ·
           replace hg117 := i_eq hg117
           refine L.yes rfl ?_; refine L.step (Ev.fieldAddr rfl rfl rfl rfl rfl rfl (Src.o 2 rfl) (Nat.zero_lt_succ _) rfl) rfl ?_; refine L.yes rfl ?_; refine L.step (Ev.load rfl rfl rfl (Src.o 2 rfl) rfl) rfl ?_; refine L.yes rfl ?_
           refine L.lit rfl rfl rfl rfl rfl (by rfl) (by rfl) (by rfl) rfl rfl (fun A120 => ?_)
           refine L.yes rfl ?_; refine L.freeze 6 rfl [0, 1, 2, 3, 4, 5] (by decide) (by decide) ?_; refine L.norm (H' := [_, _, _, _, _, _]) [0, 1, 2, 3, 4, 5] ⟨rfl, rfl, rfl, rfl, rfl, rfl, trivial⟩ (by decide) ?_; refine L.call (js := []) (js' := [0, 1, 2, 3, 4, 5]) (Ctr.tb true (ints_c Q1 [0, 1] d1 A120 [0, 1] 2 (by decide) (by decide)) (by decide)) rfl rfl rfl (by decide) (Hq [6, 0] rfl) rfl ?_
           rintro _ _ _ ⟨rfl, rfl, rfl⟩
           refine L.norm (H' := [_, _, _, _, _, _]) [0, 1, 2, 3, 4, 5] ⟨rfl, rfl, rfl, rfl, rfl, rfl, trivial⟩ (by decide) ?_; refine Lpu rfl rfl ?_; refine Lpu rfl rfl ?_; refine L.yes rfl ?_; refine L.step (Ev.fieldAddr rfl rfl rfl rfl rfl rfl (Src.o 2 rfl) (Nat.zero_lt_succ _) rfl) rfl ?_; refine L.yes rfl ?_; refine L.step (Ev.load rfl rfl rfl (Src.o 2 rfl) rfl) rfl ?_; refine L.yes rfl ?_
           refine L.lit rfl rfl rfl rfl rfl (by rfl) (by rfl) (by rfl) rfl rfl (fun A126 => ?_)
           refine L.yes rfl ?_; refine L.freeze 6 rfl [0, 1, 2, 3, 4, 5] (by decide) (by decide) ?_; refine L.norm (H' := [_, _, _, _, _, _]) [0, 1, 2, 3, 4, 5] ⟨rfl, rfl, rfl, rfl, rfl, rfl, trivial⟩ (by decide) ?_; refine L.call (js := []) (js' := [0, 1, 2, 3, 4, 5]) (Ctr.tb true (ints_c H1 [0] e1 A126 [0] 1 (by decide) (by decide)) (by decide)) rfl rfl rfl (by decide) (Hq [8, 0] rfl) rfl ?_
           rintro _ _ _ ⟨rfl, rfl, rfl⟩
           refine L.norm (H' := [_, _, _, _, _, _]) [0, 1, 2, 3, 4, 5] ⟨rfl, rfl, rfl, rfl, rfl, rfl, trivial⟩ (by decide) ?_; refine Lpu rfl rfl ?_; refine Lpu rfl rfl ?_; refine L.yes rfl ?_; refine L.step (Ev.loadA (vs := [.int .i64 1, .int .i64 11, .int .i64 15, .int .i64 56, .int .i64 148]) rfl rfl rfl (Src.o 3 rfl) rfl rfl (by decide)) rfl ?_; refine L.yes rfl ?_; refine L.step (Ev.build rfl rfl rfl rfl rfl rfl rfl) rfl ?_; refine L.yes rfl ?_; refine L.step (Ev.cast (u := .bool true) (Ev.eqS (xs := [1, 11, 15, 56, 148]) (ys := [1, 11, 15, 56, 148]) rfl rfl (by kernel_rfl) (by kernel_rfl) (by kernel_rfl) rfl rfl rfl rfl) rfl) rfl ?_; refine Lpu rfl rfl ?_; refine Lpu rfl rfl ?_
           refine L.bool 134 rfl (fun hg134 => ?_) (fun hg134 => ?_)
           ·
            refine L.yes rfl ?_; refine L.step (Ev.loadA (vs := [.int .i64 2, .int .i64 2, .bool false, .int .i64 4, .int .i64 4, .slice O1 2 c1, .slice Q1 2 d1, .slice H1 1 e1]) rfl rfl rfl (Src.o 2 rfl) rfl rfl (by decide)) rfl ?_; refine L.yes rfl ?_; refine L.call (js := []) (js' := [0, 1, 2, 3, 4, 5]) (valid_k 2 2 false 4 4 hOps [0, 1] [0] O1 Q1 H1 c1 d1 e1 (by decide) (by decide) (by decide) true h_val) rfl rfl rfl (by decide) (Hq [6, 7, 8] rfl) rfl ?_
            rintro _ _ _ ⟨rfl, rfl, rfl⟩
            refine L.norm (H' := [_, _, _, _, _, _]) [0, 1, 2, 3, 4, 5] ⟨rfl, rfl, rfl, rfl, rfl, rfl, trivial⟩ (by decide) ?_; refine Lpu rfl rfl ?_; refine Lpu rfl rfl ?_; refine L.yes rfl ?_; refine L.step (Ev.build rfl rfl rfl rfl rfl rfl rfl) rfl ?_; refine L.yes rfl ?_; refine L.call (js := []) (js' := [0, 1, 2, 3, 4, 5]) (valid_k 0 0 false 0 0 [] [] [] none none none 0 0 0 (by decide) (by decide) (by decide) false h_valz) rfl rfl rfl (by decide) ⟨Has.nil, Has.nil, Has.nil, trivial⟩ rfl ?_
            rintro _ _ _ ⟨rfl, rfl, rfl⟩
            refine L.norm (H' := [_, _, _, _, _, _]) [0, 1, 2, 3, 4, 5] ⟨rfl, rfl, rfl, rfl, rfl, rfl, trivial⟩ (by decide) ?_; refine L.yes rfl ?_; refine Lpu rfl rfl ?_; refine Lpu rfl rfl ?_; refine Lpu rfl rfl ?_; refine L.nil (QE.seq (C.ret ?_)); refine QE.ret (js := []) (hs := []) (vs := [_]) rfl ⟨rfl, trivial⟩ (by decide) ?_
            exact ⟨rfl, rfl, rfl⟩
           ·
            cases hg134
          ·
           replace hg117 := i_ne hg117
           exact absurd rfl hg117
         ·
          replace hg112 := i_ne hg112
          exact absurd rfl hg112
        ·
         replace hg108 := i_ne hg108
         exact absurd rfl hg108
       ·
        replace hg104 := i_ne hg104
        exact absurd rfl hg104
      ·
       replace hg100 := i_ne hg100
       exact absurd rfl hg100
     ·
      replace hg96 := i_ne hg96
      exact absurd rfl hg96
    ·
     replace hg92 := i_ne hg92
     exact absurd rfl hg92
   ·
    replace hg88 := i_ne hg88
    exact absurd rfl hg88
  ·
   replace hg84 := i_ne hg84
   exact absurd rfl hg84

end Go.Proofs.YtpccfdnmnnnboaaGreat
end
/-
  What a plan that is made is, as plain data.
-/
section
namespace Go.Sl

theorem getD_mem {l : List Nat} {i : Nat} (h : i < l.length) : l.getD i 0 ∈ l := by
 rw [List.getD_eq_getElem?_getD, List.getElem?_eq_getElem h]
 exact List.getElem_mem h
section
variable {l : List Sy} {inn : Int} {S n : Nat}
/-- The readings among the sectors that change. -/
def amoM (l : List Sy) (inn : Int) (S n : Nat) : List (List Int) := amoL (chgL l inn S n) (rdsL l inn S n n) (chgL l inn S n).length
/-- The order of a plan, and its stash. -/
def mkQ (l : List Sy) (inn : Int) (S n : Nat) : List Nat := namL (chgL l inn S n) (ordQ (amoM l inn S n))
def mkH (l : List Sy) (inn : Int) (S n : Nat) : List Nat := namL (chgL l inn S n) (ordH (amoM l inn S n))
theorem mk_set (h16 : (chgL l inn S n).length ≤ 16) : ∃ s, ordH (amoM l inn S n) = mem s (chgL l inn S n).length ∧ (∀ t, t < (chgL l inn S n).length → ((ordH (amoM l inn S n)).contains t = s.testBit t)) ∧ ordQ (amoM l inn S n) = frs (chgL l inn S n).length (rdP (amoM l inn S n)) s.testBit (chgL l inn S n).length ∧ (ordQ (amoM l inn S n)).length = (chgL l inn S n).length := by
 have hlen : (amoM l inn S n).length = (chgL l inn S n).length := amoL_len _ _ _
 obtain ⟨s, h1, h2, h3, h4, _⟩ := ord16 (ls := amoM l inn S n) amo_ok (by rw [hlen]; exact h16)
 rw [hlen] at h1 h3 h4
 have hb : 2 ^ (chgL l inn S n).length ≤ 2 ^ 16 := Nat.pow_le_pow_right (by decide) h16
 have h16' : (2 : Nat) ^ 16 = 65536 := by decide
 refine ⟨s, by rw [h2, mem64 (by omega) h1], fun t ht => ?_, h3, by rw [h3]; exact full_iff.1 h4⟩
 rw [h2, mem_has (by omega)]
theorem mkQ_len (h16 : (chgL l inn S n).length ≤ 16) : (mkQ l inn S n).length = (chgL l inn S n).length := by
 obtain ⟨s, _, _, _, h⟩ := mk_set h16
 unfold mkQ
 rw [namL_len, h]
theorem mkH_len (h16 : (chgL l inn S n).length ≤ 16) : (mkH l inn S n).length ≤ (chgL l inn S n).length := by
 obtain ⟨s, h1, _⟩ := mk_set h16
 unfold mkH
 rw [namL_len, h1]
 exact mem_len _ _
end
section
variable {lf : Bool} {inn out sz n : Int} {ops : List Po} {ol : Nat}
theorem mkE_ok (h : mkE lf inn out sz n ops ol = 0) : chkE inn out ops = 0 ∧ lf = false ∧ sizB sz n inn out = true ∧ (ol : Int) = inn ∧ (chgL (symL ops) inn sz.toNat n.toNat).length ≤ 16 := by
 unfold mkE at h
 split at h
 · omega
 · rename_i h1
   split at h
   · omega
   · rename_i h2
     split at h
     · omega
     · rename_i h3
       split at h
       · omega
       · rename_i h4
         split at h
         · omega
         · rename_i h5
           refine ⟨by omega, by simpa using h2, by simpa using h3, by omega, by omega⟩
theorem mkP_is (h : mkE lf inn out sz n ops ol = 0) : mkP lf inn out sz n ops ol = ⟨sz, n, lf, inn, out, ops, NI (mkQ (symL ops) inn sz.toNat n.toNat), NI (mkH (symL ops) inn sz.toNat n.toNat)⟩ := mkP_ok h
theorem mkP_len : (mkP lf inn out sz n ops ol).ops.length ≤ ops.length ∧ (mkP lf inn out sz n ops ol).q.length ≤ 16 ∧ (mkP lf inn out sz n ops ol).h.length ≤ 16 := by
 by_cases h : mkE lf inn out sz n ops ol = 0
 · have h5 := (mkE_ok h).2.2.2.2
   rw [mkP_is h]
   refine ⟨Nat.le_refl _, ?_, ?_⟩
   · rw [NI_len, mkQ_len h5]; exact h5
   · rw [NI_len]; exact Nat.le_trans (mkH_len h5) h5
 · rw [mkP_no h]
   exact ⟨Nat.zero_le _, by decide, by decide⟩
end
end Go.Sl
end
