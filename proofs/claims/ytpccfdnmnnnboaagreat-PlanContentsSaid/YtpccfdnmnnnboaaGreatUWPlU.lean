/-
  The contract of the law PlanWrites.
-/
import Derived.Test.YtpccfdnmnnnboaaGreatUTk
namespace Go.Proofs.YtpccfdnmnnnboaaGreat
open Go.Sl

theorem rows8_put {hs : List Hd} {ls : List (List UInt8)} {A : Option Addr} {c i : Nat} {x : List UInt8} (h : hs.length = ls.length) : (rowsV hs (B8 ls)).set i (.slice A x.length c) = rowsV (hs.set i (A, c)) (B8 (ls.set i x)) := by
 unfold rowsV B8
 refine List.ext_getElem? fun k => ?_
 rw [List.getElem?_set, List.length_zipWith, List.length_map, h, Nat.min_self, List.getElem?_zipWith, List.getElem?_zipWith, List.map_set, List.getElem?_set, List.getElem?_set, List.length_map, h]
 by_cases e : i = k
 · subst e
   rw [if_pos rfl, if_pos rfl, if_pos rfl]
   split
   · simp [U8_len]
   · rfl
 · rw [if_neg e, if_neg e, if_neg e]
theorem Has.kidsSet {R H : List Pr} {hs : List Hd} {vss : List (List Value)} {A : Option Addr} {xs : List Value} (h : Has R H (KidsR hs vss)) (hr : Has R H (Rd A xs)) (c q : Nat) : Has R H (KidsR (hs.set q (A, c)) (vss.set q xs)) := by
 have old : ∀ (i : Nat) (d : Hd) (v : List Value), (hs.set q (A, c))[i]? = some d → (vss.set q xs)[i]? = some v → (hs[i]? = some d ∧ vss[i]? = some v) ∨ (d = (A, c) ∧ v = xs) := by
   intro i d v h1 h2
   rw [List.getElem?_set] at h1 h2
   by_cases e : q = i
   · rw [if_pos e] at h1 h2
     split at h1
     · split at h2
       · exact .inr ⟨(Option.some.inj h1).symm, (Option.some.inj h2).symm⟩
       · cases h2
     · cases h1
   · rw [if_neg e] at h1 h2
     exact .inl ⟨h1, h2⟩
 refine ⟨fun β w hw i d v h1 h2 => ?_, fun k ⟨i, d, v, h1, h2, h3⟩ => ?_⟩
 · rcases old i d v h1 h2 with ⟨a, b⟩ | ⟨rfl, rfl⟩
   · exact h.1 β w hw i d v a b
   · exact hr.1 β w hw
 · rcases old i d v h1 h2 with ⟨a, b⟩ | ⟨rfl, rfl⟩
   · exact h.2 k ⟨i, d, v, a, b, h3⟩
   · exact hr.2 k h3
theorem wrK_rows (a z : UInt8) (l : List T3) (b : List UInt8) (k : Nat) : ∀ i, ((wrK a z l b k).getD i []).length ≤ 9223372036854775807 := by
 intro i
 by_cases h : i < (wrK a z l b k).length
 · rw [wrK_row a z l b k i h]
   have := mdS_le z
   omega
 · rw [getD_ge (by omega)]
   exact Nat.zero_le _
theorem content_w (a z : UInt8) (l : List T3) (b : List UInt8) (k i : Nat) (hs : List Hd) (hh : hs.length = (mdW a z l + (6 + (mdH a z l).length))) (DA : Option Addr) (dc : Nat) (wv lv ev : Value) (LA : Option Addr) (lc : Nat) (gv uv : Value) (OA QA HA : Option Addr) (oc qc hc : Nat) (hi : i < (mdQ a z l).length) (hlc : (mdH a z l).length ≤ lc) :
   Ctr X 18 [.agg (List.toArray [.int .i64 ((mdS z : Nat) : Int), .slice DA (mdW a z l + (6 + (mdH a z l).length)) dc, wv, lv, ev]), .agg (List.toArray [.int .i64 ((mdW a z l : Nat) : Int), .int .i64 ((mdW a z l : Nat) : Int), .int .i64 (((mdW a z l : Nat) : Int) + 1), .int .i64 (((mdW a z l : Nat) : Int) + 2), .int .i64 (((mdW a z l : Nat) : Int) + 3), gv, uv, .slice LA (mdH a z l).length lc]), .agg (List.toArray [.int .i64 ((mdS z : Nat) : Int), .int .i64 ((mdW a z l : Nat) : Int), .bool false, .int .i64 ((mdI a : Nat) : Int), .int .i64 (((mdK a l).2 : Nat) : Int), .slice OA (mdK a l).1.length oc, .slice QA (mdQ a z l).length qc, .slice HA (mdH a z l).length hc]), .int .i64 (i : Int)] [Rd DA (rowsV hs (B8 (wrK a z l b k))), KidsR hs (B8 (wrK a z l b k)), Rd LA (I64 (upI (mdW a z l + 4 + 1 + 1) (mdH a z l).length)), Rd OA (opsV (mdK a l).1), Rd QA (I64 (mdQ a z l)), Rd HA (I64 (mdH a z l))] [] (fun v R' H' => ∃ (A : Option Addr) (c : Nat), v = .tuple #[.slice A (mdS z) c, .int .i64 0] ∧ R' = [] ∧ H' = [Own 5 1 A (mdS z) c (U8 (ctF (runB (inL (wrK a z l b k) (mdH a z l) (upI (mdW a z l + 4 + 1 + 1) (mdH a z l).length) (mdS z) (mdI a)) (symL (mdK a l).1)) ((mdQ a z l).getD i 0).toNat (mdS z)))]) := by
 have := content_m 18 (by decide) ((mdS z : Nat) : Int) (wrK a z l b k) hs (by rw [wrK_len]; exact hh) DA dc (mdW a z l + (6 + (mdH a z l).length)) (wrK_len a z l b k) wv lv ev ((mdW a z l : Nat) : Int) (upI (mdW a z l + 4 + 1 + 1) (mdH a z l).length) LA lc (mdH a z l).length (upI_len _ _) (.int .i64 ((mdW a z l : Nat) : Int)) (.int .i64 (((mdW a z l : Nat) : Int) + 1)) (.int .i64 (((mdW a z l : Nat) : Int) + 2)) (.int .i64 (((mdW a z l : Nat) : Int) + 3)) gv uv ((mdS z : Nat) : Int) ((mdW a z l : Nat) : Int) false ((mdI a : Nat) : Int) (((mdK a l).2 : Nat) : Int) (mdK a l).1 (mdQ a z l) (mdH a z l) OA QA HA oc (mdQ a z l).length qc (mdH a z l).length hc rfl rfl (by have := mdK_ops a l; omega) (by have := mdQ_len a z l; omega) (by have := mdH_len a z l; omega) (i : Int) (by rw [(upI_len _ _)]; have := mdH_len a z l; omega) (by rw [wrK_len]; have := mdH_len a z l; have := mdW_le a z l; omega) (wrK_rows a z l b k) (by rw [upI_len]; exact hlc)
 rw [(wrK_cnt a z l b hi).1, (wrK_cnt a z l b hi).2, ctF_len] at this
 exact this
theorem content_e (a z : UInt8) (l : List T3) (b : List UInt8) (k i : Nat) (hs : List Hd) (hh : hs.length = (mdW a z l + (6 + (mdH a z l).length))) (DA : Option Addr) (dc : Nat) (wv lv ev : Value) (LA : Option Addr) (lc : Nat) (gv uv : Value) (OA QA HA : Option Addr) (oc qc hc : Nat) (fs ls : Int) (lst : List Int) (ll : Nat) (hll : lst.length = ll) (hl16 : ll ≤ (mdH a z l).length) (hlc : ll ≤ lc) (hi : i < (mdQ a z l).length) (hf : fitB (wrK a z l b k) fs ls ((mdS z : Nat) : Int) (mdW a z l) (mdH a z l) lst = false) :
   Ctr X 18 [.agg (List.toArray [.int .i64 fs, .slice DA (mdW a z l + (6 + (mdH a z l).length)) dc, wv, lv, ev]), .agg (List.toArray [.int .i64 ls, .int .i64 ((mdW a z l : Nat) : Int), .int .i64 (((mdW a z l : Nat) : Int) + 1), .int .i64 (((mdW a z l : Nat) : Int) + 2), .int .i64 (((mdW a z l : Nat) : Int) + 3), gv, uv, .slice LA ll lc]), .agg (List.toArray [.int .i64 ((mdS z : Nat) : Int), .int .i64 ((mdW a z l : Nat) : Int), .bool false, .int .i64 ((mdI a : Nat) : Int), .int .i64 (((mdK a l).2 : Nat) : Int), .slice OA (mdK a l).1.length oc, .slice QA (mdQ a z l).length qc, .slice HA (mdH a z l).length hc]), .int .i64 (i : Int)] [Rd DA (rowsV hs (B8 (wrK a z l b k))), KidsR hs (B8 (wrK a z l b k)), Rd LA (I64 lst), Rd OA (opsV (mdK a l).1), Rd QA (I64 (mdQ a z l)), Rd HA (I64 (mdH a z l))] [] (fun v R' H' => ∃ (A : Option Addr) (c : Nat), v = .tuple #[.slice A 0 c, .int .i64 220] ∧ R' = [] ∧ H' = [Own 5 1 A 0 c []]) := by
 have := content_m 18 (by decide) fs (wrK a z l b k) hs (by rw [wrK_len]; exact hh) DA dc (mdW a z l + (6 + (mdH a z l).length)) (wrK_len a z l b k) wv lv ev ls lst LA lc ll hll (.int .i64 ((mdW a z l : Nat) : Int)) (.int .i64 (((mdW a z l : Nat) : Int) + 1)) (.int .i64 (((mdW a z l : Nat) : Int) + 2)) (.int .i64 (((mdW a z l : Nat) : Int) + 3)) gv uv ((mdS z : Nat) : Int) ((mdW a z l : Nat) : Int) false ((mdI a : Nat) : Int) (((mdK a l).2 : Nat) : Int) (mdK a l).1 (mdQ a z l) (mdH a z l) OA QA HA oc (mdQ a z l).length qc (mdH a z l).length hc rfl rfl (by have := mdK_ops a l; omega) (by have := mdQ_len a z l; omega) (by have := mdH_len a z l; omega) (i : Int) (by rw [hll]; have := mdH_len a z l; omega) (by rw [wrK_len]; have := mdH_len a z l; have := mdW_le a z l; omega) (wrK_rows a z l b k) (by rw [hll]; exact hlc)
 have he : cntE false ((mdS z : Nat) : Int) ((mdW a z l : Nat) : Int) ((mdI a : Nat) : Int) (((mdK a l).2 : Nat) : Int) (mdK a l).1 (mdQ a z l) (mdH a z l) (wrK a z l b k) fs ls lst (i : Int) = 220 := cntE_3 (md_val a z l) (by omega) (by rw [Int.toNat_natCast]; exact hf)
 rw [cntV_no (by rw [he]; decide), he] at this
 exact this
theorem apply_md (a : UInt8) (l : List T3) (b : List UInt8) (B : Option Addr) (bc : Nat) (OA : Option Addr) (oc : Nat) :
   Ctr X 26 [.slice B (inpF b (mdI a)).length bc, .agg (List.toArray [.bool false, .int .i64 ((mdI a : Nat) : Int), .int .i64 (((mdK a l).2 : Nat) : Int), .slice OA (mdK a l).1.length oc])] [Rd B (U8 (inpF b (mdI a))), Rd OA (opsV (mdK a l).1)] [] (fun v R' H' => ∃ (A : Option Addr) (c : Nat), v = .tuple #[.slice A (neW a l b).length c, .int .i64 0] ∧ R' = [] ∧ H' = [Own 5 1 A (neW a l b).length c (U8 (neW a l b))]) := by
 have hs : syS ((mdI a : Nat) : Int) (((mdK a l).2 : Nat) : Int) (mdK a l).1 = symL (mdK a l).1 := by unfold syS; rw [if_pos (mdE a l)]
 have := apply_m B (inpF b (mdI a)) bc (inpF b (mdI a)).length rfl false ((mdI a : Nat) : Int) (((mdK a l).2 : Nat) : Int) (mdK a l).1 OA oc (by have := mdK_ops a l; omega) rfl (mdE a l) (by rw [inpF_len])
 rw [hs] at this
 exact this

set_option maxHeartbeats 4000000 in
set_option maxRecDepth 2000 in
theorem pWrites_c (LA : Option Addr) (l : List T3) (lc : Nat) (hl : l.length ≤ 9223372036854775807) (a z : UInt8) (BA : Option Addr) (b : List UInt8) (bc : Nat) (hbl : b.length ≤ 9223372036854775807) :
   Ctr X 5 [.agg (List.toArray [.slice LA l.length lc, .int .u8 (a.toNat : Int), .int .u8 (z.toNat : Int), .slice BA b.length bc])] [Rd LA (triV l), Rd BA (U8 b)] [] (fun v R' H' => v = .bool true ∧ R' = [] ∧ H' = []) := by
 refine Ctr.of (X := X) (fn := Tryz.f5) Tryz.func5 rfl (by kernel_rfl) rfl ?_
 intro β
 have hops := mdK_ops a l
 have hI := mdI_le a
 have hil := inpF_len b (mdI a)
 have hS := mdS_le z
 have hW := mdW_le a z l
 have hO := mdK_out a l
 have hQl := mdQ_len a z l
 have hHl := mdH_len a z l
 have hcov := mdW_cov a z l
 have hnl := neW_len a l b
 refine C.seq (C.region ?_)
 refine L.boxA rfl rfl (fun A1 => ?_)
 refine Lpu rfl rfl ?_; refine L.nil (QE.seq (C.seq ?_)); refine C.freeze 0 rfl [] (by decide) (by decide) ?_; refine C.region ?_; refine L.call (js := []) (js' := []) (sanity19_c) rfl rfl rfl (by decide) trivial rfl ?_
 rintro _ _ _ ⟨rfl, rfl, rfl⟩
 refine Lpu rfl rfl ?_; refine L.nil (QE.seq (C.seq (C.region ?_))); refine L.step (Ev.loadA (vs := [.slice LA l.length lc, .int .u8 (a.toNat : Int), .int .u8 (z.toNat : Int), .slice BA b.length bc]) rfl rfl rfl (Src.r 0 rfl) rfl rfl (by decide)) rfl ?_; refine L.callR (js := []) (js' := []) (plan19_c LA l lc hl a z BA b bc hbl) rfl rfl rfl (by decide) (Hq [1, 2] rfl) rfl ?_
 rintro _ _ _ ⟨YA, OA, QA, HA, yc, oc, qc, hc, rfl, rfl, rfl⟩
 refine L.norm (H' := [_]) [0] ⟨rfl, trivial⟩ (by decide) ?_; refine Lpu rfl rfl ?_; refine Lpu rfl rfl ?_; refine Lpu rfl rfl ?_
 refine L.alloc rfl rfl rfl (fun A4 => ?_)
 refine L.storeA (vs := [.int .i64 ((mdS z : Nat) : Int), .int .i64 ((mdW a z l : Nat) : Int), .bool false, .int .i64 ((mdI a : Nat) : Int), .int .i64 (((mdK a l).2 : Nat) : Int), .slice OA (mdK a l).1.length oc, .slice QA (mdQ a z l).length qc, .slice HA (mdH a z l).length hc]) (j := 1) rfl rfl rfl rfl rfl (Nat.zero_lt_succ _) rfl rfl ?_; refine Lpu rfl rfl ?_; refine L.nil (QE.seq (C.seq (C.seq ?_)))
 refine C.cap 0 rfl (fun hyc => ?_)
 refine C.freeze 1 rfl [0] (by decide) (by decide) ?_; refine C.norm (H' := [_]) [0] ⟨rfl, trivial⟩ (by decide) ?_; refine C.freeze 0 rfl [] (by decide) (by decide) ?_; refine C.region ?_; refine L.step (Ev.fieldAddr rfl rfl rfl rfl rfl rfl (Src.r 1 rfl) (Nat.zero_lt_succ _) rfl) rfl ?_; refine L.step (Ev.load rfl rfl rfl (Src.r 1 rfl) rfl) rfl ?_; refine Lpu rfl rfl ?_; refine L.nil (QE.seq ?_)
 refine C.condB 23 rfl (fun hc23 => ?_) (fun hc23 => ?_)
 ·
  replace hc23 := i_eq hc23
  omega
 ·
  replace hc23 := i_ne hc23
  refine C.skip (QE.seq (C.seq (C.region ?_))); refine L.step (Ev.loadA (vs := [.int .i64 ((mdS z : Nat) : Int), .int .i64 ((mdW a z l : Nat) : Int), .bool false, .int .i64 ((mdI a : Nat) : Int), .int .i64 (((mdK a l).2 : Nat) : Int), .slice OA (mdK a l).1.length oc, .slice QA (mdQ a z l).length qc, .slice HA (mdH a z l).length hc]) rfl rfl rfl (Src.r 1 rfl) rfl rfl (by decide)) rfl ?_; refine Lpu rfl rfl ?_; refine L.step (Ev.fieldAddr rfl rfl rfl rfl rfl rfl (Src.r 1 rfl) (Nat.zero_lt_succ _) rfl) rfl ?_; refine L.step (Ev.load rfl rfl rfl (Src.r 1 rfl) rfl) rfl ?_; refine Lpu rfl rfl ?_; refine L.call (js := []) (js' := []) (lawFlash_c (mdS z) (mdW a z l) (6 + (mdH a z l).length) ((mdH a z l).length : Int) (.bool false) (.int .i64 ((mdI a : Nat) : Int)) (.int .i64 (((mdK a l).2 : Nat) : Int)) (.slice OA (mdK a l).1.length oc) (.slice QA (mdQ a z l).length qc) (.slice HA (mdH a z l).length hc) YA (inpF b (mdI a)) yc (by omega) (by omega) (by omega) (by omega) (by omega) (by omega)) rfl rfl rfl (by decide) (Hq [0] rfl) rfl ?_
  rintro _ _ _ ⟨f, GA, UA, LA2, gc, uc, lc2, rfl, rfl, rfl, hfh⟩
  refine L.norm (H' := [_, _, _, _, _, _, _]) [0, 1, 2, 3, 4, 5, 6] ⟨rfl, rfl, rfl, rfl, rfl, rfl, rfl, trivial⟩ (by decide) ?_; refine Lpu rfl rfl ?_; refine Lpu rfl rfl ?_; refine Lpu rfl rfl ?_
  refine L.alloc rfl rfl rfl (fun A6 => ?_)
  refine L.alloc rfl rfl rfl (fun A7 => ?_)
  refine L.storeA (vs := [.int .i64 ((mdS z : Nat) : Int), .slice f.D (mdW a z l + (6 + (mdH a z l).length)) f.cD, .slice f.W (mdW a z l + (6 + (mdH a z l).length)) f.cW, .int .i64 1000, .slice f.E (mdW a z l + (6 + (mdH a z l).length)) f.cE]) (j := 7) rfl rfl rfl rfl rfl (Nat.zero_lt_succ _) rfl rfl ?_; refine L.storeA (vs := [.int .i64 ((mdW a z l : Nat) : Int), .int .i64 ((mdW a z l : Nat) : Int), .int .i64 (((mdW a z l : Nat) : Int) + 1), .int .i64 (((mdW a z l : Nat) : Int) + 2), .int .i64 (((mdW a z l : Nat) : Int) + 3), .slice GA 1 gc, .slice UA 1 uc, .slice LA2 (mdH a z l).length lc2]) (j := 8) rfl rfl rfl rfl rfl (Nat.zero_lt_succ _) rfl rfl ?_; refine L.nil (QE.seq (C.seq (C.seq ?_)))
  refine C.cap 6 rfl (fun hlc2 => ?_)
  refine C.freeze 7 rfl [0, 1, 2, 3, 4, 5, 6, 8] (by decide) (by decide) ?_; refine C.norm (H' := [_, _, _, _, _, _, _, _]) [0, 1, 2, 3, 4, 5, 6, 7] ⟨rfl, rfl, rfl, rfl, rfl, rfl, rfl, rfl, trivial⟩ (by decide) ?_; refine C.freeze 7 rfl [0, 1, 2, 3, 4, 5, 6] (by decide) (by decide) ?_; refine C.norm (H' := [_, _, _, _, _, _, _]) [0, 1, 2, 3, 4, 5, 6] ⟨rfl, rfl, rfl, rfl, rfl, rfl, rfl, trivial⟩ (by decide) ?_; refine C.freezeKids 1 rfl [0, 2, 3, 4, 5, 6] (by decide) (by decide) ?_; refine C.norm (H' := [_, _, _, _, _, _]) [0, 1, 2, 3, 4, 5] ⟨rfl, rfl, rfl, rfl, rfl, rfl, trivial⟩ (by decide) ?_; refine C.freeze 5 rfl [0, 1, 2, 3, 4] (by decide) (by decide) ?_; refine C.norm (H' := [_, _, _, _, _]) [0, 1, 2, 3, 4] ⟨rfl, rfl, rfl, rfl, rfl, trivial⟩ (by decide) ?_; refine C.region ?_; refine Lpu rfl rfl ?_; refine L.nil (QE.seq (C.block ?_)); refine C.loop (fun q : Nat × List Hd => [(3, .bool true), (4, ptrOf A4 0), (5, .slice YA (inpF b (mdI a)).length yc), (6, ptrOf A6 0), (7, ptrOf A7 0), (8, .int .i64 (q.1 : Int))]) (fun q : Nat × List Hd => [Rd A4 [.int .i64 ((mdS z : Nat) : Int), .int .i64 ((mdW a z l : Nat) : Int), .bool false, .int .i64 ((mdI a : Nat) : Int), .int .i64 (((mdK a l).2 : Nat) : Int), .slice OA (mdK a l).1.length oc, .slice QA (mdQ a z l).length qc, .slice HA (mdH a z l).length hc], Rd A6 [.int .i64 ((mdS z : Nat) : Int), .slice f.D (mdW a z l + (6 + (mdH a z l).length)) f.cD, .slice f.W (mdW a z l + (6 + (mdH a z l).length)) f.cW, .int .i64 1000, .slice f.E (mdW a z l + (6 + (mdH a z l).length)) f.cE], Rd A7 [.int .i64 ((mdW a z l : Nat) : Int), .int .i64 ((mdW a z l : Nat) : Int), .int .i64 (((mdW a z l : Nat) : Int) + 1), .int .i64 (((mdW a z l : Nat) : Int) + 2), .int .i64 (((mdW a z l : Nat) : Int) + 3), .slice GA 1 gc, .slice UA 1 uc, .slice LA2 (mdH a z l).length lc2], Rd OA (opsV (mdK a l).1), Rd QA (I64 (mdQ a z l)), Rd HA (I64 (mdH a z l)), Rd YA (U8 (inpF b (mdI a))), Rd LA2 (I64 (upI (mdW a z l + 4 + 1 + 1) (mdH a z l).length)), KidsR q.2 (B8 (stD (wrF a z l b) (mdW a z l + 4 + 1 + 1) (mdH a z l) q.1))]) (fun q : Nat × List Hd => [Own 23 1 f.D (mdW a z l + (6 + (mdH a z l).length)) f.cD (rowsV q.2 (B8 (stD (wrF a z l b) (mdW a z l + 4 + 1 + 1) (mdH a z l) q.1)))]) (fun q : Nat × List Hd => q.1 ≤ (mdH a z l).length ∧ q.2.length = (mdW a z l + (6 + (mdH a z l).length))) (fun q : Nat × List Hd => (mdH a z l).length - q.1) (0, f.hs) ⟨Nat.zero_le _, hfh⟩ (by exact Le.mk' (rs := [5, 3, 2, 6, 7, 8, 4, 0, 1]) (hs := [0]) ⟨rfl, rfl, rfl, rfl, rfl, rfl, trivial⟩ ⟨rfl, rfl, rfl, rfl, rfl, rfl, rfl, rfl, rfl, trivial⟩ ⟨rfl, trivial⟩ (by decide)) ?_
  rintro ⟨i, hs⟩ ⟨hi, hh⟩
  dsimp only at hi hh ⊢
  refine C.seq (C.seq (C.region ?_)); refine Lpu rfl rfl ?_; refine L.step (Ev.fieldAddr rfl rfl rfl rfl rfl rfl (Src.r 0 rfl) (Nat.zero_lt_succ _) rfl) rfl ?_; refine L.step (Ev.load rfl rfl rfl (Src.r 0 rfl) rfl) rfl ?_; refine Lpu rfl rfl ?_; refine Lpu rfl rfl ?_; refine L.nil (QE.seq ?_)
  refine C.condB 38 rfl (fun hc38 => ?_) (fun hc38 => ?_)
  ·
   replace hc38 := of_decide_eq_true hc38
   refine C.skip (QE.seq (C.seq (C.block ?_)))
   obtain ⟨t, ht, -, htn⟩ := mdH_at a z l (k := i) (by omega)
   have hdl : (stD (wrF a z l b) (mdW a z l + 4 + 1 + 1) (mdH a z l) i).length = (mdW a z l + (6 + (mdH a z l).length)) := (stD_len _).trans (wrF_len a z l b)
   have hrl : ((stD (wrF a z l b) (mdW a z l + 4 + 1 + 1) (mdH a z l) i).getD t []).length = mdS z := stD_row (wrF_row a z l b) (fun j hj => by have := mdH_lt a z l hj; rw [wrF_len]; omega) _ (by omega) _ (by rw [wrF_len]; omega)
   refine C.regionM [Rd A4 [.int .i64 ((mdS z : Nat) : Int), .int .i64 ((mdW a z l : Nat) : Int), .bool false, .int .i64 ((mdI a : Nat) : Int), .int .i64 (((mdK a l).2 : Nat) : Int), .slice OA (mdK a l).1.length oc, .slice QA (mdQ a z l).length qc, .slice HA (mdH a z l).length hc], Rd A6 [.int .i64 ((mdS z : Nat) : Int), .slice f.D (mdW a z l + (6 + (mdH a z l).length)) f.cD, .slice f.W (mdW a z l + (6 + (mdH a z l).length)) f.cW, .int .i64 1000, .slice f.E (mdW a z l + (6 + (mdH a z l).length)) f.cE], Rd A7 [.int .i64 ((mdW a z l : Nat) : Int), .int .i64 ((mdW a z l : Nat) : Int), .int .i64 (((mdW a z l : Nat) : Int) + 1), .int .i64 (((mdW a z l : Nat) : Int) + 2), .int .i64 (((mdW a z l : Nat) : Int) + 3), .slice GA 1 gc, .slice UA 1 uc, .slice LA2 (mdH a z l).length lc2], Rd HA (I64 (mdH a z l)), Rd LA2 (I64 (upI (mdW a z l + 4 + 1 + 1) (mdH a z l).length)), Rd f.D (rowsV hs (B8 (stD (wrF a z l b) (mdW a z l + 4 + 1 + 1) (mdH a z l) i))), KidsR hs (B8 (stD (wrF a z l b) (mdW a z l + 4 + 1 + 1) (mdH a z l) i))] ⟨Has.r 0 rfl, Has.r 1 rfl, Has.r 2 rfl, Has.r 5 rfl, Has.r 7 rfl, Has.o 0 rfl, Has.r 8 rfl, trivial⟩ ?_; refine LM.q 0 rfl (by kernel_rfl) (Ev.fieldAddr rfl rfl rfl rfl rfl rfl (Src.r 1 rfl) (Nat.zero_lt_succ _) rfl) rfl ⟨Has.r 0 rfl, Has.r 1 rfl, Has.r 2 rfl, Has.r 5 rfl, Has.r 7 rfl, Has.o 0 rfl, Has.r 8 rfl, trivial⟩ ?_; refine LM.q 1 rfl (by kernel_rfl) (Ev.load rfl rfl rfl (Src.r 1 rfl) rfl) rfl ⟨Has.r 0 rfl, Has.r 1 rfl, Has.r 2 rfl, Has.r 5 rfl, Has.r 7 rfl, Has.o 0 rfl, Has.r 8 rfl, trivial⟩ ?_; refine LM.q 2 rfl (by kernel_rfl) (Ev.fieldAddr rfl rfl rfl rfl rfl rfl (Src.r 2 rfl) (Nat.zero_lt_succ _) rfl) rfl ⟨Has.r 0 rfl, Has.r 1 rfl, Has.r 2 rfl, Has.r 5 rfl, Has.r 7 rfl, Has.o 0 rfl, Has.r 8 rfl, trivial⟩ ?_; refine LM.q 3 rfl (by kernel_rfl) (Ev.load rfl rfl rfl (Src.r 2 rfl) rfl) rfl ⟨Has.r 0 rfl, Has.r 1 rfl, Has.r 2 rfl, Has.r 5 rfl, Has.r 7 rfl, Has.o 0 rfl, Has.r 8 rfl, trivial⟩ ?_; refine LM.q 4 rfl (by kernel_rfl) (Ev.pure rfl) rfl ⟨Has.r 0 rfl, Has.r 1 rfl, Has.r 2 rfl, Has.r 5 rfl, Has.r 7 rfl, Has.o 0 rfl, Has.r 8 rfl, trivial⟩ ?_; refine LM.q 5 rfl (by kernel_rfl) (Ev.idx1 (k := i) rfl rfl rfl rfl rfl rfl rfl (by omega) (Src.r 4 rfl) (by rw [I64_len, upI_len]; omega)) rfl ⟨Has.r 0 rfl, Has.r 1 rfl, Has.r 2 rfl, Has.r 5 rfl, Has.r 7 rfl, Has.o 0 rfl, Has.r 8 rfl, trivial⟩ ?_; refine LM.q 6 rfl (by kernel_rfl) (Ev.cast (u := .int .i64 (((mdW a z l + 4 + 1 + 1) + i : Nat) : Int)) (Ev.load rfl rfl rfl (Src.r 4 rfl) (I64_get (by rw [upI_len]; omega))) (congrArg (Value.int .i64) (upI_get (by omega)))) rfl ⟨Has.r 0 rfl, Has.r 1 rfl, Has.r 2 rfl, Has.r 5 rfl, Has.r 7 rfl, Has.o 0 rfl, Has.r 8 rfl, trivial⟩ ?_; refine LM.q 8 rfl (by kernel_rfl) (Ev.fieldAddr rfl rfl rfl rfl rfl rfl (Src.r 1 rfl) (Nat.zero_lt_succ _) rfl) rfl ⟨Has.r 0 rfl, Has.r 1 rfl, Has.r 2 rfl, Has.r 5 rfl, Has.r 7 rfl, Has.o 0 rfl, Has.r 8 rfl, trivial⟩ ?_; refine LM.q 9 rfl (by kernel_rfl) (Ev.load rfl rfl rfl (Src.r 1 rfl) rfl) rfl ⟨Has.r 0 rfl, Has.r 1 rfl, Has.r 2 rfl, Has.r 5 rfl, Has.r 7 rfl, Has.o 0 rfl, Has.r 8 rfl, trivial⟩ ?_; refine LM.q 10 rfl (by kernel_rfl) (Ev.fieldAddr rfl rfl rfl rfl rfl rfl (Src.r 0 rfl) (Nat.zero_lt_succ _) rfl) rfl ⟨Has.r 0 rfl, Has.r 1 rfl, Has.r 2 rfl, Has.r 5 rfl, Has.r 7 rfl, Has.o 0 rfl, Has.r 8 rfl, trivial⟩ ?_; refine LM.q 11 rfl (by kernel_rfl) (Ev.load rfl rfl rfl (Src.r 0 rfl) rfl) rfl ⟨Has.r 0 rfl, Has.r 1 rfl, Has.r 2 rfl, Has.r 5 rfl, Has.r 7 rfl, Has.o 0 rfl, Has.r 8 rfl, trivial⟩ ?_; refine LM.q 12 rfl (by kernel_rfl) (Ev.pure rfl) rfl ⟨Has.r 0 rfl, Has.r 1 rfl, Has.r 2 rfl, Has.r 5 rfl, Has.r 7 rfl, Has.o 0 rfl, Has.r 8 rfl, trivial⟩ ?_; refine LM.q 13 rfl (by kernel_rfl) (Ev.idx1 (k := i) rfl rfl rfl rfl rfl rfl rfl (by omega) (Src.r 3 rfl) (by rw [I64_len]; omega)) rfl ⟨Has.r 0 rfl, Has.r 1 rfl, Has.r 2 rfl, Has.r 5 rfl, Has.r 7 rfl, Has.o 0 rfl, Has.r 8 rfl, trivial⟩ ?_; refine LM.q 14 rfl (by kernel_rfl) (Ev.cast (u := .int .i64 (t : Int)) (Ev.load rfl rfl rfl (Src.r 3 rfl) (I64_get (by omega))) (congrArg (Value.int .i64) ht)) rfl ⟨Has.r 0 rfl, Has.r 1 rfl, Has.r 2 rfl, Has.r 5 rfl, Has.r 7 rfl, Has.o 0 rfl, Has.r 8 rfl, trivial⟩ ?_; refine LM.q 15 rfl (by kernel_rfl) (Ev.idx1 (k := t) rfl rfl rfl rfl rfl rfl rfl (by omega) (Src.r 5 rfl) (by rw [rowsV_len (by rw [B8_len, hdl]; exact hh), B8_len, hdl]; omega)) rfl ⟨Has.r 0 rfl, Has.r 1 rfl, Has.r 2 rfl, Has.r 5 rfl, Has.r 7 rfl, Has.o 0 rfl, Has.r 8 rfl, trivial⟩ ?_; refine LM.q 16 rfl (by kernel_rfl) (Ev.load rfl rfl rfl (Src.r 5 rfl) (rows8_get (by rw [hdl]; exact hh) (by omega))) rfl ⟨Has.r 0 rfl, Has.r 1 rfl, Has.r 2 rfl, Has.r 5 rfl, Has.r 7 rfl, Has.o 0 rfl, Has.r 8 rfl, trivial⟩ ?_; refine LM.f 7 rfl (by kernel_rfl) ⟨Has.r 0 rfl, Has.r 1 rfl, Has.r 2 rfl, Has.r 5 rfl, Has.r 7 rfl, Has.o 0 rfl, Has.r 8 rfl, trivial⟩ ?_
   refine L.lit0S rfl rfl rfl rfl (fun A48 => ?_)
   refine L.nil (QE.m (by kernel_rfl) ?_)
   refine LM.f 17 rfl (by kernel_rfl) ⟨Has.r 0 rfl, Has.r 1 rfl, Has.r 2 rfl, Has.r 5 rfl, Has.r 7 rfl, Has.o 0 rfl, Has.r 8 rfl, trivial⟩ ?_
   refine L.append (j := 1) rfl rfl rfl rfl (by decide) rfl rfl rfl rfl (Src.cast (Src.kid 8 rfl (by rw [B8_len, hdl]; exact hh) t (by rw [B8_len, hdl]; omega)) (B8_get t)) ((U8_len _).trans (Nat.mul_one _).symm) (U8_one _) (by omega) (by show _ * 1 ≤ _; omega) rfl (fun A58 cc58 => ?_)
   refine L.nil (QE.m (by kernel_rfl) ?_)
   refine LM.cut [] (by kernel_rfl) ⟨Has.r 0 rfl, Has.r 1 rfl, Has.r 2 rfl, Has.r 5 rfl, Has.r 7 rfl, Has.o 0 rfl, Has.r 8 rfl, trivial⟩ ?_; refine LM.f 18 rfl (by kernel_rfl) trivial ?_; refine L.step (Ev.idx1 (k := (mdW a z l + 4 + 1 + 1) + i) rfl rfl rfl rfl rfl rfl rfl (by omega) (Src.o 0 rfl) (by rw [rowsV_len (by rw [B8_len, hdl]; exact hh), B8_len, hdl]; omega)) rfl ?_
   refine L.nil (QE.m (by kernel_rfl) ?_)
   refine LM.f 19 rfl (by kernel_rfl) trivial ?_; refine L.store (j := 0) rfl rfl rfl rfl rfl rfl rfl (by exact rows8_get (by rw [hdl]; exact hh) (by omega)) ?_
   refine L.nil (QE.m (by kernel_rfl) ?_)
   refine LM.nil (by kernel_rfl) trivial ?_; refine QE.blkN ?_; refine QE.seq ?_; refine C.freeze 1 rfl [0] (by decide) (by decide) ?_; refine C.norm (H' := [_]) [0] ⟨rfl, trivial⟩ (by decide) ?_; refine C.more (r := KidsR (hs.set ((mdW a z l + 4 + 1 + 1) + i) (A58, cc58)) (B8 ((stD (wrF a z l b) (mdW a z l + 4 + 1 + 1) (mdH a z l) i).set ((mdW a z l + 4 + 1 + 1) + i) ((stD (wrF a z l b) (mdW a z l + 4 + 1 + 1) (mdH a z l) i).getD t [])))) ((B8_set (stD (wrF a z l b) (mdW a z l + 4 + 1 + 1) (mdH a z l) i) ((mdW a z l + 4 + 1 + 1) + i) ((stD (wrF a z l b) (mdW a z l + 4 + 1 + 1) (mdH a z l) i).getD t [])) ▸ Has.kidsSet (Has.r 9 rfl) (Has.r 0 rfl) cc58 ((mdW a z l + 4 + 1 + 1) + i)) ?_; refine C.region ?_; refine Lpu rfl rfl ?_; refine L.step (Ev.add rfl rfl (by omega) (by omega)) rfl ?_; refine Lpu rfl rfl ?_; refine L.nil ?_
   have he : (stD (wrF a z l b) (mdW a z l + 4 + 1 + 1) (mdH a z l) (i + 1)) = (stD (wrF a z l b) (mdW a z l + 4 + 1 + 1) (mdH a z l) i).set ((mdW a z l + 4 + 1 + 1) + i) ((stD (wrF a z l b) (mdW a z l + 4 + 1 + 1) (mdH a z l) i).getD t []) := by rw [stD, ht, Int.toNat_natCast]
   refine QE.round (i := (i, hs)) ((i + 1, (hs.set ((mdW a z l + 4 + 1 + 1) + i) (A58, cc58)))) (by exact ⟨by dsimp only; omega, by dsimp only; rw [List.length_set]; exact hh⟩) (by dsimp only; omega) (by exact Le.mk' (rs := [2, 3, 4, 5, 6, 7, 8, 9, 0]) (hs := [0]) ⟨rfl, rfl, rfl, rfl, rfl, rfl, trivial⟩ ⟨rfl, rfl, rfl, rfl, rfl, rfl, rfl, rfl, (congrArg some (by dsimp only; rw [he])), trivial⟩ ⟨(congrArg some (own_eq rfl (by dsimp only; rw [he, ← rows8_put (by rw [hdl]; exact hh), Nat.zero_add]))), trivial⟩ (by decide))
  ·
   replace hc38 := of_decide_eq_false hc38
   refine C.exit ?_; refine QE.tX ?_; refine QE.tX ?_; refine QE.blk ?_; refine QE.seq (C.seq (C.seq ?_))
   obtain rfl : i = (mdH a z l).length := by omega
   refine C.region ?_; refine Lpu rfl rfl ?_; refine L.nil (QE.seq (C.block ?_)); refine C.loop (fun q : Nat × List Hd => [(3, .bool true), (4, ptrOf A4 0), (5, .slice YA (inpF b (mdI a)).length yc), (6, ptrOf A6 0), (7, ptrOf A7 0), (9, .int .i64 (q.1 : Int))]) (fun q : Nat × List Hd => [Rd A4 [.int .i64 ((mdS z : Nat) : Int), .int .i64 ((mdW a z l : Nat) : Int), .bool false, .int .i64 ((mdI a : Nat) : Int), .int .i64 (((mdK a l).2 : Nat) : Int), .slice OA (mdK a l).1.length oc, .slice QA (mdQ a z l).length qc, .slice HA (mdH a z l).length hc], Rd A6 [.int .i64 ((mdS z : Nat) : Int), .slice f.D (mdW a z l + (6 + (mdH a z l).length)) f.cD, .slice f.W (mdW a z l + (6 + (mdH a z l).length)) f.cW, .int .i64 1000, .slice f.E (mdW a z l + (6 + (mdH a z l).length)) f.cE], Rd A7 [.int .i64 ((mdW a z l : Nat) : Int), .int .i64 ((mdW a z l : Nat) : Int), .int .i64 (((mdW a z l : Nat) : Int) + 1), .int .i64 (((mdW a z l : Nat) : Int) + 2), .int .i64 (((mdW a z l : Nat) : Int) + 3), .slice GA 1 gc, .slice UA 1 uc, .slice LA2 (mdH a z l).length lc2], Rd OA (opsV (mdK a l).1), Rd QA (I64 (mdQ a z l)), Rd HA (I64 (mdH a z l)), Rd YA (U8 (inpF b (mdI a))), Rd LA2 (I64 (upI (mdW a z l + 4 + 1 + 1) (mdH a z l).length)), KidsR q.2 (B8 (wrK a z l b q.1))]) (fun q : Nat × List Hd => [Own 23 1 f.D (mdW a z l + (6 + (mdH a z l).length)) f.cD (rowsV q.2 (B8 (wrK a z l b q.1)))]) (fun q : Nat × List Hd => q.1 ≤ (mdQ a z l).length ∧ q.2.length = (mdW a z l + (6 + (mdH a z l).length))) (fun q : Nat × List Hd => (mdQ a z l).length - q.1) (0, hs) ⟨Nat.zero_le _, hh⟩ (by exact Le.mk' (rs := [0, 1, 2, 3, 4, 5, 6, 7, 8]) (hs := [0]) ⟨rfl, rfl, rfl, rfl, rfl, rfl, trivial⟩ ⟨rfl, rfl, rfl, rfl, rfl, rfl, rfl, rfl, rfl, trivial⟩ ⟨rfl, trivial⟩ (by decide)) ?_
   rintro ⟨k, hs⟩ ⟨hk, hh⟩
   dsimp only at hk hh ⊢
   refine C.seq (C.seq (C.region ?_)); refine Lpu rfl rfl ?_; refine L.step (Ev.fieldAddr rfl rfl rfl rfl rfl rfl (Src.r 0 rfl) (Nat.zero_lt_succ _) rfl) rfl ?_; refine L.step (Ev.load rfl rfl rfl (Src.r 0 rfl) rfl) rfl ?_; refine Lpu rfl rfl ?_; refine Lpu rfl rfl ?_; refine L.nil (QE.seq ?_)
   refine C.condB 64 rfl (fun hc64 => ?_) (fun hc64 => ?_)
   ·
    replace hc64 := of_decide_eq_true hc64
    refine C.skip (QE.seq (C.seq (C.block (C.seq (C.region ?_))))); refine L.step (Ev.loadA (vs := [.int .i64 ((mdS z : Nat) : Int), .slice f.D (mdW a z l + (6 + (mdH a z l).length)) f.cD, .slice f.W (mdW a z l + (6 + (mdH a z l).length)) f.cW, .int .i64 1000, .slice f.E (mdW a z l + (6 + (mdH a z l).length)) f.cE]) rfl rfl rfl (Src.r 1 rfl) rfl rfl (by decide)) rfl ?_; refine L.step (Ev.loadA (vs := [.int .i64 ((mdW a z l : Nat) : Int), .int .i64 ((mdW a z l : Nat) : Int), .int .i64 (((mdW a z l : Nat) : Int) + 1), .int .i64 (((mdW a z l : Nat) : Int) + 2), .int .i64 (((mdW a z l : Nat) : Int) + 3), .slice GA 1 gc, .slice UA 1 uc, .slice LA2 (mdH a z l).length lc2]) rfl rfl rfl (Src.r 2 rfl) rfl rfl (by decide)) rfl ?_; refine L.step (Ev.loadA (vs := [.int .i64 ((mdS z : Nat) : Int), .int .i64 ((mdW a z l : Nat) : Int), .bool false, .int .i64 ((mdI a : Nat) : Int), .int .i64 (((mdK a l).2 : Nat) : Int), .slice OA (mdK a l).1.length oc, .slice QA (mdQ a z l).length qc, .slice HA (mdH a z l).length hc]) rfl rfl rfl (Src.r 0 rfl) rfl rfl (by decide)) rfl ?_; refine Lpu rfl rfl ?_; refine L.call (js := []) (js' := [0]) (content_w a z l b k k hs hh f.D f.cD (.slice f.W (mdW a z l + (6 + (mdH a z l).length)) f.cW) (.int .i64 1000) (.slice f.E (mdW a z l + (6 + (mdH a z l).length)) f.cE) LA2 lc2 (.slice GA 1 gc) (.slice UA 1 uc) OA QA HA oc qc hc (by omega) hlc2) rfl rfl rfl (by decide) ⟨(Has.o 0 rfl), (Has.r 8 rfl), (Has.r 7 rfl), (Has.r 3 rfl), (Has.r 4 rfl), (Has.r 5 rfl), trivial⟩ rfl ?_
    rintro _ _ _ ⟨B72, y72, rfl, rfl, rfl⟩
    refine L.norm (H' := [_, _]) [0, 1] ⟨rfl, rfl, trivial⟩ (by decide) ?_; refine Lpu rfl rfl ?_; refine Lpu rfl rfl ?_; refine Lpu rfl rfl ?_; refine Lpu rfl rfl ?_; refine Lpu rfl rfl ?_; refine L.nil (QE.seq (C.seq (C.seq (C.region ?_)))); refine Lpu rfl rfl ?_; refine L.step (Ev.cast (u := .bool false) (Ev.pure rfl) (congrArg Value.bool (by decide))) rfl ?_; refine Lpu rfl rfl ?_
    refine L.bool 77 rfl (fun hg77 => ?_) (fun hg77 => ?_)
    ·
     cases hg77
    ·
     refine L.yes rfl ?_; refine Lpu rfl rfl ?_; refine L.yes rfl ?_; refine Lpu rfl rfl ?_; refine L.yes rfl ?_; refine L.step (Ev.fieldAddr rfl rfl rfl rfl rfl rfl (Src.r 0 rfl) (Nat.zero_lt_succ _) rfl) rfl ?_; refine L.yes rfl ?_; refine L.step (Ev.load rfl rfl rfl (Src.r 0 rfl) rfl) rfl ?_; refine L.yes rfl ?_; refine L.step (Ev.cast (u := .bool false) (Ev.pure rfl) (congrArg Value.bool (by simp))) rfl ?_; refine Lpu rfl rfl ?_; refine L.nil (QE.seq ?_)
     refine C.condB 83 rfl (fun hc83 => ?_) (fun hc83 => ?_)
     ·
      cases hc83
     ·
      refine C.skip (QE.seq ?_)
      obtain ⟨t, ht, -, htn⟩ := md_at a z l (k := k) (by omega)
      have hwl := wrK_len a z l b k
      refine C.regionM [Rd A4 [.int .i64 ((mdS z : Nat) : Int), .int .i64 ((mdW a z l : Nat) : Int), .bool false, .int .i64 ((mdI a : Nat) : Int), .int .i64 (((mdK a l).2 : Nat) : Int), .slice OA (mdK a l).1.length oc, .slice QA (mdQ a z l).length qc, .slice HA (mdH a z l).length hc], Rd A6 [.int .i64 ((mdS z : Nat) : Int), .slice f.D (mdW a z l + (6 + (mdH a z l).length)) f.cD, .slice f.W (mdW a z l + (6 + (mdH a z l).length)) f.cW, .int .i64 1000, .slice f.E (mdW a z l + (6 + (mdH a z l).length)) f.cE], Rd QA (I64 (mdQ a z l))] (Hq [0, 1, 4] rfl) ?_; refine LM.q 0 rfl (by kernel_rfl) (Ev.fieldAddr rfl rfl rfl rfl rfl rfl (Src.r 1 rfl) (Nat.zero_lt_succ _) rfl) rfl (Hq [0, 1, 4] rfl) ?_; refine LM.q 1 rfl (by kernel_rfl) (Ev.load rfl rfl rfl (Src.r 1 rfl) rfl) rfl (Hq [0, 1, 4] rfl) ?_; refine LM.q 2 rfl (by kernel_rfl) (Ev.fieldAddr rfl rfl rfl rfl rfl rfl (Src.r 0 rfl) (Nat.zero_lt_succ _) rfl) rfl (Hq [0, 1, 4] rfl) ?_; refine LM.q 3 rfl (by kernel_rfl) (Ev.load rfl rfl rfl (Src.r 0 rfl) rfl) rfl (Hq [0, 1, 4] rfl) ?_; refine LM.q 4 rfl (by kernel_rfl) (Ev.pure rfl) rfl (Hq [0, 1, 4] rfl) ?_; refine LM.q 5 rfl (by kernel_rfl) (Ev.idx1 (k := k) rfl rfl rfl rfl rfl rfl rfl (by omega) (Src.r 2 rfl) (by rw [I64_len]; omega)) rfl (Hq [0, 1, 4] rfl) ?_; refine LM.q 6 rfl (by kernel_rfl) (Ev.cast (u := .int .i64 (t : Int)) (Ev.load rfl rfl rfl (Src.r 2 rfl) (I64_get (by omega))) (congrArg (Value.int .i64) ht)) rfl (Hq [0, 1, 4] rfl) ?_; refine LM.f 7 rfl (by kernel_rfl) (Hq [0, 1, 4] rfl) ?_; refine Lpu rfl rfl ?_
      refine L.nil (QE.m (by kernel_rfl) ?_)
      refine LM.cut [] (by kernel_rfl) (Hq [0, 1, 4] rfl) ?_; refine LM.f 8 rfl (by kernel_rfl) trivial ?_; refine L.step (Ev.idx1 (k := t) rfl rfl rfl rfl rfl rfl rfl (by omega) (Src.o 1 rfl) (by rw [rowsV_len (by rw [B8_len, wrK_len]; exact hh), B8_len, hwl]; omega)) rfl ?_
      refine L.nil (QE.m (by kernel_rfl) ?_)
      refine LM.f 9 rfl (by kernel_rfl) trivial ?_; refine L.store (j := 1) rfl rfl rfl rfl rfl rfl rfl (by exact rows8_get (by rw [hwl]; exact hh) (by omega)) ?_
      refine L.nil (QE.m (by kernel_rfl) ?_)
      refine LM.nil (by kernel_rfl) trivial ?_; refine QE.blkN ?_; refine QE.seq ?_; refine C.freeze 0 rfl [1] (by decide) (by decide) ?_; refine C.norm (H' := [_]) [0] ⟨rfl, trivial⟩ (by decide) ?_; refine C.more (r := KidsR (hs.set t (B72, y72)) (B8 ((wrK a z l b k).set t (ctF (runB (inL (wrK a z l b k) (mdH a z l) (upI (mdW a z l + 4 + 1 + 1) (mdH a z l).length) (mdS z) (mdI a)) (symL (mdK a l).1)) ((mdQ a z l).getD k 0).toNat (mdS z))))) ((B8_set (wrK a z l b k) t (ctF (runB (inL (wrK a z l b k) (mdH a z l) (upI (mdW a z l + 4 + 1 + 1) (mdH a z l).length) (mdS z) (mdI a)) (symL (mdK a l).1)) ((mdQ a z l).getD k 0).toNat (mdS z))) ▸ Has.kidsSet (Has.r 9 rfl) (Has.r 0 rfl) y72 t) ?_; refine C.region ?_; refine Lpu rfl rfl ?_; refine L.step (Ev.add rfl rfl (by omega) (by omega)) rfl ?_; refine Lpu rfl rfl ?_; refine L.nil ?_
      have he : (wrK a z l b (k + 1)) = (wrK a z l b k).set t (ctF (runB (inL (wrK a z l b k) (mdH a z l) (upI (mdW a z l + 4 + 1 + 1) (mdH a z l).length) (mdS z) (mdI a)) (symL (mdK a l).1)) ((mdQ a z l).getD k 0).toNat (mdS z)) := by
        show (wrK a z l b k).set ((mdQ a z l).getD k 0).toNat _ = _
        rw [ht, Int.toNat_natCast]
        rfl
      refine QE.round (i := (k, hs)) ((k + 1, (hs.set t (B72, y72)))) (by exact ⟨by dsimp only; omega, by dsimp only; rw [List.length_set]; exact hh⟩) (by dsimp only; omega) (by exact Le.mk' (rs := [2, 3, 4, 5, 6, 7, 8, 9, 0]) (hs := [0]) ⟨rfl, rfl, rfl, rfl, rfl, rfl, trivial⟩ ⟨rfl, rfl, rfl, rfl, rfl, rfl, rfl, rfl, (congrArg some (by dsimp only; rw [he])), trivial⟩ ⟨(congrArg some (own_eq rfl (by dsimp only; rw [he, ← rows8_put (by rw [hwl]; exact hh), ctF_len]; rfl))), trivial⟩ (by decide))
   ·
    replace hc64 := of_decide_eq_false hc64
    refine C.exit ?_; refine QE.tX ?_; refine QE.tX ?_; refine QE.blk ?_; refine QE.seq (C.seq ?_)
    obtain rfl : k = (mdQ a z l).length := by omega
    refine C.region ?_; refine Lpu rfl rfl ?_; refine L.step (Ev.fieldAddr rfl rfl rfl rfl rfl rfl (Src.r 0 rfl) (Nat.zero_lt_succ _) rfl) rfl ?_; refine L.step (Ev.loadA (vs := [.bool false, .int .i64 ((mdI a : Nat) : Int), .int .i64 (((mdK a l).2 : Nat) : Int), .slice OA (mdK a l).1.length oc]) rfl rfl rfl (Src.r 0 rfl) rfl rfl (by decide)) rfl ?_; refine L.call (js := []) (js' := [0]) (apply_md a l b YA yc OA oc) rfl rfl rfl (by decide) (Hq [6, 3] rfl) rfl ?_
    rintro _ _ _ ⟨A97, c97, rfl, rfl, rfl⟩
    refine L.norm (H' := [_, _]) [0, 1] ⟨rfl, rfl, trivial⟩ (by decide) ?_; refine Lpu rfl rfl ?_; refine Lpu rfl rfl ?_; refine Lpu rfl rfl ?_; refine Lpu rfl rfl ?_; refine Lpu rfl rfl ?_; refine L.nil (QE.seq (C.seq (C.seq ?_))); refine C.freeze 0 rfl [1] (by decide) (by decide) ?_; refine C.norm (H' := [_]) [0] ⟨rfl, trivial⟩ (by decide) ?_; refine C.region ?_; refine Lpu rfl rfl ?_; refine L.step (Ev.cast (u := .bool false) (Ev.pure rfl) (congrArg Value.bool (by decide))) rfl ?_; refine L.nil (QE.seq ?_)
    refine C.condB 101 rfl (fun hc101 => ?_) (fun hc101 => ?_)
    ·
     cases hc101
    ·
     refine C.skip (QE.seq (C.seq (C.seq (C.region ?_)))); refine Lpu rfl rfl ?_; refine L.nil (QE.seq (C.block ?_)); refine C.loop (fun t : Nat => [(3, .bool true), (4, ptrOf A4 0), (5, .slice YA (inpF b (mdI a)).length yc), (6, ptrOf A6 0), (7, ptrOf A7 0), (12, .slice A97 (neW a l b).length c97), (14, .int .i64 (t : Int))]) (fun t : Nat => [Rd A4 [.int .i64 ((mdS z : Nat) : Int), .int .i64 ((mdW a z l : Nat) : Int), .bool false, .int .i64 ((mdI a : Nat) : Int), .int .i64 (((mdK a l).2 : Nat) : Int), .slice OA (mdK a l).1.length oc, .slice QA (mdQ a z l).length qc, .slice HA (mdH a z l).length hc], Rd A6 [.int .i64 ((mdS z : Nat) : Int), .slice f.D (mdW a z l + (6 + (mdH a z l).length)) f.cD, .slice f.W (mdW a z l + (6 + (mdH a z l).length)) f.cW, .int .i64 1000, .slice f.E (mdW a z l + (6 + (mdH a z l).length)) f.cE], Rd A7 [.int .i64 ((mdW a z l : Nat) : Int), .int .i64 ((mdW a z l : Nat) : Int), .int .i64 (((mdW a z l : Nat) : Int) + 1), .int .i64 (((mdW a z l : Nat) : Int) + 2), .int .i64 (((mdW a z l : Nat) : Int) + 3), .slice GA 1 gc, .slice UA 1 uc, .slice LA2 (mdH a z l).length lc2], Rd OA (opsV (mdK a l).1), Rd QA (I64 (mdQ a z l)), Rd HA (I64 (mdH a z l)), Rd YA (U8 (inpF b (mdI a))), Rd LA2 (I64 (upI (mdW a z l + 4 + 1 + 1) (mdH a z l).length)), Rd A97 (U8 (neW a l b)), KidsR hs (B8 (wrK a z l b (mdQ a z l).length))]) (fun t : Nat => [Own 23 1 f.D (mdW a z l + (6 + (mdH a z l).length)) f.cD (rowsV hs (B8 (wrK a z l b (mdQ a z l).length)))]) (fun t : Nat => t ≤ mdW a z l) (fun t : Nat => mdW a z l - t) 0 (Nat.zero_le _) (by exact Le.mk' (rs := [1, 2, 3, 4, 5, 6, 7, 8, 0, 9]) (hs := [0]) ⟨rfl, rfl, rfl, rfl, rfl, rfl, rfl, trivial⟩ ⟨rfl, rfl, rfl, rfl, rfl, rfl, rfl, rfl, rfl, rfl, trivial⟩ ⟨rfl, trivial⟩ (by decide)) ?_
     intro t ht
     refine C.seq (C.seq (C.region ?_)); refine Lpu rfl rfl ?_; refine L.step (Ev.fieldAddr rfl rfl rfl rfl rfl rfl (Src.r 0 rfl) (Nat.zero_lt_succ _) rfl) rfl ?_; refine L.step (Ev.load rfl rfl rfl (Src.r 0 rfl) rfl) rfl ?_; refine Lpu rfl rfl ?_; refine L.nil (QE.seq ?_)
     refine C.condB 105 rfl (fun hc105 => ?_) (fun hc105 => ?_)
     ·
      replace hc105 := of_decide_eq_true hc105
      refine C.skip (QE.seq (C.seq (C.block (C.seq ?_))))
      have hwl := wrK_len a z l b (mdQ a z l).length
      have hts : t * mdS z ≤ 18 * 5 := Nat.mul_le_mul (by omega) hS.2
      refine C.regionM [Rd A4 [.int .i64 ((mdS z : Nat) : Int), .int .i64 ((mdW a z l : Nat) : Int), .bool false, .int .i64 ((mdI a : Nat) : Int), .int .i64 (((mdK a l).2 : Nat) : Int), .slice OA (mdK a l).1.length oc, .slice QA (mdQ a z l).length qc, .slice HA (mdH a z l).length hc], Rd A6 [.int .i64 ((mdS z : Nat) : Int), .slice f.D (mdW a z l + (6 + (mdH a z l).length)) f.cD, .slice f.W (mdW a z l + (6 + (mdH a z l).length)) f.cW, .int .i64 1000, .slice f.E (mdW a z l + (6 + (mdH a z l).length)) f.cE], Rd A97 (U8 (neW a l b)), Rd f.D (rowsV hs (B8 (wrK a z l b (mdQ a z l).length))), KidsR hs (B8 (wrK a z l b (mdQ a z l).length))] ⟨Has.r 0 rfl, Has.r 1 rfl, Has.r 8 rfl, Has.o 0 rfl, Has.r 9 rfl, trivial⟩ ?_; refine LM.q 0 rfl (by kernel_rfl) (Ev.fieldAddr rfl rfl rfl rfl rfl rfl (Src.r 1 rfl) (Nat.zero_lt_succ _) rfl) rfl ⟨Has.r 0 rfl, Has.r 1 rfl, Has.r 8 rfl, Has.o 0 rfl, Has.r 9 rfl, trivial⟩ ?_; refine LM.q 1 rfl (by kernel_rfl) (Ev.load rfl rfl rfl (Src.r 1 rfl) rfl) rfl ⟨Has.r 0 rfl, Has.r 1 rfl, Has.r 8 rfl, Has.o 0 rfl, Has.r 9 rfl, trivial⟩ ?_; refine LM.q 2 rfl (by kernel_rfl) (Ev.pure rfl) rfl ⟨Has.r 0 rfl, Has.r 1 rfl, Has.r 8 rfl, Has.o 0 rfl, Has.r 9 rfl, trivial⟩ ?_; refine LM.q 3 rfl (by kernel_rfl) (Ev.idx1 (k := t) rfl rfl rfl rfl rfl rfl rfl (by omega) (Src.r 3 rfl) (by rw [rowsV_len (by rw [B8_len, wrK_len]; exact hh), B8_len, hwl]; omega)) rfl ⟨Has.r 0 rfl, Has.r 1 rfl, Has.r 8 rfl, Has.o 0 rfl, Has.r 9 rfl, trivial⟩ ?_; refine LM.q 4 rfl (by kernel_rfl) (Ev.load rfl rfl rfl (Src.r 3 rfl) (rows8_get (by rw [hwl]; exact hh) (by omega))) rfl ⟨Has.r 0 rfl, Has.r 1 rfl, Has.r 8 rfl, Has.o 0 rfl, Has.r 9 rfl, trivial⟩ ?_; refine LM.q 5 rfl (by kernel_rfl) (Ev.cast (u := .string (bstr (ctF (neW a l b) t (mdS z)))) (Ev.toStr rfl rfl rfl rfl rfl rfl rfl (Src.cast (Src.kid 4 rfl (by rw [B8_len, wrK_len]; exact hh) t (by rw [B8_len, hwl]; omega)) (B8_get t))) (by rw [wr_all a z l b (by omega)])) rfl ⟨Has.r 0 rfl, Has.r 1 rfl, Has.r 8 rfl, Has.o 0 rfl, Has.r 9 rfl, trivial⟩ ?_; refine LM.q 6 rfl (by kernel_rfl) (Ev.pure rfl) rfl ⟨Has.r 0 rfl, Has.r 1 rfl, Has.r 8 rfl, Has.o 0 rfl, Has.r 9 rfl, trivial⟩ ?_; refine LM.q 7 rfl (by kernel_rfl) (Ev.pure rfl) rfl ⟨Has.r 0 rfl, Has.r 1 rfl, Has.r 8 rfl, Has.o 0 rfl, Has.r 9 rfl, trivial⟩ ?_; refine LM.f 8 rfl (by kernel_rfl) ⟨Has.r 0 rfl, Has.r 1 rfl, Has.r 8 rfl, Has.o 0 rfl, Has.r 9 rfl, trivial⟩ ?_; refine L.step (Ev.fieldAddr rfl rfl rfl rfl rfl rfl (Src.r 0 rfl) (Nat.zero_lt_succ _) rfl) rfl ?_
      refine L.nil (QE.m (by kernel_rfl) ?_)
      refine LM.f 9 rfl (by kernel_rfl) ⟨Has.r 0 rfl, Has.r 1 rfl, Has.r 8 rfl, Has.o 0 rfl, Has.r 9 rfl, trivial⟩ ?_; refine L.step (Ev.load rfl rfl rfl (Src.r 0 rfl) rfl) rfl ?_
      refine L.nil (QE.m (by kernel_rfl) ?_)
      refine LM.f 10 rfl (by kernel_rfl) ⟨Has.r 0 rfl, Has.r 1 rfl, Has.r 8 rfl, Has.o 0 rfl, Has.r 9 rfl, trivial⟩ ?_; refine L.call (js := []) (js' := [0]) (contentsR_c A97 (neW a l b) c97 t (mdS z) (by omega) (by omega) (by omega) (by omega) (by omega)) rfl rfl rfl (by decide) (Hq [8] rfl) rfl ?_
      rintro _ _ _ ⟨B118, y118, rfl, rfl, rfl⟩
      refine L.norm (H' := [_, _]) [0, 1] ⟨rfl, rfl, trivial⟩ (by decide) ?_
      refine L.nil (QE.m (by kernel_rfl) ?_)
      refine LM.f 11 rfl (by kernel_rfl) ⟨Has.r 0 rfl, Has.r 1 rfl, Has.r 8 rfl, Has.o 1 rfl, Has.r 9 rfl, trivial⟩ ?_; refine L.step (Ev.toStr (xs := ctF (neW a l b) t (mdS z)) rfl rfl rfl rfl rfl rfl (by rw [ctF_len]; rfl) (Src.o 0 rfl)) rfl ?_
      refine L.nil (QE.m (by kernel_rfl) ?_)
      refine LM.cut [] (by kernel_rfl) ⟨Has.r 0 rfl, Has.r 1 rfl, Has.r 8 rfl, Has.o 1 rfl, Has.r 9 rfl, trivial⟩ ?_; refine LM.f 12 rfl (by kernel_rfl) trivial ?_; refine L.step (Ev.cast (u := .bool false) (Ev.neStr rfl rfl) (by simp)) rfl ?_
      refine L.nil (QE.m (by kernel_rfl) ?_)
      refine LM.nil (by kernel_rfl) trivial ?_; refine QE.seq ?_
      refine C.condB 120 rfl (fun hc120 => ?_) (fun hc120 => ?_)
      ·
       cases hc120
      ·
       refine C.skip ?_; refine QE.blkN ?_; refine QE.seq (C.region ?_); refine Lpu rfl rfl ?_; refine L.step (Ev.add rfl rfl (by omega) (by omega)) rfl ?_; refine Lpu rfl rfl ?_; refine L.nil ?_
       refine QE.round (t + 1) (by omega) (by omega) (by exact Le.mk' (rs := [0, 1, 2, 3, 4, 5, 6, 7, 8, 9]) (hs := [1]) ⟨rfl, rfl, rfl, rfl, rfl, rfl, rfl, trivial⟩ ⟨rfl, rfl, rfl, rfl, rfl, rfl, rfl, rfl, rfl, rfl, trivial⟩ ⟨rfl, trivial⟩ (by decide))
     ·
      replace hc105 := of_decide_eq_false hc105
      refine C.exit ?_; refine QE.tX ?_; refine QE.tX ?_; refine QE.blk ?_; refine QE.seq (C.seq (C.region ?_)); refine Lpu rfl rfl ?_; refine Lpu rfl rfl ?_; refine L.nil (QE.seq (C.ret ?_)); refine QE.ret (js := []) (hs := []) (vs := [_]) rfl ⟨rfl, trivial⟩ (by decide) ?_
      exact ⟨rfl, rfl, rfl⟩

end Go.Proofs.YtpccfdnmnnnboaaGreat
