/-
  Plans of the reference: Among, Make; plans that are the same.
-/
import Derived.Test.YtpccfdnmnnnboaaGreatQWPlB
import Derived.Test.YtpccfdnmnnnboaaGreatQTc
namespace Go.Proofs.YtpccfdnmnnnboaaGreat
open Go.Sl

theorem Ctr.tb (c : Bool) {f : Nat} {args : List Value} {R H : List Pr} {b : Bool} (h : Ctr X f args R H (fun v R' H' => v = .bool b ∧ R' = [] ∧ H' = [])) (hb : b = c) : Ctr X f args R H (fun v R' H' => v = .bool c ∧ R' = [] ∧ H' = []) := hb ▸ h
def amoRk (chg : List Nat) (M : List (List Int)) (i k : Nat) : List Nat := (List.range k).filter fun k => (M.getD (chg.getD i 0) []).contains ((chg.getD k 0 : Nat) : Int)
theorem amoRk_yes {chg : List Nat} {M : List (List Int)} {i k : Nat} (h : (M.getD (chg.getD i 0) []).contains ((chg.getD k 0 : Nat) : Int) = true) : amoRk chg M i (k + 1) = amoRk chg M i k ++ [k] := by
 unfold amoRk
 rw [List.range_succ, List.filter_append, List.filter_cons, if_pos h]
 rfl
theorem amoRk_no {chg : List Nat} {M : List (List Int)} {i k : Nat} (h : (M.getD (chg.getD i 0) []).contains ((chg.getD k 0 : Nat) : Int) = false) : amoRk chg M i (k + 1) = amoRk chg M i k := by
 unfold amoRk
 rw [List.range_succ, List.filter_append, List.filter_cons, if_neg (by rw [h]; decide)]
 simp
theorem amoRk_len (chg : List Nat) (M : List (List Int)) (i k : Nat) : (amoRk chg M i k).length ≤ k := by
 have := List.length_filter_le (fun k => (M.getD (chg.getD i 0) []).contains ((chg.getD k 0 : Nat) : Int)) (List.range k)
 rwa [List.length_range] at this
theorem order21_m (LA : Option Addr) (ls : List (List Int)) (lc m : Nat) (hm : ls.length = m) (hs : List Hd) (hh : hs.length = ls.length) (hr : readB ls = true) (h16 : ls.length ≤ 16) (hlr : ∀ i, (ls.getD i []).length ≤ 9223372036854775807) :
   Ctr X 49 [.slice LA m lc] [Rd LA (rowsV hs (J8 ls)), KidsR hs (J8 ls)] [] (fun v R' H' => ∃ (A B : Option Addr) (c d : Nat), v = .agg (List.toArray [.slice A (ordQ ls).length c, .slice B (ordH ls).length d, .int .i64 0]) ∧ R' = [Rd A (I64 (NI (ordQ ls))), Rd B (I64 (NI (ordH ls)))] ∧ H' = []) := by
 subst hm
 have h := order21_c LA ls lc hs hh (by omega) hlr
 obtain ⟨e1, e2, e3⟩ := ref16 hr h16
 rw [e1, e2, e3] at h
 exact h

set_option maxHeartbeats 2000000 in
theorem among_c (S n : Nat) (inn out : Int) (ops : List Po) (OA : Option Addr) (oc : Nat) (qv hv : Value) (hops : ops.length ≤ 9223372036854775807)(hS1 : 1 ≤ S) (hS2 : S ≤ 4096) (hn1 : 1 ≤ n) (hn2 : n ≤ 64) (hE : chkE inn out ops = 0) (hi1 : inn ≤ (S : Int) * (n : Int)) (hi2 : out ≤ (S : Int) * (n : Int)) :
   Ctr X 50 [.agg (List.toArray [.int .i64 (S : Int), .int .i64 (n : Int), .bool false, .int .i64 inn, .int .i64 out, .slice OA ops.length oc, qv, hv])] [Rd OA (opsV ops)] [] (fun v R' H' => ∃ (A : Option Addr) (c : Nat) (hs : List Hd), v = .slice A (chgL (symL ops) inn S n).length c ∧ R' = [Rd A (rowsV hs (J8 (amoL (chgL (symL ops) inn S n) (rdsL (symL ops) inn S n n) (chgL (symL ops) inn S n).length))), KidsR hs (J8 (amoL (chgL (symL ops) inn S n) (rdsL (symL ops) inn S n n) (chgL (symL ops) inn S n).length))] ∧ H' = [] ∧ hs.length = (chgL (symL ops) inn S n).length) := by
 refine Ctr.of (X := X) (fn := Tryz.f50) Tryz.func50 rfl (by kernel_rfl) rfl ?_
 intro β
 obtain ⟨k1, k2, k3, k4, k5, k6⟩ := chkE_ok hE
 have hsy : syS inn out ops = symL ops := by unfold syS; rw [if_pos hE]
 have hsl : ((symL ops).length : Int) = out := chkG_tot ops out k3 k6
 have hnS : n * S ≤ 64 * 4096 := Nat.mul_le_mul hn2 hS2
 obtain ⟨r1, r2, r3, r4⟩ := rd_fine (n := n) hE hS1 hS2 hn2 hi1 hi2
 have hpad := rds_pad (n := n) hS1 r4 r3
 have hml := rdsL_len (symL ops) inn S (rdN inn out S) (rdN inn out S)
 have hcl := chgL_len (symL ops) inn S n
 refine C.seq (C.region ?_)
 refine L.boxA rfl rfl (fun A1 => ?_)
 refine Lpu rfl rfl ?_; refine L.nil (QE.seq (C.seq ?_)); refine C.freeze 0 rfl [] (by decide) (by decide) ?_; refine C.region ?_; refine L.step (Ev.loadA (vs := [.int .i64 (S : Int), .int .i64 (n : Int), .bool false, .int .i64 inn, .int .i64 out, .slice OA ops.length oc, qv, hv]) rfl rfl rfl (Src.r 0 rfl) rfl rfl (by decide)) rfl ?_; refine L.call (js := []) (js' := []) (changes19_c S n false inn out ops OA oc qv hv hops hS1 hS2 hn1 hn2 hE) rfl rfl rfl (by decide) (Hq [1] rfl) rfl ?_
 rintro _ _ _ ⟨CA, cc, rfl, rfl, rfl⟩
 refine L.norm (H' := [_]) [0] ⟨rfl, trivial⟩ (by decide) ?_; refine Lpu rfl rfl ?_; refine L.nil (QE.seq (C.seq ?_)); refine C.freeze 0 rfl [] (by decide) (by decide) ?_; refine C.region ?_; refine L.step (Ev.fieldAddr rfl rfl rfl rfl rfl rfl (Src.r 1 rfl) (Nat.zero_lt_succ _) rfl) rfl ?_; refine L.step (Ev.loadA (vs := [.bool false, .int .i64 inn, .int .i64 out, .slice OA ops.length oc]) rfl rfl rfl (Src.r 1 rfl) rfl rfl (by decide)) rfl ?_; refine L.step (Ev.fieldAddr rfl rfl rfl rfl rfl rfl (Src.r 1 rfl) (Nat.zero_lt_succ _) rfl) rfl ?_; refine L.step (Ev.load rfl rfl rfl (Src.r 1 rfl) rfl) rfl ?_; refine L.callR (js := []) (js' := []) (readsR_c false inn out ops OA oc hops (S : Int)) rfl rfl rfl (by decide) (Hq [2] rfl) rfl ?_
 rw [r1, r2]
 rintro _ _ _ ⟨MA, mc, mhs, rfl, rfl, rfl, hmhs⟩
 refine Lpu rfl rfl ?_; refine Lpu rfl rfl ?_; refine Lpu rfl rfl ?_; refine Lpu rfl rfl ?_; refine Lpu rfl rfl ?_; refine L.nil (QE.seq (C.seq (C.region ?_)))
 refine L.lit rfl rfl rfl rfl rfl (by rfl) (by rfl) (by rfl) rfl rfl (fun A20 => ?_)
 refine Lpu rfl rfl ?_; refine L.nil (QE.seq (C.seq (C.seq (C.region ?_)))); refine Lpu rfl rfl ?_; refine L.nil (QE.seq (C.block ?_)); refine C.more (r := KidsR [] []) Has.kids0 ?_; refine C.loop (fun q : Nat × Option Addr × Nat × List Hd => [(3, .slice CA (chgL (symL ops) inn S n).length cc), (4, .slice MA (rdsL (symL ops) inn S (rdN inn out S) (rdN inn out S)).length mc), (6, .slice q.2.1 (amoL (chgL (symL ops) inn S n) (rdsL (symL ops) inn S n n) q.1).length q.2.2.1), (7, .int .i64 (q.1 : Int))]) (fun q : Nat × Option Addr × Nat × List Hd => [Rd MA (rowsV mhs (J8 (rdsL (symL ops) inn S (rdN inn out S) (rdN inn out S)))), KidsR mhs (J8 (rdsL (symL ops) inn S (rdN inn out S) (rdN inn out S))), Rd CA (I64 (NI (chgL (symL ops) inn S n))), KidsR q.2.2.2 (J8 (amoL (chgL (symL ops) inn S n) (rdsL (symL ops) inn S n n) q.1))]) (fun q : Nat × Option Addr × Nat × List Hd => [Own 34 1 q.2.1 (amoL (chgL (symL ops) inn S n) (rdsL (symL ops) inn S n n) q.1).length q.2.2.1 (rowsV q.2.2.2 (J8 (amoL (chgL (symL ops) inn S n) (rdsL (symL ops) inn S n n) q.1)))]) (fun q : Nat × Option Addr × Nat × List Hd => q.1 ≤ (chgL (symL ops) inn S n).length ∧ q.2.2.2.length = q.1) (fun q : Nat × Option Addr × Nat × List Hd => (chgL (symL ops) inn S n).length - q.1) (0, A20, 0, []) ⟨Nat.zero_le _, rfl⟩ (by exact Le.mk' (rs := [1, 2, 3, 0]) (hs := [0]) ⟨rfl, rfl, rfl, rfl, trivial⟩ ⟨rfl, rfl, rfl, rfl, trivial⟩ ⟨rfl, trivial⟩ (by decide)) ?_
 rintro ⟨i, A, c, hs⟩ ⟨hi, hhs⟩
 dsimp only at hi hhs ⊢
 refine C.seq (C.seq (C.region ?_)); refine Lpu rfl rfl ?_; refine Lpu rfl rfl ?_; refine Lpu rfl rfl ?_; refine Lpu rfl rfl ?_; refine L.nil (QE.seq ?_)
 refine C.condB 24 rfl (fun hc24 => ?_) (fun hc24 => ?_)
 ·
  replace hc24 := of_decide_eq_true hc24
  refine C.skip (QE.seq (C.seq (C.block (C.seq (C.region ?_)))))
  refine L.lit rfl rfl rfl rfl rfl (by rfl) (by rfl) (by rfl) rfl rfl (fun A27 => ?_)
  refine Lpu rfl rfl ?_; refine L.nil (QE.seq (C.seq (C.seq (C.region ?_)))); refine Lpu rfl rfl ?_; refine L.nil (QE.seq (C.block ?_)); refine C.loop (fun q : Nat × Option Addr × Nat => [(3, .slice CA (chgL (symL ops) inn S n).length cc), (4, .slice MA (rdsL (symL ops) inn S (rdN inn out S) (rdN inn out S)).length mc), (6, .slice A (amoL (chgL (symL ops) inn S n) (rdsL (symL ops) inn S n n) i).length c), (7, .int .i64 (i : Int)), (8, .slice q.2.1 (amoRk (chgL (symL ops) inn S n) (rdsL (symL ops) inn S n n) i q.1).length q.2.2), (9, .int .i64 (q.1 : Int))]) (fun q : Nat × Option Addr × Nat => [Rd MA (rowsV mhs (J8 (rdsL (symL ops) inn S (rdN inn out S) (rdN inn out S)))), KidsR mhs (J8 (rdsL (symL ops) inn S (rdN inn out S) (rdN inn out S))), Rd CA (I64 (NI (chgL (symL ops) inn S n))), KidsR hs (J8 (amoL (chgL (symL ops) inn S n) (rdsL (symL ops) inn S n n) i))]) (fun q : Nat × Option Addr × Nat => [Own 3 1 q.2.1 (amoRk (chgL (symL ops) inn S n) (rdsL (symL ops) inn S n n) i q.1).length q.2.2 (I64 (NI (amoRk (chgL (symL ops) inn S n) (rdsL (symL ops) inn S n n) i q.1))), Own 34 1 A (amoL (chgL (symL ops) inn S n) (rdsL (symL ops) inn S n n) i).length c (rowsV hs (J8 (amoL (chgL (symL ops) inn S n) (rdsL (symL ops) inn S n n) i)))]) (fun q : Nat × Option Addr × Nat => q.1 ≤ (chgL (symL ops) inn S n).length) (fun q : Nat × Option Addr × Nat => (chgL (symL ops) inn S n).length - q.1) (0, A27, 0) (Nat.zero_le _) (by exact Le.mk' (rs := [0, 1, 2, 3]) (hs := [1, 0]) ⟨rfl, rfl, rfl, rfl, rfl, rfl, trivial⟩ ⟨rfl, rfl, rfl, rfl, trivial⟩ ⟨rfl, rfl, trivial⟩ (by decide)) ?_
  rintro ⟨k, B, d⟩ hk
  dsimp only at hk ⊢
  refine C.seq (C.seq (C.region ?_)); refine Lpu rfl rfl ?_; refine Lpu rfl rfl ?_; refine Lpu rfl rfl ?_; refine Lpu rfl rfl ?_; refine L.nil (QE.seq ?_)
  refine C.condB 31 rfl (fun hc31 => ?_) (fun hc31 => ?_)
  ·
   replace hc31 := of_decide_eq_true hc31
   refine C.skip (QE.seq (C.seq (C.block (C.seq ?_))))
   obtain ⟨hci, hcb⟩ := chg_lt (l := (symL ops)) (inn := inn) (S := S) (n := n) (i := i) (by omega)
   have hcN : ((chgL (symL ops) inn S n).getD i 0) < (rdN inn out S) := Nat.lt_of_not_le fun g => by rw [chgB_hi hS1 r4 g] at hcb; cases hcb
   have hmr : (rdsL (symL ops) inn S (rdN inn out S) (rdN inn out S)).getD ((chgL (symL ops) inn S n).getD i 0) [] = (rdsL (symL ops) inn S n n).getD ((chgL (symL ops) inn S n).getD i 0) [] := by rw [← hpad, padM_get]
   have hrow : ((rdsL (symL ops) inn S (rdN inn out S) (rdN inn out S)).getD ((chgL (symL ops) inn S n).getD i 0) []).length = (rdsR (symL ops) inn S ((chgL (symL ops) inn S n).getD i 0) (rdN inn out S)).length := by rw [rdsL_get hcN, NI_len]
   have hrow2 := rdsR_len (symL ops) inn S ((chgL (symL ops) inn S n).getD i 0) (rdN inn out S)
   refine C.regionQ (by kernel_rfl) ?_; refine LQ.step (Ev.pure rfl) rfl ?_; refine LQ.step (Ev.pure rfl) rfl ?_; refine LQ.step (Ev.idx1 (k := i) rfl rfl rfl rfl rfl rfl rfl (by omega) (Src.r 2 rfl) (by rw [I64_len, NI_len]; omega)) rfl ?_; refine LQ.step (Ev.load rfl rfl rfl (Src.r 2 rfl) (NI_at (by omega))) rfl ?_; refine LQ.step (Ev.pure rfl) rfl ?_; refine LQ.step (Ev.pure rfl) rfl ?_; refine LQ.step (Ev.pure rfl) rfl ?_; refine LQ.step (Ev.pure rfl) rfl ?_
   refine LQ.bool 41 rfl (fun hg41 => ?_) (fun hg41 => ?_)
   ·
    replace hg41 := of_decide_eq_true hg41
    refine LQ.yes rfl ?_; refine LQ.step (Ev.pure rfl) rfl ?_; refine LQ.yes rfl ?_; refine LQ.step (Ev.pure rfl) rfl ?_; refine LQ.yes rfl ?_; refine LQ.step (Ev.pure rfl) rfl ?_; refine LQ.yes rfl ?_; refine LQ.step (Ev.idx1 (k := i) rfl rfl rfl rfl rfl rfl rfl (by omega) (Src.r 2 rfl) (by rw [I64_len, NI_len]; omega)) rfl ?_; refine LQ.yes rfl ?_; refine LQ.step (Ev.load rfl rfl rfl (Src.r 2 rfl) (NI_at (by omega))) rfl ?_; refine LQ.yes rfl ?_; refine LQ.step (Ev.idx1 (k := ((chgL (symL ops) inn S n).getD i 0)) rfl rfl rfl rfl rfl rfl rfl (by omega) (Src.r 0 rfl) (by rw [rowsV_len (by rw [J8_len]; exact hmhs), J8_len]; omega)) rfl ?_; refine LQ.yes rfl ?_; refine LQ.step (Ev.load rfl rfl rfl (Src.r 0 rfl) (rowsJ_get hmhs (by omega))) rfl ?_; refine LQ.yes rfl ?_; refine LQ.step (Ev.pure rfl) rfl ?_; refine LQ.yes rfl ?_; refine LQ.step (Ev.pure rfl) rfl ?_; refine LQ.yes rfl ?_; refine LQ.step (Ev.idx1 (k := k) rfl rfl rfl rfl rfl rfl rfl (by omega) (Src.r 2 rfl) (by rw [I64_len, NI_len]; omega)) rfl ?_; refine LQ.yes rfl ?_; refine LQ.step (Ev.load rfl rfl rfl (Src.r 2 rfl) (NI_at (by omega))) rfl ?_; refine LQ.yes rfl ?_; refine LQ.call (.bool (((rdsL (symL ops) inn S (rdN inn out S) (rdN inn out S)).getD ((chgL (symL ops) inn S n).getD i 0) []).contains ((((chgL (symL ops) inn S n).getD k 0) : Nat) : Int))) (has_c (mhs.getD ((chgL (symL ops) inn S n).getD i 0) (none, 0)).1 ((rdsL (symL ops) inn S (rdN inn out S) (rdN inn out S)).getD ((chgL (symL ops) inn S n).getD i 0) []) (mhs.getD ((chgL (symL ops) inn S n).getD i 0) (none, 0)).2 ((((chgL (symL ops) inn S n).getD k 0) : Nat) : Int) (by rw [hrow]; omega)) (fun _ _ _ h => h.1) rfl ⟨((Has.kid 1 rfl (by rw [J8_len]; exact hmhs) ((chgL (symL ops) inn S n).getD i 0) (by rw [J8_len]; omega)).cast (J8_get _)), trivial⟩ rfl ?_; refine LQ.step (Ev.pure rfl) rfl ?_; refine LQ.nil ?_; refine QE.seq ?_
    refine C.condB 54 rfl (fun hc54 => ?_) (fun hc54 => ?_)
    ·
     rw [hmr] at hc54
     have he : (amoRk (chgL (symL ops) inn S n) (rdsL (symL ops) inn S n n) i (k + 1)) = (amoRk (chgL (symL ops) inn S n) (rdsL (symL ops) inn S n n) i k) ++ [k] := amoRk_yes hc54
     have hrl := amoRk_len (chgL (symL ops) inn S n) (rdsL (symL ops) inn S n n) i k
     refine C.region ?_; refine Lpu rfl rfl ?_; refine Lpu rfl rfl ?_
     refine L.lit rfl rfl rfl rfl rfl (by rfl) (by rfl) (by rfl) rfl rfl (fun A57 => ?_)
     refine L.append (j := 0) rfl rfl rfl rfl (by decide) rfl rfl rfl rfl (Src.o 2 rfl) rfl (allOne rfl) (by omega) (by show _ * 8 ≤ _; omega) rfl (fun A58 cc58 => ?_)
     refine Lpu rfl rfl ?_; refine L.nil ?_; refine QE.blkN ?_; refine QE.seq (C.region ?_); refine Lpu rfl rfl ?_; refine L.step (Ev.add rfl rfl (by omega) (by omega)) rfl ?_; refine Lpu rfl rfl ?_; refine L.nil ?_
     refine QE.round (i := (k, B, d)) ((k + 1, A58, cc58)) (by dsimp only; omega) (by dsimp only; omega) (by exact Le.mk' (rs := [0, 1, 2, 3]) (hs := [0, 1]) ⟨rfl, rfl, rfl, rfl, (by dsimp only; rw [he, List.length_append]; rfl), rfl, trivial⟩ ⟨rfl, rfl, rfl, rfl, trivial⟩ ⟨(congrArg some (own_eq (by dsimp only; rw [he, List.length_append]; rfl) (by dsimp only; rw [he, NI_app, ← I64_app]; rfl))), rfl, trivial⟩ (by decide))
    ·
     rw [hmr] at hc54
     have he : (amoRk (chgL (symL ops) inn S n) (rdsL (symL ops) inn S n n) i (k + 1)) = (amoRk (chgL (symL ops) inn S n) (rdsL (symL ops) inn S n n) i k) := amoRk_no hc54
     refine C.skip ?_; refine QE.blkN ?_; refine QE.seq (C.region ?_); refine Lpu rfl rfl ?_; refine L.step (Ev.add rfl rfl (by omega) (by omega)) rfl ?_; refine Lpu rfl rfl ?_; refine L.nil ?_
     refine QE.round (i := (k, B, d)) ((k + 1, B, d)) (by dsimp only; omega) (by dsimp only; omega) (by exact Le.mk' (rs := [0, 1, 2, 3]) (hs := [0, 1]) ⟨rfl, rfl, rfl, rfl, (by dsimp only; rw [he]; rfl), rfl, trivial⟩ ⟨rfl, rfl, rfl, rfl, trivial⟩ ⟨(congrArg some (by dsimp only; rw [he])), rfl, trivial⟩ (by decide))
   ·
    replace hg41 := of_decide_eq_false hg41
    omega
  ·
   replace hc31 := of_decide_eq_false hc31
   refine C.exit ?_; refine QE.tX ?_; refine QE.tX ?_; refine QE.blk ?_; refine QE.seq ?_
   obtain rfl : k = (chgL (symL ops) inn S n).length := by omega
   refine C.freeze 0 rfl [1] (by decide) (by decide) ?_; refine C.norm (H' := [_]) [0] ⟨rfl, trivial⟩ (by decide) ?_
   have hal := amoL_len (chgL (symL ops) inn S n) (rdsL (symL ops) inn S n n) i
   refine C.region ?_; refine Lpu rfl rfl ?_; refine Lpu rfl rfl ?_
   refine L.lit rfl rfl rfl rfl rfl (by rfl) (by rfl) (by rfl) rfl rfl (fun A61 => ?_)
   refine L.append (j := 0) rfl rfl rfl rfl (by decide) rfl rfl rfl rfl (Src.o 1 rfl) rfl (allOne rfl) (by rw [amoL_len]; omega) (by show _ * 24 ≤ _; omega) rfl (fun A62 cc62 => ?_)
   refine Lpu rfl rfl ?_; refine L.nil ?_; refine QE.blkN ?_; refine QE.seq (C.region ?_); refine Lpu rfl rfl ?_; refine L.step (Ev.add rfl rfl (by omega) (by omega)) rfl ?_; refine Lpu rfl rfl ?_; refine L.nil ?_; refine QE.more (r := KidsR (hs ++ [(B, d)]) (J8 (amoL (chgL (symL ops) inn S n) (rdsL (symL ops) inn S n n) i) ++ [I64 (NI (amoRk (chgL (symL ops) inn S n) (rdsL (symL ops) inn S n n) i (chgL (symL ops) inn S n).length))])) (Has.kidsSnoc 4 0 d rfl rfl (by rw [J8_len, amoL_len]; exact hhs)) ?_
   refine QE.round (i := (i, A, c, hs)) ((i + 1, A62, cc62, hs ++ [(B, d)])) (by exact ⟨by dsimp only; omega, by dsimp only; rw [List.length_append, hhs]; rfl⟩) (by dsimp only; omega) (by exact Le.mk' (rs := [2, 3, 4, 0]) (hs := [0]) ⟨rfl, rfl, (by dsimp only; rw [amoL_snoc, List.length_append]; rfl), rfl, trivial⟩ ⟨rfl, rfl, rfl, (congrArg some (by dsimp only; rw [amoL_snoc, ← J8_snoc]; rfl)), trivial⟩ ⟨(congrArg some (own_eq (by dsimp only; rw [amoL_snoc, List.length_append]; rfl) (by dsimp only; rw [amoL_snoc, ← rowsJ_app (by rw [amoL_len]; exact hhs), NI_len]; rfl))), trivial⟩ (by decide))
 ·
  replace hc24 := of_decide_eq_false hc24
  refine C.exit ?_; refine QE.tX ?_; refine QE.tX ?_; refine QE.blk ?_; refine QE.seq (C.seq (C.region ?_)); refine Lpu rfl rfl ?_; refine Lpu rfl rfl ?_; refine L.nil (QE.seq (C.ret ?_)); refine QE.freeze 0 rfl [] (by decide) (by decide) ?_; refine QE.ret (js := [0, 4]) (hs := []) (vs := [_]) rfl ⟨rfl, trivial⟩ (by decide) ?_
  obtain rfl : i = (chgL (symL ops) inn S n).length := by omega
  rw [show (amoL (chgL (symL ops) inn S n) (rdsL (symL ops) inn S n n) (chgL (symL ops) inn S n).length).length = _ from amoL_len _ _ _]
  exact ⟨A, c, hs, rfl, rfl, rfl, hhs⟩

set_option maxHeartbeats 2000000 in
theorem makeR_c (BA : Option Addr) (ol bc : Nat) (sz n : Int) (lf : Bool) (inn out : Int) (ops : List Po) (OA : Option Addr) (oc : Nat) (hops : ops.length ≤ 9223372036854775807) (_hol : ol ≤ 9223372036854775807) :
   Ctr X 13 [.agg (List.toArray [.slice BA ol bc, .bool lf, .int .i64 inn, .int .i64 out, .slice OA ops.length oc, .int .i64 sz, .int .i64 n])] [Rd OA (opsV ops)] [] (fun v R' H' => ∃ (O Q Hh : Option Addr) (c1 c2 c3 : Nat), v = .tuple #[.agg (List.toArray [.int .i64 (mkP lf inn out sz n ops ol).sz, .int .i64 (mkP lf inn out sz n ops ol).n, .bool (mkP lf inn out sz n ops ol).lf, .int .i64 (mkP lf inn out sz n ops ol).inn, .int .i64 (mkP lf inn out sz n ops ol).out, .slice O (mkP lf inn out sz n ops ol).ops.length c1, .slice Q (mkP lf inn out sz n ops ol).q.length c2, .slice Hh (mkP lf inn out sz n ops ol).h.length c3]), .int .i64 (mkE lf inn out sz n ops ol)] ∧ R' = [Rd O (opsV (mkP lf inn out sz n ops ol).ops), Rd Q (I64 (mkP lf inn out sz n ops ol).q), Rd Hh (I64 (mkP lf inn out sz n ops ol).h)] ∧ H' = []) := by
 refine Ctr.of (X := X) (fn := Tryz.f13) Tryz.func13 rfl (by kernel_rfl) rfl ?_
 intro β
 refine C.seq (C.region ?_)
 refine L.boxA rfl rfl (fun A1 => ?_)
 refine L.alloc rfl rfl rfl (fun A2 => ?_)
 refine Lpu rfl rfl ?_; refine L.nil (QE.seq (C.seq ?_)); refine C.freeze 0 rfl [1] (by decide) (by decide) ?_; refine C.norm (H' := [_]) [0] ⟨rfl, trivial⟩ (by decide) ?_; refine C.region ?_; refine L.step (Ev.fieldAddr rfl rfl rfl rfl rfl rfl (Src.r 0 rfl) (Nat.zero_lt_succ _) rfl) rfl ?_; refine L.step (Ev.load rfl rfl rfl (Src.r 0 rfl) rfl) rfl ?_; refine L.step (Ev.fieldAddr rfl rfl rfl rfl rfl rfl (Src.r 0 rfl) (Nat.zero_lt_succ _) rfl) rfl ?_; refine L.step (Ev.load rfl rfl rfl (Src.r 0 rfl) rfl) rfl ?_; refine L.step (Ev.fieldAddr rfl rfl rfl rfl rfl rfl (Src.r 0 rfl) (Nat.zero_lt_succ _) rfl) rfl ?_; refine L.step (Ev.loadA (vs := [.bool lf, .int .i64 inn, .int .i64 out, .slice OA ops.length oc]) rfl rfl rfl (Src.r 0 rfl) rfl rfl (by decide)) rfl ?_; refine L.step (Ev.build rfl rfl rfl rfl rfl rfl rfl) rfl ?_
 refine L.alloc rfl rfl rfl (fun A4 => ?_)
 refine L.storeA (j := 1) rfl rfl rfl rfl rfl (Nat.zero_lt_succ _) rfl rfl ?_; refine L.nil (QE.seq (C.seq (C.seq (C.region ?_)))); refine L.step (Ev.fieldAddr rfl rfl rfl rfl rfl rfl (Src.r 0 rfl) (Nat.zero_lt_succ _) rfl) rfl ?_; refine L.step (Ev.loadA (vs := [.bool lf, .int .i64 inn, .int .i64 out, .slice OA ops.length oc]) rfl rfl rfl (Src.r 0 rfl) rfl rfl (by decide)) rfl ?_; refine L.call (js := []) (js' := [0, 1]) (right06_c lf inn out ops OA oc hops) rfl rfl rfl (by decide) (Hq [1] rfl) rfl ?_
 rintro _ _ _ ⟨rfl, rfl, rfl⟩
 refine L.norm (H' := [_, _]) [0, 1] ⟨rfl, rfl, trivial⟩ (by decide) ?_; refine Lpu rfl rfl ?_; refine L.nil (QE.seq ?_)
 refine C.condB 17 rfl (fun hc17 => ?_) (fun hc17 => ?_)
 ·
  have hE1 : chkE inn out ops ≠ 0 := by simpa using hc17
  refine C.seq (C.region ?_); refine L.step (Ev.build rfl rfl rfl rfl rfl rfl rfl) rfl ?_; refine L.storeA (j := 0) rfl rfl rfl rfl rfl (Nat.zero_lt_succ _) rfl rfl ?_; refine Lpu rfl rfl ?_; refine L.nil (QE.seq (C.ret (QE.tR ?_))); refine QE.more (r := Rd none (opsV [])) (Has.nil) ?_; refine QE.more (r := Rd none (I64 [])) (Has.nil) ?_; refine QE.more (r := Rd none (I64 [])) (Has.nil) ?_; refine QE.ret (js := [2, 1, 0]) (hs := []) (vs := [_, _]) rfl ⟨⟨_, _, 0, _, rfl, rfl, Src.o 0 rfl, .inl ⟨rfl, by decide, _, rfl, rfl, rfl⟩⟩, rfl, trivial⟩ (by decide) ?_
  have hE : mkE lf inn out sz n ops ol = _ := mkE_1 hE1
  have hP : mkP lf inn out sz n ops ol = Pp.zero := mkP_no (by rw [hE]; decide)
  rw [hP, hE]
  exact ⟨none, none, none, 0, 0, 0, rfl, rfl, rfl⟩
 ·
  have hE0 : chkE inn out ops = 0 := by simpa using hc17
  refine C.skip (QE.seq (C.seq (C.seq (C.region ?_)))); refine L.step (Ev.fieldAddr rfl rfl rfl rfl rfl rfl (Src.r 0 rfl) (Nat.zero_lt_succ _) rfl) rfl ?_; refine L.step (Ev.fieldAddr rfl rfl rfl rfl rfl rfl (Src.r 0 rfl) (Nat.zero_lt_succ _) rfl) rfl ?_; refine L.step (Ev.load rfl rfl rfl (Src.r 0 rfl) rfl) rfl ?_; refine L.nil (QE.seq ?_)
  refine C.condB 21 rfl (fun hc21 => ?_) (fun hc21 => ?_)
  ·
   refine C.seq (C.region ?_); refine L.step (Ev.build rfl rfl rfl rfl rfl rfl rfl) rfl ?_; refine L.storeA (j := 0) rfl rfl rfl rfl rfl (Nat.zero_lt_succ _) rfl rfl ?_; refine Lpu rfl rfl ?_; refine L.nil (QE.seq (C.ret (QE.tR ?_))); refine QE.more (r := Rd none (opsV [])) (Has.nil) ?_; refine QE.more (r := Rd none (I64 [])) (Has.nil) ?_; refine QE.more (r := Rd none (I64 [])) (Has.nil) ?_; refine QE.ret (js := [2, 1, 0]) (hs := []) (vs := [_, _]) rfl ⟨⟨_, _, 0, _, rfl, rfl, Src.o 0 rfl, .inl ⟨rfl, by decide, _, rfl, rfl, rfl⟩⟩, rfl, trivial⟩ (by decide) ?_
   have hE : mkE lf inn out sz n ops ol = _ := mkE_2 hE0 hc21
   have hP : mkP lf inn out sz n ops ol = Pp.zero := mkP_no (by rw [hE]; decide)
   rw [hP, hE]
   exact ⟨none, none, none, 0, 0, 0, rfl, rfl, rfl⟩
  ·
   refine C.skip (QE.seq (C.seq (C.seq (C.region ?_)))); refine L.step (Ev.loadA (vs := [.int .i64 sz, .int .i64 n, .bool lf, .int .i64 inn, .int .i64 out, .slice OA ops.length oc, .slice none 0 0, .slice none 0 0]) rfl rfl rfl (Src.o 1 rfl) rfl rfl (by decide)) rfl ?_; refine L.call (js := []) (js' := [0, 1]) (sizes_c sz n lf inn out ops OA oc (.slice none 0 0) (.slice none 0 0)) rfl rfl rfl (by decide) trivial rfl ?_
   rintro _ _ _ ⟨rfl, rfl, rfl⟩
   refine L.norm (H' := [_, _]) [0, 1] ⟨rfl, rfl, trivial⟩ (by decide) ?_; refine Lpu rfl rfl ?_; refine L.nil (QE.seq ?_)
   refine C.condB 25 rfl (fun hc25 => ?_) (fun hc25 => ?_)
   ·
    refine C.seq (C.region ?_); refine L.step (Ev.build rfl rfl rfl rfl rfl rfl rfl) rfl ?_; refine L.storeA (j := 0) rfl rfl rfl rfl rfl (Nat.zero_lt_succ _) rfl rfl ?_; refine Lpu rfl rfl ?_; refine L.nil (QE.seq (C.ret (QE.tR ?_))); refine QE.more (r := Rd none (opsV [])) (Has.nil) ?_; refine QE.more (r := Rd none (I64 [])) (Has.nil) ?_; refine QE.more (r := Rd none (I64 [])) (Has.nil) ?_; refine QE.ret (js := [2, 1, 0]) (hs := []) (vs := [_, _]) rfl ⟨⟨_, _, 0, _, rfl, rfl, Src.o 0 rfl, .inl ⟨rfl, by decide, _, rfl, rfl, rfl⟩⟩, rfl, trivial⟩ (by decide) ?_
    have hE : mkE lf inn out sz n ops ol = _ := mkE_3 hE0 (by simpa using hc21) (by simpa using hc25)
    have hP : mkP lf inn out sz n ops ol = Pp.zero := mkP_no (by rw [hE]; decide)
    rw [hP, hE]
    exact ⟨none, none, none, 0, 0, 0, rfl, rfl, rfl⟩
   ·
    refine C.skip (QE.seq (C.seq (C.seq (C.region ?_)))); refine L.step (Ev.fieldAddr rfl rfl rfl rfl rfl rfl (Src.r 0 rfl) (Nat.zero_lt_succ _) rfl) rfl ?_; refine L.step (Ev.load rfl rfl rfl (Src.r 0 rfl) rfl) rfl ?_; refine Lpu rfl rfl ?_; refine L.step (Ev.fieldAddr rfl rfl rfl rfl rfl rfl (Src.r 0 rfl) (Nat.zero_lt_succ _) rfl) rfl ?_; refine L.step (Ev.fieldAddr rfl rfl rfl rfl rfl rfl (Src.r 0 rfl) (Nat.zero_lt_succ _) rfl) rfl ?_; refine L.step (Ev.load rfl rfl rfl (Src.r 0 rfl) rfl) rfl ?_; refine Lpu rfl rfl ?_; refine L.nil (QE.seq ?_)
    refine C.condB 33 rfl (fun hc33 => ?_) (fun hc33 => ?_)
    ·
     replace hc33 := b_ne hc33
     refine C.seq (C.region ?_); refine L.step (Ev.build rfl rfl rfl rfl rfl rfl rfl) rfl ?_; refine L.storeA (j := 0) rfl rfl rfl rfl rfl (Nat.zero_lt_succ _) rfl rfl ?_; refine Lpu rfl rfl ?_; refine L.nil (QE.seq (C.ret (QE.tR ?_))); refine QE.more (r := Rd none (opsV [])) (Has.nil) ?_; refine QE.more (r := Rd none (I64 [])) (Has.nil) ?_; refine QE.more (r := Rd none (I64 [])) (Has.nil) ?_; refine QE.ret (js := [2, 1, 0]) (hs := []) (vs := [_, _]) rfl ⟨⟨_, _, 0, _, rfl, rfl, Src.o 0 rfl, .inl ⟨rfl, by decide, _, rfl, rfl, rfl⟩⟩, rfl, trivial⟩ (by decide) ?_
     have hE : mkE lf inn out sz n ops ol = _ := mkE_4 hE0 (by simpa using hc21) (by simpa using hc25) (by omega)
     have hP : mkP lf inn out sz n ops ol = Pp.zero := mkP_no (by rw [hE]; decide)
     rw [hP, hE]
     exact ⟨none, none, none, 0, 0, 0, rfl, rfl, rfl⟩
    ·
     replace hc33 := b_eq hc33
     have hszb0 : sizB sz n inn out = true := by simpa using hc25
     have hlf0 : lf = false := by simpa using hc21
     subst hlf0
     have hszb := sizB_iff.1 hszb0
     obtain ⟨S, rfl⟩ : ∃ q : Nat, sz = (q : Int) := ⟨sz.toNat, by omega⟩
     obtain ⟨n, rfl⟩ : ∃ q : Nat, n = (q : Int) := ⟨n.toNat, by omega⟩
     obtain ⟨hS1, hS2, hn1, hn2, hi1, hi2⟩ : 1 ≤ S ∧ S ≤ 4096 ∧ 1 ≤ n ∧ n ≤ 64 ∧ inn ≤ (S : Int) * (n : Int) ∧ out ≤ (S : Int) * (n : Int) := ⟨by omega, by omega, by omega, by omega, hszb.2.2.2.2.1, hszb.2.2.2.2.2⟩
     have hcl := chgL_len (symL ops) inn S n
     refine C.skip (QE.seq (C.seq (C.region ?_))); refine L.step (Ev.loadA (vs := [.int .i64 (S : Int), .int .i64 (n : Int), .bool false, .int .i64 inn, .int .i64 out, .slice OA ops.length oc, .slice none 0 0, .slice none 0 0]) rfl rfl rfl (Src.o 1 rfl) rfl rfl (by decide)) rfl ?_; refine L.call (js := []) (js' := [0, 1]) (changes19_c S n false inn out ops OA oc (.slice none 0 0) (.slice none 0 0) hops hS1 hS2 hn1 hn2 hE0) rfl rfl rfl (by decide) (Hq [1] rfl) rfl ?_
     rintro _ _ _ ⟨CA, cc, rfl, rfl, rfl⟩
     refine L.norm (H' := [_, _, _]) [0, 1, 2] ⟨rfl, rfl, rfl, trivial⟩ (by decide) ?_; refine Lpu rfl rfl ?_; refine L.nil (QE.seq (C.seq (C.seq ?_))); refine C.freeze 0 rfl [1, 2] (by decide) (by decide) ?_; refine C.norm (H' := [_, _]) [0, 1] ⟨rfl, rfl, trivial⟩ (by decide) ?_; refine C.region ?_; refine Lpu rfl rfl ?_; refine Lpu rfl rfl ?_; refine Lpu rfl rfl ?_; refine L.nil (QE.seq ?_)
     refine C.condB 39 rfl (fun hc39 => ?_) (fun hc39 => ?_)
     ·
      replace hc39 := of_decide_eq_true hc39
      refine C.seq (C.region ?_); refine L.step (Ev.build rfl rfl rfl rfl rfl rfl rfl) rfl ?_; refine L.storeA (j := 0) rfl rfl rfl rfl rfl (Nat.zero_lt_succ _) rfl rfl ?_; refine Lpu rfl rfl ?_; refine L.nil (QE.seq (C.ret (QE.tR ?_))); refine QE.more (r := Rd none (opsV [])) (Has.nil) ?_; refine QE.more (r := Rd none (I64 [])) (Has.nil) ?_; refine QE.more (r := Rd none (I64 [])) (Has.nil) ?_; refine QE.ret (js := [2, 1, 0]) (hs := []) (vs := [_, _]) rfl ⟨⟨_, _, 0, _, rfl, rfl, Src.o 0 rfl, .inl ⟨rfl, by decide, _, rfl, rfl, rfl⟩⟩, rfl, trivial⟩ (by decide) ?_
      have hE : mkE false inn out (S : Int) (n : Int) ops ol = 2 := mkE_5 hE0 rfl hszb0 hc33 (by rw [Int.toNat_natCast, Int.toNat_natCast]; omega)
      have hP : mkP false inn out (S : Int) (n : Int) ops ol = Pp.zero := mkP_no (by rw [hE]; decide)
      rw [hP, hE]
      exact ⟨none, none, none, 0, 0, 0, rfl, rfl, rfl⟩
     ·
      replace hc39 := of_decide_eq_false hc39
      refine C.skip (QE.seq (C.seq ?_))
      have hro : readB (mkM inn S n ops) = true := amo_ok
      have haml : (mkM inn S n ops).length = (chgL (symL ops) inn S n).length := amoL_len _ _ _
      obtain ⟨s, hs2, hoH, hoQ, hof, hoE⟩ := ord16 hro (by rw [haml]; omega)
      have hQl : (ordQ (mkM inn S n ops)).length = (chgL (symL ops) inn S n).length := by rw [hoQ, ← haml]; exact full_iff.1 hof
      have hHl : (ordH (mkM inn S n ops)).length ≤ 16 := by rw [hoH]; exact mem16 (by rw [haml] at hs2; exact hs2) (by omega)
      refine C.region ?_; refine L.step (Ev.loadA (vs := [.int .i64 (S : Int), .int .i64 (n : Int), .bool false, .int .i64 inn, .int .i64 out, .slice OA ops.length oc, .slice none 0 0, .slice none 0 0]) rfl rfl rfl (Src.o 1 rfl) rfl rfl (by decide)) rfl ?_; refine L.callR (js := []) (js' := [0, 1]) (among_c S n inn out ops OA oc (.slice none 0 0) (.slice none 0 0) hops hS1 hS2 hn1 hn2 hE0 hi1 hi2) rfl rfl rfl (by decide) (Hq [2] rfl) rfl ?_
      rintro _ _ _ ⟨A42, c42, hs, rfl, rfl, rfl, hhs⟩
      refine L.norm (H' := [_, _]) [0, 1] ⟨rfl, rfl, trivial⟩ (by decide) ?_; refine L.callR (js := []) (js' := [0, 1]) (order21_m A42 (mkM inn S n ops) c42 (chgL (symL ops) inn S n).length haml hs (hhs.trans haml.symm) hro (by omega) (fun i => by have := amo_row (l := (symL ops)) (inn := inn) (S := S) (n := n) i; unfold mkM; omega)) rfl rfl rfl (by decide) (Hq [0, 1] rfl) rfl ?_
      rintro _ _ _ ⟨QA, HA, qc, hc, rfl, rfl, rfl⟩
      refine L.norm (H' := [_, _]) [0, 1] ⟨rfl, rfl, trivial⟩ (by decide) ?_
      refine L.alloc rfl rfl rfl (fun A6 => ?_)
      refine L.storeA (j := 2) rfl rfl rfl rfl rfl (Nat.zero_lt_succ _) rfl rfl ?_; refine L.nil (QE.seq (C.seq ?_)); refine C.freeze 2 rfl [0, 1] (by decide) (by decide) ?_; refine C.norm (H' := [_, _]) [0, 1] ⟨rfl, rfl, trivial⟩ (by decide) ?_; refine C.region ?_; refine Lpu rfl rfl ?_; refine L.step (Ev.fieldAddr rfl rfl rfl rfl rfl rfl (Src.r 0 rfl) (Nat.zero_lt_succ _) rfl) rfl ?_; refine L.step (Ev.load rfl rfl rfl (Src.r 0 rfl) rfl) rfl ?_; refine L.call (js := []) (js' := [0, 1]) (named_c CA QA (chgL (symL ops) inn S n) (ordQ (mkM inn S n ops)) cc qc (by omega) (by omega) (fun i hi => by rw [hoQ, ← haml]; exact frs_mem _ _ (getD_mem (by rw [← hoQ]; exact hi)))) rfl rfl rfl (by decide) (Hq [5, 1] rfl) rfl ?_
      rintro _ _ _ ⟨A47, c47, rfl, rfl, rfl⟩
      refine L.norm (H' := [_, _, _]) [0, 1, 2] ⟨rfl, rfl, rfl, trivial⟩ (by decide) ?_; refine L.step (Ev.fieldAddr rfl rfl rfl rfl rfl rfl (Src.o 2 rfl) (Nat.zero_lt_succ _) rfl) rfl ?_; refine L.store (j := 2) rfl rfl rfl rfl rfl rfl rfl rfl ?_; refine L.nil (QE.seq (C.seq (C.region ?_))); refine Lpu rfl rfl ?_; refine L.step (Ev.fieldAddr rfl rfl rfl rfl rfl rfl (Src.r 0 rfl) (Nat.zero_lt_succ _) rfl) rfl ?_; refine L.step (Ev.load rfl rfl rfl (Src.r 0 rfl) rfl) rfl ?_; refine L.call (js := []) (js' := [0, 1, 2]) (named_c CA HA (chgL (symL ops) inn S n) (ordH (mkM inn S n ops)) cc hc (by omega) (by omega) (fun i hi => by rw [hoH]; exact mem_lt16 (by rw [haml] at hs2; exact hs2) (getD_mem (by rw [← hoH]; exact hi)))) rfl rfl rfl (by decide) (Hq [5, 2] rfl) rfl ?_
      rintro _ _ _ ⟨A52, c52, rfl, rfl, rfl⟩
      refine L.norm (H' := [_, _, _, _]) [0, 1, 2, 3] ⟨rfl, rfl, rfl, rfl, trivial⟩ (by decide) ?_; refine L.step (Ev.fieldAddr rfl rfl rfl rfl rfl rfl (Src.o 3 rfl) (Nat.zero_lt_succ _) rfl) rfl ?_; refine L.store (j := 3) rfl rfl rfl rfl rfl rfl rfl rfl ?_; refine L.nil (QE.seq (C.seq (C.region ?_))); refine L.step (Ev.loadA (vs := [.int .i64 (S : Int), .int .i64 (n : Int), .bool false, .int .i64 inn, .int .i64 out, .slice OA ops.length oc, .slice A47 (namL (chgL (symL ops) inn S n) (ordQ (mkM inn S n ops))).length c47, .slice A52 (namL (chgL (symL ops) inn S n) (ordH (mkM inn S n ops))).length c52]) rfl rfl rfl (Src.o 3 rfl) rfl rfl (by decide)) rfl ?_; refine L.storeA (j := 2) rfl rfl rfl rfl rfl (Nat.zero_lt_succ _) rfl rfl ?_; refine Lpu rfl rfl ?_; refine L.nil (QE.seq (C.ret ?_)); refine QE.freeze 1 rfl [0, 2, 3] (by decide) (by decide) ?_; refine QE.norm (H' := [_, _, _]) [0, 1, 2] ⟨rfl, rfl, rfl, trivial⟩ (by decide) ?_; refine QE.freeze 0 rfl [1, 2] (by decide) (by decide) ?_; refine QE.norm (H' := [_, _]) [0, 1] ⟨rfl, rfl, trivial⟩ (by decide) ?_; refine QE.ret (js := [9, 1, 0]) (hs := []) (vs := [_, _]) rfl ⟨⟨_, _, 0, _, rfl, rfl, Src.o 0 rfl, .inl ⟨rfl, by decide, _, rfl, rfl, rfl⟩⟩, rfl, trivial⟩ (by decide) ?_
      have hE : mkE false inn out (S : Int) (n : Int) ops ol = 0 := mkE_0 hE0 rfl hszb0 hc33 (by rw [Int.toNat_natCast, Int.toNat_natCast]; omega)
      have hP := mkP_ok hE
      rw [Int.toNat_natCast, Int.toNat_natCast] at hP
      rw [hP, hE]
      simp only [NI_len]
      exact ⟨OA, A47, A52, oc, c47, c52, rfl, rfl, rfl⟩

theorem sameOp_c (x : Po) :
   Ctr X 63 [.agg (List.toArray x.cells), .agg (List.toArray x.cells)] [] [] (fun v R' H' => v = .bool true ∧ R' = [] ∧ H' = []) := by
 refine Ctr.of (X := X) (fn := Tryz.f63) Tryz.func63 rfl (by kernel_rfl) rfl ?_
 intro β
 refine C.seq (C.region ?_)
 refine L.boxA rfl rfl (fun A2 => ?_)
 refine L.boxA rfl rfl (fun A3 => ?_)
 refine Lpu rfl rfl ?_; refine L.nil (QE.seq (C.seq ?_)); refine C.freeze 0 rfl [1] (by decide) (by decide) ?_; refine C.freeze 0 rfl [] (by decide) (by decide) ?_; refine C.region ?_; refine L.step (Ev.fieldAddr rfl rfl rfl rfl rfl rfl (Src.r 1 rfl) (Nat.zero_lt_succ _) rfl) rfl ?_; refine L.step (Ev.load rfl rfl rfl (Src.r 1 rfl) rfl) rfl ?_; refine L.step (Ev.fieldAddr rfl rfl rfl rfl rfl rfl (Src.r 0 rfl) (Nat.zero_lt_succ _) rfl) rfl ?_; refine L.step (Ev.load rfl rfl rfl (Src.r 0 rfl) rfl) rfl ?_; refine Lpu rfl rfl ?_; refine Lpu rfl rfl ?_
 refine L.bool 10 rfl (fun hg10 => ?_) (fun hg10 => ?_)
 ·
  replace hg10 := i_eq hg10
  refine L.yes rfl ?_; refine L.step (Ev.fieldAddr rfl rfl rfl rfl rfl rfl (Src.r 1 rfl) (Nat.zero_lt_succ _) rfl) rfl ?_; refine L.yes rfl ?_; refine L.step (Ev.load rfl rfl rfl (Src.r 1 rfl) rfl) rfl ?_; refine L.yes rfl ?_; refine L.step (Ev.fieldAddr rfl rfl rfl rfl rfl rfl (Src.r 0 rfl) (Nat.zero_lt_succ _) rfl) rfl ?_; refine L.yes rfl ?_; refine L.step (Ev.load rfl rfl rfl (Src.r 0 rfl) rfl) rfl ?_; refine L.yes rfl ?_; refine Lpu rfl rfl ?_; refine Lpu rfl rfl ?_; refine Lpu rfl rfl ?_
  refine L.bool 17 rfl (fun hg17 => ?_) (fun hg17 => ?_)
  ·
   replace hg17 := i_eq hg17
   refine L.yes rfl ?_; refine L.step (Ev.fieldAddr rfl rfl rfl rfl rfl rfl (Src.r 1 rfl) (Nat.zero_lt_succ _) rfl) rfl ?_; refine L.yes rfl ?_; refine L.step (Ev.load rfl rfl rfl (Src.r 1 rfl) rfl) rfl ?_; refine L.yes rfl ?_; refine L.step (Ev.fieldAddr rfl rfl rfl rfl rfl rfl (Src.r 0 rfl) (Nat.zero_lt_succ _) rfl) rfl ?_; refine L.yes rfl ?_; refine L.step (Ev.load rfl rfl rfl (Src.r 0 rfl) rfl) rfl ?_; refine L.yes rfl ?_; refine Lpu rfl rfl ?_; refine Lpu rfl rfl ?_; refine Lpu rfl rfl ?_
   refine L.bool 24 rfl (fun hg24 => ?_) (fun hg24 => ?_)
   ·
    replace hg24 := i_eq hg24
    refine L.yes rfl ?_; refine L.step (Ev.fieldAddr rfl rfl rfl rfl rfl rfl (Src.r 1 rfl) (Nat.zero_lt_succ _) rfl) rfl ?_; refine L.yes rfl ?_; refine L.step (Ev.load rfl rfl rfl (Src.r 1 rfl) rfl) rfl ?_; refine L.yes rfl ?_; refine L.step (Ev.fieldAddr rfl rfl rfl rfl rfl rfl (Src.r 0 rfl) (Nat.zero_lt_succ _) rfl) rfl ?_; refine L.yes rfl ?_; refine L.step (Ev.load rfl rfl rfl (Src.r 0 rfl) rfl) rfl ?_; refine L.yes rfl ?_; refine Lpu rfl rfl ?_; refine Lpu rfl rfl ?_; refine Lpu rfl rfl ?_
    refine L.bool 31 rfl (fun hg31 => ?_) (fun hg31 => ?_)
    ·
     replace hg31 := i_eq hg31
     refine L.yes rfl ?_; refine L.step (Ev.fieldAddr rfl rfl rfl rfl rfl rfl (Src.r 1 rfl) (Nat.zero_lt_succ _) rfl) rfl ?_; refine L.yes rfl ?_; refine L.step (Ev.load rfl rfl rfl (Src.r 1 rfl) rfl) rfl ?_; refine L.yes rfl ?_; refine L.step (Ev.toStr (xs := []) rfl rfl rfl rfl rfl rfl rfl Src.nil) rfl ?_; refine L.yes rfl ?_; refine L.step (Ev.fieldAddr rfl rfl rfl rfl rfl rfl (Src.r 0 rfl) (Nat.zero_lt_succ _) rfl) rfl ?_; refine L.yes rfl ?_; refine L.step (Ev.load rfl rfl rfl (Src.r 0 rfl) rfl) rfl ?_; refine L.yes rfl ?_; refine L.step (Ev.toStr (xs := []) rfl rfl rfl rfl rfl rfl rfl Src.nil) rfl ?_; refine L.yes rfl ?_; refine L.step (Ev.eqStr rfl rfl) rfl ?_; refine Lpu rfl rfl ?_; refine Lpu rfl rfl ?_; refine L.nil (QE.seq (C.ret ?_)); refine QE.ret (js := []) (hs := []) (vs := [_]) rfl ⟨rfl, trivial⟩ (by decide) ?_
     exact ⟨congrArg Value.bool (by simp), rfl, rfl⟩
    ·
     replace hg31 := i_ne hg31
     exact absurd rfl hg31
   ·
    replace hg24 := i_ne hg24
    exact absurd rfl hg24
  ·
   replace hg17 := i_ne hg17
   exact absurd rfl hg17
 ·
  replace hg10 := i_ne hg10
  exact absurd rfl hg10

theorem sameP_c (lf : Bool) (inn out : Int) (ops : List Po) (OA : Option Addr) (oc : Nat) (hops : ops.length ≤ 9223372036854775807) (PA : Option Addr) (pc : Nat) :
   Ctr X 22 [.agg (List.toArray [.bool lf, .int .i64 inn, .int .i64 out, .slice OA ops.length oc]), .agg (List.toArray [.bool lf, .int .i64 inn, .int .i64 out, .slice PA ops.length pc])] [Rd OA (opsV ops), Rd PA (opsV ops)] [] (fun v R' H' => v = .bool true ∧ R' = [] ∧ H' = []) := by
 refine Ctr.of (X := X) (fn := Tryz.f22) Tryz.func22 rfl (by kernel_rfl) rfl ?_
 intro β
 refine C.seq (C.region ?_)
 refine L.boxA rfl rfl (fun A2 => ?_)
 refine L.boxA rfl rfl (fun A3 => ?_)
 refine Lpu rfl rfl ?_; refine L.nil (QE.seq (C.seq (C.seq ?_))); refine C.freeze 0 rfl [1] (by decide) (by decide) ?_; refine C.freeze 0 rfl [] (by decide) (by decide) ?_; refine C.region ?_; refine L.step (Ev.fieldAddr rfl rfl rfl rfl rfl rfl (Src.r 1 rfl) (Nat.zero_lt_succ _) rfl) rfl ?_; refine L.step (Ev.load rfl rfl rfl (Src.r 1 rfl) rfl) rfl ?_; refine L.step (Ev.fieldAddr rfl rfl rfl rfl rfl rfl (Src.r 0 rfl) (Nat.zero_lt_succ _) rfl) rfl ?_; refine L.step (Ev.load rfl rfl rfl (Src.r 0 rfl) rfl) rfl ?_; refine L.step (Ev.neBool rfl rfl rfl rfl) rfl ?_; refine Lpu rfl rfl ?_
 refine L.bool 11 rfl (fun hg11 => ?_) (fun hg11 => ?_)
 ·
  simp at hg11
 ·
  refine L.yes rfl ?_; refine L.step (Ev.fieldAddr rfl rfl rfl rfl rfl rfl (Src.r 1 rfl) (Nat.zero_lt_succ _) rfl) rfl ?_; refine L.yes rfl ?_; refine L.step (Ev.load rfl rfl rfl (Src.r 1 rfl) rfl) rfl ?_; refine L.yes rfl ?_; refine L.step (Ev.fieldAddr rfl rfl rfl rfl rfl rfl (Src.r 0 rfl) (Nat.zero_lt_succ _) rfl) rfl ?_; refine L.yes rfl ?_; refine L.step (Ev.load rfl rfl rfl (Src.r 0 rfl) rfl) rfl ?_; refine L.yes rfl ?_; refine Lpu rfl rfl ?_; refine Lpu rfl rfl ?_; refine Lpu rfl rfl ?_
  refine L.bool 18 rfl (fun hg18 => ?_) (fun hg18 => ?_)
  ·
   replace hg18 := b_ne hg18
   exact absurd rfl hg18
  ·
   replace hg18 := b_eq hg18
   refine L.yes rfl ?_; refine L.step (Ev.fieldAddr rfl rfl rfl rfl rfl rfl (Src.r 1 rfl) (Nat.zero_lt_succ _) rfl) rfl ?_; refine L.yes rfl ?_; refine L.step (Ev.load rfl rfl rfl (Src.r 1 rfl) rfl) rfl ?_; refine L.yes rfl ?_; refine L.step (Ev.fieldAddr rfl rfl rfl rfl rfl rfl (Src.r 0 rfl) (Nat.zero_lt_succ _) rfl) rfl ?_; refine L.yes rfl ?_; refine L.step (Ev.load rfl rfl rfl (Src.r 0 rfl) rfl) rfl ?_; refine L.yes rfl ?_; refine Lpu rfl rfl ?_; refine Lpu rfl rfl ?_; refine Lpu rfl rfl ?_
   refine L.bool 25 rfl (fun hg25 => ?_) (fun hg25 => ?_)
   ·
    replace hg25 := b_ne hg25
    exact absurd rfl hg25
   ·
    replace hg25 := b_eq hg25
    refine L.yes rfl ?_; refine L.step (Ev.fieldAddr rfl rfl rfl rfl rfl rfl (Src.r 1 rfl) (Nat.zero_lt_succ _) rfl) rfl ?_; refine L.yes rfl ?_; refine L.step (Ev.load rfl rfl rfl (Src.r 1 rfl) rfl) rfl ?_; refine L.yes rfl ?_; refine Lpu rfl rfl ?_; refine L.yes rfl ?_; refine L.step (Ev.fieldAddr rfl rfl rfl rfl rfl rfl (Src.r 0 rfl) (Nat.zero_lt_succ _) rfl) rfl ?_; refine L.yes rfl ?_; refine L.step (Ev.load rfl rfl rfl (Src.r 0 rfl) rfl) rfl ?_; refine L.yes rfl ?_; refine Lpu rfl rfl ?_; refine L.yes rfl ?_; refine Lpu rfl rfl ?_; refine Lpu rfl rfl ?_; refine L.nil (QE.seq ?_)
    refine C.condB 33 rfl (fun hc33 => ?_) (fun hc33 => ?_)
    ·
     replace hc33 := b_ne hc33
     exact absurd rfl hc33
    ·
     replace hc33 := b_eq hc33
     refine C.skip (QE.seq (C.seq (C.seq (C.region ?_)))); refine Lpu rfl rfl ?_; refine L.nil (QE.seq (C.block ?_)); refine C.loop (fun i : Nat => [(2, ptrOf A2 0), (3, ptrOf A3 0), (5, .int .i64 (i : Int))]) (fun i : Nat => [Rd A3 [.bool lf, .int .i64 inn, .int .i64 out, .slice PA ops.length pc], Rd A2 [.bool lf, .int .i64 inn, .int .i64 out, .slice OA ops.length oc], Rd OA (opsV ops), Rd PA (opsV ops)]) (fun i : Nat => []) (fun i : Nat => i ≤ ops.length) (fun i : Nat => ops.length - i) 0 (Nat.zero_le _) (by exact Le.mk' (rs := [0, 1, 2, 3]) (hs := []) ⟨rfl, rfl, rfl, trivial⟩ ⟨rfl, rfl, rfl, rfl, trivial⟩ trivial (by decide)) ?_
     intro i hi
     refine C.seq (C.seq (C.region ?_)); refine Lpu rfl rfl ?_; refine L.step (Ev.fieldAddr rfl rfl rfl rfl rfl rfl (Src.r 1 rfl) (Nat.zero_lt_succ _) rfl) rfl ?_; refine L.step (Ev.load rfl rfl rfl (Src.r 1 rfl) rfl) rfl ?_; refine Lpu rfl rfl ?_; refine Lpu rfl rfl ?_; refine L.nil (QE.seq ?_)
     refine C.condB 38 rfl (fun hc38 => ?_) (fun hc38 => ?_)
     ·
      replace hc38 := of_decide_eq_true hc38
      refine C.skip (QE.seq (C.seq (C.block (C.seq ?_)))); refine C.regionQ (by kernel_rfl) ?_; refine LQ.step (Ev.fieldAddr rfl rfl rfl rfl rfl rfl (Src.r 1 rfl) (Nat.zero_lt_succ _) rfl) rfl ?_; refine LQ.step (Ev.load rfl rfl rfl (Src.r 1 rfl) rfl) rfl ?_; refine LQ.step (Ev.pure rfl) rfl ?_; refine LQ.step (Ev.idx (k := i) (m := i * 5) rfl rfl rfl rfl rfl rfl (by omega) (Src.r 2 rfl) (ops_pos (k := i) (by omega)) rfl) rfl ?_; refine LQ.step (Ev.loadA (vs := Po.cells (ops.getD i Po.zero)) rfl rfl rfl (Src.r 2 rfl) (opsV_at ops i (by omega)) rfl (by decide)) rfl ?_; refine LQ.step (Ev.fieldAddr rfl rfl rfl rfl rfl rfl (Src.r 0 rfl) (Nat.zero_lt_succ _) rfl) rfl ?_; refine LQ.step (Ev.load rfl rfl rfl (Src.r 0 rfl) rfl) rfl ?_; refine LQ.step (Ev.pure rfl) rfl ?_; refine LQ.step (Ev.idx (k := i) (m := i * 5) rfl rfl rfl rfl rfl rfl (by omega) (Src.r 3 rfl) (ops_pos (k := i) (by omega)) rfl) rfl ?_; refine LQ.step (Ev.loadA (vs := Po.cells (ops.getD i Po.zero)) rfl rfl rfl (Src.r 3 rfl) (opsV_at ops i (by omega)) rfl (by decide)) rfl ?_; refine LQ.call (.bool true) (sameOp_c (ops.getD i Po.zero)) (fun _ _ _ h => h.1) rfl trivial rfl ?_; refine LQ.step (Ev.pure rfl) rfl ?_; refine LQ.nil ?_; refine QE.seq ?_
      refine C.condB 52 rfl (fun hc52 => ?_) (fun hc52 => ?_)
      ·
       cases hc52
      ·
       refine C.skip ?_; refine QE.blkN ?_; refine QE.seq (C.region ?_); refine Lpu rfl rfl ?_; refine L.step (Ev.add rfl rfl (by omega) (by omega)) rfl ?_; refine Lpu rfl rfl ?_; refine L.nil ?_
       refine QE.round (i + 1) (by omega) (by omega) (by exact Le.mk' (rs := [0, 1, 2, 3]) (hs := []) ⟨rfl, rfl, rfl, trivial⟩ ⟨rfl, rfl, rfl, rfl, trivial⟩ trivial (by decide))
     ·
      replace hc38 := of_decide_eq_false hc38
      refine C.exit ?_; refine QE.tX ?_; refine QE.tX ?_; refine QE.blk ?_; refine QE.seq (C.seq (C.region ?_)); refine Lpu rfl rfl ?_; refine L.nil (QE.seq (C.ret ?_)); refine QE.ret (js := []) (hs := []) (vs := [_]) rfl ⟨rfl, trivial⟩ (by decide) ?_
      exact ⟨rfl, rfl, rfl⟩

set_option maxHeartbeats 1000000 in
theorem sameN_c (p : Pp) (OA QA HA PA SA TA : Option Addr) (oc qc hc pc sc tc : Nat) (hol : p.ops.length ≤ 9223372036854775807) (hql : p.q.length ≤ 9223372036854775807) (hhl : p.h.length ≤ 9223372036854775807) :
   Ctr X 14 [.agg (List.toArray [.int .i64 p.sz, .int .i64 p.n, .bool p.lf, .int .i64 p.inn, .int .i64 p.out, .slice OA p.ops.length oc, .slice QA p.q.length qc, .slice HA p.h.length hc]), .agg (List.toArray [.int .i64 p.sz, .int .i64 p.n, .bool p.lf, .int .i64 p.inn, .int .i64 p.out, .slice PA p.ops.length pc, .slice SA p.q.length sc, .slice TA p.h.length tc])] [Rd OA (opsV p.ops), Rd QA (I64 p.q), Rd HA (I64 p.h), Rd PA (opsV p.ops), Rd SA (I64 p.q), Rd TA (I64 p.h)] [] (fun v R' H' => v = .bool true ∧ R' = [] ∧ H' = []) := by
 refine Ctr.of (X := X) (fn := Tryz.f14) Tryz.func14 rfl (by kernel_rfl) rfl ?_
 intro β
 refine C.seq (C.region ?_)
 refine L.boxA rfl rfl (fun A2 => ?_)
 refine L.boxA rfl rfl (fun A3 => ?_)
 refine Lpu rfl rfl ?_; refine L.nil (QE.seq (C.seq ?_)); refine C.freeze 0 rfl [1] (by decide) (by decide) ?_; refine C.freeze 0 rfl [] (by decide) (by decide) ?_; refine C.region ?_; refine L.step (Ev.fieldAddr rfl rfl rfl rfl rfl rfl (Src.r 1 rfl) (Nat.zero_lt_succ _) rfl) rfl ?_; refine L.step (Ev.load rfl rfl rfl (Src.r 1 rfl) rfl) rfl ?_; refine L.step (Ev.fieldAddr rfl rfl rfl rfl rfl rfl (Src.r 0 rfl) (Nat.zero_lt_succ _) rfl) rfl ?_; refine L.step (Ev.load rfl rfl rfl (Src.r 0 rfl) rfl) rfl ?_; refine Lpu rfl rfl ?_; refine Lpu rfl rfl ?_
 refine L.bool 10 rfl (fun hg10 => ?_) (fun hg10 => ?_)
 ·
  replace hg10 := i_eq hg10
  refine L.yes rfl ?_; refine L.step (Ev.fieldAddr rfl rfl rfl rfl rfl rfl (Src.r 1 rfl) (Nat.zero_lt_succ _) rfl) rfl ?_; refine L.yes rfl ?_; refine L.step (Ev.load rfl rfl rfl (Src.r 1 rfl) rfl) rfl ?_; refine L.yes rfl ?_; refine L.step (Ev.fieldAddr rfl rfl rfl rfl rfl rfl (Src.r 0 rfl) (Nat.zero_lt_succ _) rfl) rfl ?_; refine L.yes rfl ?_; refine L.step (Ev.load rfl rfl rfl (Src.r 0 rfl) rfl) rfl ?_; refine L.yes rfl ?_; refine Lpu rfl rfl ?_; refine Lpu rfl rfl ?_; refine Lpu rfl rfl ?_
  refine L.bool 17 rfl (fun hg17 => ?_) (fun hg17 => ?_)
  ·
   replace hg17 := i_eq hg17
   refine L.yes rfl ?_; refine L.step (Ev.fieldAddr rfl rfl rfl rfl rfl rfl (Src.r 1 rfl) (Nat.zero_lt_succ _) rfl) rfl ?_; refine L.yes rfl ?_; refine L.step (Ev.loadA (vs := [.bool p.lf, .int .i64 p.inn, .int .i64 p.out, .slice OA p.ops.length oc]) rfl rfl rfl (Src.r 1 rfl) rfl rfl (by decide)) rfl ?_; refine L.yes rfl ?_; refine L.step (Ev.fieldAddr rfl rfl rfl rfl rfl rfl (Src.r 0 rfl) (Nat.zero_lt_succ _) rfl) rfl ?_; refine L.yes rfl ?_; refine L.step (Ev.loadA (vs := [.bool p.lf, .int .i64 p.inn, .int .i64 p.out, .slice PA p.ops.length pc]) rfl rfl rfl (Src.r 0 rfl) rfl rfl (by decide)) rfl ?_; refine L.yes rfl ?_; refine L.call (js := []) (js' := []) (sameP_c p.lf p.inn p.out p.ops OA oc hol PA pc) rfl rfl rfl (by decide) (Hq [2, 5] rfl) rfl ?_
   rintro _ _ _ ⟨rfl, rfl, rfl⟩
   refine Lpu rfl rfl ?_; refine Lpu rfl rfl ?_
   refine L.bool 24 rfl (fun hg24 => ?_) (fun hg24 => ?_)
   ·
    refine L.yes rfl ?_; refine L.step (Ev.fieldAddr rfl rfl rfl rfl rfl rfl (Src.r 1 rfl) (Nat.zero_lt_succ _) rfl) rfl ?_; refine L.yes rfl ?_; refine L.step (Ev.load rfl rfl rfl (Src.r 1 rfl) rfl) rfl ?_; refine L.yes rfl ?_; refine L.step (Ev.fieldAddr rfl rfl rfl rfl rfl rfl (Src.r 0 rfl) (Nat.zero_lt_succ _) rfl) rfl ?_; refine L.yes rfl ?_; refine L.step (Ev.load rfl rfl rfl (Src.r 0 rfl) rfl) rfl ?_; refine L.yes rfl ?_; refine L.call (js := []) (js' := []) (Ctr.tb true (ints_c QA p.q qc SA p.q sc (by omega) (by omega)) (decide_eq_true rfl)) rfl rfl rfl (by decide) (Hq [3, 6] rfl) rfl ?_
    rintro _ _ _ ⟨rfl, rfl, rfl⟩
    refine Lpu rfl rfl ?_; refine Lpu rfl rfl ?_
    refine L.bool 31 rfl (fun hg31 => ?_) (fun hg31 => ?_)
    ·
     refine L.yes rfl ?_; refine L.step (Ev.fieldAddr rfl rfl rfl rfl rfl rfl (Src.r 1 rfl) (Nat.zero_lt_succ _) rfl) rfl ?_; refine L.yes rfl ?_; refine L.step (Ev.load rfl rfl rfl (Src.r 1 rfl) rfl) rfl ?_; refine L.yes rfl ?_; refine L.step (Ev.fieldAddr rfl rfl rfl rfl rfl rfl (Src.r 0 rfl) (Nat.zero_lt_succ _) rfl) rfl ?_; refine L.yes rfl ?_; refine L.step (Ev.load rfl rfl rfl (Src.r 0 rfl) rfl) rfl ?_; refine L.yes rfl ?_; refine L.call (js := []) (js' := []) (Ctr.tb true (ints_c HA p.h hc TA p.h tc (by omega) (by omega)) (decide_eq_true rfl)) rfl rfl rfl (by decide) (Hq [4, 7] rfl) rfl ?_
     rintro _ _ _ ⟨rfl, rfl, rfl⟩
     refine Lpu rfl rfl ?_; refine Lpu rfl rfl ?_; refine L.nil (QE.seq (C.ret ?_)); refine QE.ret (js := []) (hs := []) (vs := [_]) rfl ⟨rfl, trivial⟩ (by decide) ?_
     exact ⟨rfl, rfl, rfl⟩
    ·
     cases hg31
   ·
    cases hg24
  ·
   replace hg17 := i_ne hg17
   exact absurd rfl hg17
 ·
  replace hg10 := i_ne hg10
  exact absurd rfl hg10

end Go.Proofs.YtpccfdnmnnnboaaGreat
