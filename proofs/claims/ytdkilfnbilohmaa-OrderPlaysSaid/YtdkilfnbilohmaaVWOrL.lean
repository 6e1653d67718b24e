/-
  Sanity of the order laws.
-/
import Derived.Test.YtdkilfnbilohmaaVWOrJ
import Derived.Test.YtdkilfnbilohmaaVOi
import Derived.Test.YtdkilfnbilohmaaVSlN
namespace Go.Proofs.Ytdkilfnbilohmaa
open Go.Sl

theorem Ctr.tb (c : Bool) {f : Nat} {args : List Value} {R H : List Pr} {b : Bool} (h : Ctr X f args R H (fun v R' H' => v = .bool b ∧ R' = [] ∧ H' = [])) (hb : b = c) : Ctr X f args R H (fun v R' H' => v = .bool c ∧ R' = [] ∧ H' = []) := hb ▸ h
theorem rows_small {ls : List (List Int)} (h : ls.all (fun r => Nat.ble r.length 1000) = true) : ∀ i, (ls.getD i []).length ≤ 9223372036854775807 := by
 intro i
 rcases Nat.lt_or_ge i ls.length with hi | hi
 · have := List.all_eq_true.1 h (ls.getD i []) (by simp [hi])
   have := Nat.le_of_ble_eq_true this
   omega
 · rw [getD_ge hi]
   exact Nat.zero_le _
theorem ordered_v {q h : List Nat} {e : Int} (LA : Option Addr) (ls : List (List Int)) (lc : Nat) (hs : List Hd) (hh : hs.length = ls.length) (hll : ls.length ≤ 9223372036854775807) (hlr : ∀ i, (ls.getD i []).length ≤ 9223372036854775807) (hQ : ordQ ls = q) (hH : ordH ls = h) (hE : ordE ls = e) :
   Ctr X 10 [.slice LA ls.length lc] [Rd LA (rowsV hs (J8 ls)), KidsR hs (J8 ls)] [] (fun v R' H' => ∃ (A B : Option Addr) (c d : Nat), v = .agg (List.toArray [.slice A q.length c, .slice B h.length d, .int .i64 e]) ∧ R' = [Rd A (I64 (NI q)), Rd B (I64 (NI h))] ∧ H' = []) := by
 subst hQ hH hE
 exact ordered_c LA ls lc hs hh hll hlr
theorem reads_v {rs : List (List Int)} {e : Int} (lf : Bool) (inn out : Int) (ops : List Po) (OA : Option Addr) (oc : Nat) (hops : ops.length ≤ 9223372036854775807) (size : Int) (hok : chkE inn out ops = 0 → lf = false → 1 ≤ size → size ≤ 4096 → RwOk (rdC inn out size.toNat (symL ops)) size.toNat (rdN inn out size.toNat) (symL ops)) (hE : rdE lf inn out size ops = e) (hR : rdR lf inn out size ops = rs) :
   Ctr X 7 [.agg (List.toArray [.bool lf, .int .i64 inn, .int .i64 out, .slice OA ops.length oc]), .int .i64 size] [Rd OA (opsV ops)] [] (fun v R' H' => ∃ (A : Option Addr) (c : Nat) (hs : List Hd), v = .tuple #[.slice A rs.length c, .int .i64 e] ∧ R' = [Rd A (rowsV hs (J8 rs)), KidsR hs (J8 rs)] ∧ H' = [] ∧ hs.length = rs.length) := by
 subst hE hR
 exact reads_c lf inn out ops OA oc hops size hok
instance (ch : List Bool) (size n : Nat) (l : List Sy) : Decidable (RwOk ch size n l) := by unfold RwOk; infer_instance

set_option maxHeartbeats 2000000 in
theorem sanity18_c  :
   Ctr X 4 [] [] [] (fun v R' H' => v = .bool true ∧ R' = [] ∧ H' = []) := by
 refine Ctr.of (X := X) (fn := Try.f4) Try.func4 rfl (by kernel_rfl) rfl ?_
 intro β
 refine C.seq (C.region ?_); refine Lpu rfl rfl ?_; refine L.nil (QE.seq (C.seq (C.region ?_)))
 refine L.lit rfl rfl rfl rfl rfl (by rfl) (by rfl) (by rfl) rfl rfl (fun A17 => ?_)
 refine L.lit rfl rfl rfl rfl rfl (by rfl) (by rfl) (by rfl) rfl rfl (fun A18 => ?_)
 refine L.lit rfl rfl rfl rfl rfl (by rfl) (by rfl) (by rfl) rfl rfl (fun A19 => ?_)
 refine L.freeze 0 rfl [1, 2] (by decide) (by decide) ?_; refine L.norm (H' := [_, _]) [0, 1] ⟨rfl, rfl, trivial⟩ (by decide) ?_; refine L.freeze 0 rfl [1] (by decide) (by decide) ?_; refine L.norm (H' := [_]) [0] ⟨rfl, trivial⟩ (by decide) ?_; refine L.freeze 0 rfl [] (by decide) (by decide) ?_; refine L.more (r := KidsR [] []) (Has.kids0) ?_; refine L.more (r := KidsR [(A17, 1)] (J8 ([[1]] : List (List Int)))) (Has.kidsSnoc (hs := []) (vss := J8 ([] : List (List Int))) 0 3 1 rfl rfl rfl) ?_; refine L.more (r := KidsR [(A17, 1), (A18, 0)] (J8 ([[1], []] : List (List Int)))) (Has.kidsSnoc (hs := [(A17, 1)]) (vss := J8 ([[1]] : List (List Int))) 0 3 0 rfl rfl rfl) ?_; refine L.callR (js := []) (js' := []) (ordered_v (q := [0, 1]) (h := []) (e := 0) A19 ([[1], []] : List (List Int)) 2 [(A17, 1), (A18, 0)] rfl (by decide) (rows_small rfl) (by kernel_rfl) (by kernel_rfl) (by kernel_rfl)) rfl rfl rfl (by decide) (Hq [3, 0] rfl) rfl ?_
 rintro _ _ _ ⟨A20, B20, c20, e20, rfl, rfl, rfl⟩
 refine L.lit rfl rfl rfl rfl rfl (by rfl) (by rfl) (by rfl) rfl rfl (fun A21 => ?_)
 refine L.lit rfl rfl rfl rfl rfl (by rfl) (by rfl) (by rfl) rfl rfl (fun A22 => ?_)
 refine L.lit rfl rfl rfl rfl rfl (by rfl) (by rfl) (by rfl) rfl rfl (fun A23 => ?_)
 refine L.freeze 0 rfl [1, 2] (by decide) (by decide) ?_; refine L.norm (H' := [_, _]) [0, 1] ⟨rfl, rfl, trivial⟩ (by decide) ?_; refine L.freeze 0 rfl [1] (by decide) (by decide) ?_; refine L.norm (H' := [_]) [0] ⟨rfl, trivial⟩ (by decide) ?_; refine L.freeze 0 rfl [] (by decide) (by decide) ?_; refine L.more (r := KidsR [] []) (Has.kids0) ?_; refine L.more (r := KidsR [(A21, 0)] (J8 ([[]] : List (List Int)))) (Has.kidsSnoc (hs := []) (vss := J8 ([] : List (List Int))) 0 3 0 rfl rfl rfl) ?_; refine L.more (r := KidsR [(A21, 0), (A22, 1)] (J8 ([[], [0]] : List (List Int)))) (Has.kidsSnoc (hs := [(A21, 0)]) (vss := J8 ([[]] : List (List Int))) 0 3 1 rfl rfl rfl) ?_; refine L.callR (js := []) (js' := []) (ordered_v (q := [1, 0]) (h := []) (e := 0) A23 ([[], [0]] : List (List Int)) 2 [(A21, 0), (A22, 1)] rfl (by decide) (rows_small rfl) (by kernel_rfl) (by kernel_rfl) (by kernel_rfl)) rfl rfl rfl (by decide) (Hq [3, 0] rfl) rfl ?_
 rintro _ _ _ ⟨A24, B24, c24, e24, rfl, rfl, rfl⟩
 refine L.lit rfl rfl rfl rfl rfl (by rfl) (by rfl) (by rfl) rfl rfl (fun A25 => ?_)
 refine L.lit rfl rfl rfl rfl rfl (by rfl) (by rfl) (by rfl) rfl rfl (fun A26 => ?_)
 refine L.lit rfl rfl rfl rfl rfl (by rfl) (by rfl) (by rfl) rfl rfl (fun A27 => ?_)
 refine L.freeze 0 rfl [1, 2] (by decide) (by decide) ?_; refine L.norm (H' := [_, _]) [0, 1] ⟨rfl, rfl, trivial⟩ (by decide) ?_; refine L.freeze 0 rfl [1] (by decide) (by decide) ?_; refine L.norm (H' := [_]) [0] ⟨rfl, trivial⟩ (by decide) ?_; refine L.freeze 0 rfl [] (by decide) (by decide) ?_; refine L.more (r := KidsR [] []) (Has.kids0) ?_; refine L.more (r := KidsR [(A25, 1)] (J8 ([[1]] : List (List Int)))) (Has.kidsSnoc (hs := []) (vss := J8 ([] : List (List Int))) 0 3 1 rfl rfl rfl) ?_; refine L.more (r := KidsR [(A25, 1), (A26, 1)] (J8 ([[1], [0]] : List (List Int)))) (Has.kidsSnoc (hs := [(A25, 1)]) (vss := J8 ([[1]] : List (List Int))) 0 3 1 rfl rfl rfl) ?_; refine L.callR (js := []) (js' := []) (ordered_v (q := [0, 1]) (h := [0]) (e := 0) A27 ([[1], [0]] : List (List Int)) 2 [(A25, 1), (A26, 1)] rfl (by decide) (rows_small rfl) (by kernel_rfl) (by kernel_rfl) (by kernel_rfl)) rfl rfl rfl (by decide) (Hq [3, 0] rfl) rfl ?_
 rintro _ _ _ ⟨A28, B28, c28, e28, rfl, rfl, rfl⟩
 refine L.lit rfl rfl rfl rfl rfl (by rfl) (by rfl) (by rfl) rfl rfl (fun A29 => ?_)
 refine L.lit rfl rfl rfl rfl rfl (by rfl) (by rfl) (by rfl) rfl rfl (fun A30 => ?_)
 refine L.lit rfl rfl rfl rfl rfl (by rfl) (by rfl) (by rfl) rfl rfl (fun A31 => ?_)
 refine L.lit rfl rfl rfl rfl rfl (by rfl) (by rfl) (by rfl) rfl rfl (fun A32 => ?_)
 refine L.freeze 0 rfl [1, 2, 3] (by decide) (by decide) ?_; refine L.norm (H' := [_, _, _]) [0, 1, 2] ⟨rfl, rfl, rfl, trivial⟩ (by decide) ?_; refine L.freeze 0 rfl [1, 2] (by decide) (by decide) ?_; refine L.norm (H' := [_, _]) [0, 1] ⟨rfl, rfl, trivial⟩ (by decide) ?_; refine L.freeze 0 rfl [1] (by decide) (by decide) ?_; refine L.norm (H' := [_]) [0] ⟨rfl, trivial⟩ (by decide) ?_; refine L.freeze 0 rfl [] (by decide) (by decide) ?_; refine L.more (r := KidsR [] []) (Has.kids0) ?_; refine L.more (r := KidsR [(A29, 1)] (J8 ([[1]] : List (List Int)))) (Has.kidsSnoc (hs := []) (vss := J8 ([] : List (List Int))) 0 4 1 rfl rfl rfl) ?_; refine L.more (r := KidsR [(A29, 1), (A30, 1)] (J8 ([[1], [2]] : List (List Int)))) (Has.kidsSnoc (hs := [(A29, 1)]) (vss := J8 ([[1]] : List (List Int))) 0 4 1 rfl rfl rfl) ?_; refine L.more (r := KidsR [(A29, 1), (A30, 1), (A31, 1)] (J8 ([[1], [2], [0]] : List (List Int)))) (Has.kidsSnoc (hs := [(A29, 1), (A30, 1)]) (vss := J8 ([[1], [2]] : List (List Int))) 0 4 1 rfl rfl rfl) ?_; refine L.callR (js := []) (js' := []) (ordered_v (q := [0, 1, 2]) (h := [0]) (e := 0) A32 ([[1], [2], [0]] : List (List Int)) 3 [(A29, 1), (A30, 1), (A31, 1)] rfl (by decide) (rows_small rfl) (by kernel_rfl) (by kernel_rfl) (by kernel_rfl)) rfl rfl rfl (by decide) (Hq [4, 0] rfl) rfl ?_
 rintro _ _ _ ⟨A33, B33, c33, e33, rfl, rfl, rfl⟩
 refine L.alloc rfl rfl rfl (fun A1 => ?_)
 refine L.alloc rfl rfl rfl (fun A2 => ?_)
 refine L.alloc rfl rfl rfl (fun A3 => ?_)
 refine L.alloc rfl rfl rfl (fun A4 => ?_)
 refine L.storeA (j := 0) rfl rfl rfl rfl rfl (Nat.zero_lt_succ _) rfl rfl ?_; refine L.storeA (j := 1) rfl rfl rfl rfl rfl (Nat.zero_lt_succ _) rfl rfl ?_; refine L.storeA (j := 2) rfl rfl rfl rfl rfl (Nat.zero_lt_succ _) rfl rfl ?_; refine L.storeA (j := 3) rfl rfl rfl rfl rfl (Nat.zero_lt_succ _) rfl rfl ?_; refine L.nil (QE.seq (C.seq (C.region ?_)))
 refine L.lit rfl rfl rfl rfl rfl (by rfl) (by rfl) (by rfl) rfl rfl (fun A34 => ?_)
 refine L.lit rfl rfl rfl rfl rfl (by rfl) (by rfl) (by rfl) rfl rfl (fun A35 => ?_)
 refine L.freeze 4 rfl [0, 1, 2, 3, 5] (by decide) (by decide) ?_; refine L.norm (H' := [_, _, _, _, _]) [0, 1, 2, 3, 4] ⟨rfl, rfl, rfl, rfl, rfl, trivial⟩ (by decide) ?_; refine L.freeze 4 rfl [0, 1, 2, 3] (by decide) (by decide) ?_; refine L.norm (H' := [_, _, _, _]) [0, 1, 2, 3] ⟨rfl, rfl, rfl, rfl, trivial⟩ (by decide) ?_; refine L.more (r := KidsR [] []) (Has.kids0) ?_; refine L.more (r := KidsR [(A34, 1)] (J8 ([[0]] : List (List Int)))) (Has.kidsSnoc (hs := []) (vss := J8 ([] : List (List Int))) 0 2 1 rfl rfl rfl) ?_; refine L.callR (js := []) (js' := [0, 1, 2, 3]) (ordered_v (q := []) (h := []) (e := 1) A35 ([[0]] : List (List Int)) 1 [(A34, 1)] rfl (by decide) (rows_small rfl) (by kernel_rfl) (by kernel_rfl) (by kernel_rfl)) rfl rfl rfl (by decide) (Hq [2, 0] rfl) rfl ?_
 rintro _ _ _ ⟨A36, B36, c36, e36, rfl, rfl, rfl⟩
 refine L.norm (H' := [_, _, _, _]) [0, 1, 2, 3] ⟨rfl, rfl, rfl, rfl, trivial⟩ (by decide) ?_
 refine L.alloc rfl rfl rfl (fun A5 => ?_)
 refine L.storeA (j := 4) rfl rfl rfl rfl rfl (Nat.zero_lt_succ _) rfl rfl ?_; refine L.nil (QE.seq (C.seq (C.region ?_))); refine L.step (Ev.build rfl rfl rfl rfl rfl rfl rfl) rfl ?_; refine L.step (Ev.build rfl rfl rfl rfl rfl rfl rfl) rfl ?_
 refine L.lit2S (cs := Po.cells ⟨1, 2, 2, 0⟩) (cs' := Po.cells ⟨1, 0, 2, 0⟩) rfl rfl rfl rfl rfl rfl (by decide) rfl rfl rfl rfl (fun A40 => ?_)
 refine L.step (Ev.build rfl rfl rfl rfl rfl rfl rfl) rfl ?_; refine L.freeze 5 rfl [0, 1, 2, 3, 4] (by decide) (by decide) ?_; refine L.norm (H' := [_, _, _, _, _]) [0, 1, 2, 3, 4] ⟨rfl, rfl, rfl, rfl, rfl, trivial⟩ (by decide) ?_; refine L.callR (js := []) (js' := [0, 1, 2, 3, 4]) (reads_v (rs := ([[1], [0]] : List (List Int))) (e := 0) false (4) (4) ([⟨1, 2, 2, 0⟩, ⟨1, 0, 2, 0⟩] : List Po) A40 2 (by decide) 2 (fun _ _ _ _ => of_decide_eq_true (by kernel_rfl)) (by kernel_rfl) (by kernel_rfl)) rfl rfl rfl (by decide) (Hq [0] rfl) rfl ?_
 rintro _ _ _ ⟨A42, c42, hs42, rfl, rfl, rfl, hh42⟩
 refine L.norm (H' := [_, _, _, _, _]) [0, 1, 2, 3, 4] ⟨rfl, rfl, rfl, rfl, rfl, trivial⟩ (by decide) ?_; refine Lpu rfl rfl ?_; refine Lpu rfl rfl ?_; refine Lpu rfl rfl ?_; refine Lpu rfl rfl ?_; refine Lpu rfl rfl ?_; refine L.nil (QE.seq (C.seq (C.region ?_))); refine L.callR (js := []) (js' := [0, 1, 2, 3, 4]) (whole_c 4 (by decide)) rfl rfl rfl (by decide) trivial rfl ?_
 rintro _ _ _ ⟨A46, c46, rfl, rfl, rfl⟩
 refine L.norm (H' := [_, _, _, _, _]) [0, 1, 2, 3, 4] ⟨rfl, rfl, rfl, rfl, rfl, trivial⟩ (by decide) ?_; refine L.callR (js := []) (js' := [0, 1, 2, 3, 4]) (reads_v (rs := ([] : List (List Int))) (e := 1) false (4) (4) ([⟨1, 0, 4, 0⟩] : List Po) A46 c46 (by decide) 0 (fun _ _ h => absurd h (by decide)) (by kernel_rfl) (by kernel_rfl)) rfl rfl rfl (by decide) (Hq [0] rfl) rfl ?_
 rintro _ _ _ ⟨A47, c47, hs47, rfl, rfl, rfl, hh47⟩
 refine L.norm (H' := [_, _, _, _, _]) [0, 1, 2, 3, 4] ⟨rfl, rfl, rfl, rfl, rfl, trivial⟩ (by decide) ?_; refine Lpu rfl rfl ?_; refine Lpu rfl rfl ?_; refine Lpu rfl rfl ?_; refine Lpu rfl rfl ?_; refine Lpu rfl rfl ?_; refine L.nil (QE.seq (C.seq (C.region ?_))); refine L.step (Ev.build rfl rfl rfl rfl rfl rfl rfl) rfl ?_; refine L.callR (js := []) (js' := [0, 1, 2, 3, 4]) (reads_v (rs := ([] : List (List Int))) (e := 62) true (0) (0) ([] : List Po) none 0 (by decide) 2 (fun _ h => absurd h (by decide)) (by kernel_rfl) (by kernel_rfl)) rfl rfl rfl (by decide) ⟨Has.nil, trivial⟩ rfl ?_
 rintro _ _ _ ⟨A52, c52, hs52, rfl, rfl, rfl, hh52⟩
 refine L.norm (H' := [_, _, _, _, _]) [0, 1, 2, 3, 4] ⟨rfl, rfl, rfl, rfl, rfl, trivial⟩ (by decide) ?_; refine Lpu rfl rfl ?_; refine Lpu rfl rfl ?_; refine Lpu rfl rfl ?_; refine Lpu rfl rfl ?_; refine Lpu rfl rfl ?_; refine L.nil (QE.seq (C.seq (C.region ?_))); refine L.step (Ev.build rfl rfl rfl rfl rfl rfl rfl) rfl ?_; refine L.callR (js := []) (js' := [0, 1, 2, 3, 4]) (reads_v (rs := ([] : List (List Int))) (e := 60) false (-1) (0) ([] : List Po) none 0 (by decide) 2 (fun _ _ _ _ k hk => absurd hk (Nat.not_lt_zero _)) (by kernel_rfl) (by kernel_rfl)) rfl rfl rfl (by decide) ⟨Has.nil, trivial⟩ rfl ?_
 rintro _ _ _ ⟨A57, c57, hs57, rfl, rfl, rfl, hh57⟩
 refine L.norm (H' := [_, _, _, _, _]) [0, 1, 2, 3, 4] ⟨rfl, rfl, rfl, rfl, rfl, trivial⟩ (by decide) ?_; refine Lpu rfl rfl ?_; refine Lpu rfl rfl ?_; refine Lpu rfl rfl ?_; refine Lpu rfl rfl ?_; refine Lpu rfl rfl ?_; refine L.nil (QE.seq (C.seq (C.region ?_))); refine L.step (Ev.build rfl rfl rfl rfl rfl rfl rfl) rfl ?_; refine L.callR (js := []) (js' := [0, 1, 2, 3, 4]) (reads_v (rs := ([] : List (List Int))) (e := 2) false (65) (0) ([] : List Po) none 0 (by decide) 1 (fun _ _ _ _ k hk => absurd hk (Nat.not_lt_zero _)) (by kernel_rfl) (by kernel_rfl)) rfl rfl rfl (by decide) ⟨Has.nil, trivial⟩ rfl ?_
 rintro _ _ _ ⟨A62, c62, hs62, rfl, rfl, rfl, hh62⟩
 refine L.norm (H' := [_, _, _, _, _]) [0, 1, 2, 3, 4] ⟨rfl, rfl, rfl, rfl, rfl, trivial⟩ (by decide) ?_; refine Lpu rfl rfl ?_; refine Lpu rfl rfl ?_; refine Lpu rfl rfl ?_; refine Lpu rfl rfl ?_; refine Lpu rfl rfl ?_; refine L.nil (QE.seq (C.seq (C.seq (C.region ?_)))); refine Lpu rfl rfl ?_; refine Lpu rfl rfl ?_; refine Lpu rfl rfl ?_
 refine L.bool 67 rfl (fun hg67 => ?_) (fun hg67 => ?_)
 ·
  replace hg67 := b_ne hg67
  exact absurd rfl hg67
 ·
  replace hg67 := b_eq hg67
  refine L.yes rfl ?_; refine Lpu rfl rfl ?_; refine L.yes rfl ?_; refine Lpu rfl rfl ?_; refine L.yes rfl ?_; refine Lpu rfl rfl ?_; refine Lpu rfl rfl ?_; refine Lpu rfl rfl ?_
  refine L.bool 72 rfl (fun hg72 => ?_) (fun hg72 => ?_)
  ·
   replace hg72 := b_ne hg72
   exact absurd rfl hg72
  ·
   replace hg72 := b_eq hg72
   refine L.yes rfl ?_; refine Lpu rfl rfl ?_; refine L.yes rfl ?_; refine L.step (Ev.idx1 (k := 0) rfl rfl rfl rfl rfl rfl rfl (by decide) (Src.r 9 rfl) (by rw [rowsV_len (by rw [J8_len]; exact hh42), J8_len]; decide)) rfl ?_; refine L.yes rfl ?_; refine L.step (Ev.load rfl rfl rfl (Src.r 9 rfl) (rowsJ_get hh42 (by decide))) rfl ?_; refine L.yes rfl ?_
   refine L.lit rfl rfl rfl rfl rfl (by rfl) (by rfl) (by rfl) rfl rfl (fun A76 => ?_)
   refine L.yes rfl ?_; refine L.freeze 5 rfl [0, 1, 2, 3, 4] (by decide) (by decide) ?_; refine L.norm (H' := [_, _, _, _, _]) [0, 1, 2, 3, 4] ⟨rfl, rfl, rfl, rfl, rfl, trivial⟩ (by decide) ?_; refine L.call (js := []) (js' := [0, 1, 2, 3, 4]) (Ctr.tb true (ints_c (hs42.getD 0 (none, 0)).1 [1] (hs42.getD 0 (none, 0)).2 A76 [1] 1 (by decide) (by decide)) (by decide)) rfl rfl rfl (by decide) ⟨((Has.kid 11 rfl hh42 (0) (by decide)).cast rfl), (Has.r 0 rfl), trivial⟩ rfl ?_
   rintro _ _ _ ⟨rfl, rfl, rfl⟩
   refine L.norm (H' := [_, _, _, _, _]) [0, 1, 2, 3, 4] ⟨rfl, rfl, rfl, rfl, rfl, trivial⟩ (by decide) ?_; refine L.yes rfl ?_; refine Lpu rfl rfl ?_; refine Lpu rfl rfl ?_; refine Lpu rfl rfl ?_; refine L.yes rfl ?_; refine Lpu rfl rfl ?_; refine L.yes rfl ?_; refine L.step (Ev.idx1 (k := 1) rfl rfl rfl rfl rfl rfl rfl (by decide) (Src.r 10 rfl) (by rw [rowsV_len (by rw [J8_len]; exact hh42), J8_len]; decide)) rfl ?_; refine L.yes rfl ?_; refine L.step (Ev.load rfl rfl rfl (Src.r 10 rfl) (rowsJ_get hh42 (by decide))) rfl ?_; refine L.yes rfl ?_
   refine L.lit rfl rfl rfl rfl rfl (by rfl) (by rfl) (by rfl) rfl rfl (fun A84 => ?_)
   refine L.yes rfl ?_; refine L.freeze 5 rfl [0, 1, 2, 3, 4] (by decide) (by decide) ?_; refine L.norm (H' := [_, _, _, _, _]) [0, 1, 2, 3, 4] ⟨rfl, rfl, rfl, rfl, rfl, trivial⟩ (by decide) ?_; refine L.call (js := []) (js' := [0, 1, 2, 3, 4]) (Ctr.tb true (ints_c (hs42.getD 1 (none, 0)).1 [0] (hs42.getD 1 (none, 0)).2 A84 [0] 1 (by decide) (by decide)) (by decide)) rfl rfl rfl (by decide) ⟨((Has.kid 12 rfl hh42 (1) (by decide)).cast rfl), (Has.r 0 rfl), trivial⟩ rfl ?_
   rintro _ _ _ ⟨rfl, rfl, rfl⟩
   refine L.norm (H' := [_, _, _, _, _]) [0, 1, 2, 3, 4] ⟨rfl, rfl, rfl, rfl, rfl, trivial⟩ (by decide) ?_; refine L.yes rfl ?_; refine Lpu rfl rfl ?_; refine Lpu rfl rfl ?_; refine L.nil (QE.seq ?_)
   refine C.cond rfl (fun h => by cases h) (fun _ => ?_)
   refine C.skip (QE.seq (C.seq (C.region ?_))); refine L.step (Ev.loadA rfl rfl rfl (Src.o 0 rfl) rfl rfl (by decide)) rfl ?_
   refine L.lit rfl rfl rfl rfl rfl (by rfl) (by rfl) (by rfl) rfl rfl (fun A89 => ?_)
   refine L.step (Ev.build rfl rfl rfl rfl rfl rfl rfl) rfl ?_; refine L.freeze 5 rfl [0, 1, 2, 3, 4] (by decide) (by decide) ?_; refine L.norm (H' := [_, _, _, _, _]) [0, 1, 2, 3, 4] ⟨rfl, rfl, rfl, rfl, rfl, trivial⟩ (by decide) ?_; refine L.call (js := []) (js' := [0, 1, 2, 3, 4]) (Ctr.tb true (same18_c A20 B20 A89 none c20 e20 2 0 [0, 1] [] [0, 1] [] 0 0 (by decide) (by decide) (by decide) (by decide)) (by decide)) rfl rfl rfl (by decide) ⟨(Has.r 47 rfl), (Has.r 48 rfl), (Has.r 0 rfl), Has.nil, trivial⟩ rfl ?_
   rintro _ _ _ ⟨rfl, rfl, rfl⟩
   refine L.norm (H' := [_, _, _, _, _]) [0, 1, 2, 3, 4] ⟨rfl, rfl, rfl, rfl, rfl, trivial⟩ (by decide) ?_; refine Lpu rfl rfl ?_; refine L.yes rfl ?_; refine L.step (Ev.loadA rfl rfl rfl (Src.o 1 rfl) rfl rfl (by decide)) rfl ?_; refine L.yes rfl ?_
   refine L.lit rfl rfl rfl rfl rfl (by rfl) (by rfl) (by rfl) rfl rfl (fun A94 => ?_)
   refine L.yes rfl ?_; refine L.step (Ev.build rfl rfl rfl rfl rfl rfl rfl) rfl ?_; refine L.yes rfl ?_; refine L.freeze 5 rfl [0, 1, 2, 3, 4] (by decide) (by decide) ?_; refine L.norm (H' := [_, _, _, _, _]) [0, 1, 2, 3, 4] ⟨rfl, rfl, rfl, rfl, rfl, trivial⟩ (by decide) ?_; refine L.call (js := []) (js' := [0, 1, 2, 3, 4]) (Ctr.tb true (same18_c A24 B24 A94 none c24 e24 2 0 [1, 0] [] [1, 0] [] 0 0 (by decide) (by decide) (by decide) (by decide)) (by decide)) rfl rfl rfl (by decide) ⟨(Has.r 40 rfl), (Has.r 41 rfl), (Has.r 0 rfl), Has.nil, trivial⟩ rfl ?_
   rintro _ _ _ ⟨rfl, rfl, rfl⟩
   refine L.norm (H' := [_, _, _, _, _]) [0, 1, 2, 3, 4] ⟨rfl, rfl, rfl, rfl, rfl, trivial⟩ (by decide) ?_; refine Lpu rfl rfl ?_; refine Lpu rfl rfl ?_; refine L.yes rfl ?_; refine L.step (Ev.loadA rfl rfl rfl (Src.o 2 rfl) rfl rfl (by decide)) rfl ?_; refine L.yes rfl ?_
   refine L.lit rfl rfl rfl rfl rfl (by rfl) (by rfl) (by rfl) rfl rfl (fun A100 => ?_)
   refine L.yes rfl ?_
   refine L.lit rfl rfl rfl rfl rfl (by rfl) (by rfl) (by rfl) rfl rfl (fun A101 => ?_)
   refine L.yes rfl ?_; refine L.step (Ev.build rfl rfl rfl rfl rfl rfl rfl) rfl ?_; refine L.yes rfl ?_; refine L.freeze 5 rfl [0, 1, 2, 3, 4, 6] (by decide) (by decide) ?_; refine L.norm (H' := [_, _, _, _, _, _]) [0, 1, 2, 3, 4, 5] ⟨rfl, rfl, rfl, rfl, rfl, rfl, trivial⟩ (by decide) ?_; refine L.freeze 5 rfl [0, 1, 2, 3, 4] (by decide) (by decide) ?_; refine L.norm (H' := [_, _, _, _, _]) [0, 1, 2, 3, 4] ⟨rfl, rfl, rfl, rfl, rfl, trivial⟩ (by decide) ?_; refine L.call (js := []) (js' := [0, 1, 2, 3, 4]) (Ctr.tb true (same18_c A28 B28 A100 A101 c28 e28 2 1 [0, 1] [0] [0, 1] [0] 0 0 (by decide) (by decide) (by decide) (by decide)) (by decide)) rfl rfl rfl (by decide) (Hq [34, 35, 1, 0] rfl) rfl ?_
   rintro _ _ _ ⟨rfl, rfl, rfl⟩
   refine L.norm (H' := [_, _, _, _, _]) [0, 1, 2, 3, 4] ⟨rfl, rfl, rfl, rfl, rfl, trivial⟩ (by decide) ?_; refine Lpu rfl rfl ?_; refine Lpu rfl rfl ?_; refine L.yes rfl ?_; refine L.step (Ev.loadA rfl rfl rfl (Src.o 3 rfl) rfl rfl (by decide)) rfl ?_; refine L.yes rfl ?_
   refine L.lit rfl rfl rfl rfl rfl (by rfl) (by rfl) (by rfl) rfl rfl (fun A107 => ?_)
   refine L.yes rfl ?_
   refine L.lit rfl rfl rfl rfl rfl (by rfl) (by rfl) (by rfl) rfl rfl (fun A108 => ?_)
   refine L.yes rfl ?_; refine L.step (Ev.build rfl rfl rfl rfl rfl rfl rfl) rfl ?_; refine L.yes rfl ?_; refine L.freeze 5 rfl [0, 1, 2, 3, 4, 6] (by decide) (by decide) ?_; refine L.norm (H' := [_, _, _, _, _, _]) [0, 1, 2, 3, 4, 5] ⟨rfl, rfl, rfl, rfl, rfl, rfl, trivial⟩ (by decide) ?_; refine L.freeze 5 rfl [0, 1, 2, 3, 4] (by decide) (by decide) ?_; refine L.norm (H' := [_, _, _, _, _]) [0, 1, 2, 3, 4] ⟨rfl, rfl, rfl, rfl, rfl, trivial⟩ (by decide) ?_; refine L.call (js := []) (js' := [0, 1, 2, 3, 4]) (Ctr.tb true (same18_c A33 B33 A107 A108 c33 e33 3 1 [0, 1, 2] [0] [0, 1, 2] [0] 0 0 (by decide) (by decide) (by decide) (by decide)) (by decide)) rfl rfl rfl (by decide) (Hq [26, 27, 1, 0] rfl) rfl ?_
   rintro _ _ _ ⟨rfl, rfl, rfl⟩
   refine L.norm (H' := [_, _, _, _, _]) [0, 1, 2, 3, 4] ⟨rfl, rfl, rfl, rfl, rfl, trivial⟩ (by decide) ?_; refine Lpu rfl rfl ?_; refine Lpu rfl rfl ?_; refine L.yes rfl ?_; refine L.step (Ev.fieldAddr rfl rfl rfl rfl rfl rfl (Src.o 4 rfl) (Nat.zero_lt_succ _) rfl) rfl ?_; refine L.yes rfl ?_; refine L.step (Ev.load rfl rfl rfl (Src.o 4 rfl) rfl) rfl ?_; refine L.yes rfl ?_; refine Lpu rfl rfl ?_; refine Lpu rfl rfl ?_; refine Lpu rfl rfl ?_; refine L.nil (QE.seq (C.seq (C.region ?_))); refine Lpu rfl rfl ?_; refine Lpu rfl rfl ?_
   refine L.bool 118 rfl (fun hg118 => ?_) (fun hg118 => ?_)
   ·
    replace hg118 := i_eq hg118
    refine L.yes rfl ?_; refine Lpu rfl rfl ?_; refine L.yes rfl ?_; refine Lpu rfl rfl ?_; refine Lpu rfl rfl ?_; refine Lpu rfl rfl ?_
    refine L.bool 122 rfl (fun hg122 => ?_) (fun hg122 => ?_)
    ·
     replace hg122 := i_eq hg122
     refine L.yes rfl ?_; refine Lpu rfl rfl ?_; refine L.yes rfl ?_; refine Lpu rfl rfl ?_; refine Lpu rfl rfl ?_; refine Lpu rfl rfl ?_
     refine L.bool 126 rfl (fun hg126 => ?_) (fun hg126 => ?_)
     ·
      replace hg126 := i_eq hg126
      refine L.yes rfl ?_; refine Lpu rfl rfl ?_; refine L.yes rfl ?_; refine Lpu rfl rfl ?_; refine Lpu rfl rfl ?_; refine Lpu rfl rfl ?_
      refine L.bool 130 rfl (fun hg130 => ?_) (fun hg130 => ?_)
      ·
       replace hg130 := i_eq hg130
       refine L.yes rfl ?_; refine Lpu rfl rfl ?_; refine L.yes rfl ?_; refine Lpu rfl rfl ?_; refine Lpu rfl rfl ?_; refine Lpu rfl rfl ?_
       refine L.bool 134 rfl (fun hg134 => ?_) (fun hg134 => ?_)
       ·
        replace hg134 := i_eq hg134
        refine L.yes rfl ?_
        refine L.lit rfl rfl rfl rfl rfl (by rfl) (by rfl) (by rfl) rfl rfl (fun A135 => ?_)
        refine L.yes rfl ?_
        refine L.lit rfl rfl rfl rfl rfl (by rfl) (by rfl) (by rfl) rfl rfl (fun A136 => ?_)
        refine L.yes rfl ?_
        refine L.lit rfl rfl rfl rfl rfl (by rfl) (by rfl) (by rfl) rfl rfl (fun A137 => ?_)
        refine L.yes rfl ?_
        refine L.lit rfl rfl rfl rfl rfl (by rfl) (by rfl) (by rfl) rfl rfl (fun A138 => ?_)
        refine L.yes rfl ?_; refine L.freeze 5 rfl [0, 1, 2, 3, 4, 6, 7, 8] (by decide) (by decide) ?_; refine L.norm (H' := [_, _, _, _, _, _, _, _]) [0, 1, 2, 3, 4, 5, 6, 7] ⟨rfl, rfl, rfl, rfl, rfl, rfl, rfl, rfl, trivial⟩ (by decide) ?_; refine L.freeze 5 rfl [0, 1, 2, 3, 4, 6, 7] (by decide) (by decide) ?_; refine L.norm (H' := [_, _, _, _, _, _, _]) [0, 1, 2, 3, 4, 5, 6] ⟨rfl, rfl, rfl, rfl, rfl, rfl, rfl, trivial⟩ (by decide) ?_; refine L.freeze 5 rfl [0, 1, 2, 3, 4, 6] (by decide) (by decide) ?_; refine L.norm (H' := [_, _, _, _, _, _]) [0, 1, 2, 3, 4, 5] ⟨rfl, rfl, rfl, rfl, rfl, rfl, trivial⟩ (by decide) ?_; refine L.freeze 5 rfl [0, 1, 2, 3, 4] (by decide) (by decide) ?_; refine L.norm (H' := [_, _, _, _, _]) [0, 1, 2, 3, 4] ⟨rfl, rfl, rfl, rfl, rfl, trivial⟩ (by decide) ?_; refine L.more (r := KidsR [] []) (Has.kids0) ?_; refine L.more (r := KidsR [(A135, 1)] (J8 ([[1]] : List (List Int)))) (Has.kidsSnoc (hs := []) (vss := J8 ([] : List (List Int))) 0 4 1 rfl rfl rfl) ?_; refine L.more (r := KidsR [(A135, 1), (A136, 0)] (J8 ([[1], []] : List (List Int)))) (Has.kidsSnoc (hs := [(A135, 1)]) (vss := J8 ([[1]] : List (List Int))) 0 4 0 rfl rfl rfl) ?_; refine L.call (js := []) (js' := [0, 1, 2, 3, 4]) (Ctr.tb true (rightP_c A137 ([[1], []] : List (List Int)) 2 [(A135, 1), (A136, 0)] rfl (by decide) (rows_small rfl) [0, 1] [] A138 none 2 0 (by decide) (by decide)) (by kernel_rfl)) rfl rfl rfl (by decide) ⟨(Has.r 4 rfl), (Has.r 0 rfl), (Has.r 3 rfl), Has.nil, trivial⟩ rfl ?_
        rintro _ _ _ ⟨rfl, rfl, rfl⟩
        refine L.norm (H' := [_, _, _, _, _]) [0, 1, 2, 3, 4] ⟨rfl, rfl, rfl, rfl, rfl, trivial⟩ (by decide) ?_; refine Lpu rfl rfl ?_; refine Lpu rfl rfl ?_; refine L.yes rfl ?_
        refine L.lit rfl rfl rfl rfl rfl (by rfl) (by rfl) (by rfl) rfl rfl (fun A142 => ?_)
        refine L.yes rfl ?_
        refine L.lit rfl rfl rfl rfl rfl (by rfl) (by rfl) (by rfl) rfl rfl (fun A143 => ?_)
        refine L.yes rfl ?_
        refine L.lit rfl rfl rfl rfl rfl (by rfl) (by rfl) (by rfl) rfl rfl (fun A144 => ?_)
        refine L.yes rfl ?_
        refine L.lit rfl rfl rfl rfl rfl (by rfl) (by rfl) (by rfl) rfl rfl (fun A145 => ?_)
        refine L.yes rfl ?_; refine L.freeze 5 rfl [0, 1, 2, 3, 4, 6, 7, 8] (by decide) (by decide) ?_; refine L.norm (H' := [_, _, _, _, _, _, _, _]) [0, 1, 2, 3, 4, 5, 6, 7] ⟨rfl, rfl, rfl, rfl, rfl, rfl, rfl, rfl, trivial⟩ (by decide) ?_; refine L.freeze 5 rfl [0, 1, 2, 3, 4, 6, 7] (by decide) (by decide) ?_; refine L.norm (H' := [_, _, _, _, _, _, _]) [0, 1, 2, 3, 4, 5, 6] ⟨rfl, rfl, rfl, rfl, rfl, rfl, rfl, trivial⟩ (by decide) ?_; refine L.freeze 5 rfl [0, 1, 2, 3, 4, 6] (by decide) (by decide) ?_; refine L.norm (H' := [_, _, _, _, _, _]) [0, 1, 2, 3, 4, 5] ⟨rfl, rfl, rfl, rfl, rfl, rfl, trivial⟩ (by decide) ?_; refine L.freeze 5 rfl [0, 1, 2, 3, 4] (by decide) (by decide) ?_; refine L.norm (H' := [_, _, _, _, _]) [0, 1, 2, 3, 4] ⟨rfl, rfl, rfl, rfl, rfl, trivial⟩ (by decide) ?_; refine L.more (r := KidsR [] []) (Has.kids0) ?_; refine L.more (r := KidsR [(A142, 1)] (J8 ([[1]] : List (List Int)))) (Has.kidsSnoc (hs := []) (vss := J8 ([] : List (List Int))) 0 4 1 rfl rfl rfl) ?_; refine L.more (r := KidsR [(A142, 1), (A143, 0)] (J8 ([[1], []] : List (List Int)))) (Has.kidsSnoc (hs := [(A142, 1)]) (vss := J8 ([[1]] : List (List Int))) 0 4 0 rfl rfl rfl) ?_; refine L.call (js := []) (js' := [0, 1, 2, 3, 4]) (Ctr.tb false (rightP_c A144 ([[1], []] : List (List Int)) 2 [(A142, 1), (A143, 0)] rfl (by decide) (rows_small rfl) [1, 0] [] A145 none 2 0 (by decide) (by decide)) (by kernel_rfl)) rfl rfl rfl (by decide) ⟨(Has.r 4 rfl), (Has.r 0 rfl), (Has.r 3 rfl), Has.nil, trivial⟩ rfl ?_
        rintro _ _ _ ⟨rfl, rfl, rfl⟩
        refine L.norm (H' := [_, _, _, _, _]) [0, 1, 2, 3, 4] ⟨rfl, rfl, rfl, rfl, rfl, trivial⟩ (by decide) ?_; refine L.yes rfl ?_; refine Lpu rfl rfl ?_; refine Lpu rfl rfl ?_; refine Lpu rfl rfl ?_; refine L.yes rfl ?_
        refine L.lit rfl rfl rfl rfl rfl (by rfl) (by rfl) (by rfl) rfl rfl (fun A150 => ?_)
        refine L.yes rfl ?_
        refine L.lit rfl rfl rfl rfl rfl (by rfl) (by rfl) (by rfl) rfl rfl (fun A151 => ?_)
        refine L.yes rfl ?_
        refine L.lit rfl rfl rfl rfl rfl (by rfl) (by rfl) (by rfl) rfl rfl (fun A152 => ?_)
        refine L.yes rfl ?_
        refine L.lit rfl rfl rfl rfl rfl (by rfl) (by rfl) (by rfl) rfl rfl (fun A153 => ?_)
        refine L.yes rfl ?_
        refine L.lit rfl rfl rfl rfl rfl (by rfl) (by rfl) (by rfl) rfl rfl (fun A154 => ?_)
        refine L.yes rfl ?_; refine L.freeze 5 rfl [0, 1, 2, 3, 4, 6, 7, 8, 9] (by decide) (by decide) ?_; refine L.norm (H' := [_, _, _, _, _, _, _, _, _]) [0, 1, 2, 3, 4, 5, 6, 7, 8] ⟨rfl, rfl, rfl, rfl, rfl, rfl, rfl, rfl, rfl, trivial⟩ (by decide) ?_; refine L.freeze 5 rfl [0, 1, 2, 3, 4, 6, 7, 8] (by decide) (by decide) ?_; refine L.norm (H' := [_, _, _, _, _, _, _, _]) [0, 1, 2, 3, 4, 5, 6, 7] ⟨rfl, rfl, rfl, rfl, rfl, rfl, rfl, rfl, trivial⟩ (by decide) ?_; refine L.freeze 5 rfl [0, 1, 2, 3, 4, 6, 7] (by decide) (by decide) ?_; refine L.norm (H' := [_, _, _, _, _, _, _]) [0, 1, 2, 3, 4, 5, 6] ⟨rfl, rfl, rfl, rfl, rfl, rfl, rfl, trivial⟩ (by decide) ?_; refine L.freeze 5 rfl [0, 1, 2, 3, 4, 6] (by decide) (by decide) ?_; refine L.norm (H' := [_, _, _, _, _, _]) [0, 1, 2, 3, 4, 5] ⟨rfl, rfl, rfl, rfl, rfl, rfl, trivial⟩ (by decide) ?_; refine L.freeze 5 rfl [0, 1, 2, 3, 4] (by decide) (by decide) ?_; refine L.norm (H' := [_, _, _, _, _]) [0, 1, 2, 3, 4] ⟨rfl, rfl, rfl, rfl, rfl, trivial⟩ (by decide) ?_; refine L.more (r := KidsR [] []) (Has.kids0) ?_; refine L.more (r := KidsR [(A150, 1)] (J8 ([[1]] : List (List Int)))) (Has.kidsSnoc (hs := []) (vss := J8 ([] : List (List Int))) 0 5 1 rfl rfl rfl) ?_; refine L.more (r := KidsR [(A150, 1), (A151, 0)] (J8 ([[1], []] : List (List Int)))) (Has.kidsSnoc (hs := [(A150, 1)]) (vss := J8 ([[1]] : List (List Int))) 0 5 0 rfl rfl rfl) ?_; refine L.call (js := []) (js' := [0, 1, 2, 3, 4]) (Ctr.tb true (rightP_c A152 ([[1], []] : List (List Int)) 2 [(A150, 1), (A151, 0)] rfl (by decide) (rows_small rfl) [1, 0] [1] A153 A154 2 1 (by decide) (by decide)) (by kernel_rfl)) rfl rfl rfl (by decide) (Hq [5, 0, 4, 3] rfl) rfl ?_
        rintro _ _ _ ⟨rfl, rfl, rfl⟩
        refine L.norm (H' := [_, _, _, _, _]) [0, 1, 2, 3, 4] ⟨rfl, rfl, rfl, rfl, rfl, trivial⟩ (by decide) ?_; refine Lpu rfl rfl ?_; refine Lpu rfl rfl ?_; refine L.nil (QE.seq (C.ret ?_)); refine QE.ret (js := []) (hs := []) (vs := [_]) rfl ⟨rfl, trivial⟩ (by decide) ?_
        exact ⟨rfl, rfl, rfl⟩
       ·
        replace hg134 := i_ne hg134
        exact absurd rfl hg134
      ·
       replace hg130 := i_ne hg130
       exact absurd rfl hg130
     ·
      replace hg126 := i_ne hg126
      exact absurd rfl hg126
    ·
     replace hg122 := i_ne hg122
     exact absurd rfl hg122
   ·
    replace hg118 := i_ne hg118
    exact absurd rfl hg118

end Go.Proofs.Ytdkilfnbilohmaa
