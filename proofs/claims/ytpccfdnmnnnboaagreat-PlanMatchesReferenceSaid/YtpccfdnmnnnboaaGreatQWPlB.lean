/-
  Plans: readings, Make of the program.
-/
import Derived.Test.YtpccfdnmnnnboaaGreatQWPlA
import Derived.Test.YtpccfdnmnnnboaaGreatQTb
namespace Go.Proofs.YtpccfdnmnnnboaaGreat
open Go.Sl

theorem getD_mem {l : List Nat} {i : Nat} (h : i < l.length) : l.getD i 0 ∈ l := by
 rw [List.getD_eq_getElem?_getD, List.getElem?_eq_getElem h]
 exact List.getElem_mem h
theorem kidsJ_put2 {hs : List Hd} {ls : List (List Int)} {s : Nat} {g g' : Hd} {x y : List Int} : OwnKids 3 ((hs.set s g).set s g') ((J8 (ls.set s [])).set s (I64 x ++ I64 y)) = OwnKids 3 (hs.set s g') (J8 (ls.set s (x ++ y))) := by rw [I64_app]; exact kidsJ_put
theorem mem_lt16 {s n : Nat} (hs : s < 2 ^ n) {t : Nat} (h : t ∈ mem s 64) : t < n := by
 unfold mem at h
 rw [List.mem_filter] at h
 refine Nat.lt_of_not_le fun g => ?_
 have := Nat.testBit_lt_two_pow (x := s) (i := t) (Nat.lt_of_lt_of_le hs (Nat.pow_le_pow_right (by decide) g))
 rw [this] at h
 cases h.2
theorem mem16 {s n : Nat} (hs : s < 2 ^ n) (hn : n ≤ 16) : (mem s 64).length ≤ 16 := by
 have e : mem s 64 = (List.range n).filter s.testBit := by
   unfold mem
   exact filter_hi (fun t ht => Nat.testBit_lt_two_pow (Nat.lt_of_lt_of_le hs (Nat.pow_le_pow_right (by decide) ht))) (by omega)
 rw [e]
 have := List.length_filter_le s.testBit (List.range n)
 rw [List.length_range] at this
 omega

theorem order_m (LA : Option Addr) (ls : List (List Int)) (lc m : Nat) (hm : ls.length = m) (hs : List Hd) (hh : hs.length = ls.length) (hll : ls.length ≤ 9223372036854775807) (hlr : ∀ i, (ls.getD i []).length ≤ 9223372036854775807) :
   Ctr X 46 [.slice LA m lc] [Rd LA (rowsV hs (J8 ls)), KidsR hs (J8 ls)] [] (fun v R' H' => ∃ (A B : Option Addr) (c d : Nat), v = .tuple #[.slice A (ordQ ls).length c, .slice B (ordH ls).length d, .int .i64 (ordE ls)] ∧ R' = [Rd A (I64 (NI (ordQ ls))), Rd B (I64 (NI (ordH ls)))] ∧ H' = []) := by
 subst hm
 exact order_c LA ls lc hs hh hll hlr

set_option maxHeartbeats 1000000 in
theorem readings19_c (S n : Nat) (inn out : Int) (ops : List Po) (OA : Option Addr) (oc : Nat) (qv hv : Value) (hops : ops.length ≤ 9223372036854775807)(hS1 : 1 ≤ S) (hS2 : S ≤ 4096) (hn1 : 1 ≤ n) (hn2 : n ≤ 64) (hE : chkE inn out ops = 0) (hi1 : inn ≤ (S : Int) * (n : Int)) (hi2 : out ≤ (S : Int) * (n : Int)) :
   Ctr X 45 [.agg (List.toArray [.int .i64 (S : Int), .int .i64 (n : Int), .bool false, .int .i64 inn, .int .i64 out, .slice OA ops.length oc, qv, hv])] [Rd OA (opsV ops)] [] (fun v R' H' => ∃ (A : Option Addr) (hs : List Hd), v = .slice A n n ∧ R' = [Rd A (rowsV hs (J8 (rdsL (symL ops) inn S n n))), KidsR hs (J8 (rdsL (symL ops) inn S n n))] ∧ H' = [] ∧ hs.length = n) := by
 refine Ctr.of (X := X) (fn := Tryz.f45) Tryz.func45 rfl (by kernel_rfl) rfl ?_
 intro β
 obtain ⟨k1, k2, k3, k4, k5, k6⟩ := chkE_ok hE
 have hsy : syS inn out ops = symL ops := by unfold syS; rw [if_pos hE]
 have hsl : ((symL ops).length : Int) = out := chkG_tot ops out k3 k6
 have hnS : n * S ≤ 64 * 4096 := Nat.mul_le_mul hn2 hS2
 obtain ⟨r1, r2, r3, r4⟩ := rd_fine (n := n) hE hS1 hS2 hn2 hi1 hi2
 have hpad := rds_pad (n := n) hS1 r4 r3
 have hml := rdsL_len (symL ops) inn S (rdN inn out S) (rdN inn out S)
 refine C.seq (C.region ?_)
 refine L.boxA rfl rfl (fun A1 => ?_)
 refine Lpu rfl rfl ?_; refine L.nil (QE.seq (C.seq ?_)); refine C.freeze 0 rfl [] (by decide) (by decide) ?_; refine C.region ?_; refine L.step (Ev.fieldAddr rfl rfl rfl rfl rfl rfl (Src.r 0 rfl) (Nat.zero_lt_succ _) rfl) rfl ?_; refine L.step (Ev.load rfl rfl rfl (Src.r 0 rfl) rfl) rfl ?_
 refine L.make (m := n) rfl rfl rfl rfl rfl rfl rfl rfl rfl (by show 24 * _ ≤ _; omega) (by omega) rfl (fun A8 => ?_)
 refine Lpu rfl rfl ?_; refine L.nil (QE.seq (C.seq (C.region ?_))); refine L.step (Ev.fieldAddr rfl rfl rfl rfl rfl rfl (Src.r 0 rfl) (Nat.zero_lt_succ _) rfl) rfl ?_; refine L.step (Ev.loadA (vs := [.bool false, .int .i64 inn, .int .i64 out, .slice OA ops.length oc]) rfl rfl rfl (Src.r 0 rfl) rfl rfl (by decide)) rfl ?_; refine L.step (Ev.fieldAddr rfl rfl rfl rfl rfl rfl (Src.r 0 rfl) (Nat.zero_lt_succ _) rfl) rfl ?_; refine L.step (Ev.load rfl rfl rfl (Src.r 0 rfl) rfl) rfl ?_; refine L.callR (js := []) (js' := [0]) (reads2_c false inn out ops OA oc hops (S : Int)) rfl rfl rfl (by decide) (Hq [1] rfl) rfl ?_
 rw [r1, r2]
 rintro _ _ _ ⟨MA, mc, hs, rfl, rfl, rfl, hhs⟩
 refine Lpu rfl rfl ?_; refine Lpu rfl rfl ?_; refine Lpu rfl rfl ?_; refine Lpu rfl rfl ?_; refine Lpu rfl rfl ?_; refine L.nil (QE.seq (C.seq (C.region ?_))); refine Lpu rfl rfl ?_; refine Lpu rfl rfl ?_; refine L.copy (j := 0) (o := 0) rfl rfl rfl rfl rfl (fun g hg _ => hg) rfl rfl (Src.r 0 rfl) (by rw [rowsV_len (by rw [J8_len]; exact hhs), J8_len, hml]; omega) (rowsV_one _ _) (by rw [rowsV_len (by rw [J8_len]; exact hhs), J8_len, hml, List.length_replicate]; omega) rfl ?_; refine L.nil (QE.seq (C.seq (C.region ?_))); refine Lpu rfl rfl ?_; refine Lpu rfl rfl ?_; refine L.nil (QE.seq (C.ret ?_)); refine QE.freeze 0 rfl [] (by decide) (by decide) ?_; refine QE.more (r := KidsR (hs ++ List.replicate (n - (rdsL (symL ops) inn S (rdN inn out S) (rdN inn out S)).length) (none, 0)) (J8 (padM (rdsL (symL ops) inn S (rdN inn out S) (rdN inn out S)) n))) (Has.kidsPad 2 rfl hhs _) ?_; refine QE.ret (js := [1, 0]) (hs := []) (vs := [_]) rfl ⟨rfl, trivial⟩ (by decide) ?_
 refine ⟨A8, hs ++ List.replicate (n - (rdsL (symL ops) inn S (rdN inn out S) (rdN inn out S)).length) (none, 0), rfl, ?_, rfl, by rw [List.length_append, List.length_replicate, hhs, hml]; omega⟩
 rw [← hpad]
 have he : ∀ q : Nat, List.drop (0 + (rowsV hs (J8 (rdsL (symL ops) inn S (rdN inn out S) (rdN inn out S)))).length) (List.replicate n (Value.slice none 0 0)) = List.replicate (n - (rdsL (symL ops) inn S (rdN inn out S) (rdN inn out S)).length) (Value.slice none 0 0) := fun _ => by rw [Nat.zero_add, rowsV_len (by rw [J8_len]; exact hhs), J8_len, List.drop_replicate]
 show [Rd A8 (List.take 0 _ ++ rowsV hs (J8 (rdsL (symL ops) inn S (rdN inn out S) (rdN inn out S))) ++ List.drop (0 + (rowsV hs (J8 (rdsL (symL ops) inn S (rdN inn out S) (rdN inn out S)))).length) (List.replicate n (Value.slice none 0 0))), _] = _
 rw [he 0, List.take_zero, List.nil_append, rows_pad hhs]

set_option maxHeartbeats 2000000 in
theorem make_c (BA : Option Addr) (ol bc : Nat) (sz n : Int) (lf : Bool) (inn out : Int) (ops : List Po) (OA : Option Addr) (oc : Nat) (hops : ops.length ≤ 9223372036854775807) (_hol : ol ≤ 9223372036854775807) :
   Ctr X 12 [.slice BA ol bc, .agg (List.toArray [.bool lf, .int .i64 inn, .int .i64 out, .slice OA ops.length oc]), .int .i64 sz, .int .i64 n] [Rd OA (opsV ops)] [] (fun v R' H' => ∃ (O Q Hh : Option Addr) (c1 c2 c3 : Nat), v = .tuple #[.agg (List.toArray [.int .i64 (mkP lf inn out sz n ops ol).sz, .int .i64 (mkP lf inn out sz n ops ol).n, .bool (mkP lf inn out sz n ops ol).lf, .int .i64 (mkP lf inn out sz n ops ol).inn, .int .i64 (mkP lf inn out sz n ops ol).out, .slice O (mkP lf inn out sz n ops ol).ops.length c1, .slice Q (mkP lf inn out sz n ops ol).q.length c2, .slice Hh (mkP lf inn out sz n ops ol).h.length c3]), .int .i64 (mkE lf inn out sz n ops ol)] ∧ R' = [Rd O (opsV (mkP lf inn out sz n ops ol).ops), Rd Q (I64 (mkP lf inn out sz n ops ol).q), Rd Hh (I64 (mkP lf inn out sz n ops ol).h)] ∧ H' = []) := by
 refine Ctr.of (X := X) (fn := Tryz.f12) Tryz.func12 rfl (by kernel_rfl) rfl ?_
 intro β
 refine C.seq (C.region ?_)
 refine L.boxA rfl rfl (fun A5 => ?_)
 refine L.alloc rfl rfl rfl (fun A8 => ?_)
 refine Lpu rfl rfl ?_; refine L.nil (QE.seq (C.seq ?_)); refine C.freeze 0 rfl [1] (by decide) (by decide) ?_; refine C.norm (H' := [_]) [0] ⟨rfl, trivial⟩ (by decide) ?_; refine C.region ?_; refine Lpu rfl rfl ?_; refine Lpu rfl rfl ?_; refine L.step (Ev.loadA (vs := [.bool lf, .int .i64 inn, .int .i64 out, .slice OA ops.length oc]) rfl rfl rfl (Src.r 0 rfl) rfl rfl (by decide)) rfl ?_; refine L.step (Ev.build rfl rfl rfl rfl rfl rfl rfl) rfl ?_
 refine L.alloc rfl rfl rfl (fun A10 => ?_)
 refine L.storeA (j := 1) rfl rfl rfl rfl rfl (Nat.zero_lt_succ _) rfl rfl ?_; refine L.nil (QE.seq (C.seq (C.region ?_))); refine L.step (Ev.loadA (vs := [.bool lf, .int .i64 inn, .int .i64 out, .slice OA ops.length oc]) rfl rfl rfl (Src.r 0 rfl) rfl rfl (by decide)) rfl ?_; refine L.call (js := []) (js' := [0, 1]) (check6_c lf inn out ops OA oc hops) rfl rfl rfl (by decide) (Hq [1] rfl) rfl ?_
 rintro _ _ _ ⟨_, rfl, rfl, rfl⟩
 refine L.norm (H' := [_, _]) [0, 1] ⟨rfl, rfl, trivial⟩ (by decide) ?_; refine Lpu rfl rfl ?_; refine Lpu rfl rfl ?_; refine Lpu rfl rfl ?_; refine Lpu rfl rfl ?_; refine Lpu rfl rfl ?_; refine L.nil (QE.seq (C.seq (C.block (C.seq (C.region ?_))))); refine Lpu rfl rfl ?_; refine Lpu rfl rfl ?_; refine Lpu rfl rfl ?_; refine L.nil (QE.seq ?_)
 refine C.condB 39 rfl (fun hc39 => ?_) (fun hc39 => ?_)
 ·
  replace hc39 := b_ne hc39
  refine C.seq (C.region ?_); refine L.step (Ev.build rfl rfl rfl rfl rfl rfl rfl) rfl ?_; refine L.storeA (j := 0) rfl rfl rfl rfl rfl (Nat.zero_lt_succ _) rfl rfl ?_; refine Lpu rfl rfl ?_; refine L.nil (QE.seq (C.ret (QE.bR (QE.tR ?_)))); refine QE.more (r := Rd none (opsV [])) (Has.nil) ?_; refine QE.more (r := Rd none (I64 [])) (Has.nil) ?_; refine QE.more (r := Rd none (I64 [])) (Has.nil) ?_; refine QE.ret (js := [2, 1, 0]) (hs := []) (vs := [_, _]) rfl ⟨⟨_, _, 0, _, rfl, rfl, Src.o 0 rfl, .inl ⟨rfl, by decide, _, rfl, rfl, rfl⟩⟩, rfl, trivial⟩ (by decide) ?_
  have hE : mkE lf inn out sz n ops ol = _ := mkE_1 (by first | exact hc39 | omega)
  have hP : mkP lf inn out sz n ops ol = Pp.zero := mkP_no (by rw [hE]; decide)
  rw [hP, hE]
  exact ⟨none, none, none, 0, 0, 0, rfl, rfl, rfl⟩
 ·
  replace hc39 := b_eq hc39
  refine C.seq (C.region ?_); refine L.step (Ev.fieldAddr rfl rfl rfl rfl rfl rfl (Src.r 0 rfl) (Nat.zero_lt_succ _) rfl) rfl ?_; refine L.step (Ev.load rfl rfl rfl (Src.r 0 rfl) rfl) rfl ?_; refine Lpu rfl rfl ?_; refine L.nil (QE.seq ?_)
  refine C.condB 43 rfl (fun hc43 => ?_) (fun hc43 => ?_)
  ·
   refine C.seq (C.region ?_); refine L.step (Ev.build rfl rfl rfl rfl rfl rfl rfl) rfl ?_; refine L.storeA (j := 0) rfl rfl rfl rfl rfl (Nat.zero_lt_succ _) rfl rfl ?_; refine Lpu rfl rfl ?_; refine L.nil (QE.seq (C.ret (QE.bR (QE.tR ?_)))); refine QE.more (r := Rd none (opsV [])) (Has.nil) ?_; refine QE.more (r := Rd none (I64 [])) (Has.nil) ?_; refine QE.more (r := Rd none (I64 [])) (Has.nil) ?_; refine QE.ret (js := [2, 1, 0]) (hs := []) (vs := [_, _]) rfl ⟨⟨_, _, 0, _, rfl, rfl, Src.o 0 rfl, .inl ⟨rfl, by decide, _, rfl, rfl, rfl⟩⟩, rfl, trivial⟩ (by decide) ?_
   have hE : mkE lf inn out sz n ops ol = _ := mkE_2 (by omega) hc43
   have hP : mkP lf inn out sz n ops ol = Pp.zero := mkP_no (by rw [hE]; decide)
   rw [hP, hE]
   exact ⟨none, none, none, 0, 0, 0, rfl, rfl, rfl⟩
  ·
   refine C.seq (C.region ?_); refine L.step (Ev.loadA (vs := [.int .i64 sz, .int .i64 n, .bool lf, .int .i64 inn, .int .i64 out, .slice OA ops.length oc, .slice none 0 0, .slice none 0 0]) rfl rfl rfl (Src.o 1 rfl) rfl rfl (by decide)) rfl ?_; refine L.call (js := []) (js' := [0, 1]) (sized_c sz n lf inn out ops OA oc (.slice none 0 0) (.slice none 0 0)) rfl rfl rfl (by decide) trivial rfl ?_
   rintro _ _ _ ⟨rfl, rfl, rfl⟩
   refine L.norm (H' := [_, _]) [0, 1] ⟨rfl, rfl, trivial⟩ (by decide) ?_; refine Lpu rfl rfl ?_; refine Lpu rfl rfl ?_; refine L.nil (QE.seq ?_)
   refine C.condB 47 rfl (fun hc47 => ?_) (fun hc47 => ?_)
   ·
    refine C.seq (C.region ?_); refine L.step (Ev.build rfl rfl rfl rfl rfl rfl rfl) rfl ?_; refine L.storeA (j := 0) rfl rfl rfl rfl rfl (Nat.zero_lt_succ _) rfl rfl ?_; refine Lpu rfl rfl ?_; refine L.nil (QE.seq (C.ret (QE.bR (QE.tR ?_)))); refine QE.more (r := Rd none (opsV [])) (Has.nil) ?_; refine QE.more (r := Rd none (I64 [])) (Has.nil) ?_; refine QE.more (r := Rd none (I64 [])) (Has.nil) ?_; refine QE.ret (js := [2, 1, 0]) (hs := []) (vs := [_, _]) rfl ⟨⟨_, _, 0, _, rfl, rfl, Src.o 0 rfl, .inl ⟨rfl, by decide, _, rfl, rfl, rfl⟩⟩, rfl, trivial⟩ (by decide) ?_
    have hE : mkE lf inn out sz n ops ol = _ := mkE_3 (by omega) (by simpa using hc43) (by simpa using hc47)
    have hP : mkP lf inn out sz n ops ol = Pp.zero := mkP_no (by rw [hE]; decide)
    rw [hP, hE]
    exact ⟨none, none, none, 0, 0, 0, rfl, rfl, rfl⟩
   ·
    refine C.seq (C.region ?_); refine Lpu rfl rfl ?_; refine Lpu rfl rfl ?_; refine L.step (Ev.fieldAddr rfl rfl rfl rfl rfl rfl (Src.r 0 rfl) (Nat.zero_lt_succ _) rfl) rfl ?_; refine L.step (Ev.load rfl rfl rfl (Src.r 0 rfl) rfl) rfl ?_; refine Lpu rfl rfl ?_; refine Lpu rfl rfl ?_; refine L.nil (QE.seq ?_)
    refine C.condB 52 rfl (fun hc52 => ?_) (fun hc52 => ?_)
    ·
     replace hc52 := b_ne hc52
     refine C.seq (C.region ?_); refine L.step (Ev.build rfl rfl rfl rfl rfl rfl rfl) rfl ?_; refine L.storeA (j := 0) rfl rfl rfl rfl rfl (Nat.zero_lt_succ _) rfl rfl ?_; refine Lpu rfl rfl ?_; refine L.nil (QE.seq (C.ret (QE.bR (QE.tR ?_)))); refine QE.more (r := Rd none (opsV [])) (Has.nil) ?_; refine QE.more (r := Rd none (I64 [])) (Has.nil) ?_; refine QE.more (r := Rd none (I64 [])) (Has.nil) ?_; refine QE.ret (js := [2, 1, 0]) (hs := []) (vs := [_, _]) rfl ⟨⟨_, _, 0, _, rfl, rfl, Src.o 0 rfl, .inl ⟨rfl, by decide, _, rfl, rfl, rfl⟩⟩, rfl, trivial⟩ (by decide) ?_
     have hE : mkE lf inn out sz n ops ol = _ := mkE_4 (by omega) (by simpa using hc43) (by simpa using hc47) (by omega)
     have hP : mkP lf inn out sz n ops ol = Pp.zero := mkP_no (by rw [hE]; decide)
     rw [hP, hE]
     exact ⟨none, none, none, 0, 0, 0, rfl, rfl, rfl⟩
    ·
     replace hc52 := b_eq hc52
     have hszb0 : sizB sz n inn out = true := by simpa using hc47
     have hlf0 : lf = false := by simpa using hc43
     subst hlf0
     have hszb := sizB_iff.1 hszb0
     obtain ⟨S, rfl⟩ : ∃ q : Nat, sz = (q : Int) := ⟨sz.toNat, by omega⟩
     obtain ⟨n, rfl⟩ : ∃ q : Nat, n = (q : Int) := ⟨n.toNat, by omega⟩
     obtain ⟨hS1, hS2, hn1, hn2, hi1, hi2⟩ : 1 ≤ S ∧ S ≤ 4096 ∧ 1 ≤ n ∧ n ≤ 64 ∧ inn ≤ (S : Int) * (n : Int) ∧ out ≤ (S : Int) * (n : Int) := ⟨by omega, by omega, by omega, by omega, hszb.2.2.2.2.1, hszb.2.2.2.2.2⟩
     have hcl := chgL_len (symL ops) inn S n
     have hcn := nodup_ne (chgL_nodup (symL ops) inn S n)
     refine C.skip ?_; refine QE.blkN ?_; refine QE.seq (C.seq (C.region ?_)); refine L.step (Ev.loadA (vs := [.int .i64 (S : Int), .int .i64 (n : Int), .bool false, .int .i64 inn, .int .i64 out, .slice OA ops.length oc, .slice none 0 0, .slice none 0 0]) rfl rfl rfl (Src.o 1 rfl) rfl rfl (by decide)) rfl ?_; refine L.call (js := []) (js' := [0, 1]) (changing_c S n false inn out ops OA oc (.slice none 0 0) (.slice none 0 0) hops hS1 hS2 hn1 hn2 hc39) rfl rfl rfl (by decide) (Hq [1] rfl) rfl ?_
     rintro _ _ _ ⟨CA, cc, rfl, rfl, rfl⟩
     refine L.norm (H' := [_, _, _]) [0, 1, 2] ⟨rfl, rfl, rfl, trivial⟩ (by decide) ?_; refine Lpu rfl rfl ?_; refine L.nil (QE.seq (C.seq (C.seq ?_))); refine C.freeze 0 rfl [1, 2] (by decide) (by decide) ?_; refine C.norm (H' := [_, _]) [0, 1] ⟨rfl, rfl, trivial⟩ (by decide) ?_; refine C.region ?_; refine Lpu rfl rfl ?_; refine Lpu rfl rfl ?_; refine Lpu rfl rfl ?_; refine L.nil (QE.seq ?_)
     refine C.condB 63 rfl (fun hc63 => ?_) (fun hc63 => ?_)
     ·
      replace hc63 := of_decide_eq_true hc63
      refine C.seq (C.region ?_); refine L.step (Ev.build rfl rfl rfl rfl rfl rfl rfl) rfl ?_; refine L.storeA (j := 0) rfl rfl rfl rfl rfl (Nat.zero_lt_succ _) rfl rfl ?_; refine Lpu rfl rfl ?_; refine L.nil (QE.seq (C.ret (QE.tR ?_))); refine QE.more (r := Rd none (opsV [])) (Has.nil) ?_; refine QE.more (r := Rd none (I64 [])) (Has.nil) ?_; refine QE.more (r := Rd none (I64 [])) (Has.nil) ?_; refine QE.ret (js := [2, 1, 0]) (hs := []) (vs := [_, _]) rfl ⟨⟨_, _, 0, _, rfl, rfl, Src.o 0 rfl, .inl ⟨rfl, by decide, _, rfl, rfl, rfl⟩⟩, rfl, trivial⟩ (by decide) ?_
      have hE : mkE false inn out (S : Int) (n : Int) ops ol = 2 := mkE_5 hc39 rfl hszb0 hc52 (by rw [Int.toNat_natCast, Int.toNat_natCast]; omega)
      have hP : mkP false inn out (S : Int) (n : Int) ops ol = Pp.zero := mkP_no (by rw [hE]; decide)
      rw [hP, hE]
      exact ⟨none, none, none, 0, 0, 0, rfl, rfl, rfl⟩
     ·
      replace hc63 := of_decide_eq_false hc63
      refine C.skip (QE.seq (C.seq (C.region ?_)))
      refine L.makeMap .i64 rfl (fun g => ?_)
      refine Lpu rfl rfl ?_; refine L.nil (QE.seq (C.seq (C.seq (C.region ?_)))); refine Lpu rfl rfl ?_; refine Lpu rfl rfl ?_; refine Lpu rfl rfl ?_; refine L.nil (QE.seq (C.block ?_)); refine C.loop (fun i : Nat => [(8, ptrOf A8 0), (10, ptrOf A10 0), (13, .slice CA (chgL (symL ops) inn S n).length cc), (14, .map (some g)), (66, .slice CA (chgL (symL ops) inn S n).length cc), (67, .int .i64 ((chgL (symL ops) inn S n).length : Int)), (68, .int .i64 (i : Int))]) (fun i : Nat => [Rd CA (I64 (NI (chgL (symL ops) inn S n))), Rd OA (opsV ops)]) (fun i : Nat => [Own 36 8 A8 1 1 [.int .i64 0, .int .i64 0, .bool false, .int .i64 0, .int .i64 0, .slice none 0 0, .slice none 0 0, .slice none 0 0], Own 36 8 A10 1 1 [.int .i64 (S : Int), .int .i64 (n : Int), .bool false, .int .i64 inn, .int .i64 out, .slice OA ops.length oc, .slice none 0 0, .slice none 0 0], MapP .i64 g (numM (chgL (symL ops) inn S n) i)]) (fun i : Nat => i ≤ (chgL (symL ops) inn S n).length) (fun i : Nat => (chgL (symL ops) inn S n).length - i) 0 (Nat.zero_le _) (by exact Le.mk' (rs := [0, 2]) (hs := [0, 1, 2]) ⟨rfl, rfl, rfl, rfl, rfl, rfl, rfl, trivial⟩ ⟨rfl, rfl, trivial⟩ ⟨rfl, rfl, rfl, trivial⟩ (by decide)) ?_
      intro i hi
      refine C.seq (C.region ?_); refine Lpu rfl rfl ?_; refine L.nil (QE.seq (C.seq ?_))
      refine C.condB 69 rfl (fun hc69 => ?_) (fun hc69 => ?_)
      ·
       replace hc69 := of_decide_eq_true hc69
       refine C.skip (QE.seq (C.seq (C.block (C.seq (C.region ?_))))); refine Lpu rfl rfl ?_; refine L.step (Ev.idx1 (k := i) rfl rfl rfl rfl rfl rfl rfl (by omega) (Src.r 0 rfl) (by rw [I64_len, NI_len]; omega)) rfl ?_; refine L.step (Ev.load rfl rfl rfl (Src.r 0 rfl) (NI_at (by omega))) rfl ?_; refine Lpu rfl rfl ?_; refine Lpu rfl rfl ?_; refine L.nil (QE.seq (C.region ?_)); refine Lpu rfl rfl ?_; refine Lpu rfl rfl ?_; refine Lpu rfl rfl ?_; refine L.mapSet (j := 2) rfl rfl rfl rfl rfl rfl rfl rfl ?_; refine L.nil ?_; refine QE.blkN ?_; refine QE.seq (C.region ?_); refine L.step (Ev.add rfl rfl (by omega) (by omega)) rfl ?_; refine Lpu rfl rfl ?_; refine L.nil ?_
       refine QE.round (i + 1) (by omega) (by omega) (by exact Le.mk' (rs := [0, 1]) (hs := [0, 1, 2]) ⟨rfl, rfl, rfl, rfl, rfl, rfl, rfl, trivial⟩ ⟨rfl, rfl, trivial⟩ ⟨rfl, rfl, (congrArg some (congrArg (MapP .i64 g) (by rw [numM_snoc]; exact mset_new (numM_no fun j hj => hcn j i hj (by omega))))), trivial⟩ (by decide))
      ·
       replace hc69 := of_decide_eq_false hc69
       refine C.exit ?_; refine QE.tX ?_; refine QE.tX ?_; refine QE.blk ?_; refine QE.seq (C.seq ?_)
       obtain rfl : i = (chgL (symL ops) inn S n).length := by omega
       refine C.freezeAny 2 rfl [0, 1] (by decide) (by decide) ?_; refine C.norm (H' := [_, _]) [0, 1] ⟨rfl, rfl, trivial⟩ (by decide) ?_; refine C.region ?_; refine L.step (Ev.loadA (vs := [.int .i64 (S : Int), .int .i64 (n : Int), .bool false, .int .i64 inn, .int .i64 out, .slice OA ops.length oc, .slice none 0 0, .slice none 0 0]) rfl rfl rfl (Src.o 1 rfl) rfl rfl (by decide)) rfl ?_; refine L.callR (js := []) (js' := [0, 1]) (readings19_c S n inn out ops OA oc (.slice none 0 0) (.slice none 0 0) hops hS1 hS2 hn1 hn2 hc39 hi1 hi2) rfl rfl rfl (by decide) (Hq [2] rfl) rfl ?_
       rintro _ _ _ ⟨MA, mhs, rfl, rfl, rfl, hmhs⟩
       refine L.norm (H' := [_, _]) [0, 1] ⟨rfl, rfl, trivial⟩ (by decide) ?_; refine Lpu rfl rfl ?_; refine L.nil (QE.seq (C.seq (C.region ?_))); refine Lpu rfl rfl ?_; refine Lpu rfl rfl ?_
       refine L.make (m := (chgL (symL ops) inn S n).length) rfl rfl rfl rfl rfl rfl rfl rfl rfl (by show 24 * _ ≤ _; omega) (by omega) rfl (fun A81 => ?_)
       refine Lpu rfl rfl ?_; refine L.nil (QE.seq (C.seq (C.seq (C.region ?_)))); refine Lpu rfl rfl ?_; refine Lpu rfl rfl ?_; refine Lpu rfl rfl ?_; refine L.nil (QE.seq (C.block ?_)); refine C.kidsN 3 (chgL (symL ops) inn S n).length ?_; refine C.loop (fun q : Nat × List Hd => [(8, ptrOf A8 0), (10, ptrOf A10 0), (13, .slice CA (chgL (symL ops) inn S n).length cc), (14, .map (some g)), (17, .slice MA n n), (18, .slice A81 (chgL (symL ops) inn S n).length (chgL (symL ops) inn S n).length), (82, .slice CA (chgL (symL ops) inn S n).length cc), (83, .int .i64 ((chgL (symL ops) inn S n).length : Int)), (84, .int .i64 (q.1 : Int))]) (fun q : Nat × List Hd => [Rd MA (rowsV mhs (J8 (rdsL (symL ops) inn S n n))), KidsR mhs (J8 (rdsL (symL ops) inn S n n)), MapP .i64 g (numM (chgL (symL ops) inn S n) (chgL (symL ops) inn S n).length), Rd CA (I64 (NI (chgL (symL ops) inn S n))), Rd OA (opsV ops)]) (fun q : Nat × List Hd => [Own 36 8 A8 1 1 [.int .i64 0, .int .i64 0, .bool false, .int .i64 0, .int .i64 0, .slice none 0 0, .slice none 0 0, .slice none 0 0], Own 36 8 A10 1 1 [.int .i64 (S : Int), .int .i64 (n : Int), .bool false, .int .i64 inn, .int .i64 out, .slice OA ops.length oc, .slice none 0 0, .slice none 0 0], Own 34 1 A81 (chgL (symL ops) inn S n).length (chgL (symL ops) inn S n).length (rowsV q.2 (J8 (amB (chgL (symL ops) inn S n) (rdsL (symL ops) inn S n n) q.1))), OwnKids 3 q.2 (J8 (amB (chgL (symL ops) inn S n) (rdsL (symL ops) inn S n n) q.1))]) (fun q : Nat × List Hd => q.1 ≤ (chgL (symL ops) inn S n).length ∧ q.2.length = (chgL (symL ops) inn S n).length) (fun q : Nat × List Hd => (chgL (symL ops) inn S n).length - q.1) (0, List.replicate (chgL (symL ops) inn S n).length (none, 0)) ⟨Nat.zero_le _, List.length_replicate⟩ (by exact Le.mk' (rs := [0, 1, 2, 3, 4]) (hs := [0, 1, 2, 3]) ⟨rfl, rfl, rfl, rfl, rfl, rfl, rfl, rfl, rfl, trivial⟩ ⟨rfl, rfl, rfl, rfl, rfl, trivial⟩ ⟨rfl, rfl, (congrArg some (own_eq rfl (by dsimp only; rw [amB_zero]; exact rows0 _))), (congrArg some (by dsimp only; rw [amB_zero]; simp [J8, I64])), trivial⟩ (by decide)) ?_
       rintro ⟨i, hs⟩ ⟨hi, hhs⟩
       dsimp only at hi hhs ⊢
       refine C.seq (C.region ?_); refine Lpu rfl rfl ?_; refine L.nil (QE.seq (C.seq ?_))
       refine C.condB 85 rfl (fun hc85 => ?_) (fun hc85 => ?_)
       ·
        replace hc85 := of_decide_eq_true hc85
        refine C.skip (QE.seq (C.seq (C.block (C.seq (C.region ?_))))); refine Lpu rfl rfl ?_; refine L.step (Ev.idx1 (k := i) rfl rfl rfl rfl rfl rfl rfl (by omega) (Src.r 3 rfl) (by rw [I64_len, NI_len]; omega)) rfl ?_; refine L.step (Ev.load rfl rfl rfl (Src.r 3 rfl) (NI_at (by omega))) rfl ?_; refine Lpu rfl rfl ?_; refine Lpu rfl rfl ?_; refine L.nil (QE.seq (C.seq ?_))
        obtain ⟨hci, hcb⟩ := chg_lt (l := (symL ops)) (inn := inn) (S := S) (n := n) (i := i) (by omega)
        refine C.region ?_; refine Lpu rfl rfl ?_; refine Lpu rfl rfl ?_; refine L.step (Ev.idx1 (k := ((chgL (symL ops) inn S n).getD i 0)) rfl rfl rfl rfl rfl rfl rfl hci (Src.r 0 rfl) (by rw [rowsV_len (by rw [J8_len, rdsL_len]; exact hmhs), J8_len, rdsL_len]; omega)) rfl ?_; refine L.step (Ev.load rfl rfl rfl (Src.r 0 rfl) (rowsJ_get (by rw [rdsL_len]; exact hmhs) (by rw [rdsL_len]; exact hci))) rfl ?_; refine Lpu rfl rfl ?_; refine Lpu rfl rfl ?_; refine L.nil (QE.seq (C.block ?_))
        obtain ⟨hs0, hhs0⟩ : ∃ x, x = hs := ⟨_, rfl⟩
        have hrl := rdsR_len (symL ops) inn S ((chgL (symL ops) inn S n).getD i 0) n
        have hrl2 : ((rdsL (symL ops) inn S n n).getD ((chgL (symL ops) inn S n).getD i 0) []).length ≤ n := by rw [rdsL_get hci, NI_len]; exact hrl
        have hz := amJ_zero (M := (rdsL (symL ops) inn S n n)) (i := i) (show i < (chgL (symL ops) inn S n).length by omega)
        refine C.loop (fun q : Nat × List Hd => [(8, ptrOf A8 0), (10, ptrOf A10 0), (13, .slice CA (chgL (symL ops) inn S n).length cc), (14, .map (some g)), (17, .slice MA n n), (18, .slice A81 (chgL (symL ops) inn S n).length (chgL (symL ops) inn S n).length), (82, .slice CA (chgL (symL ops) inn S n).length cc), (83, .int .i64 ((chgL (symL ops) inn S n).length : Int)), (84, .int .i64 (i : Int)), (19, .int .i64 (i : Int)), (92, .slice (mhs.getD ((chgL (symL ops) inn S n).getD i 0) (none, 0)).1 ((rdsL (symL ops) inn S n n).getD ((chgL (symL ops) inn S n).getD i 0) []).length (mhs.getD ((chgL (symL ops) inn S n).getD i 0) (none, 0)).2), (93, .int .i64 (((rdsL (symL ops) inn S n n).getD ((chgL (symL ops) inn S n).getD i 0) []).length : Int)), (94, .int .i64 (q.1 : Int))]) (fun q : Nat × List Hd => [Rd MA (rowsV mhs (J8 (rdsL (symL ops) inn S n n))), KidsR mhs (J8 (rdsL (symL ops) inn S n n)), MapP .i64 g (numM (chgL (symL ops) inn S n) (chgL (symL ops) inn S n).length), Rd CA (I64 (NI (chgL (symL ops) inn S n))), Rd OA (opsV ops)]) (fun q : Nat × List Hd => [Own 36 8 A8 1 1 [.int .i64 0, .int .i64 0, .bool false, .int .i64 0, .int .i64 0, .slice none 0 0, .slice none 0 0, .slice none 0 0], Own 36 8 A10 1 1 [.int .i64 (S : Int), .int .i64 (n : Int), .bool false, .int .i64 inn, .int .i64 out, .slice OA ops.length oc, .slice none 0 0, .slice none 0 0], Own 34 1 A81 (chgL (symL ops) inn S n).length (chgL (symL ops) inn S n).length (rowsV q.2 (J8 (amJ (chgL (symL ops) inn S n) (rdsL (symL ops) inn S n n) i q.1))), OwnKids 3 q.2 (J8 (amJ (chgL (symL ops) inn S n) (rdsL (symL ops) inn S n n) i q.1))]) (fun q : Nat × List Hd => q.1 ≤ ((rdsL (symL ops) inn S n n).getD ((chgL (symL ops) inn S n).getD i 0) []).length ∧ q.2.length = (chgL (symL ops) inn S n).length) (fun q : Nat × List Hd => ((rdsL (symL ops) inn S n n).getD ((chgL (symL ops) inn S n).getD i 0) []).length - q.1) (0, hs) ⟨Nat.zero_le _, hhs⟩ (by exact Le.mk' (rs := [0, 1, 2, 3, 4]) (hs := [0, 1, 2, 3]) ⟨rfl, rfl, rfl, rfl, rfl, rfl, rfl, rfl, rfl, rfl, rfl, rfl, rfl, trivial⟩ ⟨rfl, rfl, rfl, rfl, rfl, trivial⟩ ⟨rfl, rfl, (congrArg some (by dsimp only; rw [hz])), (congrArg some (by dsimp only; rw [hz])), trivial⟩ (by decide)) ?_
        rintro ⟨j, hs⟩ ⟨hj, hhs⟩
        dsimp only at hj hhs ⊢
        refine C.seq (C.region ?_); refine Lpu rfl rfl ?_; refine L.nil (QE.seq (C.seq ?_))
        refine C.condB 95 rfl (fun hc95 => ?_) (fun hc95 => ?_)
        ·
         replace hc95 := of_decide_eq_true hc95
         refine C.skip (QE.seq (C.seq (C.block (C.seq ?_))))
         obtain ⟨hci, hcb⟩ := chg_lt (l := (symL ops)) (inn := inn) (S := S) (n := n) (i := i) (by omega)
         obtain ⟨t, htj, htn, htr, htm⟩ := row_mem (l := (symL ops)) (inn := inn) (S := S) (n := n) (u := (chgL (symL ops) inn S n).getD i 0) (j := j) hci (by omega)
         have hti := idx_at htm
         have hmap : mget (numM (chgL (symL ops) inn S n) (chgL (symL ops) inn S n).length) (t : Int) = some (.int .i64 ((idxN (chgL (symL ops) inn S n) t : Nat) : Int)) := by
           have h := numM_yes hcn hti.1 hti.1 (Nat.le_refl _)
           rw [hti.2] at h
           exact h
         refine C.region ?_; refine L.step (Ev.idx1 (k := j) rfl rfl rfl rfl rfl rfl rfl (by omega) (Src.cast (Src.kid 1 rfl (by rw [J8_len, rdsL_len]; exact hmhs) ((chgL (symL ops) inn S n).getD i 0) (by rw [J8_len, rdsL_len]; exact hci)) (J8_get _)) (by rw [I64_len]; omega)) rfl ?_; refine L.step (Ev.cast (u := .int .i64 (t : Int)) (Ev.load rfl rfl rfl (Src.cast (Src.kid 1 rfl (by rw [J8_len, rdsL_len]; exact hmhs) ((chgL (symL ops) inn S n).getD i 0) (by rw [J8_len, rdsL_len]; exact hci)) (J8_get _)) (I64_get (by omega))) (congrArg (Value.int .i64) htj)) rfl ?_; refine Lpu rfl rfl ?_; refine L.nil (QE.seq ?_)
         have hgl : ((amJ (chgL (symL ops) inn S n) (rdsL (symL ops) inn S n n) i j).getD i []).length = j := by rw [amJ_get (by omega), rowJ_len (by omega)]
         refine C.takeKidJ 3 i rfl (by rw [amJ_len (by omega)]; omega) [0, 1, 2] (by decide) ?_; refine C.regionM [Rd CA (I64 (NI (chgL (symL ops) inn S n))), MapP .i64 g (numM (chgL (symL ops) inn S n) (chgL (symL ops) inn S n).length), Rd A81 (rowsV hs (J8 (amJ (chgL (symL ops) inn S n) (rdsL (symL ops) inn S n n) i j)))] ⟨Has.r 3 rfl, Has.r 2 rfl, Has.o 4 rfl, trivial⟩ ?_; refine LM.q 0 rfl (by kernel_rfl) (Ev.pure rfl) rfl ⟨Has.r 3 rfl, Has.r 2 rfl, Has.o 4 rfl, trivial⟩ ?_; refine LM.q 1 rfl (by kernel_rfl) (Ev.pure rfl) rfl ⟨Has.r 3 rfl, Has.r 2 rfl, Has.o 4 rfl, trivial⟩ ?_; refine LM.q 2 rfl (by kernel_rfl) (Ev.pure rfl) rfl ⟨Has.r 3 rfl, Has.r 2 rfl, Has.o 4 rfl, trivial⟩ ?_; refine LM.q 3 rfl (by kernel_rfl) (Ev.pure rfl) rfl ⟨Has.r 3 rfl, Has.r 2 rfl, Has.o 4 rfl, trivial⟩ ?_; refine LM.q 4 rfl (by kernel_rfl) (Ev.idx1 (k := i) rfl rfl rfl rfl rfl rfl rfl (by omega) (Src.r 2 rfl) (by rw [rowsV_len (by rw [J8_len, amJ_len (by omega)]; exact hhs), J8_len, amJ_len (by omega)]; omega)) rfl ⟨Has.r 3 rfl, Has.r 2 rfl, Has.o 4 rfl, trivial⟩ ?_; refine LM.q 5 rfl (by kernel_rfl) (Ev.load rfl rfl rfl (Src.r 2 rfl) (rowsJ_get (by rw [amJ_len (by omega)]; exact hhs) (by rw [amJ_len (by omega)]; omega))) rfl ⟨Has.r 3 rfl, Has.r 2 rfl, Has.o 4 rfl, trivial⟩ ?_; refine LM.q 6 rfl (by kernel_rfl) (Ev.pure rfl) rfl ⟨Has.r 3 rfl, Has.r 2 rfl, Has.o 4 rfl, trivial⟩ ?_; refine LM.f 7 rfl (by kernel_rfl) ⟨Has.r 3 rfl, Has.r 2 rfl, Has.o 4 rfl, trivial⟩ ?_; refine Lpu rfl rfl ?_
         refine L.nil (QE.m (by kernel_rfl) ?_)
         refine LM.f 8 rfl (by kernel_rfl) ⟨Has.r 3 rfl, Has.r 2 rfl, Has.o 4 rfl, trivial⟩ ?_; refine L.step (Ev.lookup1 rfl rfl rfl rfl rfl rfl rfl (HasMap.r 2 rfl) hmap) rfl ?_
         refine L.nil (QE.m (by kernel_rfl) ?_)
         refine LM.f 9 rfl (by kernel_rfl) ⟨Has.r 3 rfl, Has.r 2 rfl, Has.o 4 rfl, trivial⟩ ?_
         refine L.lit rfl rfl rfl rfl rfl (by rfl) (by rfl) (by rfl) rfl rfl (fun A107 => ?_)
         refine L.nil (QE.m (by kernel_rfl) ?_)
         refine LM.f 10 rfl (by kernel_rfl) ⟨Has.r 3 rfl, Has.r 2 rfl, Has.o 4 rfl, trivial⟩ ?_
         refine L.append (j := 0) rfl rfl rfl rfl (by decide) rfl rfl rfl rfl (Src.o 5 rfl) rfl (allOne rfl) (by rw [amJ_get (by omega), rowJ_len (by omega)]; omega) (by show _ * 8 ≤ _; omega) rfl (fun A108 cc108 => ?_)
         refine L.nil (QE.m (by kernel_rfl) ?_)
         refine LM.cut [] (by kernel_rfl) ⟨Has.r 3 rfl, Has.r 2 rfl, Has.o 4 rfl, trivial⟩ ?_; refine LM.f 11 rfl (by kernel_rfl) trivial ?_; refine L.step (Ev.idx1 (k := i) rfl rfl rfl rfl rfl rfl rfl (by omega) (Src.o 4 rfl) (by rw [rowsV_len (by rw [J8_len, amJ_len (by omega)]; exact hhs), J8_len, amJ_len (by omega)]; omega)) rfl ?_
         refine L.nil (QE.m (by kernel_rfl) ?_)
         refine LM.f 12 rfl (by kernel_rfl) trivial ?_; refine L.store (j := 4) rfl rfl rfl rfl rfl rfl rfl (by exact rowsJ_get (by rw [amJ_len (by omega)]; exact hhs) (by rw [amJ_len (by omega)]; omega)) ?_; refine L.putKid 1 0 i rfl rfl (by rw [J8_len, List.length_set, amJ_len (by omega)]; omega) [2, 3, 4] (by decide) ?_
         refine L.nil (QE.m (by kernel_rfl) ?_)
         refine LM.nil (by kernel_rfl) trivial ?_; refine QE.blkN ?_; refine QE.seq (C.region ?_); refine L.step (Ev.add rfl rfl (by omega) (by omega)) rfl ?_; refine Lpu rfl rfl ?_; refine L.nil ?_
         have hgj := amJ_get (M := (rdsL (symL ops) inn S n n)) (i := i) (j := j) (show i < (chgL (symL ops) inn S n).length by omega)
         have hrs : rowJ (chgL (symL ops) inn S n) (rdsL (symL ops) inn S n n) i (j + 1) = rowJ (chgL (symL ops) inn S n) (rdsL (symL ops) inn S n n) i j ++ [((idxN (chgL (symL ops) inn S n) t : Nat) : Int)] := by rw [rowJ_succ (by omega), htj]; rfl
         have he : (amJ (chgL (symL ops) inn S n) (rdsL (symL ops) inn S n n) i (j + 1)) = (amJ (chgL (symL ops) inn S n) (rdsL (symL ops) inn S n n) i j).set i ((amJ (chgL (symL ops) inn S n) (rdsL (symL ops) inn S n n) i j).getD i [] ++ [((idxN (chgL (symL ops) inn S n) t : Nat) : Int)]) := by rw [amJ_put, hrs, hgj]
         refine QE.round (i := (j, hs)) ((j + 1, hs.set i (A108, cc108))) (by exact ⟨by dsimp only; omega, by dsimp only; rw [List.length_set]; exact hhs⟩) (by dsimp only; omega) (by exact Le.mk' (rs := [0, 1, 2, 3, 4]) (hs := [1, 2, 3, 0]) ⟨rfl, rfl, rfl, rfl, rfl, rfl, rfl, rfl, rfl, rfl, rfl, rfl, rfl, trivial⟩ ⟨rfl, rfl, rfl, rfl, rfl, trivial⟩ ⟨rfl, rfl, (congrArg some (own_eq rfl (by dsimp only; rw [he, ← rowsJ_put, List.length_append]; rfl))), (congrArg some (by dsimp only; rw [he]; exact kidsJ_put2 (y := [_]))), trivial⟩ (by decide))
        ·
         replace hc95 := of_decide_eq_false hc95
         refine C.exit ?_; refine QE.tX ?_; refine QE.tX ?_; refine QE.blk ?_; refine QE.blkN ?_; refine QE.seq (C.region ?_); refine L.step (Ev.add rfl rfl (by omega) (by omega)) rfl ?_; refine Lpu rfl rfl ?_; refine L.nil ?_
         obtain rfl : j = ((rdsL (symL ops) inn S n n).getD ((chgL (symL ops) inn S n).getD i 0) []).length := by omega
         have he := amJ_full (M := (rdsL (symL ops) inn S n n)) (i := i) (show i < (chgL (symL ops) inn S n).length by omega) (rowJ_all (by omega))
         refine QE.round (i := (i, hs0)) ((i + 1, hs)) (by exact ⟨by dsimp only; omega, hhs⟩) (by dsimp only; omega) (by exact Le.mk' (rs := [0, 1, 2, 3, 4]) (hs := [0, 1, 2, 3]) ⟨rfl, rfl, rfl, rfl, rfl, rfl, rfl, rfl, rfl, trivial⟩ ⟨rfl, rfl, rfl, rfl, rfl, trivial⟩ ⟨rfl, rfl, (congrArg some (by dsimp only; rw [he])), (congrArg some (by dsimp only; rw [he])), trivial⟩ (by decide))
       ·
        replace hc85 := of_decide_eq_false hc85
        refine C.exit ?_; refine QE.tX ?_; refine QE.tX ?_; refine QE.blk ?_; refine QE.seq (C.seq ?_)
        obtain rfl : i = (chgL (symL ops) inn S n).length := by omega
        rw [amB_all]
        have hro : readB (mkM inn S n ops) = true := amo_ok
        have haml : (mkM inn S n ops).length = (chgL (symL ops) inn S n).length := amoL_len _ _ _
        obtain ⟨s, hs2, hoH, hoQ, hof, hoE⟩ := ord16 hro (by rw [haml]; omega)
        have hQl : (ordQ (mkM inn S n ops)).length = (chgL (symL ops) inn S n).length := by rw [hoQ, ← haml]; exact full_iff.1 hof
        have hHl : (ordH (mkM inn S n ops)).length ≤ 16 := by rw [hoH]; exact mem16 (by rw [haml] at hs2; exact hs2) (by omega)
        refine C.freezeKids 3 rfl [0, 1, 2] (by decide) (by decide) ?_; refine C.norm (H' := [_, _, _]) [0, 1, 2] ⟨rfl, rfl, rfl, trivial⟩ (by decide) ?_; refine C.freeze 2 rfl [0, 1] (by decide) (by decide) ?_; refine C.norm (H' := [_, _]) [0, 1] ⟨rfl, rfl, trivial⟩ (by decide) ?_; refine C.region ?_; refine Lpu rfl rfl ?_; refine L.callR (js := []) (js' := [0, 1]) (order_m A81 (mkM inn S n ops) (chgL (symL ops) inn S n).length (chgL (symL ops) inn S n).length haml hs (hhs.trans haml.symm) (by unfold mkM; rw [amoL_len]; omega) (fun i => by have := amo_row (l := (symL ops)) (inn := inn) (S := S) (n := n) i; unfold mkM; omega)) rfl rfl rfl (by decide) (Hq [0, 1] rfl) rfl ?_
        rintro _ _ _ ⟨QA, HA, qc, hc, rfl, rfl, rfl⟩
        refine L.norm (H' := [_, _]) [0, 1] ⟨rfl, rfl, trivial⟩ (by decide) ?_; refine Lpu rfl rfl ?_; refine Lpu rfl rfl ?_; refine Lpu rfl rfl ?_; refine Lpu rfl rfl ?_; refine Lpu rfl rfl ?_; refine Lpu rfl rfl ?_; refine Lpu rfl rfl ?_; refine L.nil (QE.seq (C.seq (C.seq (C.region ?_)))); refine Lpu rfl rfl ?_; refine Lpu rfl rfl ?_; refine Lpu rfl rfl ?_; refine L.nil (QE.seq (C.block ?_)); refine C.own0 3 1 ?_; refine C.loop (fun q : Nat × Option Addr × Nat => [(8, ptrOf A8 0), (10, ptrOf A10 0), (13, .slice CA (chgL (symL ops) inn S n).length cc), (23, .slice QA (ordQ (mkM inn S n ops)).length qc), (24, .slice HA (ordH (mkM inn S n ops)).length hc), (118, .slice QA (ordQ (mkM inn S n ops)).length qc), (119, .int .i64 ((ordQ (mkM inn S n ops)).length : Int)), (120, .int .i64 (q.1 : Int))]) (fun q : Nat × Option Addr × Nat => [Rd QA (I64 (NI (ordQ (mkM inn S n ops)))), Rd HA (I64 (NI (ordH (mkM inn S n ops)))), Rd CA (I64 (NI (chgL (symL ops) inn S n))), Rd OA (opsV ops)]) (fun q : Nat × Option Addr × Nat => [Own 36 8 A8 1 1 [.int .i64 0, .int .i64 0, .bool false, .int .i64 0, .int .i64 0, .slice none 0 0, .slice none 0 0, .slice none 0 0], Own 36 8 A10 1 1 [.int .i64 (S : Int), .int .i64 (n : Int), .bool false, .int .i64 inn, .int .i64 out, .slice OA ops.length oc, .slice q.2.1 (namL (chgL (symL ops) inn S n) ((ordQ (mkM inn S n ops)).take q.1)).length q.2.2, .slice none 0 0], Own 3 1 q.2.1 (namL (chgL (symL ops) inn S n) ((ordQ (mkM inn S n ops)).take q.1)).length q.2.2 (I64 (NI (namL (chgL (symL ops) inn S n) ((ordQ (mkM inn S n ops)).take q.1))))]) (fun q : Nat × Option Addr × Nat => q.1 ≤ (ordQ (mkM inn S n ops)).length) (fun q : Nat × Option Addr × Nat => (ordQ (mkM inn S n ops)).length - q.1) (0, none, 0) (Nat.zero_le _) (by exact Le.mk' (rs := [0, 1, 7, 8]) (hs := [0, 1, 2]) ⟨rfl, rfl, rfl, rfl, rfl, rfl, rfl, rfl, trivial⟩ ⟨rfl, rfl, rfl, rfl, trivial⟩ ⟨rfl, rfl, rfl, trivial⟩ (by decide)) ?_
        rintro ⟨i, A, c⟩ hi
        dsimp only at hi ⊢
        refine C.seq (C.region ?_); refine Lpu rfl rfl ?_; refine L.nil (QE.seq (C.seq ?_))
        refine C.condB 121 rfl (fun hc121 => ?_) (fun hc121 => ?_)
        ·
         replace hc121 := of_decide_eq_true hc121
         refine C.skip (QE.seq (C.seq (C.block (C.seq (C.region ?_))))); refine L.step (Ev.idx1 (k := i) rfl rfl rfl rfl rfl rfl rfl (by omega) (Src.r 0 rfl) (by rw [I64_len, NI_len]; omega)) rfl ?_; refine L.step (Ev.load rfl rfl rfl (Src.r 0 rfl) (NI_at (by omega))) rfl ?_; refine Lpu rfl rfl ?_; refine L.nil (QE.seq ?_)
         have hqi : (ordQ (mkM inn S n ops)).getD i 0 < (chgL (symL ops) inn S n).length := by rw [hoQ, ← haml]; exact frs_mem _ _ (getD_mem (by rw [← hoQ]; omega))
         have hrl := namL_len (chgL (symL ops) inn S n) ((ordQ (mkM inn S n ops)).take i)
         rw [List.length_take] at hrl
         refine C.regionM [Rd CA (I64 (NI (chgL (symL ops) inn S n))), Rd A10 [.int .i64 (S : Int), .int .i64 (n : Int), .bool false, .int .i64 inn, .int .i64 out, .slice OA ops.length oc, .slice A (namL (chgL (symL ops) inn S n) ((ordQ (mkM inn S n ops)).take i)).length c, .slice none 0 0]] ⟨Has.r 2 rfl, Has.o 1 rfl, trivial⟩ ?_; refine LM.q 0 rfl (by kernel_rfl) (Ev.fieldAddr rfl rfl rfl rfl rfl rfl (Src.r 1 rfl) (Nat.zero_lt_succ _) rfl) rfl ⟨Has.r 2 rfl, Has.o 1 rfl, trivial⟩ ?_; refine LM.q 1 rfl (by kernel_rfl) (Ev.load rfl rfl rfl (Src.r 1 rfl) rfl) rfl ⟨Has.r 2 rfl, Has.o 1 rfl, trivial⟩ ?_; refine LM.q 2 rfl (by kernel_rfl) (Ev.pure rfl) rfl ⟨Has.r 2 rfl, Has.o 1 rfl, trivial⟩ ?_; refine LM.f 3 rfl (by kernel_rfl) ⟨Has.r 2 rfl, Has.o 1 rfl, trivial⟩ ?_; refine Lpu rfl rfl ?_
         refine L.nil (QE.m (by kernel_rfl) ?_)
         refine LM.f 4 rfl (by kernel_rfl) ⟨Has.r 2 rfl, Has.o 1 rfl, trivial⟩ ?_; refine L.step (Ev.idx1 (k := ((ordQ (mkM inn S n ops)).getD i 0)) rfl rfl rfl rfl rfl rfl rfl hqi (Src.r 2 rfl) (by rw [I64_len, NI_len]; omega)) rfl ?_
         refine L.nil (QE.m (by kernel_rfl) ?_)
         refine LM.f 5 rfl (by kernel_rfl) ⟨Has.r 2 rfl, Has.o 1 rfl, trivial⟩ ?_; refine L.step (Ev.load rfl rfl rfl (Src.r 2 rfl) (NI_at hqi)) rfl ?_
         refine L.nil (QE.m (by kernel_rfl) ?_)
         refine LM.f 6 rfl (by kernel_rfl) ⟨Has.r 2 rfl, Has.o 1 rfl, trivial⟩ ?_
         refine L.lit rfl rfl rfl rfl rfl (by rfl) (by rfl) (by rfl) rfl rfl (fun A130 => ?_)
         refine L.nil (QE.m (by kernel_rfl) ?_)
         refine LM.cut [] (by kernel_rfl) ⟨Has.r 2 rfl, Has.o 1 rfl, trivial⟩ ?_; refine LM.f 7 rfl (by kernel_rfl) trivial ?_
         refine L.append (j := 2) rfl rfl rfl rfl (by decide) rfl rfl rfl rfl (Src.o 3 rfl) rfl (allOne rfl) (by rw [namL_len, List.length_take]; omega) (by show _ * 8 ≤ _; omega) rfl (fun A131 cc131 => ?_)
         refine L.nil (QE.m (by kernel_rfl) ?_)
         refine LM.f 8 rfl (by kernel_rfl) trivial ?_; refine L.step (Ev.fieldAddr rfl rfl rfl rfl rfl rfl (Src.o 1 rfl) (Nat.zero_lt_succ _) rfl) rfl ?_
         refine L.nil (QE.m (by kernel_rfl) ?_)
         refine LM.f 9 rfl (by kernel_rfl) trivial ?_; refine L.store (j := 1) rfl rfl rfl rfl rfl rfl rfl rfl ?_
         refine L.nil (QE.m (by kernel_rfl) ?_)
         refine LM.nil (by kernel_rfl) trivial ?_; refine QE.blkN ?_; refine QE.seq (C.region ?_); refine L.step (Ev.add rfl rfl (by omega) (by omega)) rfl ?_; refine Lpu rfl rfl ?_; refine L.nil ?_
         have he := namL_snoc (chgL (symL ops) inn S n) (ordQ (mkM inn S n ops)) (i := i) (by omega)
         have hel : (namL (chgL (symL ops) inn S n) ((ordQ (mkM inn S n ops)).take (i + 1))).length = (namL (chgL (symL ops) inn S n) ((ordQ (mkM inn S n ops)).take i)).length + 1 := by rw [he, List.length_append]; rfl
         refine QE.round (i := (i, A, c)) ((i + 1, A131, cc131)) (by dsimp only; omega) (by dsimp only; omega) (by exact Le.mk' (rs := [0, 1, 2, 3]) (hs := [0, 1, 2]) ⟨rfl, rfl, rfl, rfl, rfl, rfl, rfl, rfl, trivial⟩ ⟨rfl, rfl, rfl, rfl, trivial⟩ ⟨rfl, (congrArg some (own_eq rfl (by dsimp only; rw [hel]; rfl))), (congrArg some (own_eq hel.symm (by dsimp only; rw [he, NI_app, ← I64_app]; rfl))), trivial⟩ (by decide))
        ·
         replace hc121 := of_decide_eq_false hc121
         refine C.exit ?_; refine QE.tX ?_; refine QE.tX ?_; refine QE.blk ?_; refine QE.seq (C.seq (C.seq (C.region ?_))); refine Lpu rfl rfl ?_; refine Lpu rfl rfl ?_; refine Lpu rfl rfl ?_; refine L.nil (QE.seq (C.block ?_))
         obtain rfl : i = (ordQ (mkM inn S n ops)).length := by omega
         refine C.own0 3 1 ?_; refine C.loop (fun q : Nat × Option Addr × Nat => [(8, ptrOf A8 0), (10, ptrOf A10 0), (13, .slice CA (chgL (symL ops) inn S n).length cc), (23, .slice QA (ordQ (mkM inn S n ops)).length qc), (24, .slice HA (ordH (mkM inn S n ops)).length hc), (134, .slice HA (ordH (mkM inn S n ops)).length hc), (135, .int .i64 ((ordH (mkM inn S n ops)).length : Int)), (136, .int .i64 (q.1 : Int))]) (fun q : Nat × Option Addr × Nat => [Rd QA (I64 (NI (ordQ (mkM inn S n ops)))), Rd HA (I64 (NI (ordH (mkM inn S n ops)))), Rd CA (I64 (NI (chgL (symL ops) inn S n))), Rd OA (opsV ops)]) (fun q : Nat × Option Addr × Nat => [Own 36 8 A8 1 1 [.int .i64 0, .int .i64 0, .bool false, .int .i64 0, .int .i64 0, .slice none 0 0, .slice none 0 0, .slice none 0 0], Own 36 8 A10 1 1 [.int .i64 (S : Int), .int .i64 (n : Int), .bool false, .int .i64 inn, .int .i64 out, .slice OA ops.length oc, .slice A (namL (chgL (symL ops) inn S n) ((ordQ (mkM inn S n ops)).take (ordQ (mkM inn S n ops)).length)).length c, .slice q.2.1 (namL (chgL (symL ops) inn S n) ((ordH (mkM inn S n ops)).take q.1)).length q.2.2], Own 3 1 q.2.1 (namL (chgL (symL ops) inn S n) ((ordH (mkM inn S n ops)).take q.1)).length q.2.2 (I64 (NI (namL (chgL (symL ops) inn S n) ((ordH (mkM inn S n ops)).take q.1)))), Own 3 1 A (namL (chgL (symL ops) inn S n) ((ordQ (mkM inn S n ops)).take (ordQ (mkM inn S n ops)).length)).length c (I64 (NI (namL (chgL (symL ops) inn S n) ((ordQ (mkM inn S n ops)).take (ordQ (mkM inn S n ops)).length))))]) (fun q : Nat × Option Addr × Nat => q.1 ≤ (ordH (mkM inn S n ops)).length) (fun q : Nat × Option Addr × Nat => (ordH (mkM inn S n ops)).length - q.1) (0, none, 0) (Nat.zero_le _) (by exact Le.mk' (rs := [0, 1, 2, 3]) (hs := [0, 1, 3, 2]) ⟨rfl, rfl, rfl, rfl, rfl, rfl, rfl, rfl, trivial⟩ ⟨rfl, rfl, rfl, rfl, trivial⟩ ⟨rfl, rfl, rfl, rfl, trivial⟩ (by decide)) ?_
         rintro ⟨i, B, e⟩ hi
         dsimp only at hi ⊢
         refine C.seq (C.region ?_); refine Lpu rfl rfl ?_; refine L.nil (QE.seq (C.seq ?_))
         refine C.condB 137 rfl (fun hc137 => ?_) (fun hc137 => ?_)
         ·
          replace hc137 := of_decide_eq_true hc137
          refine C.skip (QE.seq (C.seq (C.block (C.seq (C.region ?_))))); refine L.step (Ev.idx1 (k := i) rfl rfl rfl rfl rfl rfl rfl (by omega) (Src.r 1 rfl) (by rw [I64_len, NI_len]; omega)) rfl ?_; refine L.step (Ev.load rfl rfl rfl (Src.r 1 rfl) (NI_at (by omega))) rfl ?_; refine Lpu rfl rfl ?_; refine L.nil (QE.seq ?_)
          have hhi : (ordH (mkM inn S n ops)).getD i 0 < (chgL (symL ops) inn S n).length := by rw [hoH]; exact mem_lt16 (by rw [haml] at hs2; exact hs2) (getD_mem (by rw [← hoH]; omega))
          have hrl := namL_len (chgL (symL ops) inn S n) ((ordH (mkM inn S n ops)).take i)
          rw [List.length_take] at hrl
          refine C.regionM [Rd CA (I64 (NI (chgL (symL ops) inn S n))), Rd A10 [.int .i64 (S : Int), .int .i64 (n : Int), .bool false, .int .i64 inn, .int .i64 out, .slice OA ops.length oc, .slice A (namL (chgL (symL ops) inn S n) ((ordQ (mkM inn S n ops)).take (ordQ (mkM inn S n ops)).length)).length c, .slice B (namL (chgL (symL ops) inn S n) ((ordH (mkM inn S n ops)).take i)).length e]] ⟨Has.r 2 rfl, Has.o 1 rfl, trivial⟩ ?_; refine LM.q 0 rfl (by kernel_rfl) (Ev.fieldAddr rfl rfl rfl rfl rfl rfl (Src.r 1 rfl) (Nat.zero_lt_succ _) rfl) rfl ⟨Has.r 2 rfl, Has.o 1 rfl, trivial⟩ ?_; refine LM.q 1 rfl (by kernel_rfl) (Ev.load rfl rfl rfl (Src.r 1 rfl) rfl) rfl ⟨Has.r 2 rfl, Has.o 1 rfl, trivial⟩ ?_; refine LM.q 2 rfl (by kernel_rfl) (Ev.pure rfl) rfl ⟨Has.r 2 rfl, Has.o 1 rfl, trivial⟩ ?_; refine LM.f 3 rfl (by kernel_rfl) ⟨Has.r 2 rfl, Has.o 1 rfl, trivial⟩ ?_; refine Lpu rfl rfl ?_
          refine L.nil (QE.m (by kernel_rfl) ?_)
          refine LM.f 4 rfl (by kernel_rfl) ⟨Has.r 2 rfl, Has.o 1 rfl, trivial⟩ ?_; refine L.step (Ev.idx1 (k := ((ordH (mkM inn S n ops)).getD i 0)) rfl rfl rfl rfl rfl rfl rfl hhi (Src.r 2 rfl) (by rw [I64_len, NI_len]; omega)) rfl ?_
          refine L.nil (QE.m (by kernel_rfl) ?_)
          refine LM.f 5 rfl (by kernel_rfl) ⟨Has.r 2 rfl, Has.o 1 rfl, trivial⟩ ?_; refine L.step (Ev.load rfl rfl rfl (Src.r 2 rfl) (NI_at hhi)) rfl ?_
          refine L.nil (QE.m (by kernel_rfl) ?_)
          refine LM.f 6 rfl (by kernel_rfl) ⟨Has.r 2 rfl, Has.o 1 rfl, trivial⟩ ?_
          refine L.lit rfl rfl rfl rfl rfl (by rfl) (by rfl) (by rfl) rfl rfl (fun A146 => ?_)
          refine L.nil (QE.m (by kernel_rfl) ?_)
          refine LM.cut [] (by kernel_rfl) ⟨Has.r 2 rfl, Has.o 1 rfl, trivial⟩ ?_; refine LM.f 7 rfl (by kernel_rfl) trivial ?_
          refine L.append (j := 2) rfl rfl rfl rfl (by decide) rfl rfl rfl rfl (Src.o 4 rfl) rfl (allOne rfl) (by rw [namL_len, List.length_take]; omega) (by show _ * 8 ≤ _; omega) rfl (fun A147 cc147 => ?_)
          refine L.nil (QE.m (by kernel_rfl) ?_)
          refine LM.f 8 rfl (by kernel_rfl) trivial ?_; refine L.step (Ev.fieldAddr rfl rfl rfl rfl rfl rfl (Src.o 1 rfl) (Nat.zero_lt_succ _) rfl) rfl ?_
          refine L.nil (QE.m (by kernel_rfl) ?_)
          refine LM.f 9 rfl (by kernel_rfl) trivial ?_; refine L.store (j := 1) rfl rfl rfl rfl rfl rfl rfl rfl ?_
          refine L.nil (QE.m (by kernel_rfl) ?_)
          refine LM.nil (by kernel_rfl) trivial ?_; refine QE.blkN ?_; refine QE.seq (C.region ?_); refine L.step (Ev.add rfl rfl (by omega) (by omega)) rfl ?_; refine Lpu rfl rfl ?_; refine L.nil ?_
          have he := namL_snoc (chgL (symL ops) inn S n) (ordH (mkM inn S n ops)) (i := i) (by omega)
          have hel : (namL (chgL (symL ops) inn S n) ((ordH (mkM inn S n ops)).take (i + 1))).length = (namL (chgL (symL ops) inn S n) ((ordH (mkM inn S n ops)).take i)).length + 1 := by rw [he, List.length_append]; rfl
          refine QE.round (i := (i, B, e)) ((i + 1, A147, cc147)) (by dsimp only; omega) (by dsimp only; omega) (by exact Le.mk' (rs := [0, 1, 2, 3]) (hs := [0, 1, 2, 3]) ⟨rfl, rfl, rfl, rfl, rfl, rfl, rfl, rfl, trivial⟩ ⟨rfl, rfl, rfl, rfl, trivial⟩ ⟨rfl, (congrArg some (own_eq rfl (by dsimp only; rw [hel]; rfl))), (congrArg some (own_eq hel.symm (by dsimp only; rw [he, NI_app, ← I64_app]; rfl))), rfl, trivial⟩ (by decide))
         ·
          replace hc137 := of_decide_eq_false hc137
          refine C.exit ?_; refine QE.tX ?_; refine QE.tX ?_; refine QE.blk ?_; refine QE.seq (C.seq ?_)
          obtain rfl : i = (ordH (mkM inn S n ops)).length := by omega
          refine C.region ?_; refine L.step (Ev.loadA (vs := [.int .i64 (S : Int), .int .i64 (n : Int), .bool false, .int .i64 inn, .int .i64 out, .slice OA ops.length oc, .slice A (namL (chgL (symL ops) inn S n) ((ordQ (mkM inn S n ops)).take (ordQ (mkM inn S n ops)).length)).length c, .slice B (namL (chgL (symL ops) inn S n) ((ordH (mkM inn S n ops)).take (ordH (mkM inn S n ops)).length)).length e]) rfl rfl rfl (Src.o 1 rfl) rfl rfl (by decide)) rfl ?_; refine L.storeA (j := 0) rfl rfl rfl rfl rfl (Nat.zero_lt_succ _) rfl rfl ?_; refine Lpu rfl rfl ?_; refine L.nil (QE.seq (C.ret ?_)); refine QE.freeze 2 rfl [0, 1, 3] (by decide) (by decide) ?_; refine QE.norm (H' := [_, _, _]) [0, 1, 2] ⟨rfl, rfl, rfl, trivial⟩ (by decide) ?_; refine QE.freeze 2 rfl [0, 1] (by decide) (by decide) ?_; refine QE.norm (H' := [_, _]) [0, 1] ⟨rfl, rfl, trivial⟩ (by decide) ?_; refine QE.ret (js := [5, 0, 1]) (hs := []) (vs := [_, _]) rfl ⟨⟨_, _, 0, _, rfl, rfl, Src.o 0 rfl, .inl ⟨rfl, by decide, _, rfl, rfl, rfl⟩⟩, rfl, trivial⟩ (by decide) ?_
          have hE : mkE false inn out (S : Int) (n : Int) ops ol = 0 := mkE_0 hc39 rfl hszb0 hc52 (by rw [Int.toNat_natCast, Int.toNat_natCast]; omega)
          have hP := mkP_ok hE
          rw [Int.toNat_natCast, Int.toNat_natCast] at hP
          rw [hP, hE]
          simp only [List.take_length, NI_len]
          exact ⟨OA, A, B, oc, c, e, rfl, rfl, rfl⟩

end Go.Proofs.YtpccfdnmnnnboaaGreat
