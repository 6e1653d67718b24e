/-
  The contracts of contents, program and above, of the program and of the reference.
-/
import Derived.Test.YtmbjknampholjaaEWJoG
import Derived.Test.YtmbjknampholjaaEJb
namespace Go.Proofs.Ytmbjknampholjaa
open Go.Sl

theorem slot_fit {n : Nat} {s : List Int} (h : 38 ≤ n) : 8 + (slotF s).length ≤ n := by
 rcases slotF_le s with e | e
 · omega
 · rw [e]; simp; omega

theorem repeatO_c (x : UInt8) (B : Option Addr) (bc n : Nat) (h1 : 1 ≤ n) (hn : n ≤ 4096) :
   Ctr X 69 [.slice B 1 bc, .int .i64 (n : Int)] [Rd B (U8 [x])] [] (fun v R' H' => ∃ A oc, v = .slice A n n ∧ R' = [] ∧ H' = [Own 5 1 A n oc (U8 (List.replicate n x))]) := by
 refine Ctr.of (X := X) (fn := Try.f69) Try.func69 rfl (by kernel_rfl) rfl ?_
 intro β
 refine C.seq (C.region ?_); refine Lpu rfl rfl ?_; refine L.nil (QE.seq (C.seq (C.seq (C.region ?_)))); refine Lpu rfl rfl ?_; refine Lpu rfl rfl ?_; refine L.nil (QE.seq ?_)
 refine C.condB 13 rfl (fun hc13 => ?_) (fun hc13 => ?_)
 ·
  replace hc13 := i_eq hc13
  omega
 ·
  replace hc13 := i_ne hc13
  refine C.skip (QE.seq (C.seq (C.seq (C.region ?_)))); refine Lpu rfl rfl ?_; refine Lpu rfl rfl ?_; refine L.nil (QE.seq ?_)
  refine C.condB 16 rfl (fun hc16 => ?_) (fun hc16 => ?_)
  ·
   replace hc16 := of_decide_eq_true hc16
   omega
  ·
   replace hc16 := of_decide_eq_false hc16
   refine C.skip (QE.seq (C.seq (C.region ?_))); refine Lpu rfl rfl ?_; refine Lpu rfl rfl ?_; refine L.step ((Ev.cast (u := .int .u64 (1)) (Ev.pure rfl) (congrArg (Value.int .u64) (by decide)))) rfl ?_; refine Lpu rfl rfl ?_; refine L.step ((Ev.cast (u := .int .u64 (n)) (Ev.pure rfl) (congrArg (Value.int .u64) (u64_wrap n (by omega))))) rfl ?_; refine L.call (js := []) (js' := []) (mul_c n (by omega)) rfl rfl rfl (by decide) trivial rfl ?_
   rintro _ _ _ ⟨rfl, rfl, rfl⟩
   refine Lpu rfl rfl ?_; refine Lpu rfl rfl ?_; refine Lpu rfl rfl ?_; refine Lpu rfl rfl ?_; refine Lpu rfl rfl ?_; refine L.nil (QE.seq (C.seq (C.seq (C.region ?_)))); refine Lpu rfl rfl ?_; refine Lpu rfl rfl ?_; refine Lpu rfl rfl ?_
   refine L.bool 29 rfl (fun hg29 => ?_) (fun hg29 => ?_)
   ·
    replace hg29 := of_decide_eq_true hg29
    omega
   ·
    replace hg29 := of_decide_eq_false hg29
    refine L.yes rfl ?_; refine Lpu rfl rfl ?_; refine L.yes rfl ?_; refine Lpu rfl rfl ?_; refine Lpu rfl rfl ?_; refine L.nil (QE.seq ?_)
    refine C.condB 32 rfl (fun hc32 => ?_) (fun hc32 => ?_)
    ·
     replace hc32 := of_decide_eq_true hc32
     omega
    ·
     replace hc32 := of_decide_eq_false hc32
     refine C.skip (QE.seq (C.seq (C.region ?_))); refine Lpu rfl rfl ?_; refine L.step (Ev.toInt rfl rfl rfl rfl (by omega) (by omega)) rfl ?_; refine Lpu rfl rfl ?_; refine L.nil (QE.seq (C.seq (C.seq (C.region ?_)))); refine Lpu rfl rfl ?_; refine Lpu rfl rfl ?_; refine Lpu rfl rfl ?_; refine L.nil (QE.seq ?_)
     refine C.condB 38 rfl (fun hc38 => ?_) (fun hc38 => ?_)
     ·
      replace hc38 := i_eq hc38
      omega
     ·
      replace hc38 := i_ne hc38
      refine C.skip (QE.seq (C.seq (C.region ?_))); refine Lpu rfl rfl ?_; refine Lpu rfl rfl ?_; refine L.nil (QE.seq (C.seq (C.seq (C.region ?_)))); refine Lpu rfl rfl ?_; refine Lpu rfl rfl ?_; refine L.nil (QE.seq ?_)
      refine C.condB 42 rfl (fun hc42 => ?_) (fun hc42 => ?_)
      ·
       replace hc42 := of_decide_eq_true hc42
       omega
      ·
       replace hc42 := of_decide_eq_false hc42
       refine C.skip (QE.seq (C.seq (C.region ?_))); refine Lpu rfl rfl ?_
       refine L.makeNoZero (t := 45) (ps := #[3]) (f := 80) (fn := Try.f80) Try.func80 rfl rfl rfl (by kernel_rfl) rfl rfl rfl rfl (by omega) rfl (fun A c ys hc hy => ?_)
       refine Lpu rfl rfl ?_; refine Lpu rfl rfl ?_; refine L.step (Ev.sliceHM (h := n) (m := n) rfl rfl rfl rfl rfl rfl rfl rfl (by omega) (by omega)) rfl ?_; refine Lpu rfl rfl ?_; refine L.nil (QE.seq (C.seq (C.region ?_))); refine Lpu rfl rfl ?_; refine Lpu rfl rfl ?_; refine L.copy (j := 0) (o := 0) rfl rfl rfl rfl rfl (fun g h _ => h) rfl rfl (Src.r 0 rfl) (by simp [U8]; omega) (U8_one _) (by rw [U8_len, U8_len]; simp; omega) rfl ?_; refine Lpu rfl rfl ?_; refine L.nil (QE.seq (C.seq (C.block ?_))); refine C.loop (fun q : Nat × List UInt8 => [(7, .int .i64 (n : Int)), (8, .int .i64 (n : Int)), (9, .slice A n n), (10, .int .i64 (q.1 : Int))]) (fun q : Nat × List UInt8 => []) (fun q : Nat × List UInt8 => [Own 5 1 A n c (U8 (List.replicate q.1 x ++ q.2))]) (fun q : Nat × List UInt8 => 1 ≤ q.1 ∧ q.1 ≤ n ∧ q.2.length = n - q.1) (fun q : Nat × List UInt8 => n - q.1) (1, ys.drop 1) ⟨Nat.le_refl _, h1, by simp [hy]⟩ (by exact Le.mk' (rs := []) (hs := [0]) ⟨rfl, rfl, rfl, (by rfl), trivial⟩ trivial ⟨(congrArg some (own_eq rfl (by simp [U8]))), trivial⟩ (by decide)) ?_
       rintro ⟨p, ys⟩ ⟨hp1, hp2, hyl⟩
       dsimp only at hp1 hp2 hyl ⊢
       refine C.seq (C.seq (C.region ?_)); refine Lpu rfl rfl ?_; refine Lpu rfl rfl ?_; refine Lpu rfl rfl ?_; refine L.nil (QE.seq ?_)
       refine C.condB 63 rfl (fun hc63 => ?_) (fun hc63 => ?_)
       ·
        replace hc63 := of_decide_eq_true hc63
        refine C.skip (QE.seq (C.block (C.seq (C.region ?_)))); refine Lpu rfl rfl ?_; refine Lpu rfl rfl ?_; refine L.step (Ev.cast (u := .int .i64 (p : Int)) (Ev.pure rfl) (congrArg (Value.int .i64) (if_neg (show ¬ (n : Int) < (p : Int) by omega)))) rfl ?_; refine Lpu rfl rfl ?_; refine L.nil (QE.seq ?_); refine C.regionM [] trivial ?_; refine LM.q 0 rfl (by kernel_rfl) (Ev.pure rfl) rfl trivial ?_; refine LM.q 1 rfl (by kernel_rfl) (Ev.pure rfl) rfl trivial ?_; refine LM.q 2 rfl (by kernel_rfl) (Ev.pure rfl) rfl trivial ?_; refine LM.q 3 rfl (by kernel_rfl) (Ev.sliceL (l := p) rfl rfl rfl rfl rfl rfl (by omega)) rfl trivial ?_; refine LM.q 4 rfl (by kernel_rfl) (Ev.pure rfl) rfl trivial ?_; refine LM.f 5 rfl (by kernel_rfl) trivial ?_; refine Lpu rfl rfl ?_
        refine L.nil (QE.m (by kernel_rfl) ?_)
        refine LM.f 6 rfl (by kernel_rfl) trivial ?_; refine L.step (Ev.sliceH (h := p) rfl rfl rfl rfl rfl rfl (by omega)) rfl ?_
        refine L.nil (QE.m (by kernel_rfl) ?_)
        refine LM.f 7 rfl (by kernel_rfl) trivial ?_; refine L.copy (j := 0) (o := p) (xs := U8 (List.replicate p x ++ ys)) (ys := U8 (List.replicate (min p (n - p)) x)) (D := subA A n p 1) (dn := n - p) rfl rfl rfl rfl rfl (fun g h _ => sub_at (n := n) (p := p) h (by omega)) rfl rfl (Src.cast (Src.take (Src.o 0 (by rfl)) (min p (n - p))) (rep_take (p := p) (k := min p (n - p)) (ys := ys) (by omega))) (by rw [U8_len, List.length_replicate]) (U8_one _) (by rw [U8_len, U8_len, List.length_append, List.length_replicate, List.length_replicate, hyl]; omega) (by rfl) ?_
        refine L.nil (QE.m (by kernel_rfl) ?_)
        refine LM.f 8 rfl (by kernel_rfl) trivial ?_
        have e8 : (U8 (List.replicate (min p (n - p)) x)).length = min p (n - p) := by rw [U8_len, List.length_replicate]
        refine L.step (Ev.add rfl rfl (by omega) (by omega)) rfl ?_
        refine L.nil (QE.m (by kernel_rfl) ?_)
        refine LM.f 9 rfl (by kernel_rfl) trivial ?_; refine Lpu rfl rfl ?_
        refine L.nil (QE.m (by kernel_rfl) ?_)
        refine LM.nil (by kernel_rfl) trivial ?_; refine QE.blkN ?_
        refine QE.round (i := (p, ys)) ((p + min p (n - p), ys.drop (min p (n - p)))) (by exact ⟨by dsimp only; omega, by dsimp only; omega, by dsimp only; rw [List.length_drop]; omega⟩) (by dsimp only; omega) (by exact Le.mk' (rs := []) (hs := [0]) ⟨rfl, rfl, rfl, (by exact congrArg some (congrArg (Value.int .i64) (by rw [U8_len, List.length_replicate]; omega))), trivial⟩ trivial ⟨(congrArg some (own_eq rfl (rep_grow hyl hp2))), trivial⟩ (by decide))
       ·
        replace hc63 := of_decide_eq_false hc63
        refine C.exit ?_; refine QE.tX ?_; refine QE.tX ?_; refine QE.blk ?_; refine QE.seq (C.seq (C.region ?_)); refine Lpu rfl rfl ?_; refine Lpu rfl rfl ?_; refine L.nil (QE.seq (C.ret ?_))
        obtain rfl : p = n := by omega
        obtain rfl : ys = [] := List.eq_nil_of_length_eq_zero (by omega)
        refine QE.ret (js := []) (hs := [0]) (vs := [_]) rfl ⟨rfl, trivial⟩ (by decide) ?_
        exact ⟨A, c, rfl, rfl, by rw [List.append_nil]; rfl⟩

theorem contP_c (n g : Nat) (A : Option Addr) (c : Nat) (slot : List UInt8) (hn : n ≤ 4096) (hs : 8 + slot.length ≤ n) :
   Ctr X 51 [.int .i64 (n : Int), .int .i64 (g : Int), .slice A slot.length c] [Rd A (U8 slot)] [] (fun v R' H' => ∃ O oc, v = .slice O n n ∧ R' = [] ∧ H' = [Own 5 1 O n oc (U8 (contF n (g : Int) slot))]) := by
 refine Ctr.of (X := X) (fn := Try.f51) Try.func51 rfl (by kernel_rfl) rfl ?_
 intro β
 refine C.seq (C.region ?_); refine Lpu rfl rfl ?_; refine L.nil (QE.seq (C.seq (C.region ?_)))
 refine L.lit rfl rfl rfl rfl rfl (by rfl) (by rfl) (by rfl) rfl rfl (fun A9 => ?_)
 refine Lpu rfl rfl ?_; refine L.freeze 0 rfl [] (by decide) (by decide) ?_; refine L.call (js := []) (js' := []) (repeatO_c 255 _ _ n (by omega) hn) rfl rfl rfl (by decide) (Hq [0] rfl) rfl ?_
 rintro _ _ _ ⟨O, oc, rfl, rfl, rfl⟩
 refine Lpu rfl rfl ?_; refine L.nil (QE.seq (C.seq (C.region ?_))); refine Lpu rfl rfl ?_; refine L.step (Ev.sliceL (l := 8) rfl rfl rfl rfl rfl rfl (by omega)) rfl ?_; refine Lpu rfl rfl ?_; refine L.copy (j := 0) (o := 8) (xs := U8 (List.replicate n 255)) (ys := U8 slot) (D := subA O n 8 1) (dn := n - 8) rfl rfl rfl rfl rfl (fun g h hp => sub_at (n := n) (p := 8) h (by rw [U8_len] at hp; omega)) rfl rfl (Src.r 1 rfl) (by rw [U8_len]; omega) (U8_one _) (by rw [U8_len, U8_len, List.length_replicate]; omega) rfl ?_
 rw [cont0_u8 hs]
 refine L.nil (QE.seq (C.seq (C.seq (C.region ?_)))); refine Lpu rfl rfl ?_; refine Lpu rfl rfl ?_; refine L.nil (QE.seq ?_)
 refine C.condB 17 rfl (fun hc17 => ?_) (fun hc17 => ?_)
 ·
  replace hc17 := of_decide_eq_true hc17
  refine C.seq (C.region ?_); refine L.step (Ev.build rfl rfl rfl rfl rfl rfl rfl) rfl ?_
  refine L.boxA rfl rfl (fun A19 => ?_)
  refine Lpu rfl rfl ?_; refine L.nil (QE.seq (C.seq ?_)); refine C.own0 5 1 ?_; refine C.region ?_; refine Lpu rfl rfl ?_; refine Lpu rfl rfl ?_; refine L.call (js := [1, 2]) (js' := [0]) (put_c A19 none [] 0 g 4 (by decide) (by decide)) rfl rfl rfl (by decide) trivial rfl ?_
  rintro _ _ _ ⟨A', c', rfl, rfl, rfl⟩
  rw [show ([] ++ codeB (numB g 4) : List UInt8) = codeB (numB g 4) from rfl]
  refine L.nil (QE.seq (C.region ?_)); refine Lpu rfl rfl ?_; refine Lpu rfl rfl ?_; refine L.step (Ev.nilCheck rfl (Src.o 0 rfl) (by exact Nat.zero_lt_succ _)) rfl ?_; refine L.step (Ev.fieldAddr rfl rfl rfl rfl rfl rfl (Src.o 0 rfl) (by exact Nat.zero_lt_succ _) rfl) rfl ?_; refine L.step (Ev.load rfl rfl rfl (Src.o 0 rfl) rfl) rfl ?_; refine L.copy (j := 2) (o := 0) (xs := U8 (contF n 0 slot)) (ys := U8 (codeB (numB g 4))) (D := O) (dn := n) rfl rfl rfl rfl rfl (fun g h _ => h) rfl rfl (Src.o 1 rfl) (by rw [U8_len, code8_len]; omega) (U8_one _) (by rw [U8_len, U8_len, code8_len, contF_len hs]; omega) rfl ?_
  rw [contg_u8 (by omega)]
  refine L.nil (QE.seq (C.seq (C.region ?_))); refine Lpu rfl rfl ?_; refine Lpu rfl rfl ?_; refine L.nil (QE.seq (C.ret ?_)); refine QE.ret (js := []) (hs := [2]) (vs := [_]) rfl ⟨rfl, trivial⟩ (by decide) ?_
  exact ⟨O, oc, rfl, rfl, rfl⟩
 ·
  replace hc17 := of_decide_eq_false hc17
  refine C.skip (QE.seq (C.seq (C.region ?_))); refine Lpu rfl rfl ?_; refine Lpu rfl rfl ?_; refine L.nil (QE.seq (C.ret ?_)); refine QE.ret (js := []) (hs := [0]) (vs := [_]) rfl ⟨rfl, trivial⟩ (by decide) ?_
  obtain rfl : g = 0 := by omega
  exact ⟨O, oc, rfl, rfl, rfl⟩

theorem contR_c (n g : Nat) (s : List Int) (hn : n ≤ 4096) (hs : 38 ≤ n) :
   Ctr X 47 [.int .i64 (n : Int), .int .i64 (g : Int), .agg (List.toArray (st9 s))] [] [] (fun v R' H' => ∃ O, v = .slice O n n ∧ R' = [] ∧ H' = [Own 5 1 O n n (U8 (contF n (g : Int) (slotF s)))]) := by
 have hsl := slot_fit (s := s) hs
 refine Ctr.of (X := X) (fn := Try.f47) Try.func47 rfl (by kernel_rfl) rfl ?_
 intro β
 refine C.seq (C.region ?_)
 refine L.boxA rfl rfl (fun A5 => ?_)
 refine Lpu rfl rfl ?_; refine L.nil (QE.seq (C.seq ?_)); refine C.freeze 0 rfl [] (by decide) (by decide) ?_; refine C.region ?_; refine Lpu rfl rfl ?_; refine L.call (js := []) (js' := []) (blank_c n (by omega)) rfl rfl rfl (by decide) trivial rfl ?_
 rintro _ _ _ ⟨A13, rfl, rfl, rfl⟩
 refine Lpu rfl rfl ?_; refine L.nil (QE.seq (C.seq (C.region ?_))); refine L.step (Ev.loadA rfl rfl rfl (Src.r 0 rfl) rfl rfl (by decide)) rfl ?_; refine L.call (js := []) (js' := [0]) (slotR_c s) rfl rfl rfl (by decide) trivial rfl ?_
 rintro _ _ _ ⟨SO, sc, rfl, rfl, rfl⟩
 refine Lpu rfl rfl ?_; refine L.nil (QE.seq (C.seq (C.seq (C.region ?_)))); refine Lpu rfl rfl ?_; refine L.nil (QE.seq (C.block ?_)); refine C.loop (fun k : Nat => [(0, .int .i64 (n : Int)), (1, .int .i64 (g : Int)), (7, .slice A13 n n), (8, .slice SO (slotF s).length sc), (9, .int .i64 (k : Int))]) (fun k : Nat => [Rd A5 (st9 s)]) (fun k : Nat => [Own 5 1 A13 n n (U8 (cont1 n (slotF s) k)), Own 5 1 SO (slotF s).length sc (U8 (slotF s))]) (fun k : Nat => k ≤ (slotF s).length) (fun k : Nat => (slotF s).length - k) 0 (Nat.zero_le _) (by exact Le.mk' (rs := [0]) (hs := [1, 0]) ⟨rfl, rfl, rfl, rfl, rfl, trivial⟩ ⟨rfl, trivial⟩ ⟨(by rw [cont1_zero (by omega)]; rfl), rfl, trivial⟩ (by decide)) ?_
 intro k hk
 refine C.seq (C.seq (C.region ?_)); refine Lpu rfl rfl ?_; refine Lpu rfl rfl ?_; refine Lpu rfl rfl ?_; refine Lpu rfl rfl ?_; refine L.nil (QE.seq ?_)
 refine C.condB 19 rfl (fun hc19 => ?_) (fun hc19 => ?_)
 ·
  replace hc19 := of_decide_eq_true hc19
  refine C.skip (QE.seq (C.seq (C.block (C.region ?_)))); refine Lpu rfl rfl ?_; refine Lpu rfl rfl ?_; refine L.step (Ev.cast (u := .int .i64 ((8 + k : Nat) : Int)) (Ev.add rfl rfl (by omega) (by omega)) (congrArg (Value.int .i64) (by omega))) rfl ?_; refine Lpu rfl rfl ?_; refine Lpu rfl rfl ?_; refine L.step (Ev.idx1 (k := k) rfl rfl rfl rfl rfl rfl rfl (by omega) (Src.o 1 rfl) (by rw [U8_len]; omega)) rfl ?_; refine L.step (Ev.load rfl rfl rfl (Src.o 1 rfl) (U8_get (by omega))) rfl ?_; refine L.step (Ev.idx1 (k := (8 + k)) rfl rfl rfl rfl rfl rfl rfl (by omega) (Src.o 0 rfl) (by rw [U8_len, cont1_len (by omega) hsl]; omega)) rfl ?_; refine L.store (j := 0) rfl rfl rfl rfl rfl rfl rfl (by exact U8_get (by rw [cont1_len (by omega) hsl]; omega)) ?_; refine L.nil ?_; refine QE.blkN ?_; refine QE.seq (C.region ?_); refine Lpu rfl rfl ?_; refine L.step (Ev.add rfl rfl (by omega) (by omega)) rfl ?_; refine Lpu rfl rfl ?_; refine L.nil ?_
  refine QE.round (k + 1) (by omega) (by omega) (by exact Le.mk' (rs := [0]) (hs := [0, 1]) ⟨rfl, rfl, rfl, rfl, rfl, trivial⟩ ⟨rfl, trivial⟩ ⟨(by rw [← cont1_set (by omega) hsl, ← U8_set]; rfl), rfl, trivial⟩ (by decide))
 ·
  replace hc19 := of_decide_eq_false hc19
  refine C.exit ?_; refine QE.tX ?_; refine QE.tX ?_; refine QE.blk ?_; refine QE.seq (C.seq (C.region ?_)); refine Lpu rfl rfl ?_; refine L.call (js := []) (js' := [0, 1]) (numberR_c g 4 (by decide)) rfl rfl rfl (by decide) trivial rfl ?_
  rintro _ _ _ ⟨NO, nc, rfl, rfl, rfl⟩
  refine L.call (js := []) (js' := [0, 1, 2]) (codeR_c NO nc (numB g 4) (by rw [numB_len]; decide)) rfl rfl rfl (by decide) ⟨(Has.o 0 rfl), trivial⟩ rfl ?_
  rintro _ _ _ ⟨CO, cc, rfl, rfl, rfl⟩
  refine Lpu rfl rfl ?_; refine L.nil (QE.seq (C.seq (C.seq (C.region ?_)))); refine Lpu rfl rfl ?_; refine L.nil (QE.seq (C.block ?_))
  obtain rfl : k = (slotF s).length := by omega
  rw [cont1_all]
  refine C.loop (fun k : Nat => [(1, .int .i64 (g : Int)), (7, .slice A13 n n), (10, .slice CO (codeB (numB g 4)).length cc), (11, .int .i64 (k : Int))]) (fun k : Nat => [Rd A5 (st9 s)]) (fun k : Nat => [Own 5 1 A13 n n (U8 (cont2 n g (slotF s) k)), Own 5 1 CO (codeB (numB g 4)).length cc (U8 (codeB (numB g 4)))]) (fun k : Nat => k ≤ 8 ∧ (k = 0 ∨ 0 < g)) (fun k : Nat => 8 - k) 0 ⟨Nat.zero_le _, .inl rfl⟩ (by exact Le.mk' (rs := [0]) (hs := [2, 0]) ⟨rfl, rfl, rfl, rfl, trivial⟩ ⟨rfl, trivial⟩ ⟨rfl, rfl, trivial⟩ (by decide)) ?_
  rintro k ⟨hk, hg⟩
  refine C.seq (C.seq (C.region ?_)); refine Lpu rfl rfl ?_; refine Lpu rfl rfl ?_; refine Lpu rfl rfl ?_
  refine L.bool 35 rfl (fun hg35 => ?_) (fun hg35 => ?_)
  ·
   replace hg35 := of_decide_eq_true hg35
   refine L.yes rfl ?_; refine Lpu rfl rfl ?_; refine L.yes rfl ?_; refine Lpu rfl rfl ?_; refine Lpu rfl rfl ?_; refine L.nil (QE.seq ?_)
   refine C.condB 38 rfl (fun hc38 => ?_) (fun hc38 => ?_)
   ·
    replace hc38 := of_decide_eq_true hc38
    refine C.skip (QE.seq (C.seq (C.block (C.region ?_)))); refine Lpu rfl rfl ?_; refine Lpu rfl rfl ?_; refine Lpu rfl rfl ?_; refine Lpu rfl rfl ?_; refine L.step (Ev.idx1 (k := k) rfl rfl rfl rfl rfl rfl rfl (by rw [code8_len]; omega) (Src.o 1 rfl) (by rw [U8_len, code8_len]; omega)) rfl ?_; refine L.step (Ev.load rfl rfl rfl (Src.o 1 rfl) (U8_get (by rw [code8_len]; omega))) rfl ?_; refine L.step (Ev.idx1 (k := k) rfl rfl rfl rfl rfl rfl rfl (by omega) (Src.o 0 rfl) (by rw [U8_len, cont2_len (by omega) hsl]; omega)) rfl ?_; refine L.store (j := 0) rfl rfl rfl rfl rfl rfl rfl (by exact U8_get (by rw [cont2_len (by omega) hsl]; omega)) ?_; refine L.nil ?_; refine QE.blkN ?_; refine QE.seq (C.region ?_); refine Lpu rfl rfl ?_; refine L.step (Ev.add rfl rfl (by omega) (by omega)) rfl ?_; refine Lpu rfl rfl ?_; refine L.nil ?_
    refine QE.round (k + 1) (by exact ⟨by omega, .inr (by omega)⟩) (by omega) (by exact Le.mk' (rs := [0]) (hs := [0, 1]) ⟨rfl, rfl, rfl, rfl, trivial⟩ ⟨rfl, trivial⟩ ⟨(by rw [← cont2_set (by omega) hsl, ← U8_set]; rfl), rfl, trivial⟩ (by decide))
   ·
    replace hc38 := of_decide_eq_false hc38
    refine C.exit ?_; refine QE.tX ?_; refine QE.tX ?_; refine QE.blk ?_; refine QE.seq (C.seq (C.region ?_)); refine Lpu rfl rfl ?_; refine Lpu rfl rfl ?_; refine L.nil (QE.seq (C.ret ?_)); refine QE.ret (js := []) (hs := [0]) (vs := [_]) rfl ⟨rfl, trivial⟩ (by decide) ?_
    obtain rfl : g = 0 := by omega
    obtain rfl : k = 0 := by omega
    exact ⟨A13, rfl, rfl, rfl⟩
  ·
   replace hg35 := of_decide_eq_false hg35
   refine L.no rfl rfl rfl ?_; refine L.no rfl rfl rfl ?_; refine Lpu rfl rfl ?_; refine L.nil (QE.seq ?_)
   refine C.cond rfl (fun h => by cases h) (fun _ => ?_)
   refine C.exit ?_; refine QE.tX ?_; refine QE.tX ?_; refine QE.blk ?_; refine QE.seq (C.seq (C.region ?_)); refine Lpu rfl rfl ?_; refine Lpu rfl rfl ?_; refine L.nil (QE.seq (C.ret ?_)); refine QE.ret (js := []) (hs := [0]) (vs := [_]) rfl ⟨rfl, trivial⟩ (by decide) ?_
   obtain rfl : k = 8 := by omega
   rw [cont2_all (by omega)]
   exact ⟨A13, rfl, rfl, rfl⟩

theorem above_c (A W : Option Addr) (c wc : Nat) (b w : List UInt8) (hl : w.length ≤ b.length) (hw : w.length ≤ 4096) :
   Ctr X 67 [.slice A b.length c, .slice W w.length wc] [Rd A (U8 b), Rd W (U8 w)] [] (fun v R' H' => v = .bool (aboveTo b w w.length) ∧ R' = [] ∧ H' = []) := by
 refine Ctr.of (X := X) (fn := Try.f67) Try.func67 rfl (by kernel_rfl) rfl ?_
 intro β
 refine C.seq (C.region ?_); refine Lpu rfl rfl ?_; refine L.nil (QE.seq (C.seq (C.seq (C.region ?_)))); refine Lpu rfl rfl ?_; refine Lpu rfl rfl ?_; refine Lpu rfl rfl ?_; refine L.nil (QE.seq (C.block ?_)); refine C.loop (fun k : Nat => [(0, .slice A b.length c), (7, .slice W w.length wc), (8, .int .i64 (w.length : Int)), (9, .int .i64 (k : Int))]) (fun k : Nat => [Rd A (U8 b), Rd W (U8 w)]) (fun k : Nat => []) (fun k : Nat => k ≤ w.length ∧ aboveTo b w k = true) (fun k : Nat => w.length - k) 0 ⟨Nat.zero_le _, rfl⟩ (by exact Le.mk' (rs := [0, 1]) (hs := []) ⟨rfl, rfl, rfl, rfl, trivial⟩ ⟨rfl, rfl, trivial⟩ trivial (by decide)) ?_
 rintro k ⟨hk, ha⟩
 refine C.seq (C.region ?_); refine Lpu rfl rfl ?_; refine L.nil (QE.seq (C.seq ?_))
 refine C.condB 10 rfl (fun hc10 => ?_) (fun hc10 => ?_)
 ·
  replace hc10 := of_decide_eq_true hc10
  refine C.skip (QE.seq (C.seq (C.block (C.seq (C.region ?_))))); refine Lpu rfl rfl ?_; refine L.step (Ev.idx1 (k := k) rfl rfl rfl rfl rfl rfl rfl (by omega) (Src.r 1 rfl) (by rw [U8_len]; omega)) rfl ?_; refine L.step (Ev.load rfl rfl rfl (Src.r 1 rfl) (U8_get (by omega))) rfl ?_; refine Lpu rfl rfl ?_; refine Lpu rfl rfl ?_; refine L.nil (QE.seq (C.seq (C.region ?_))); refine Lpu rfl rfl ?_; refine Lpu rfl rfl ?_; refine L.step (Ev.idx1 (k := k) rfl rfl rfl rfl rfl rfl rfl (by omega) (Src.r 0 rfl) (by rw [U8_len]; omega)) rfl ?_; refine L.step (Ev.load rfl rfl rfl (Src.r 0 rfl) (U8_get (by omega))) rfl ?_; refine Lpu rfl rfl ?_
  first | refine L.step (Ev.and8 rfl rfl) rfl ?_ | refine L.step (Ev.pure rfl) rfl ?_
  refine Lpu rfl rfl ?_; refine Lpu rfl rfl ?_; refine L.nil (QE.seq ?_)
  refine C.condB 21 rfl (fun hc21 => ?_) (fun hc21 => ?_)
  ·
   replace hc21 := b_ne hc21
   have hno := aboveTo_no (b := b) (w := w) (k := k) (n := w.length) (by omega) (fun h => hc21 (u8_eq.2 h))
   refine C.seq (C.region ?_); refine Lpu rfl rfl ?_; refine L.nil (QE.seq (C.ret (QE.bR (QE.tR (QE.tR (QE.bR (QE.tR ?_))))))); refine QE.ret (js := []) (hs := []) (vs := [_]) rfl ⟨rfl, trivial⟩ (by decide) ?_
   rw [hno]
   exact ⟨rfl, rfl, rfl⟩
  ·
   replace hc21 := b_eq hc21
   refine C.skip ?_; refine QE.blkN ?_; refine QE.seq (C.region ?_); refine L.step (Ev.add rfl rfl (by omega) (by omega)) rfl ?_; refine Lpu rfl rfl ?_; refine L.nil ?_
   refine QE.round (k + 1) (by exact ⟨by omega, by rw [aboveTo_succ, ha, Bool.true_and, beq_iff_eq]; exact u8_eq.1 hc21⟩) (by omega) (by exact Le.mk' (rs := [0, 1]) (hs := []) ⟨rfl, rfl, rfl, rfl, trivial⟩ ⟨rfl, rfl, trivial⟩ trivial (by decide))
 ·
  replace hc10 := of_decide_eq_false hc10
  refine C.exit ?_; refine QE.tX ?_; refine QE.tX ?_; refine QE.blk ?_; refine QE.seq (C.seq (C.region ?_)); refine Lpu rfl rfl ?_; refine L.nil (QE.seq (C.ret ?_)); refine QE.ret (js := []) (hs := []) (vs := [_]) rfl ⟨rfl, trivial⟩ (by decide) ?_
  obtain rfl : k = w.length := by omega
  rw [ha]
  exact ⟨rfl, rfl, rfl⟩

theorem progP_c (f : Fl) (a : Fa) (ok : f.Ok) (_hh : a.hs.length = f.data.length) (sec at_ : Int) (d : List UInt8) (A : Option Addr) (c : Nat) (hsec : 0 ≤ sec ∧ sec < (f.data.length : Int)) :
   Ctr X 65 [.agg (List.toArray [.int .i64 (f.size : Int), .slice a.D f.data.length a.cD, .slice a.W f.wear.length a.cW, .int .i64 f.limit, .slice a.E f.dead.length a.cE]), .int .i64 sec, .int .i64 at_, .slice A d.length c] [Rd a.D (rowsV a.hs (B8 f.data)), KidsR a.hs (B8 f.data), Rd a.W (I64 f.wear), Rd a.E (Bs f.dead), Rd A (U8 d)] [] (fun v R' H' => ∃ O oc, v = .tuple #[.agg (List.toArray [.int .i64 (progF f ⟨2, sec, at_, d⟩).x.kind, .int .i64 (progF f ⟨2, sec, at_, d⟩).x.sec, .int .i64 (progF f ⟨2, sec, at_, d⟩).x.at_, .slice O (progF f ⟨2, sec, at_, d⟩).x.data.length oc]), .bool (progF f ⟨2, sec, at_, d⟩).done, .int .i64 (progF f ⟨2, sec, at_, d⟩).e] ∧ R' = [Rd O (U8 (progF f ⟨2, sec, at_, d⟩).x.data)] ∧ H' = []) := by
 obtain ⟨os1, os2, on1, on2, owl, odl, orows, ol1, ol2, owear⟩ := ok
 refine Ctr.of (X := X) (fn := Try.f65) Try.func65 rfl (by kernel_rfl) rfl ?_
 intro β
 refine C.seq (C.region ?_)
 refine L.boxA rfl rfl (fun A4 => ?_)
 refine L.alloc rfl rfl rfl (fun A8 => ?_)
 refine Lpu rfl rfl ?_; refine Lpu rfl rfl ?_; refine L.nil (QE.seq (C.seq (C.seq ?_))); refine C.freeze 0 rfl [1] (by decide) (by decide) ?_; refine C.region ?_; refine L.step (Ev.fieldAddr rfl rfl rfl rfl rfl rfl (Src.r 0 rfl) (Nat.zero_lt_succ _) rfl) rfl ?_; refine L.step (Ev.load rfl rfl rfl (Src.r 0 rfl) rfl) rfl ?_; refine Lpu rfl rfl ?_; refine L.step (Ev.idx1 (k := sec.toNat) rfl rfl rfl rfl rfl rfl (by omega) (by omega) (Src.r 4 rfl) (by rw [Bs_len]; omega)) rfl ?_; refine L.step (Ev.load rfl rfl rfl (Src.r 4 rfl) (Bs_get (by omega))) rfl ?_; refine L.nil (QE.seq ?_)
 refine C.condB 15 rfl (fun hc15 => ?_) (fun hc15 => ?_)
 ·
  have hd : f.dead.getD (Fo.mk 2 sec at_ d).sec.toNat false = true := hc15
  refine C.seq (C.region ?_); refine L.step (Ev.build rfl rfl rfl rfl rfl rfl rfl) rfl ?_; refine L.storeA (j := 0) rfl rfl rfl rfl rfl (Nat.zero_lt_succ _) rfl rfl ?_; refine Lpu rfl rfl ?_; refine Lpu rfl rfl ?_; refine L.nil (QE.seq (C.ret (QE.tR ?_))); refine QE.more (r := Rd none []) (Has.nil) ?_; refine QE.ret (js := [0]) (hs := []) (vs := [_, _, _]) rfl ⟨⟨_, _, 0, _, rfl, rfl, Src.o 0 rfl, .inl ⟨rfl, by decide, _, rfl, rfl, rfl⟩⟩, rfl, rfl, trivial⟩ (by decide) ?_
  refine ⟨none, 0, ?_, ?_, rfl⟩
  · unfold progF; rw [if_pos hd]; rfl
  · unfold progF; rw [if_pos hd]; rfl
 ·
  have hd : ¬ f.dead.getD (Fo.mk 2 sec at_ d).sec.toNat false = true := by rw [show (Fo.mk 2 sec at_ d).sec = sec from rfl, hc15]; exact Bool.false_ne_true
  refine C.skip (QE.seq (C.seq (C.region ?_))); refine Lpu rfl rfl ?_; refine Lpu rfl rfl ?_; refine Lpu rfl rfl ?_; refine L.step (Ev.build rfl rfl rfl rfl rfl rfl rfl) rfl ?_; refine L.storeA (j := 0) rfl rfl rfl rfl rfl (Nat.zero_lt_succ _) rfl rfl ?_; refine Lpu rfl rfl ?_; refine Lpu rfl rfl ?_; refine L.nil (QE.seq (C.ret ?_)); refine QE.ret (js := [5]) (hs := []) (vs := [_, _, _]) rfl ⟨⟨_, _, 0, _, rfl, rfl, Src.o 0 rfl, .inl ⟨rfl, by decide, _, rfl, rfl, rfl⟩⟩, rfl, rfl, trivial⟩ (by decide) ?_
  refine ⟨A, c, ?_, ?_, rfl⟩
  · unfold progF; rw [if_neg hd]; rfl
  · unfold progF; rw [if_neg hd]; rfl

end Go.Proofs.Ytmbjknampholjaa
