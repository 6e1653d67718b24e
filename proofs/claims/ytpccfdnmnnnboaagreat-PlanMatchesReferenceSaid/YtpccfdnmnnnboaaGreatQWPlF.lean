/-
  Contents of sectors, sizes of records, Apply of the reference.
-/
import Derived.Test.YtpccfdnmnnnboaaGreatQWPlE
import Derived.Test.YtpccfdnmnnnboaaGreatQPs
import Derived.Test.YtpccfdnmnnnboaaGreatQWSvC
import Derived.Test.YtpccfdnmnnnboaaGreatQSlY
import Derived.Test.YtpccfdnmnnnboaaGreatQSlN
namespace Go.Proofs.YtpccfdnmnnnboaaGreat
open Go.Sl

theorem u64_mask (n : Nat) (h : n < 4294967296) : bop .and .u64 (n : Int) 4294967295 = (n : Int) := by
 have := bits_and_u64_nat n 4294967295 (by omega) (by decide)
 refine Eq.trans this ?_
 congr 1
 have h2 : (4294967295 : Nat) = 2 ^ 32 - 1 := by decide
 rw [h2, Nat.and_two_pow_sub_one_eq_mod]
 omega
theorem u64_hi (n : Nat) (h : n < 4294967296) : (n : Int).fdiv (2 ^ min (32 : Int).toNat IntKind.u64.bits) = 0 := by
 have : (2 : Int) ^ min (32 : Int).toNat IntKind.u64.bits = 4294967296 := by decide
 rw [this, Int.fdiv_eq_ediv_of_nonneg _ (by decide)]
 omega
theorem u64_wrap (n : Nat) (h : n < 4294967296) : IntKind.u64.wrap (n : Int) = (n : Int) := by rw [IntKind.wrap_u64]; omega
theorem u64_one (n : Nat) (h : n < 4294967296) : IntKind.u64.wrap (1 * (n : Int)) = (n : Int) := by rw [Int.one_mul]; exact u64_wrap n h
theorem u64_zero (n : Nat) : IntKind.u64.wrap (0 * (n : Int)) = 0 := by rw [Int.zero_mul]; decide
theorem sub_at {A : Option Addr} {g n p : Nat} (h : A = some ⟨g, 0, none⟩) (hp : p < n) : subA A n p 1 = some ⟨g, p, none⟩ := by
 subst h
 unfold subA
 rw [if_neg (by omega)]
 simp [Addr.add]
 exact fun h => h.symm
theorem rep_take {p k : Nat} {x : UInt8} {ys : List UInt8} (h : k ≤ p) : (U8 (List.replicate p x ++ ys)).take k = U8 (List.replicate k x) := by
 rw [U8_take, List.take_append_of_le_length (by simpa using h), List.take_replicate, Nat.min_eq_left h]
theorem rep_grow {p n : Nat} {x : UInt8} {ys : List UInt8} (_hy : ys.length = n - p) (_hp : p ≤ n) :
   (U8 (List.replicate p x ++ ys)).take p ++ U8 (List.replicate (min p (n - p)) x) ++ (U8 (List.replicate p x ++ ys)).drop (p + (U8 (List.replicate (min p (n - p)) x)).length) = U8 (List.replicate (p + min p (n - p)) x ++ ys.drop (min p (n - p))) := by
 rw [rep_take (Nat.le_refl p), U8_len, List.length_replicate]
 have : (U8 (List.replicate p x ++ ys)).drop (p + min p (n - p)) = U8 (ys.drop (min p (n - p))) := by
   unfold U8
   rw [← List.map_drop, List.drop_append, List.drop_of_length_le (by simp), List.nil_append]
   simp
 rw [this, U8_app, U8_app]
 congr 1
 rw [List.append_assoc, ← List.append_assoc, List.replicate_append_replicate]
theorem rep_first {n : Nat} (x : UInt8) (_h : 1 ≤ n) : (List.replicate n (Value.int .u8 0)).take 0 ++ U8 [x] ++ (List.replicate n (Value.int .u8 0)).drop (0 + (U8 [x]).length) = U8 (List.replicate 1 x ++ List.replicate (n - 1) 0) := by
 rw [← U8_app, List.take_zero, List.nil_append, List.drop_replicate]
 congr 1
 simp [U8]
theorem ct_u8 (b : List UInt8) (a S : Nat) : (U8 (List.replicate S 255)).take 0 ++ U8 ((b.drop (min a b.length)).take (min (b.length - min a b.length) S)) ++ (U8 (List.replicate S 255)).drop (0 + (U8 ((b.drop (min a b.length)).take (min (b.length - min a b.length) S))).length) = U8 (ctK b a S) := by
 rw [← ct_copy, ← U8_app, List.take_zero, List.nil_append, U8_drop, List.drop_replicate, U8_len, List.length_take, List.length_drop]
 congr 3
 omega
theorem changed01_m (SA SB : Option Addr) (a b : List UInt8) (ca cb n m : Nat) (ha : a.length = n) (hb : b.length = m) (hab : a.length = b.length) (hal : a.length ≤ 100000) :
   Ctr X 78 [.slice SA n ca, .slice SB m cb] [Rd SA (U8 a), Rd SB (U8 b)] [] (fun v R' H' => ∃ (O : Option Addr) (c : Nat), v = .slice O (chgN a b a.length).length c ∧ R' = [] ∧ H' = [Own 107 2 O (chgN a b a.length).length c (rangesV (chgN a b a.length))]) := by
 subst ha hb
 exact changed01_c SA SB a b ca cb hab hal
theorem changed_m (SA SB : Option Addr) (a b : List UInt8) (ca cb n m : Nat) (ha : a.length = n) (hb : b.length = m) (hab : a.length = b.length) (hal : a.length ≤ 100000) :
   Ctr X 52 [.slice SA n ca, .slice SB m cb] [Rd SA (U8 a), Rd SB (U8 b)] [] (fun v R' H' => ∃ (O : Option Addr) (c : Nat), v = .slice O (chgN a b a.length).length c ∧ R' = [] ∧ H' = [Own 107 2 O (chgN a b a.length).length c (rangesV (chgN a b a.length))]) := by
 subst ha hb
 exact changed_c SA SB a b ca cb hab hal

theorem mul64_c (n : Nat) (hn : n < 4294967296) :
   Ctr X 156 [.int .u64 1, .int .u64 (n : Int)] [] [] (fun v R' H' => v = .tuple #[.int .u64 0, .int .u64 (n : Int)] ∧ R' = [] ∧ H' = []) := by
 refine Ctr.of (X := X) (fn := Tryz.f156) Tryz.func156 rfl (by kernel_rfl) rfl ?_
 intro β
 refine C.seq (C.region ?_); refine Lpu rfl rfl ?_; refine Lpu rfl rfl ?_; refine L.nil (QE.seq (C.seq (C.region ?_))); refine Lpu rfl rfl ?_; refine L.step ((Ev.cast (u := .int .u64 (1)) (Ev.pure rfl) (congrArg (Value.int .u64) (by decide)))) rfl ?_; refine Lpu rfl rfl ?_; refine L.nil (QE.seq (C.seq (C.region ?_))); refine Lpu rfl rfl ?_; refine L.step ((Ev.cast (u := .int .u64 (0)) (Ev.shr rfl rfl (by decide)) (congrArg (Value.int .u64) (by decide)))) rfl ?_; refine Lpu rfl rfl ?_; refine L.nil (QE.seq (C.seq (C.region ?_))); refine Lpu rfl rfl ?_; refine L.step ((Ev.cast (u := .int .u64 (n)) (Ev.pure rfl) (congrArg (Value.int .u64) (u64_mask n hn)))) rfl ?_; refine Lpu rfl rfl ?_; refine L.nil (QE.seq (C.seq (C.region ?_))); refine Lpu rfl rfl ?_; refine L.step ((Ev.cast (u := .int .u64 (0)) (Ev.shr rfl rfl (by decide)) (congrArg (Value.int .u64) (u64_hi n hn)))) rfl ?_; refine Lpu rfl rfl ?_; refine L.nil (QE.seq (C.seq (C.region ?_))); refine Lpu rfl rfl ?_; refine Lpu rfl rfl ?_; refine L.step ((Ev.cast (u := .int .u64 (n)) (Ev.pure rfl) (congrArg (Value.int .u64) (u64_one n hn)))) rfl ?_; refine Lpu rfl rfl ?_; refine L.nil (QE.seq (C.seq (C.region ?_))); refine Lpu rfl rfl ?_; refine Lpu rfl rfl ?_; refine L.step ((Ev.cast (u := .int .u64 (0)) (Ev.pure rfl) (congrArg (Value.int .u64) (u64_zero n)))) rfl ?_; refine Lpu rfl rfl ?_; refine L.step ((Ev.cast (u := .int .u64 (0)) (Ev.shr rfl rfl (by decide)) (congrArg (Value.int .u64) (u64_hi n hn)))) rfl ?_; refine L.step ((Ev.cast (u := .int .u64 (0)) (Ev.pure rfl) (congrArg (Value.int .u64) (by decide)))) rfl ?_; refine Lpu rfl rfl ?_; refine L.nil (QE.seq (C.seq (C.region ?_))); refine Lpu rfl rfl ?_; refine L.step ((Ev.cast (u := .int .u64 (0)) (Ev.pure rfl) (congrArg (Value.int .u64) (by decide)))) rfl ?_; refine Lpu rfl rfl ?_; refine L.nil (QE.seq (C.seq (C.region ?_))); refine Lpu rfl rfl ?_; refine L.step ((Ev.cast (u := .int .u64 (0)) (Ev.shr rfl rfl (by decide)) (congrArg (Value.int .u64) (by decide)))) rfl ?_; refine Lpu rfl rfl ?_; refine L.nil (QE.seq (C.seq (C.region ?_))); refine Lpu rfl rfl ?_; refine Lpu rfl rfl ?_; refine Lpu rfl rfl ?_; refine L.step ((Ev.cast (u := .int .u64 (0)) (Ev.pure rfl) (congrArg (Value.int .u64) (by decide)))) rfl ?_; refine L.step ((Ev.cast (u := .int .u64 (0)) (Ev.pure rfl) (congrArg (Value.int .u64) (by decide)))) rfl ?_; refine Lpu rfl rfl ?_; refine L.nil (QE.seq (C.seq (C.region ?_))); refine Lpu rfl rfl ?_; refine Lpu rfl rfl ?_; refine L.step ((Ev.cast (u := .int .u64 (0)) (Ev.pure rfl) (congrArg (Value.int .u64) (by decide)))) rfl ?_; refine Lpu rfl rfl ?_; refine L.step ((Ev.cast (u := .int .u64 (0)) (Ev.pure rfl) (congrArg (Value.int .u64) (by decide)))) rfl ?_; refine Lpu rfl rfl ?_; refine L.step ((Ev.cast (u := .int .u64 (0)) (Ev.shr rfl rfl (by decide)) (congrArg (Value.int .u64) (by decide)))) rfl ?_; refine L.step ((Ev.cast (u := .int .u64 (0)) (Ev.pure rfl) (congrArg (Value.int .u64) (by decide)))) rfl ?_; refine Lpu rfl rfl ?_; refine L.nil (QE.seq (C.seq (C.region ?_))); refine Lpu rfl rfl ?_; refine Lpu rfl rfl ?_; refine L.step ((Ev.cast (u := .int .u64 (n)) (Ev.pure rfl) (congrArg (Value.int .u64) (u64_one n hn)))) rfl ?_; refine Lpu rfl rfl ?_; refine L.nil (QE.seq (C.ret ?_)); refine QE.ret (js := []) (hs := []) (vs := [_, _]) rfl ⟨rfl, rfl, trivial⟩ (by decide) ?_
 exact ⟨rfl, rfl, rfl⟩

theorem mul_c (n : Nat) (hn : n < 4294967296) :
   Ctr X 136 [.int .u64 1, .int .u64 (n : Int)] [] [] (fun v R' H' => v = .tuple #[.int .u64 0, .int .u64 (n : Int)] ∧ R' = [] ∧ H' = []) := by
 refine Ctr.of (X := X) (fn := Tryz.f136) Tryz.func136 rfl (by kernel_rfl) rfl ?_
 intro β
 refine C.seq (C.region ?_); refine Lpu rfl rfl ?_; refine Lpu rfl rfl ?_; refine L.nil (QE.seq (C.seq ?_))
 refine C.cond rfl (fun h => by cases h) (fun _ => ?_)
 refine C.skip (QE.seq (C.seq (C.region ?_))); refine Lpu rfl rfl ?_; refine Lpu rfl rfl ?_; refine L.call (js := []) (js' := []) (mul64_c n hn) rfl rfl rfl (by decide) trivial rfl ?_
 rintro _ _ _ ⟨rfl, rfl, rfl⟩
 refine Lpu rfl rfl ?_; refine Lpu rfl rfl ?_; refine Lpu rfl rfl ?_; refine Lpu rfl rfl ?_; refine Lpu rfl rfl ?_; refine L.nil (QE.seq (C.seq (C.region ?_))); refine Lpu rfl rfl ?_; refine Lpu rfl rfl ?_; refine Lpu rfl rfl ?_; refine Lpu rfl rfl ?_; refine L.nil (QE.seq (C.ret ?_)); refine QE.ret (js := []) (hs := []) (vs := [_, _]) rfl ⟨rfl, rfl, trivial⟩ (by decide) ?_
 exact ⟨rfl, rfl, rfl⟩

theorem repeatS_c (x : UInt8) (B : Option Addr) (bc n : Nat) (h1 : 1 ≤ n) (hn : n ≤ 4096) :
   Ctr X 96 [.slice B 1 bc, .int .i64 (n : Int)] [Rd B (U8 [x])] [] (fun v R' H' => ∃ A, v = .slice A n n ∧ R' = [] ∧ H' = [Own 5 1 A n n (U8 (List.replicate n x))]) := by
 refine Ctr.of (X := X) (fn := Tryz.f96) Tryz.func96 rfl (by kernel_rfl) rfl ?_
 intro β
 refine C.seq (C.region ?_); refine Lpu rfl rfl ?_; refine L.nil (QE.seq (C.seq (C.seq (C.region ?_)))); refine Lpu rfl rfl ?_; refine Lpu rfl rfl ?_; refine L.nil (QE.seq ?_)
 refine C.condB 10 rfl (fun hc10 => ?_) (fun hc10 => ?_)
 ·
  replace hc10 := of_decide_eq_true hc10
  omega
 ·
  replace hc10 := of_decide_eq_false hc10
  refine C.skip (QE.seq (C.seq (C.region ?_))); refine Lpu rfl rfl ?_; refine Lpu rfl rfl ?_; refine L.step ((Ev.cast (u := .int .u64 (1)) (Ev.pure rfl) (congrArg (Value.int .u64) (by decide)))) rfl ?_; refine Lpu rfl rfl ?_; refine L.step ((Ev.cast (u := .int .u64 (n)) (Ev.pure rfl) (congrArg (Value.int .u64) (u64_wrap n (by omega))))) rfl ?_; refine L.call (js := []) (js' := []) (mul_c n (by omega)) rfl rfl rfl (by decide) trivial rfl ?_
  rintro _ _ _ ⟨rfl, rfl, rfl⟩
  refine Lpu rfl rfl ?_; refine Lpu rfl rfl ?_; refine Lpu rfl rfl ?_; refine Lpu rfl rfl ?_; refine Lpu rfl rfl ?_; refine L.nil (QE.seq (C.seq (C.seq (C.region ?_)))); refine Lpu rfl rfl ?_; refine Lpu rfl rfl ?_; refine Lpu rfl rfl ?_
  refine L.bool 23 rfl (fun hg23 => ?_) (fun hg23 => ?_)
  ·
   replace hg23 := of_decide_eq_true hg23
   omega
  ·
   replace hg23 := of_decide_eq_false hg23
   refine L.yes rfl ?_; refine Lpu rfl rfl ?_; refine L.yes rfl ?_; refine Lpu rfl rfl ?_; refine Lpu rfl rfl ?_; refine L.nil (QE.seq ?_)
   refine C.condB 26 rfl (fun hc26 => ?_) (fun hc26 => ?_)
   ·
    replace hc26 := of_decide_eq_true hc26
    omega
   ·
    replace hc26 := of_decide_eq_false hc26
    refine C.skip (QE.seq (C.seq (C.region ?_))); refine Lpu rfl rfl ?_; refine L.step (Ev.toInt rfl rfl rfl rfl (by omega) (by omega)) rfl ?_
    refine L.make (m := n) rfl rfl rfl rfl rfl rfl rfl rfl rfl (by show 1 * _ ≤ _; omega) (by omega) rfl (fun A30 => ?_)
    refine Lpu rfl rfl ?_; refine L.nil (QE.seq (C.seq (C.region ?_))); refine Lpu rfl rfl ?_; refine Lpu rfl rfl ?_; refine L.copy (j := 0) (o := 0) rfl rfl rfl rfl rfl (fun g h _ => h) rfl rfl (Src.r 0 rfl) (by simp [U8]; omega) (U8_one _) (by rw [U8_len, List.length_replicate]; simp; omega) rfl ?_; refine Lpu rfl rfl ?_; refine L.nil (QE.seq (C.seq (C.block ?_))); refine C.loop (fun q : Nat × List UInt8 => [(7, .slice A30 n n), (8, .int .i64 (q.1 : Int))]) (fun q : Nat × List UInt8 => []) (fun q : Nat × List UInt8 => [Own 5 1 A30 n n (U8 (List.replicate q.1 x ++ q.2))]) (fun q : Nat × List UInt8 => 1 ≤ q.1 ∧ q.1 ≤ n ∧ q.2.length = n - q.1) (fun q : Nat × List UInt8 => n - q.1) (1, List.replicate (n - 1) 0) ⟨Nat.le_refl _, h1, by simp⟩ (by exact Le.mk' (rs := []) (hs := [0]) ⟨rfl, (by rfl), trivial⟩ trivial ⟨(congrArg some (own_eq rfl (rep_first x h1))), trivial⟩ (by decide)) ?_
    rintro ⟨p, ys⟩ ⟨hp1, hp2, hyl⟩
    dsimp only at hp1 hp2 hyl ⊢
    refine C.seq (C.seq (C.region ?_)); refine Lpu rfl rfl ?_; refine Lpu rfl rfl ?_; refine Lpu rfl rfl ?_; refine Lpu rfl rfl ?_; refine L.nil (QE.seq ?_)
    refine C.condB 37 rfl (fun hc37 => ?_) (fun hc37 => ?_)
    ·
     replace hc37 := of_decide_eq_true hc37
     refine C.skip (QE.seq (C.block ?_)); refine C.regionM [] trivial ?_; refine LM.q 0 rfl (by kernel_rfl) (Ev.pure rfl) rfl trivial ?_; refine LM.q 1 rfl (by kernel_rfl) (Ev.pure rfl) rfl trivial ?_; refine LM.q 2 rfl (by kernel_rfl) (Ev.pure rfl) rfl trivial ?_; refine LM.q 3 rfl (by kernel_rfl) (Ev.sliceL (l := p) rfl rfl rfl rfl rfl rfl (by omega)) rfl trivial ?_; refine LM.q 4 rfl (by kernel_rfl) (Ev.pure rfl) rfl trivial ?_; refine LM.f 5 rfl (by kernel_rfl) trivial ?_; refine Lpu rfl rfl ?_
     refine L.nil (QE.m (by kernel_rfl) ?_)
     refine LM.f 6 rfl (by kernel_rfl) trivial ?_; refine L.step (Ev.sliceH (h := p) rfl rfl rfl rfl rfl rfl (by omega)) rfl ?_
     refine L.nil (QE.m (by kernel_rfl) ?_)
     refine LM.f 7 rfl (by kernel_rfl) trivial ?_; refine L.copy (j := 0) (o := p) (xs := U8 (List.replicate p x ++ ys)) (ys := U8 (List.replicate (min p (n - p)) x)) (D := subA A30 n p 1) (dn := n - p) rfl rfl rfl rfl rfl (fun g h _ => sub_at (n := n) (p := p) h (by omega)) rfl rfl (Src.cast (Src.take (Src.o 0 (by rfl)) (min p (n - p))) (rep_take (p := p) (k := min p (n - p)) (ys := ys) (by omega))) (by rw [U8_len, List.length_replicate]) (U8_one _) (by rw [U8_len, U8_len, List.length_append, List.length_replicate, List.length_replicate, hyl]; omega) (by rfl) ?_
     refine L.nil (QE.m (by kernel_rfl) ?_)
     refine LM.f 8 rfl (by kernel_rfl) trivial ?_
     have e8 : (U8 (List.replicate (min p (n - p)) x)).length = min p (n - p) := by rw [U8_len, List.length_replicate]
     refine L.step (Ev.add rfl rfl (by omega) (by omega)) rfl ?_
     refine L.nil (QE.m (by kernel_rfl) ?_)
     refine LM.f 9 rfl (by kernel_rfl) trivial ?_; refine Lpu rfl rfl ?_
     refine L.nil (QE.m (by kernel_rfl) ?_)
     refine LM.nil (by kernel_rfl) trivial ?_; refine QE.blkN ?_
     refine QE.round (i := (p, ys)) ((p + min p (n - p), ys.drop (min p (n - p)))) (by exact ⟨by dsimp only; omega, by dsimp only; omega, by dsimp only; rw [List.length_drop]; omega⟩) (by dsimp only; omega) (by exact Le.mk' (rs := []) (hs := [0]) ⟨rfl, (by exact congrArg some (congrArg (Value.int .i64) (by rw [U8_len, List.length_replicate]; omega))), trivial⟩ trivial ⟨(congrArg some (own_eq rfl (rep_grow hyl hp2))), trivial⟩ (by decide))
    ·
     replace hc37 := of_decide_eq_false hc37
     refine C.exit ?_; refine QE.tX ?_; refine QE.tX ?_; refine QE.blk ?_; refine QE.seq (C.seq (C.region ?_)); refine Lpu rfl rfl ?_; refine Lpu rfl rfl ?_; refine L.nil (QE.seq (C.ret ?_))
     obtain rfl : p = n := by omega
     obtain rfl : ys = [] := List.eq_nil_of_length_eq_zero (by omega)
     refine QE.ret (js := []) (hs := [0]) (vs := [_]) rfl ⟨rfl, trivial⟩ (by decide) ?_
     exact ⟨A30, rfl, rfl, by rw [List.append_nil]; rfl⟩

theorem contents_c (BA : Option Addr) (b : List UInt8) (bc t S : Nat) (_hbl : b.length ≤ 1000000) (hts : t * S ≤ 1000000) (_ht : t ≤ 1000000) (hS1 : 1 ≤ S) (hS2 : S ≤ 4096) (hbc : b.length ≤ bc) :
   Ctr X 53 [.slice BA b.length bc, .int .i64 (t : Int), .int .i64 (S : Int)] [Rd BA (U8 b)] [] (fun v R' H' => ∃ A, v = .slice A S S ∧ R' = [] ∧ H' = [Own 5 1 A S S (U8 (ctF b t S))]) := by
 refine Ctr.of (X := X) (fn := Tryz.f53) Tryz.func53 rfl (by kernel_rfl) rfl ?_
 intro β
 have m1 : (t : Int) * (S : Int) = ((t * S : Nat) : Int) := (Int.natCast_mul t S).symm
 refine C.seq (C.region ?_); refine Lpu rfl rfl ?_; refine L.nil (QE.seq (C.seq (C.region ?_)))
 refine L.lit rfl rfl rfl rfl rfl (by rfl) (by rfl) (by rfl) rfl rfl (fun A8 => ?_)
 refine Lpu rfl rfl ?_; refine L.freeze 0 rfl [] (by decide) (by decide) ?_; refine L.call (js := []) (js' := []) (repeatS_c 255 _ _ S hS1 hS2) rfl rfl rfl (by decide) (Hq [0] rfl) rfl ?_
 rintro _ _ _ ⟨A10, rfl, rfl, rfl⟩
 refine Lpu rfl rfl ?_; refine L.nil (QE.seq (C.seq (C.region ?_))); refine Lpu rfl rfl ?_; refine Lpu rfl rfl ?_; refine Lpu rfl rfl ?_; refine Lpu rfl rfl ?_; refine L.step (Ev.cast (u := .int .i64 (((t * S : Nat)) : Int)) (Ev.mul rfl rfl (by rw [m1]; omega) (by rw [m1]; omega)) (congrArg (Value.int .i64) m1)) rfl ?_; refine Lpu rfl rfl ?_; refine Lpu rfl rfl ?_; refine L.step (Ev.cast (u := .int .i64 (((min (t * S) b.length) : Nat) : Int)) (Ev.cast (u := .int .i64 (min ((t * S : Nat) : Int) (b.length : Int))) (Ev.pure rfl) (congrArg (Value.int .i64) (by simp only [Bool.false_eq_true, if_false]; split <;> omega))) (congrArg (Value.int .i64) (by omega))) rfl ?_; refine L.step (Ev.sliceL (l := (min (t * S) b.length)) rfl rfl rfl rfl rfl rfl (by omega)) rfl ?_; refine L.copy (j := 0) (o := 0) (xs := U8 (List.replicate S 255)) (ys := U8 ((b.drop (min (t * S) b.length)).take (min (b.length - (min (t * S) b.length)) S))) (D := A10) (dn := S) rfl rfl rfl rfl rfl (fun g h _ => h) rfl rfl (Src.cast (Src.take (Src.sub (Src.r 1 rfl) bc (min (t * S) b.length) 1 (by rw [U8_len]; omega)) (min (b.length - (min (t * S) b.length)) S)) (by rw [Nat.mul_one, U8_drop, U8_take])) (by rw [U8_len, List.length_take, List.length_drop]; omega) (U8_one _) (by rw [U8_len, U8_len, List.length_take, List.length_drop, List.length_replicate]; omega) rfl ?_; refine L.nil (QE.seq (C.seq (C.region ?_))); refine Lpu rfl rfl ?_; refine Lpu rfl rfl ?_; refine L.nil (QE.seq (C.ret ?_)); refine QE.ret (js := []) (hs := [0]) (vs := [_]) rfl ⟨rfl, trivial⟩ (by decide) ?_
 exact ⟨A10, rfl, rfl, congrArg (fun z => [Own 5 1 A10 S S z]) (ct_u8 b (t * S) S)⟩

theorem contentsR_c (BA : Option Addr) (b : List UInt8) (bc t S : Nat) (hbl : b.length ≤ 1000000) (hts : t * S ≤ 1000000) (ht : t ≤ 1000000) (hS1 : 1 ≤ S) (hS2 : S ≤ 4096) :
   Ctr X 27 [.slice BA b.length bc, .int .i64 (t : Int), .int .i64 (S : Int)] [Rd BA (U8 b)] [] (fun v R' H' => ∃ (A : Option Addr) (c : Nat), v = .slice A S c ∧ R' = [] ∧ H' = [Own 5 1 A S c (U8 (ctF b t S))]) := by
 refine Ctr.of (X := X) (fn := Tryz.f27) Tryz.func27 rfl (by kernel_rfl) rfl ?_
 intro β
 have m1 : (t : Int) * (S : Int) = ((t * S : Nat) : Int) := (Int.natCast_mul t S).symm
 have m2 : ((t + 1 : Nat) : Int) * (S : Int) = (((t + 1) * S : Nat) : Int) := (Int.natCast_mul (t + 1) S).symm
 have hb2 : (t + 1) * S = t * S + S := Nat.succ_mul t S
 refine C.seq (C.region ?_); refine Lpu rfl rfl ?_; refine L.nil (QE.seq (C.seq (C.region ?_)))
 refine L.lit0S rfl rfl rfl rfl (fun A10 => ?_)
 refine Lpu rfl rfl ?_; refine L.nil (QE.seq (C.seq (C.seq (C.region ?_)))); refine Lpu rfl rfl ?_; refine Lpu rfl rfl ?_; refine L.step (Ev.cast (u := .int .i64 (((t * S : Nat)) : Int)) (Ev.mul rfl rfl (by rw [m1]; omega) (by rw [m1]; omega)) (congrArg (Value.int .i64) m1)) rfl ?_; refine Lpu rfl rfl ?_; refine L.nil (QE.seq (C.block ?_)); refine C.loop (fun q : Nat × Option Addr × Nat => [(0, .slice BA b.length bc), (1, .int .i64 (t : Int)), (2, .int .i64 (S : Int)), (8, .int .i64 ((t * S + q.1 : Nat) : Int)), (7, .slice q.2.1 (ctK b (t * S) q.1).length q.2.2)]) (fun q : Nat × Option Addr × Nat => [Rd BA (U8 b)]) (fun q : Nat × Option Addr × Nat => [Own 5 1 q.2.1 (ctK b (t * S) q.1).length q.2.2 (U8 (ctK b (t * S) q.1))]) (fun q : Nat × Option Addr × Nat => q.1 ≤ S) (fun q : Nat × Option Addr × Nat => S - q.1) (0, A10, 0) (Nat.zero_le _) (by exact Le.mk' (rs := [0]) (hs := [0]) ⟨rfl, rfl, rfl, rfl, rfl, trivial⟩ ⟨rfl, trivial⟩ ⟨rfl, trivial⟩ (by decide)) ?_
 rintro ⟨j, A, c⟩ hj
 dsimp only at hj ⊢
 refine C.seq (C.seq (C.region ?_)); refine Lpu rfl rfl ?_; refine Lpu rfl rfl ?_; refine L.step (Ev.cast (u := .int .i64 (((t + 1) : Nat) : Int)) (Ev.add rfl rfl (by omega) (by omega)) (congrArg (Value.int .i64) (by omega))) rfl ?_; refine Lpu rfl rfl ?_; refine L.step (Ev.cast (u := .int .i64 ((((t + 1) * S : Nat)) : Int)) (Ev.mul rfl rfl (by rw [m2]; omega) (by rw [m2]; omega)) (congrArg (Value.int .i64) m2)) rfl ?_; refine Lpu rfl rfl ?_; refine L.nil (QE.seq ?_)
 refine C.condB 19 rfl (fun hc19 => ?_) (fun hc19 => ?_)
 ·
  replace hc19 := of_decide_eq_true hc19
  refine C.skip (QE.seq (C.seq (C.block (C.seq (C.region ?_))))); refine Lpu rfl rfl ?_; refine L.nil (QE.seq ?_); refine C.seqJ (fun z : UInt8 => [(0, .slice BA b.length bc), (1, .int .i64 (t : Int)), (2, .int .i64 (S : Int)), (8, .int .i64 ((t * S + j : Nat) : Int)), (7, .slice A (ctK b (t * S) j).length c), (9, .int .u8 (z.toNat : Int))]) (fun z : UInt8 => [Rd BA (U8 b)]) (fun z : UInt8 => [Own 5 1 A (ctK b (t * S) j).length c (U8 (ctK b (t * S) j))]) (fun z : UInt8 => z = ctB b (t * S + j)) ?_ ?_
  ·
   refine C.seq (C.region ?_); refine Lpu rfl rfl ?_; refine Lpu rfl rfl ?_; refine Lpu rfl rfl ?_; refine Lpu rfl rfl ?_; refine L.nil (QE.seq ?_)
   refine C.condB 25 rfl (fun hc25 => ?_) (fun hc25 => ?_)
   ·
    replace hc25 := of_decide_eq_true hc25
    refine C.region ?_; refine Lpu rfl rfl ?_; refine Lpu rfl rfl ?_; refine L.step (Ev.idx1 (k := t * S + j) rfl rfl rfl rfl rfl rfl rfl (by omega) (Src.r 0 rfl) (by rw [U8_len]; omega)) rfl ?_; refine L.step (Ev.load rfl rfl rfl (Src.r 0 rfl) (U8_get (by omega))) rfl ?_; refine Lpu rfl rfl ?_; refine L.nil ?_
    refine QE.join (b.getD (t * S + j) 0) (by unfold ctB; rw [if_pos (by omega)]) (by exact Le.mk' (rs := [0]) (hs := [0]) ⟨rfl, rfl, rfl, rfl, rfl, rfl, trivial⟩ ⟨rfl, trivial⟩ ⟨rfl, trivial⟩ (by decide))
   ·
    replace hc25 := of_decide_eq_false hc25
    refine C.skip ?_
    refine QE.join (255) (by unfold ctB; rw [if_neg (by omega)]) (by exact Le.mk' (rs := [0]) (hs := [0]) ⟨rfl, rfl, rfl, rfl, rfl, rfl, trivial⟩ ⟨rfl, trivial⟩ ⟨rfl, trivial⟩ (by decide))
  ·
   intro z hz
   have hcl := ctK_len b (t * S) j
   refine C.region ?_; refine Lpu rfl rfl ?_; refine Lpu rfl rfl ?_
   refine L.lit rfl rfl rfl rfl rfl (by rfl) (by rfl) (by rfl) rfl rfl (fun A32 => ?_)
   refine L.append (j := 0) rfl rfl rfl rfl (by decide) rfl rfl rfl rfl (Src.o 1 rfl) rfl (allOne rfl) (by rw [ctK_len]; omega) (by show _ * 1 ≤ _; omega) rfl (fun A33 cc33 => ?_)
   refine Lpu rfl rfl ?_; refine L.nil ?_; refine QE.blkN ?_; refine QE.seq (C.region ?_); refine Lpu rfl rfl ?_; refine L.step (Ev.add rfl rfl (by omega) (by omega)) rfl ?_; refine Lpu rfl rfl ?_; refine L.nil ?_
   have he := ctK_succ b (t * S) j
   rw [← hz] at he
   have hel : (ctK b (t * S) (j + 1)).length = (ctK b (t * S) j).length + 1 := by rw [he, List.length_append]; rfl
   refine QE.round (i := (j, A, c)) ((j + 1, A33, cc33)) (by dsimp only; omega) (by dsimp only; omega) (by exact Le.mk' (rs := [0]) (hs := [0]) ⟨rfl, rfl, rfl, rfl, (by dsimp only; rw [hel]; rfl), trivial⟩ ⟨rfl, trivial⟩ ⟨(congrArg some (own_eq hel.symm (by dsimp only; rw [he, ← U8_app]; rfl))), trivial⟩ (by decide))
 ·
  replace hc19 := of_decide_eq_false hc19
  refine C.exit ?_; refine QE.tX ?_; refine QE.tX ?_; refine QE.blk ?_; refine QE.seq (C.seq (C.region ?_)); refine Lpu rfl rfl ?_; refine Lpu rfl rfl ?_; refine L.nil (QE.seq (C.ret ?_)); refine QE.ret (js := []) (hs := [0]) (vs := [_]) rfl ⟨rfl, trivial⟩ (by decide) ?_
  obtain rfl : j = S := by omega
  have hl := ctK_len b (t * j) j
  exact ⟨A, c, by show Value.slice A _ c = _; rw [hl], rfl, by show [Own 5 1 A _ c _] = _; rw [hl]; rfl⟩

theorem recSize_c (SA SB : Option Addr) (a b : List UInt8) (ca cb n m : Nat) (ha : a.length = n) (hb : b.length = m) (hab : a.length = b.length) (hal : a.length ≤ 100000) :
   Ctr X 30 [.slice SA n ca, .slice SB m cb] [Rd SA (U8 a), Rd SB (U8 b)] [] (fun v R' H' => v = .int .i64 ((recN a b : Nat) : Int) ∧ R' = [] ∧ H' = []) := by
 refine Ctr.of (X := X) (fn := Tryz.f30) Tryz.func30 rfl (by kernel_rfl) rfl ?_
 intro β
 have hcl := chgN_len' a b a.length
 have htt := ndS_chg a b a.length
 refine C.seq (C.region ?_); refine Lpu rfl rfl ?_; refine L.nil (QE.seq (C.seq (C.region ?_))); refine Lpu rfl rfl ?_; refine L.nil (QE.seq (C.seq (C.region ?_))); refine Lpu rfl rfl ?_; refine Lpu rfl rfl ?_; refine L.call (js := []) (js' := []) (changed01_m SA SB a b ca cb n m ha hb hab hal) rfl rfl rfl (by decide) (Hq [0, 1] rfl) rfl ?_
 rintro _ _ _ ⟨O, oc, rfl, rfl, rfl⟩
 refine L.norm (H' := [_]) [0] ⟨rfl, trivial⟩ (by decide) ?_; refine Lpu rfl rfl ?_; refine L.nil (QE.seq (C.seq (C.seq ?_))); refine C.freeze 0 rfl [] (by decide) (by decide) ?_; refine C.region ?_; refine Lpu rfl rfl ?_; refine L.nil (QE.seq (C.block ?_)); refine C.loop (fun k : Nat => [(6, .slice O (chgN a b a.length).length oc), (7, .int .i64 (k : Int)), (5, .int .i64 ((5 + ndS ((chgN a b a.length).take k) : Nat) : Int))]) (fun k : Nat => [Rd O (rangesV (chgN a b a.length))]) (fun k : Nat => []) (fun k : Nat => k ≤ (chgN a b a.length).length) (fun k : Nat => (chgN a b a.length).length - k) 0 (Nat.zero_le _) (by exact Le.mk' (rs := [0]) (hs := []) ⟨rfl, rfl, rfl, trivial⟩ ⟨rfl, trivial⟩ trivial (by decide)) ?_
 intro k hk
 refine C.seq (C.seq (C.region ?_)); refine Lpu rfl rfl ?_; refine Lpu rfl rfl ?_; refine Lpu rfl rfl ?_; refine Lpu rfl rfl ?_; refine L.nil (QE.seq ?_)
 refine C.condB 14 rfl (fun hc14 => ?_) (fun hc14 => ?_)
 ·
  replace hc14 := of_decide_eq_true hc14
  refine C.skip (QE.seq (C.seq (C.block ?_)))
  have hr := chgN_getD (a := a) (b := b) (k := a.length) (i := k) (by omega)
  have hsu := ndS_succ (chgN a b a.length) (k := k) (by omega)
  have htk := ndS_take (chgN a b a.length) k
  refine C.regionQ (by kernel_rfl) ?_; refine LQ.step (Ev.pure rfl) rfl ?_; refine LQ.step (Ev.pure rfl) rfl ?_; refine LQ.step (Ev.pure rfl) rfl ?_; refine LQ.step (Ev.idx (k := k) (m := k * 2) rfl rfl rfl rfl rfl (by omega) (by omega) (Src.r 0 rfl) (ranges_pos (k := k) (by omega)) rfl) rfl ?_; refine LQ.step (Ev.fieldAddr rfl rfl rfl rfl rfl rfl (Src.r 0 rfl) (ranges_pos (k := k) (by omega)) rfl) rfl ?_; refine LQ.step (Ev.load rfl rfl rfl (Src.r 0 rfl) (rangesV_get (chgN a b a.length) k 1 (by omega) (by decide))) rfl ?_; refine LQ.step (Ev.add rfl rfl (by omega) (by omega)) rfl ?_; refine LQ.step (Ev.pure rfl) rfl ?_; refine LQ.step (Ev.pure rfl) rfl ?_; refine LQ.step (Ev.idx (k := k) (m := k * 2) rfl rfl rfl rfl rfl (by omega) (by omega) (Src.r 0 rfl) (ranges_pos (k := k) (by omega)) rfl) rfl ?_; refine LQ.step (Ev.fieldAddr rfl rfl rfl rfl rfl rfl (Src.r 0 rfl) (ranges_pos (k := k) (by omega)) rfl) rfl ?_; refine LQ.step (Ev.load rfl rfl rfl (Src.r 0 rfl) (rangesV_get (chgN a b a.length) k 0 (by omega) (by decide))) rfl ?_; refine LQ.step (Ev.sub rfl rfl (by omega) (by omega)) rfl ?_; refine LQ.step (Ev.add rfl rfl (by omega) (by omega)) rfl ?_; refine LQ.step (Ev.pure rfl) rfl ?_; refine LQ.nil ?_; refine QE.blkN ?_; refine QE.seq (C.region ?_); refine Lpu rfl rfl ?_; refine L.step (Ev.add rfl rfl (by omega) (by omega)) rfl ?_; refine Lpu rfl rfl ?_; refine L.nil ?_
  refine QE.round (k + 1) (by omega) (by omega) (by exact Le.mk' (rs := [0]) (hs := []) ⟨rfl, rfl, (congrArg some (congrArg (Value.int .i64) (by show (_ : Int) + ((4 + (((chgN a b a.length).getD k (0, 0)).2 : Int)) - (((chgN a b a.length).getD k (0, 0)).1 : Int)) = _; omega))), trivial⟩ ⟨rfl, trivial⟩ trivial (by decide))
 ·
  replace hc14 := of_decide_eq_false hc14
  refine C.exit ?_; refine QE.tX ?_; refine QE.tX ?_; refine QE.blk ?_; refine QE.seq (C.seq (C.region ?_)); refine Lpu rfl rfl ?_; refine Lpu rfl rfl ?_; refine L.nil (QE.seq (C.ret ?_)); refine QE.ret (js := []) (hs := []) (vs := [_]) rfl ⟨rfl, trivial⟩ (by decide) ?_
  obtain rfl : k = (chgN a b a.length).length := by omega
  refine ⟨congrArg (fun z : Nat => Value.int .i64 (z : Int)) ?_, rfl, rfl⟩
  rw [List.take_length]
  rfl

set_option maxHeartbeats 1000000 in
theorem runR_c (B SA : Option Addr) (old : List UInt8) (l : List Sy) (bc sc : Nat) (hbl : old.length ≤ 1000000) (hl : l.length ≤ 1000000) (hok : runOk old l) :
   Ctr X 75 [.slice B old.length bc, .slice SA l.length sc] [Rd B (U8 old), Rd SA (symsV l)] [] (fun v R' H' => ∃ (A : Option Addr) (c : Nat), v = .tuple #[.slice A (runB old l).length c, .int .i64 0] ∧ R' = [] ∧ H' = [Own 5 1 A (runB old l).length c (U8 (runB old l))]) := by
 refine Ctr.of (X := X) (fn := Tryz.f75) Tryz.func75 rfl (by kernel_rfl) rfl ?_
 intro β
 refine C.seq (C.region ?_); refine Lpu rfl rfl ?_; refine Lpu rfl rfl ?_; refine L.nil (QE.seq (C.seq (C.region ?_)))
 refine L.lit0S rfl rfl rfl rfl (fun A9 => ?_)
 refine Lpu rfl rfl ?_; refine L.nil (QE.seq (C.seq (C.seq (C.region ?_)))); refine Lpu rfl rfl ?_; refine L.nil (QE.seq (C.block ?_)); refine C.loop (fun q : Nat × Option Addr × Nat => [(0, .slice B old.length bc), (1, .slice SA l.length sc), (7, .int .i64 (q.1 : Int)), (6, .slice q.2.1 (runB old (l.take q.1)).length q.2.2)]) (fun q : Nat × Option Addr × Nat => [Rd B (U8 old), Rd SA (symsV l)]) (fun q : Nat × Option Addr × Nat => [Own 5 1 q.2.1 (runB old (l.take q.1)).length q.2.2 (U8 (runB old (l.take q.1)))]) (fun q : Nat × Option Addr × Nat => q.1 ≤ l.length) (fun q : Nat × Option Addr × Nat => l.length - q.1) (0, A9, 0) (Nat.zero_le _) (by exact Le.mk' (rs := [0, 1]) (hs := [0]) ⟨rfl, rfl, rfl, rfl, trivial⟩ ⟨rfl, rfl, trivial⟩ ⟨rfl, trivial⟩ (by decide)) ?_
 rintro ⟨i, A, c⟩ hi
 dsimp only at hi ⊢
 have hrl : (runB old (l.take i)).length = i := by rw [runB_len, List.length_take]; omega
 refine C.seq (C.seq (C.region ?_)); refine Lpu rfl rfl ?_; refine Lpu rfl rfl ?_; refine Lpu rfl rfl ?_; refine Lpu rfl rfl ?_; refine L.nil (QE.seq ?_)
 refine C.condB 13 rfl (fun hc13 => ?_) (fun hc13 => ?_)
 ·
  replace hc13 := of_decide_eq_true hc13
  refine C.skip (QE.seq (C.seq (C.block (C.seq (C.region ?_))))); refine Lpu rfl rfl ?_; refine Lpu rfl rfl ?_; refine L.step (Ev.idx (k := i) (m := i * 3) rfl rfl rfl rfl rfl rfl (by omega) (Src.r 1 rfl) (syms_pos (k := i) (by omega)) rfl) rfl ?_; refine L.step (Ev.fieldAddr rfl rfl rfl rfl rfl rfl (Src.r 1 rfl) (syms_pos (k := i) (by omega)) rfl) rfl ?_; refine L.step (Ev.load rfl rfl rfl (Src.r 1 rfl) ((symsV_get (i := i) (j := 2) (by omega) (by decide)).trans rfl)) rfl ?_; refine Lpu rfl rfl ?_; refine L.nil (QE.seq ?_); refine C.seqJ (fun z : UInt8 => [(0, .slice B old.length bc), (1, .slice SA l.length sc), (7, .int .i64 (i : Int)), (6, .slice A (runB old (l.take i)).length c), (8, .int .u8 (z.toNat : Int))]) (fun z : UInt8 => [Rd B (U8 old), Rd SA (symsV l)]) (fun z : UInt8 => [Own 5 1 A (runB old (l.take i)).length c (U8 (runB old (l.take i)))]) (fun z : UInt8 => z = symB old (l.getD i Sy.zero)) ?_ ?_
  ·
   refine C.seq (C.region ?_); refine Lpu rfl rfl ?_; refine Lpu rfl rfl ?_; refine L.step (Ev.idx (k := i) (m := i * 3) rfl rfl rfl rfl rfl rfl (by omega) (Src.r 1 rfl) (syms_pos (k := i) (by omega)) rfl) rfl ?_; refine L.step (Ev.fieldAddr rfl rfl rfl rfl rfl rfl (Src.r 1 rfl) (syms_pos (k := i) (by omega)) rfl) rfl ?_; refine L.step (Ev.load rfl rfl rfl (Src.r 1 rfl) ((symsV_get (i := i) (j := 0) (by omega) (by decide)).trans rfl)) rfl ?_; refine L.nil (QE.seq ?_)
   refine C.condB 25 rfl (fun hc25 => ?_) (fun hc25 => ?_)
   ·
    have hat := hok i (by omega) hc25
    refine C.seq (C.seq (C.region ?_)); refine Lpu rfl rfl ?_; refine Lpu rfl rfl ?_; refine L.step (Ev.idx (k := i) (m := i * 3) rfl rfl rfl rfl rfl rfl (by omega) (Src.r 1 rfl) (syms_pos (k := i) (by omega)) rfl) rfl ?_; refine L.step (Ev.fieldAddr rfl rfl rfl rfl rfl rfl (Src.r 1 rfl) (syms_pos (k := i) (by omega)) rfl) rfl ?_; refine L.step (Ev.load rfl rfl rfl (Src.r 1 rfl) ((symsV_get (i := i) (j := 1) (by omega) (by decide)).trans rfl)) rfl ?_; refine Lpu rfl rfl ?_; refine Lpu rfl rfl ?_; refine L.step (Ev.sub rfl rfl (by omega) (by omega)) rfl ?_; refine L.call (js := []) (js' := [0]) (in6_c (l.getD i Sy.zero).at_ 0 ((old.length : Int) - 1)) rfl rfl rfl (by decide) trivial rfl ?_
    rintro _ _ _ ⟨rfl, rfl, rfl⟩
    refine L.norm (H' := [_]) [0] ⟨rfl, trivial⟩ (by decide) ?_; refine Lpu rfl rfl ?_; refine L.nil (QE.seq ?_)
    refine C.condB 35 rfl (fun hc35 => ?_) (fun hc35 => ?_)
    ·
     have h36 := of_decide_eq_false ((Bool.not_eq_true' _).mp hc35)
     omega
    ·
     refine C.skip (QE.seq (C.region ?_)); refine Lpu rfl rfl ?_; refine Lpu rfl rfl ?_; refine Lpu rfl rfl ?_; refine Lpu rfl rfl ?_; refine L.step (Ev.idx (k := i) (m := i * 3) rfl rfl rfl rfl rfl rfl (by omega) (Src.r 1 rfl) (syms_pos (k := i) (by omega)) rfl) rfl ?_; refine L.step (Ev.fieldAddr rfl rfl rfl rfl rfl rfl (Src.r 1 rfl) (syms_pos (k := i) (by omega)) rfl) rfl ?_; refine L.step (Ev.load rfl rfl rfl (Src.r 1 rfl) ((symsV_get (i := i) (j := 1) (by omega) (by decide)).trans rfl)) rfl ?_; refine L.step (Ev.idx1 (k := (l.getD i Sy.zero).at_.toNat) rfl rfl rfl rfl rfl rfl (by omega) (by omega) (Src.r 0 rfl) (by rw [U8_len]; omega)) rfl ?_; refine L.step (Ev.load rfl rfl rfl (Src.r 0 rfl) (U8_get (by omega))) rfl ?_; refine L.step (Ev.add8 rfl rfl) rfl ?_; refine Lpu rfl rfl ?_; refine L.nil ?_
     refine QE.join (((l.getD i Sy.zero).b + old.getD (l.getD i Sy.zero).at_.toNat 0)) (by unfold symB; rw [if_pos hc25]) (by exact Le.mk' (rs := [0, 1]) (hs := [0]) ⟨rfl, rfl, rfl, rfl, rfl, trivial⟩ ⟨rfl, rfl, trivial⟩ ⟨rfl, trivial⟩ (by decide))
   ·
    refine C.skip ?_
    refine QE.join ((l.getD i Sy.zero).b) (by unfold symB; rw [if_neg (by rw [hc25]; decide)]) (by exact Le.mk' (rs := [0, 1]) (hs := [0]) ⟨rfl, rfl, rfl, rfl, rfl, trivial⟩ ⟨rfl, rfl, trivial⟩ ⟨rfl, trivial⟩ (by decide))
  ·
   intro z hz
   refine C.region ?_; refine Lpu rfl rfl ?_; refine Lpu rfl rfl ?_
   refine L.lit rfl rfl rfl rfl rfl (by rfl) (by rfl) (by rfl) rfl rfl (fun A48 => ?_)
   refine L.append (j := 0) rfl rfl rfl rfl (by decide) rfl rfl rfl rfl (Src.o 1 rfl) rfl (allOne rfl) (by omega) (by show _ * 1 ≤ _; omega) rfl (fun A49 cc49 => ?_)
   refine Lpu rfl rfl ?_; refine L.nil ?_; refine QE.blkN ?_; refine QE.seq (C.region ?_); refine Lpu rfl rfl ?_; refine L.step (Ev.add rfl rfl (by omega) (by omega)) rfl ?_; refine Lpu rfl rfl ?_; refine L.nil ?_
   have he := runB_succ old l (i := i) (by omega)
   rw [← hz] at he
   have hel : (runB old (l.take (i + 1))).length = (runB old (l.take i)).length + 1 := by rw [he, List.length_append]; rfl
   refine QE.round (i := (i, A, c)) ((i + 1, A49, cc49)) (by dsimp only; omega) (by dsimp only; omega) (by exact Le.mk' (rs := [0, 1]) (hs := [0]) ⟨rfl, rfl, rfl, (by dsimp only; rw [hel]; rfl), trivial⟩ ⟨rfl, rfl, trivial⟩ ⟨(congrArg some (own_eq hel.symm (by dsimp only; rw [he, ← U8_app]; rfl))), trivial⟩ (by decide))
 ·
  replace hc13 := of_decide_eq_false hc13
  refine C.exit ?_; refine QE.tX ?_; refine QE.tX ?_; refine QE.blk ?_; refine QE.seq (C.seq (C.region ?_)); refine Lpu rfl rfl ?_; refine Lpu rfl rfl ?_; refine Lpu rfl rfl ?_; refine L.nil (QE.seq (C.ret ?_)); refine QE.ret (js := []) (hs := [0]) (vs := [_, _]) rfl ⟨rfl, rfl, trivial⟩ (by decide) ?_
  obtain rfl : i = l.length := by omega
  rw [List.take_length]
  exact ⟨A, c, rfl, rfl, rfl⟩

set_option maxHeartbeats 1000000 in
theorem applyR_c (B : Option Addr) (old : List UInt8) (bc : Nat) (lf : Bool) (inn out : Int) (ops : List Po) (OA : Option Addr) (oc : Nat) (hops : ops.length ≤ 9223372036854775807) (hbl : old.length ≤ 1000000) (hlf : lf = false) (hE : chkE inn out ops = 0) (hin : inn = (old.length : Int)) :
   Ctr X 29 [.slice B old.length bc, .agg (List.toArray [.bool lf, .int .i64 inn, .int .i64 out, .slice OA ops.length oc])] [Rd B (U8 old), Rd OA (opsV ops)] [] (fun v R' H' => ∃ (A : Option Addr) (c : Nat), v = .tuple #[.slice A (runB old (syS inn out ops)).length c, .int .i64 0] ∧ R' = [] ∧ H' = [Own 5 1 A (runB old (syS inn out ops)).length c (U8 (runB old (syS inn out ops)))]) := by
 refine Ctr.of (X := X) (fn := Tryz.f29) Tryz.func29 rfl (by kernel_rfl) rfl ?_
 intro β
 have hrun := apply_ok hE hin
 subst hlf
 refine C.seq (C.region ?_)
 refine L.boxA rfl rfl (fun A3 => ?_)
 refine Lpu rfl rfl ?_; refine Lpu rfl rfl ?_; refine L.nil (QE.seq (C.seq ?_)); refine C.freeze 0 rfl [] (by decide) (by decide) ?_; refine C.region ?_; refine L.step (Ev.loadA (vs := [.bool false, .int .i64 inn, .int .i64 out, .slice OA ops.length oc]) rfl rfl rfl (Src.r 0 rfl) rfl rfl (by decide)) rfl ?_; refine L.call (js := []) (js' := []) (symbols06_c false inn out ops OA oc hops) rfl rfl rfl (by decide) (Hq [2] rfl) rfl ?_
 rintro _ _ _ ⟨SA, sc, rfl, rfl, rfl⟩
 refine L.norm (H' := [_]) [0] ⟨rfl, trivial⟩ (by decide) ?_; refine Lpu rfl rfl ?_; refine Lpu rfl rfl ?_; refine Lpu rfl rfl ?_; refine Lpu rfl rfl ?_; refine Lpu rfl rfl ?_; refine L.nil (QE.seq (C.seq (C.seq ?_))); refine C.freeze 0 rfl [] (by decide) (by decide) ?_; refine C.region ?_; refine Lpu rfl rfl ?_; refine Lpu rfl rfl ?_; refine L.nil (QE.seq ?_)
 refine C.condB 21 rfl (fun hc21 => ?_) (fun hc21 => ?_)
 ·
  replace hc21 := b_ne hc21
  exact absurd hE hc21
 ·
  replace hc21 := b_eq hc21
  refine C.skip (QE.seq (C.seq (C.region ?_))); refine Lpu rfl rfl ?_; refine Lpu rfl rfl ?_; refine L.nil (QE.seq (C.seq (C.seq (C.region ?_)))); refine L.step (Ev.fieldAddr rfl rfl rfl rfl rfl rfl (Src.r 1 rfl) (Nat.zero_lt_succ _) rfl) rfl ?_; refine L.step (Ev.load rfl rfl rfl (Src.r 1 rfl) rfl) rfl ?_; refine L.nil (QE.seq ?_)
  refine C.condB 25 rfl (fun hc25 => ?_) (fun hc25 => ?_)
  ·
   cases hc25
  ·
   refine C.skip (QE.seq (C.seq (C.seq (C.region ?_)))); refine Lpu rfl rfl ?_; refine Lpu rfl rfl ?_; refine L.step (Ev.fieldAddr rfl rfl rfl rfl rfl rfl (Src.r 1 rfl) (Nat.zero_lt_succ _) rfl) rfl ?_; refine L.step (Ev.load rfl rfl rfl (Src.r 1 rfl) rfl) rfl ?_; refine Lpu rfl rfl ?_; refine L.nil (QE.seq ?_)
   refine C.condB 39 rfl (fun hc39 => ?_) (fun hc39 => ?_)
   ·
    replace hc39 := b_ne hc39
    omega
   ·
    replace hc39 := b_eq hc39
    refine C.skip (QE.seq (C.seq (C.region ?_))); refine Lpu rfl rfl ?_; refine Lpu rfl rfl ?_; refine L.call (js := []) (js' := []) (runR_c B SA old (syS inn out ops) bc sc hbl hrun.2 hrun.1) rfl rfl rfl (by decide) (Hq [2, 0] rfl) rfl ?_
    rintro _ _ _ ⟨YA, yc, rfl, rfl, rfl⟩
    refine L.norm (H' := [_]) [0] ⟨rfl, trivial⟩ (by decide) ?_; refine Lpu rfl rfl ?_; refine Lpu rfl rfl ?_; refine Lpu rfl rfl ?_; refine Lpu rfl rfl ?_; refine Lpu rfl rfl ?_; refine L.nil (QE.seq (C.seq (C.seq (C.region ?_)))); refine L.step (Ev.fieldAddr rfl rfl rfl rfl rfl rfl (Src.r 1 rfl) (Nat.zero_lt_succ _) rfl) rfl ?_; refine L.step (Ev.load rfl rfl rfl (Src.r 1 rfl) rfl) rfl ?_; refine Lpu rfl rfl ?_; refine L.nil (QE.seq ?_)
    refine C.condB 48 rfl (fun hc48 => ?_) (fun hc48 => ?_)
    ·
     refine C.seq (C.region ?_); refine Lpu rfl rfl ?_; refine Lpu rfl rfl ?_; refine Lpu rfl rfl ?_; refine L.nil (QE.seq (C.ret (QE.tR ?_))); refine QE.ret (js := []) (hs := [0]) (vs := [_, _]) rfl ⟨rfl, rfl, trivial⟩ (by decide) ?_
     exact ⟨YA, yc, rfl, rfl, rfl⟩
    ·
     cases hc48

end Go.Proofs.YtpccfdnmnnnboaaGreat
