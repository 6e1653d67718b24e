/-
  The contracts of bits.Mul64, bits.Mul, bytes.Repeat and the New of the program.
-/
import Derived.Test.YthfjkdgopkmgoaaWFlI
import Derived.Test.YthfjkdgopkmgoaaSlI
namespace Go.Proofs.Ythfjkdgopkmgoaa
open Go.Sl

theorem u64_mask (n : Nat) (h : n < 4294967296) : bop .and .u64 (n : Int) 4294967295 = (n : Int) := by
  have := bits_and_u64_nat n 4294967295 (by omega) (by decide)
  refine Eq.trans this ?_
  congr 1
  have h2 : (4294967295 : Nat) = 2 ^ 32 - 1 := by decide
  rw [h2, Nat.and_two_pow_sub_one_eq_mod]
  omega
theorem u64_hi (n : Nat) (h : n < 4294967296) : (n : Int).fdiv (2 ^ min (32 : Int).toNat IntKind.u64.bits) = 0 := by
  have : (2 : Int) ^ min (32 : Int).toNat IntKind.u64.bits = 4294967296 := by decide
  rw [this, Int.fdiv_eq_ediv_of_nonneg _ (by decide)]
  omega
theorem u64_wrap (n : Nat) (h : n < 4294967296) : IntKind.u64.wrap (n : Int) = (n : Int) := by rw [IntKind.wrap_u64]; omega
theorem u64_one (n : Nat) (h : n < 4294967296) : IntKind.u64.wrap (1 * (n : Int)) = (n : Int) := by rw [Int.one_mul]; exact u64_wrap n h
theorem u64_zero (n : Nat) : IntKind.u64.wrap (0 * (n : Int)) = 0 := by rw [Int.zero_mul]; decide
theorem sub_at {A : Option Addr} {g n p : Nat} (h : A = some ⟨g, 0, none⟩) (hp : p < n) : subA A n p 1 = some ⟨g, p, none⟩ := by
  subst h
  unfold subA
  rw [if_neg (by omega)]
  simp [Addr.add]
  exact fun h => h.symm
theorem rep_take {p k : Nat} {x : UInt8} {ys : List UInt8} (h : k ≤ p) : (U8 (List.replicate p x ++ ys)).take k = U8 (List.replicate k x) := by
  rw [U8_take, List.take_append_of_le_length (by simpa using h), List.take_replicate, Nat.min_eq_left h]
theorem rep_grow {p n : Nat} {x : UInt8} {ys : List UInt8} (_hy : ys.length = n - p) (_hp : p ≤ n) :
    (U8 (List.replicate p x ++ ys)).take p ++ U8 (List.replicate (min p (n - p)) x) ++ (U8 (List.replicate p x ++ ys)).drop (p + (U8 (List.replicate (min p (n - p)) x)).length) = U8 (List.replicate (p + min p (n - p)) x ++ ys.drop (min p (n - p))) := by
  rw [rep_take (Nat.le_refl p), U8_len, List.length_replicate]
  have : (U8 (List.replicate p x ++ ys)).drop (p + min p (n - p)) = U8 (ys.drop (min p (n - p))) := by
    unfold U8
    rw [← List.map_drop, List.drop_append, List.drop_of_length_le (by simp), List.nil_append]
    simp
  rw [this, U8_app, U8_app]
  congr 1
  rw [List.append_assoc, ← List.append_assoc, List.replicate_append_replicate]

theorem mul64_c (n : Nat) (hn : n < 4294967296) :
    Ctr X 91 [.int .u64 1, .int .u64 (n : Int)] [] [] (fun v R' H' => v = .tuple #[.int .u64 0, .int .u64 (n : Int)] ∧ R' = [] ∧ H' = []) := by
  refine Ctr.of (X := X) (fn := Try.f91) Try.func91 rfl (by kernel_rfl) rfl ?_
  intro β
  refine C.seq ?_
  refine C.region ?_
  refine L.step (Ev.pure rfl) rfl ?_
  refine L.step (Ev.pure rfl) rfl ?_
  refine L.nil ?_
  refine QE.seq ?_
  refine C.seq ?_
  refine C.region ?_
  refine L.step (Ev.pure rfl) rfl ?_
  refine L.step ((Ev.cast (u := .int .u64 (1)) (Ev.pure rfl) (congrArg (Value.int .u64) (by decide)))) rfl ?_
  refine L.step (Ev.pure rfl) rfl ?_
  refine L.nil ?_
  refine QE.seq ?_
  refine C.seq ?_
  refine C.region ?_
  refine L.step (Ev.pure rfl) rfl ?_
  refine L.step ((Ev.cast (u := .int .u64 (0)) (Ev.shr rfl rfl (by decide)) (congrArg (Value.int .u64) (by decide)))) rfl ?_
  refine L.step (Ev.pure rfl) rfl ?_
  refine L.nil ?_
  refine QE.seq ?_
  refine C.seq ?_
  refine C.region ?_
  refine L.step (Ev.pure rfl) rfl ?_
  refine L.step ((Ev.cast (u := .int .u64 (n)) (Ev.pure rfl) (congrArg (Value.int .u64) (u64_mask n hn)))) rfl ?_
  refine L.step (Ev.pure rfl) rfl ?_
  refine L.nil ?_
  refine QE.seq ?_
  refine C.seq ?_
  refine C.region ?_
  refine L.step (Ev.pure rfl) rfl ?_
  refine L.step ((Ev.cast (u := .int .u64 (0)) (Ev.shr rfl rfl (by decide)) (congrArg (Value.int .u64) (u64_hi n hn)))) rfl ?_
  refine L.step (Ev.pure rfl) rfl ?_
  refine L.nil ?_
  refine QE.seq ?_
  refine C.seq ?_
  refine C.region ?_
  refine L.step (Ev.pure rfl) rfl ?_
  refine L.step (Ev.pure rfl) rfl ?_
  refine L.step ((Ev.cast (u := .int .u64 (n)) (Ev.pure rfl) (congrArg (Value.int .u64) (u64_one n hn)))) rfl ?_
  refine L.step (Ev.pure rfl) rfl ?_
  refine L.nil ?_
  refine QE.seq ?_
  refine C.seq ?_
  refine C.region ?_
  refine L.step (Ev.pure rfl) rfl ?_
  refine L.step (Ev.pure rfl) rfl ?_
  refine L.step ((Ev.cast (u := .int .u64 (0)) (Ev.pure rfl) (congrArg (Value.int .u64) (u64_zero n)))) rfl ?_
  refine L.step (Ev.pure rfl) rfl ?_
  refine L.step ((Ev.cast (u := .int .u64 (0)) (Ev.shr rfl rfl (by decide)) (congrArg (Value.int .u64) (u64_hi n hn)))) rfl ?_
  refine L.step ((Ev.cast (u := .int .u64 (0)) (Ev.pure rfl) (congrArg (Value.int .u64) (by decide)))) rfl ?_
  refine L.step (Ev.pure rfl) rfl ?_
  refine L.nil ?_
  refine QE.seq ?_
  refine C.seq ?_
  refine C.region ?_
  refine L.step (Ev.pure rfl) rfl ?_
  refine L.step ((Ev.cast (u := .int .u64 (0)) (Ev.pure rfl) (congrArg (Value.int .u64) (by decide)))) rfl ?_
  refine L.step (Ev.pure rfl) rfl ?_
  refine L.nil ?_
  refine QE.seq ?_
  refine C.seq ?_
  refine C.region ?_
  refine L.step (Ev.pure rfl) rfl ?_
  refine L.step ((Ev.cast (u := .int .u64 (0)) (Ev.shr rfl rfl (by decide)) (congrArg (Value.int .u64) (by decide)))) rfl ?_
  refine L.step (Ev.pure rfl) rfl ?_
  refine L.nil ?_
  refine QE.seq ?_
  refine C.seq ?_
  refine C.region ?_
  refine L.step (Ev.pure rfl) rfl ?_
  refine L.step (Ev.pure rfl) rfl ?_
  refine L.step (Ev.pure rfl) rfl ?_
  refine L.step ((Ev.cast (u := .int .u64 (0)) (Ev.pure rfl) (congrArg (Value.int .u64) (by decide)))) rfl ?_
  refine L.step ((Ev.cast (u := .int .u64 (0)) (Ev.pure rfl) (congrArg (Value.int .u64) (by decide)))) rfl ?_
  refine L.step (Ev.pure rfl) rfl ?_
  refine L.nil ?_
  refine QE.seq ?_
  refine C.seq ?_
  refine C.region ?_
  refine L.step (Ev.pure rfl) rfl ?_
  refine L.step (Ev.pure rfl) rfl ?_
  refine L.step ((Ev.cast (u := .int .u64 (0)) (Ev.pure rfl) (congrArg (Value.int .u64) (by decide)))) rfl ?_
  refine L.step (Ev.pure rfl) rfl ?_
  refine L.step ((Ev.cast (u := .int .u64 (0)) (Ev.pure rfl) (congrArg (Value.int .u64) (by decide)))) rfl ?_
  refine L.step (Ev.pure rfl) rfl ?_
  refine L.step ((Ev.cast (u := .int .u64 (0)) (Ev.shr rfl rfl (by decide)) (congrArg (Value.int .u64) (by decide)))) rfl ?_
  refine L.step ((Ev.cast (u := .int .u64 (0)) (Ev.pure rfl) (congrArg (Value.int .u64) (by decide)))) rfl ?_
  refine L.step (Ev.pure rfl) rfl ?_
  refine L.nil ?_
  refine QE.seq ?_
  refine C.seq ?_
  refine C.region ?_
  refine L.step (Ev.pure rfl) rfl ?_
  refine L.step (Ev.pure rfl) rfl ?_
  refine L.step ((Ev.cast (u := .int .u64 (n)) (Ev.pure rfl) (congrArg (Value.int .u64) (u64_one n hn)))) rfl ?_
  refine L.step (Ev.pure rfl) rfl ?_
  refine L.nil ?_
  refine QE.seq ?_
  refine C.ret ?_
  refine QE.ret (js := []) (hs := []) (vs := [_, _]) rfl ⟨rfl, rfl, trivial⟩ (by decide) ?_
  exact ⟨rfl, rfl, rfl⟩

theorem mul_c (n : Nat) (hn : n < 4294967296) :
    Ctr X 85 [.int .u64 1, .int .u64 (n : Int)] [] [] (fun v R' H' => v = .tuple #[.int .u64 0, .int .u64 (n : Int)] ∧ R' = [] ∧ H' = []) := by
  refine Ctr.of (X := X) (fn := Try.f85) Try.func85 rfl (by kernel_rfl) rfl ?_
  intro β
  refine C.seq ?_
  refine C.region ?_
  refine L.step (Ev.pure rfl) rfl ?_
  refine L.step (Ev.pure rfl) rfl ?_
  refine L.nil ?_
  refine QE.seq ?_
  refine C.seq ?_
  refine C.cond rfl (fun h => by cases h) (fun _ => ?_)
  refine C.skip ?_
  refine QE.seq ?_
  refine C.seq ?_
  refine C.region ?_
  refine L.step (Ev.pure rfl) rfl ?_
  refine L.step (Ev.pure rfl) rfl ?_
  refine L.call (js := []) (js' := []) (mul64_c n hn) rfl rfl rfl (by decide) trivial rfl ?_
  rintro _ _ _ ⟨rfl, rfl, rfl⟩
  refine L.step (Ev.pure rfl) rfl ?_
  refine L.step (Ev.pure rfl) rfl ?_
  refine L.step (Ev.pure rfl) rfl ?_
  refine L.step (Ev.pure rfl) rfl ?_
  refine L.step (Ev.pure rfl) rfl ?_
  refine L.nil ?_
  refine QE.seq ?_
  refine C.seq ?_
  refine C.region ?_
  refine L.step (Ev.pure rfl) rfl ?_
  refine L.step (Ev.pure rfl) rfl ?_
  refine L.step (Ev.pure rfl) rfl ?_
  refine L.step (Ev.pure rfl) rfl ?_
  refine L.nil ?_
  refine QE.seq ?_
  refine C.ret ?_
  refine QE.ret (js := []) (hs := []) (vs := [_, _]) rfl ⟨rfl, rfl, trivial⟩ (by decide) ?_
  exact ⟨rfl, rfl, rfl⟩

theorem repeat_c (x : UInt8) (B : Option Addr) (bc n : Nat) (h1 : 1 ≤ n) (hn : n ≤ 4096) :
    Ctr X 72 [.slice B 1 bc, .int .i64 (n : Int)] [Rd B (U8 [x])] [] (fun v R' H' => ∃ A, v = .slice A n n ∧ R' = [Rd A (U8 (List.replicate n x))] ∧ H' = []) := by
  refine Ctr.of (X := X) (fn := Try.f72) Try.func72 rfl (by kernel_rfl) rfl ?_
  intro β
  refine C.seq ?_
  refine C.region ?_
  refine L.step (Ev.pure rfl) rfl ?_
  refine L.nil ?_
  refine QE.seq ?_
  refine C.seq ?_
  refine C.seq ?_
  refine C.region ?_
  refine L.step (Ev.pure rfl) rfl ?_
  refine L.step (Ev.pure rfl) rfl ?_
  refine L.nil ?_
  refine QE.seq ?_
  refine C.condB 13 rfl (fun hc13 => ?_) (fun hc13 => ?_)
  · skip
    replace hc13 := i_eq hc13
    omega
  · skip
    replace hc13 := i_ne hc13
    refine C.skip ?_
    refine QE.seq ?_
    refine C.seq ?_
    refine C.seq ?_
    refine C.region ?_
    refine L.step (Ev.pure rfl) rfl ?_
    refine L.step (Ev.pure rfl) rfl ?_
    refine L.nil ?_
    refine QE.seq ?_
    refine C.condB 16 rfl (fun hc16 => ?_) (fun hc16 => ?_)
    · skip
      replace hc16 := of_decide_eq_true hc16
      omega
    · skip
      replace hc16 := of_decide_eq_false hc16
      refine C.skip ?_
      refine QE.seq ?_
      refine C.seq ?_
      refine C.region ?_
      refine L.step (Ev.pure rfl) rfl ?_
      refine L.step (Ev.pure rfl) rfl ?_
      refine L.step ((Ev.cast (u := .int .u64 (1)) (Ev.pure rfl) (congrArg (Value.int .u64) (by decide)))) rfl ?_
      refine L.step (Ev.pure rfl) rfl ?_
      refine L.step ((Ev.cast (u := .int .u64 (n)) (Ev.pure rfl) (congrArg (Value.int .u64) (u64_wrap n (by omega))))) rfl ?_
      refine L.call (js := []) (js' := []) (mul_c n (by omega)) rfl rfl rfl (by decide) trivial rfl ?_
      rintro _ _ _ ⟨rfl, rfl, rfl⟩
      refine L.step (Ev.pure rfl) rfl ?_
      refine L.step (Ev.pure rfl) rfl ?_
      refine L.step (Ev.pure rfl) rfl ?_
      refine L.step (Ev.pure rfl) rfl ?_
      refine L.step (Ev.pure rfl) rfl ?_
      refine L.nil ?_
      refine QE.seq ?_
      refine C.seq ?_
      refine C.seq ?_
      refine C.region ?_
      refine L.step (Ev.pure rfl) rfl ?_
      refine L.step (Ev.pure rfl) rfl ?_
      refine L.step (Ev.pure rfl) rfl ?_
      refine L.bool 29 rfl (fun hg29 => ?_) (fun hg29 => ?_)
      · skip
        replace hg29 := of_decide_eq_true hg29
        omega
      · skip
        replace hg29 := of_decide_eq_false hg29
        refine L.yes rfl ?_
        refine L.step (Ev.pure rfl) rfl ?_
        refine L.yes rfl ?_
        refine L.step (Ev.pure rfl) rfl ?_
        refine L.step (Ev.pure rfl) rfl ?_
        refine L.nil ?_
        refine QE.seq ?_
        refine C.condB 32 rfl (fun hc32 => ?_) (fun hc32 => ?_)
        · skip
          replace hc32 := of_decide_eq_true hc32
          omega
        · skip
          replace hc32 := of_decide_eq_false hc32
          refine C.skip ?_
          refine QE.seq ?_
          refine C.seq ?_
          refine C.region ?_
          refine L.step (Ev.pure rfl) rfl ?_
          refine L.step (Ev.toInt rfl rfl rfl rfl (by omega) (by omega)) rfl ?_
          refine L.step (Ev.pure rfl) rfl ?_
          refine L.nil ?_
          refine QE.seq ?_
          refine C.seq ?_
          refine C.seq ?_
          refine C.region ?_
          refine L.step (Ev.pure rfl) rfl ?_
          refine L.step (Ev.pure rfl) rfl ?_
          refine L.step (Ev.pure rfl) rfl ?_
          refine L.nil ?_
          refine QE.seq ?_
          refine C.condB 38 rfl (fun hc38 => ?_) (fun hc38 => ?_)
          · skip
            replace hc38 := i_eq hc38
            omega
          · skip
            replace hc38 := i_ne hc38
            refine C.skip ?_
            refine QE.seq ?_
            refine C.seq ?_
            refine C.region ?_
            refine L.step (Ev.pure rfl) rfl ?_
            refine L.step (Ev.pure rfl) rfl ?_
            refine L.nil ?_
            refine QE.seq ?_
            refine C.seq ?_
            refine C.seq ?_
            refine C.region ?_
            refine L.step (Ev.pure rfl) rfl ?_
            refine L.step (Ev.pure rfl) rfl ?_
            refine L.nil ?_
            refine QE.seq ?_
            refine C.condB 42 rfl (fun hc42 => ?_) (fun hc42 => ?_)
            · skip
              replace hc42 := of_decide_eq_true hc42
              omega
            · skip
              replace hc42 := of_decide_eq_false hc42
              refine C.skip ?_
              refine QE.seq ?_
              refine C.seq ?_
              refine C.region ?_
              refine L.step (Ev.pure rfl) rfl ?_
              refine L.makeNoZero (t := 24) (ps := #[3]) (f := 86) (fn := Try.f86) Try.func86 rfl rfl rfl (by kernel_rfl) rfl rfl rfl rfl (by omega) rfl (fun A c ys hc hy => ?_)
              refine L.step (Ev.pure rfl) rfl ?_
              refine L.step (Ev.pure rfl) rfl ?_
              refine L.step (Ev.sliceHM (h := n) (m := n) rfl rfl rfl rfl rfl rfl rfl rfl (by omega) (by omega)) rfl ?_
              refine L.step (Ev.pure rfl) rfl ?_
              refine L.nil ?_
              refine QE.seq ?_
              refine C.seq ?_
              refine C.region ?_
              refine L.step (Ev.pure rfl) rfl ?_
              refine L.step (Ev.pure rfl) rfl ?_
              refine L.copy (j := 0) (o := 0) rfl rfl rfl rfl rfl (fun g h _ => h) rfl rfl (Src.r 0 rfl) (by simp [U8]; omega) (U8_one _) (by rw [U8_len, U8_len]; simp; omega) rfl ?_
              refine L.step (Ev.pure rfl) rfl ?_
              refine L.nil ?_
              refine QE.seq ?_
              refine C.seq ?_
              refine C.block ?_
              refine C.loop (fun q : Nat × List UInt8 => [(7, .int .i64 (n : Int)), (8, .int .i64 (n : Int)), (9, .slice A n n), (10, .int .i64 (q.1 : Int))]) (fun q : Nat × List UInt8 => []) (fun q : Nat × List UInt8 => [Own 5 1 A n c (U8 (List.replicate q.1 x ++ q.2))]) (fun q : Nat × List UInt8 => 1 ≤ q.1 ∧ q.1 ≤ n ∧ q.2.length = n - q.1) (fun q : Nat × List UInt8 => n - q.1) (1, ys.drop 1) ⟨Nat.le_refl _, h1, by simp [hy]⟩ (by exact Le.mk' (rs := []) (hs := [0]) ⟨rfl, rfl, rfl, (by rfl), trivial⟩ trivial ⟨(congrArg some (own_eq rfl (by simp [U8]))), trivial⟩ (by decide)) ?_
              rintro ⟨p, ys⟩ ⟨hp1, hp2, hyl⟩
              dsimp only at hp1 hp2 hyl ⊢
              refine C.seq ?_
              refine C.seq ?_
              refine C.region ?_
              refine L.step (Ev.pure rfl) rfl ?_
              refine L.step (Ev.pure rfl) rfl ?_
              refine L.step (Ev.pure rfl) rfl ?_
              refine L.nil ?_
              refine QE.seq ?_
              refine C.condB 63 rfl (fun hc63 => ?_) (fun hc63 => ?_)
              · skip
                replace hc63 := of_decide_eq_true hc63
                refine C.skip ?_
                refine QE.seq ?_
                refine C.block ?_
                refine C.seq ?_
                refine C.region ?_
                refine L.step (Ev.pure rfl) rfl ?_
                refine L.step (Ev.pure rfl) rfl ?_
                refine L.step (Ev.cast (u := .int .i64 (p : Int)) (Ev.pure rfl) (congrArg (Value.int .i64) (if_neg (show ¬ (n : Int) < (p : Int) by omega)))) rfl ?_
                refine L.step (Ev.pure rfl) rfl ?_
                refine L.nil ?_
                refine QE.seq ?_
                refine C.regionM [] trivial ?_
                refine LM.q 0 rfl (by kernel_rfl) (Ev.pure rfl) rfl trivial ?_
                refine LM.q 1 rfl (by kernel_rfl) (Ev.pure rfl) rfl trivial ?_
                refine LM.q 2 rfl (by kernel_rfl) (Ev.pure rfl) rfl trivial ?_
                refine LM.q 3 rfl (by kernel_rfl) (Ev.sliceL (l := p) rfl rfl rfl rfl rfl rfl (by omega)) rfl trivial ?_
                refine LM.q 4 rfl (by kernel_rfl) (Ev.pure rfl) rfl trivial ?_
                refine LM.f 5 rfl (by kernel_rfl) trivial ?_
                refine L.step (Ev.pure rfl) rfl ?_
                refine L.nil (QE.m (by kernel_rfl) ?_)
                refine LM.f 6 rfl (by kernel_rfl) trivial ?_
                refine L.step (Ev.sliceH (h := p) rfl rfl rfl rfl rfl rfl (by omega)) rfl ?_
                refine L.nil (QE.m (by kernel_rfl) ?_)
                refine LM.f 7 rfl (by kernel_rfl) trivial ?_
                refine L.copy (j := 0) (o := p) (xs := U8 (List.replicate p x ++ ys)) (ys := U8 (List.replicate (min p (n - p)) x)) (D := subA A n p 1) (dn := n - p) rfl rfl rfl rfl rfl (fun g h _ => sub_at (n := n) (p := p) h (by omega)) rfl rfl (Src.cast (Src.take (Src.o 0 (by rfl)) (min p (n - p))) (rep_take (p := p) (k := min p (n - p)) (ys := ys) (by omega))) (by rw [U8_len, List.length_replicate]) (U8_one _) (by rw [U8_len, U8_len, List.length_append, List.length_replicate, List.length_replicate, hyl]; omega) (by rfl) ?_
                refine L.nil (QE.m (by kernel_rfl) ?_)
                refine LM.f 8 rfl (by kernel_rfl) trivial ?_
                have e8 : (U8 (List.replicate (min p (n - p)) x)).length = min p (n - p) := by rw [U8_len, List.length_replicate]
                refine L.step (Ev.add rfl rfl (by omega) (by omega)) rfl ?_
                refine L.nil (QE.m (by kernel_rfl) ?_)
                refine LM.f 9 rfl (by kernel_rfl) trivial ?_
                refine L.step (Ev.pure rfl) rfl ?_
                refine L.nil (QE.m (by kernel_rfl) ?_)
                refine LM.nil (by kernel_rfl) trivial ?_
                refine QE.blkN ?_
                refine QE.round (i := (p, ys)) ((p + min p (n - p), ys.drop (min p (n - p)))) (by exact ⟨by dsimp only; omega, by dsimp only; omega, by dsimp only; rw [List.length_drop]; omega⟩) (by dsimp only; omega) (by exact Le.mk' (rs := []) (hs := [0]) ⟨rfl, rfl, rfl, (by exact congrArg some (congrArg (Value.int .i64) (by rw [U8_len, List.length_replicate]; omega))), trivial⟩ trivial ⟨(congrArg some (own_eq rfl (rep_grow hyl hp2))), trivial⟩ (by decide))
              · skip
                replace hc63 := of_decide_eq_false hc63
                refine C.exit ?_
                refine QE.tX ?_
                refine QE.tX ?_
                refine QE.blk ?_
                refine QE.seq ?_
                refine C.seq ?_
                refine C.region ?_
                refine L.step (Ev.pure rfl) rfl ?_
                refine L.step (Ev.pure rfl) rfl ?_
                refine L.nil ?_
                refine QE.seq ?_
                refine C.ret ?_
                refine QE.freeze 0 rfl [] (by decide) (by decide) ?_
                obtain rfl : p = n := by omega
                obtain rfl : ys = [] := List.eq_nil_of_length_eq_zero (by omega)
                refine QE.ret (js := [0]) (hs := []) (vs := [_]) rfl ⟨rfl, trivial⟩ (by decide) ?_
                exact ⟨A, rfl, by rw [List.append_nil]; rfl, rfl⟩

theorem newP_c (s m : Nat) (l : Int) (hs1 : 1 ≤ s) (hs2 : s ≤ 4096) (hm1 : 1 ≤ m) (hm2 : m ≤ 64) (hl1 : 1 ≤ l) (hl2 : l ≤ 100000) :
    Ctr X 45 [.int .i64 (s : Int), .int .i64 (m : Int), .int .i64 l] [] [] (fun v R' H' => ∃ b : Fa, v = .tuple #[.agg (List.toArray [.int .i64 (s : Int), .slice b.D m b.cD, .slice b.W m b.cW, .int .i64 l, .slice b.E m b.cE]), .int .i64 0] ∧ R' = [Rd b.D (V0 b.hs s m), KidsR b.hs (B8 (List.replicate m (List.replicate s 255))), Rd b.W (I64 (List.replicate m 0)), Rd b.E (Bs (List.replicate m false))] ∧ H' = [] ∧ b.hs.length = m) := by
  refine Ctr.of (X := X) (fn := Try.f45) Try.func45 rfl (by kernel_rfl) rfl ?_
  intro β
  refine C.seq ?_
  refine C.region ?_
  refine L.alloc rfl rfl rfl (fun A6 => ?_)
  refine L.step (Ev.pure rfl) rfl ?_
  refine L.nil ?_
  refine QE.seq ?_
  refine C.seq ?_
  refine C.seq ?_
  refine C.region ?_
  refine L.step (Ev.pure rfl) rfl ?_
  refine L.step (Ev.pure rfl) rfl ?_
  refine L.step (Ev.pure rfl) rfl ?_
  refine L.bool 11 rfl (fun hg11 => ?_) (fun hg11 => ?_)
  · skip
    replace hg11 := of_decide_eq_true hg11
    omega
  · skip
    replace hg11 := of_decide_eq_false hg11
    refine L.yes rfl ?_
    refine L.step (Ev.pure rfl) rfl ?_
    refine L.yes rfl ?_
    refine L.step (Ev.pure rfl) rfl ?_
    refine L.step (Ev.pure rfl) rfl ?_
    refine L.step (Ev.pure rfl) rfl ?_
    refine L.bool 15 rfl (fun hg15 => ?_) (fun hg15 => ?_)
    · skip
      replace hg15 := of_decide_eq_true hg15
      omega
    · skip
      replace hg15 := of_decide_eq_false hg15
      refine L.yes rfl ?_
      refine L.step (Ev.pure rfl) rfl ?_
      refine L.yes rfl ?_
      refine L.step (Ev.pure rfl) rfl ?_
      refine L.step (Ev.pure rfl) rfl ?_
      refine L.step (Ev.pure rfl) rfl ?_
      refine L.bool 19 rfl (fun hg19 => ?_) (fun hg19 => ?_)
      · skip
        replace hg19 := of_decide_eq_true hg19
        omega
      · skip
        replace hg19 := of_decide_eq_false hg19
        refine L.yes rfl ?_
        refine L.step (Ev.pure rfl) rfl ?_
        refine L.yes rfl ?_
        refine L.step (Ev.pure rfl) rfl ?_
        refine L.step (Ev.pure rfl) rfl ?_
        refine L.step (Ev.pure rfl) rfl ?_
        refine L.bool 23 rfl (fun hg23 => ?_) (fun hg23 => ?_)
        · skip
          replace hg23 := of_decide_eq_true hg23
          omega
        · skip
          replace hg23 := of_decide_eq_false hg23
          refine L.yes rfl ?_
          refine L.step (Ev.pure rfl) rfl ?_
          refine L.yes rfl ?_
          refine L.step (Ev.pure rfl) rfl ?_
          refine L.step (Ev.pure rfl) rfl ?_
          refine L.step (Ev.pure rfl) rfl ?_
          refine L.bool 27 rfl (fun hg27 => ?_) (fun hg27 => ?_)
          · skip
            replace hg27 := of_decide_eq_true hg27
            omega
          · skip
            replace hg27 := of_decide_eq_false hg27
            refine L.yes rfl ?_
            refine L.step (Ev.pure rfl) rfl ?_
            refine L.yes rfl ?_
            refine L.step (Ev.pure rfl) rfl ?_
            refine L.step (Ev.pure rfl) rfl ?_
            refine L.nil ?_
            refine QE.seq ?_
            refine C.condB 30 rfl (fun hc30 => ?_) (fun hc30 => ?_)
            · skip
              replace hc30 := of_decide_eq_true hc30
              omega
            · skip
              replace hc30 := of_decide_eq_false hc30
              refine C.skip ?_
              refine QE.seq ?_
              refine C.seq ?_
              refine C.join (fun q : Option Addr × Option Addr × Option Addr => [(0, .int .i64 (s : Int)), (1, .int .i64 (m : Int)), (6, ptrOf A6 0), (8, ptrOf q.1 0)]) (fun q : Option Addr × Option Addr × Option Addr => []) (fun q : Option Addr × Option Addr × Option Addr => [Own 32 5 A6 1 1 [.int .i64 0, .slice none 0 0, .slice none 0 0, .int .i64 0, .slice none 0 0], Own 32 5 q.1 1 1 [.int .i64 (s : Int), .slice none 0 0, .slice q.2.1 m m, .int .i64 l, .slice q.2.2 m m], Own 3 1 q.2.1 m m (List.replicate m (.int .i64 0)), Own 4 1 q.2.2 m m (List.replicate m (.bool false))]) (fun q : Option Addr × Option Addr × Option Addr => True) ?_ ?_
              · skip
                refine C.regionM [] trivial ?_
                refine LM.q 0 rfl (by kernel_rfl) (Ev.pure rfl) rfl trivial ?_
                refine LM.q 1 rfl (by kernel_rfl) (Ev.pure rfl) rfl trivial ?_
                refine LM.q 2 rfl (by kernel_rfl) (Ev.pure rfl) rfl trivial ?_
                refine LM.q 4 rfl (by kernel_rfl) (Ev.pure rfl) rfl trivial ?_
                refine LM.alt [3, 5, 7] (by kernel_rfl) (by decide) trivial ⟨⟨_, rfl, ?_⟩, ⟨_, rfl, ?_⟩, ⟨_, rfl, ?_⟩, trivial⟩
                · skip
                  refine L.make rfl rfl rfl rfl rfl rfl rfl rfl rfl (by show 8 * _ ≤ _; omega) (by omega) rfl (fun A35 => ?_)
                  refine L.nil (QE.m (by kernel_rfl) ?_)
                  refine LM.alt [5, 7] (by kernel_rfl) (by decide) trivial ⟨⟨_, rfl, ?_⟩, ⟨_, rfl, ?_⟩, trivial⟩
                  · skip
                    refine L.make rfl rfl rfl rfl rfl rfl rfl rfl rfl (by show 1 * _ ≤ _; omega) (by omega) rfl (fun A37 => ?_)
                    refine L.nil (QE.m (by kernel_rfl) ?_)
                    refine LM.q 6 rfl (by kernel_rfl) (Ev.build rfl rfl rfl rfl rfl rfl rfl) rfl trivial ?_
                    refine LM.f 7 rfl (by kernel_rfl) trivial ?_
                    refine L.alloc rfl rfl rfl (fun A8 => ?_)
                    refine L.nil (QE.m (by kernel_rfl) ?_)
                    refine LM.f 8 rfl (by kernel_rfl) trivial ?_
                    refine L.storeA (j := 3) rfl rfl rfl rfl rfl (Nat.zero_lt_succ _) rfl rfl ?_
                    refine L.nil (QE.m (by kernel_rfl) ?_)
                    refine LM.nil (by kernel_rfl) trivial ?_
                    refine QE.joined ((A8, A35, A37)) (by exact trivial) (by exact Le.mk' (rs := []) (hs := [0, 3, 1, 2]) ⟨rfl, rfl, rfl, rfl, trivial⟩ trivial ⟨rfl, rfl, rfl, rfl, trivial⟩ (by decide))
                  · skip
                    refine L.alloc rfl rfl rfl (fun A8 => ?_)
                    refine L.nil (QE.m (by kernel_rfl) ?_)
                    refine LM.f 5 rfl (by kernel_rfl) trivial ?_
                    refine L.make rfl rfl rfl rfl rfl rfl rfl rfl rfl (by show 1 * _ ≤ _; omega) (by omega) rfl (fun A37 => ?_)
                    refine L.nil (QE.m (by kernel_rfl) ?_)
                    refine LM.f 6 rfl (by kernel_rfl) trivial ?_
                    refine L.step (Ev.build rfl rfl rfl rfl rfl rfl rfl) rfl ?_
                    refine L.nil (QE.m (by kernel_rfl) ?_)
                    refine LM.f 8 rfl (by kernel_rfl) trivial ?_
                    refine L.storeA (j := 2) rfl rfl rfl rfl rfl (Nat.zero_lt_succ _) rfl rfl ?_
                    refine L.nil (QE.m (by kernel_rfl) ?_)
                    refine LM.nil (by kernel_rfl) trivial ?_
                    refine QE.joined ((A8, A35, A37)) (by exact trivial) (by exact Le.mk' (rs := []) (hs := [0, 2, 1, 3]) ⟨rfl, rfl, rfl, rfl, trivial⟩ trivial ⟨rfl, rfl, rfl, rfl, trivial⟩ (by decide))
                · skip
                  refine L.make rfl rfl rfl rfl rfl rfl rfl rfl rfl (by show 1 * _ ≤ _; omega) (by omega) rfl (fun A37 => ?_)
                  refine L.nil (QE.m (by kernel_rfl) ?_)
                  refine LM.alt [3, 7] (by kernel_rfl) (by decide) trivial ⟨⟨_, rfl, ?_⟩, ⟨_, rfl, ?_⟩, trivial⟩
                  · skip
                    refine L.make rfl rfl rfl rfl rfl rfl rfl rfl rfl (by show 8 * _ ≤ _; omega) (by omega) rfl (fun A35 => ?_)
                    refine L.nil (QE.m (by kernel_rfl) ?_)
                    refine LM.q 6 rfl (by kernel_rfl) (Ev.build rfl rfl rfl rfl rfl rfl rfl) rfl trivial ?_
                    refine LM.f 7 rfl (by kernel_rfl) trivial ?_
                    refine L.alloc rfl rfl rfl (fun A8 => ?_)
                    refine L.nil (QE.m (by kernel_rfl) ?_)
                    refine LM.f 8 rfl (by kernel_rfl) trivial ?_
                    refine L.storeA (j := 3) rfl rfl rfl rfl rfl (Nat.zero_lt_succ _) rfl rfl ?_
                    refine L.nil (QE.m (by kernel_rfl) ?_)
                    refine LM.nil (by kernel_rfl) trivial ?_
                    refine QE.joined ((A8, A35, A37)) (by exact trivial) (by exact Le.mk' (rs := []) (hs := [0, 3, 2, 1]) ⟨rfl, rfl, rfl, rfl, trivial⟩ trivial ⟨rfl, rfl, rfl, rfl, trivial⟩ (by decide))
                  · skip
                    refine L.alloc rfl rfl rfl (fun A8 => ?_)
                    refine L.nil (QE.m (by kernel_rfl) ?_)
                    refine LM.f 3 rfl (by kernel_rfl) trivial ?_
                    refine L.make rfl rfl rfl rfl rfl rfl rfl rfl rfl (by show 8 * _ ≤ _; omega) (by omega) rfl (fun A35 => ?_)
                    refine L.nil (QE.m (by kernel_rfl) ?_)
                    refine LM.f 6 rfl (by kernel_rfl) trivial ?_
                    refine L.step (Ev.build rfl rfl rfl rfl rfl rfl rfl) rfl ?_
                    refine L.nil (QE.m (by kernel_rfl) ?_)
                    refine LM.f 8 rfl (by kernel_rfl) trivial ?_
                    refine L.storeA (j := 2) rfl rfl rfl rfl rfl (Nat.zero_lt_succ _) rfl rfl ?_
                    refine L.nil (QE.m (by kernel_rfl) ?_)
                    refine LM.nil (by kernel_rfl) trivial ?_
                    refine QE.joined ((A8, A35, A37)) (by exact trivial) (by exact Le.mk' (rs := []) (hs := [0, 2, 3, 1]) ⟨rfl, rfl, rfl, rfl, trivial⟩ trivial ⟨rfl, rfl, rfl, rfl, trivial⟩ (by decide))
                · skip
                  refine L.alloc rfl rfl rfl (fun A8 => ?_)
                  refine L.nil (QE.m (by kernel_rfl) ?_)
                  refine LM.alt [3, 5] (by kernel_rfl) (by decide) trivial ⟨⟨_, rfl, ?_⟩, ⟨_, rfl, ?_⟩, trivial⟩
                  · skip
                    refine L.make rfl rfl rfl rfl rfl rfl rfl rfl rfl (by show 8 * _ ≤ _; omega) (by omega) rfl (fun A35 => ?_)
                    refine L.nil (QE.m (by kernel_rfl) ?_)
                    refine LM.f 5 rfl (by kernel_rfl) trivial ?_
                    refine L.make rfl rfl rfl rfl rfl rfl rfl rfl rfl (by show 1 * _ ≤ _; omega) (by omega) rfl (fun A37 => ?_)
                    refine L.nil (QE.m (by kernel_rfl) ?_)
                    refine LM.f 6 rfl (by kernel_rfl) trivial ?_
                    refine L.step (Ev.build rfl rfl rfl rfl rfl rfl rfl) rfl ?_
                    refine L.nil (QE.m (by kernel_rfl) ?_)
                    refine LM.f 8 rfl (by kernel_rfl) trivial ?_
                    refine L.storeA (j := 1) rfl rfl rfl rfl rfl (Nat.zero_lt_succ _) rfl rfl ?_
                    refine L.nil (QE.m (by kernel_rfl) ?_)
                    refine LM.nil (by kernel_rfl) trivial ?_
                    refine QE.joined ((A8, A35, A37)) (by exact trivial) (by exact Le.mk' (rs := []) (hs := [0, 1, 2, 3]) ⟨rfl, rfl, rfl, rfl, trivial⟩ trivial ⟨rfl, rfl, rfl, rfl, trivial⟩ (by decide))
                  · skip
                    refine L.make rfl rfl rfl rfl rfl rfl rfl rfl rfl (by show 1 * _ ≤ _; omega) (by omega) rfl (fun A37 => ?_)
                    refine L.nil (QE.m (by kernel_rfl) ?_)
                    refine LM.f 3 rfl (by kernel_rfl) trivial ?_
                    refine L.make rfl rfl rfl rfl rfl rfl rfl rfl rfl (by show 8 * _ ≤ _; omega) (by omega) rfl (fun A35 => ?_)
                    refine L.nil (QE.m (by kernel_rfl) ?_)
                    refine LM.f 6 rfl (by kernel_rfl) trivial ?_
                    refine L.step (Ev.build rfl rfl rfl rfl rfl rfl rfl) rfl ?_
                    refine L.nil (QE.m (by kernel_rfl) ?_)
                    refine LM.f 8 rfl (by kernel_rfl) trivial ?_
                    refine L.storeA (j := 1) rfl rfl rfl rfl rfl (Nat.zero_lt_succ _) rfl rfl ?_
                    refine L.nil (QE.m (by kernel_rfl) ?_)
                    refine LM.nil (by kernel_rfl) trivial ?_
                    refine QE.joined ((A8, A35, A37)) (by exact trivial) (by exact Le.mk' (rs := []) (hs := [0, 1, 3, 2]) ⟨rfl, rfl, rfl, rfl, trivial⟩ trivial ⟨rfl, rfl, rfl, rfl, trivial⟩ (by decide))
              · skip
                rintro ⟨A8, A35, A37⟩ _
                dsimp only
                refine QE.seq ?_
                refine C.seq ?_
                refine C.seq ?_
                refine C.region ?_
                refine L.step (Ev.pure rfl) rfl ?_
                refine L.step (Ev.pure rfl) rfl ?_
                refine L.nil ?_
                refine QE.seq ?_
                refine C.block ?_
                refine C.nil_own 24 1 ?_
                refine C.more (r := KidsR [] []) Has.kids0 ?_
                refine C.loop (fun q : Nat × Option Addr × Nat × List Hd => [(0, .int .i64 (s : Int)), (6, ptrOf A6 0), (8, ptrOf A8 0), (39, .int .i64 (m : Int)), (40, .int .i64 (q.1 : Int))]) (fun q : Nat × Option Addr × Nat × List Hd => [KidsR q.2.2.2 (B8 (List.replicate q.1 (List.replicate s (255 : UInt8))))]) (fun q : Nat × Option Addr × Nat × List Hd => [Own 32 5 A6 1 1 [.int .i64 0, .slice none 0 0, .slice none 0 0, .int .i64 0, .slice none 0 0], Own 32 5 A8 1 1 [.int .i64 (s : Int), .slice q.2.1 q.1 q.2.2.1, .slice A35 m m, .int .i64 l, .slice A37 m m], Own 3 1 A35 m m (List.replicate m (.int .i64 0)), Own 4 1 A37 m m (List.replicate m (.bool false)), Own 24 1 q.2.1 q.1 q.2.2.1 (rowsV q.2.2.2 (B8 (List.replicate q.1 (List.replicate s (255 : UInt8)))))]) (fun q : Nat × Option Addr × Nat × List Hd => q.1 ≤ m ∧ q.2.2.2.length = q.1) (fun q : Nat × Option Addr × Nat × List Hd => m - q.1) (0, none, 0, []) ⟨by simp, rfl⟩ (by exact Le.mk' (rs := [0]) (hs := [0, 1, 2, 3, 4]) ⟨rfl, rfl, rfl, rfl, rfl, trivial⟩ ⟨rfl, trivial⟩ ⟨rfl, rfl, rfl, rfl, rfl, trivial⟩ (by decide)) ?_
                rintro ⟨k, D, cD, hs⟩ ⟨hk, hh⟩
                dsimp only at hk hh ⊢
                refine C.seq ?_
                refine C.region ?_
                refine L.step (Ev.pure rfl) rfl ?_
                refine L.nil ?_
                refine QE.seq ?_
                refine C.seq ?_
                refine C.condB 41 rfl (fun hc41 => ?_) (fun hc41 => ?_)
                · skip
                  replace hc41 := of_decide_eq_true hc41
                  refine C.skip ?_
                  refine QE.seq ?_
                  refine C.seq ?_
                  refine C.block ?_
                  refine C.regionM [Rd A8 [.int .i64 (s : Int), .slice D k cD, .slice A35 m m, .int .i64 l, .slice A37 m m]] ⟨Has.o 1 rfl, trivial⟩ ?_
                  refine LM.q 0 rfl (by kernel_rfl) (Ev.fieldAddr rfl rfl rfl rfl rfl rfl (Src.r 0 rfl) (Nat.zero_lt_succ _) rfl) rfl ⟨Has.o 1 rfl, trivial⟩ ?_
                  refine LM.q 1 rfl (by kernel_rfl) (Ev.load rfl rfl rfl (Src.r 0 rfl) rfl) rfl ⟨Has.o 1 rfl, trivial⟩ ?_
                  refine LM.q 3 rfl (by kernel_rfl) (Ev.pure rfl) rfl ⟨Has.o 1 rfl, trivial⟩ ?_
                  refine LM.f 2 rfl (by kernel_rfl) ⟨Has.o 1 rfl, trivial⟩ ?_
                  refine L.lit rfl rfl rfl rfl rfl (by rfl) (by rfl) (by rfl) rfl rfl (fun A44 => ?_)
                  refine L.nil (QE.m (by kernel_rfl) ?_)
                  refine LM.f 4 rfl (by kernel_rfl) ⟨Has.o 1 rfl, trivial⟩ ?_
                  refine L.freeze 5 rfl [0, 1, 2, 3, 4] (by decide) (by decide) ?_
                  refine L.callR (js := []) (js' := [0, 1, 2, 3, 4]) (repeat_c 255 _ _ s hs1 hs2) rfl rfl rfl (by decide) ⟨(Has.r 0 rfl), trivial⟩ rfl ?_
                  rintro _ _ _ ⟨A46, rfl, rfl, rfl⟩
                  refine L.nil (QE.m (by kernel_rfl) ?_)
                  refine LM.f 5 rfl (by kernel_rfl) ⟨Has.o 1 rfl, trivial⟩ ?_
                  refine L.lit rfl rfl rfl rfl rfl (by rfl) (by rfl) (by rfl) rfl rfl (fun A47 => ?_)
                  refine L.nil (QE.m (by kernel_rfl) ?_)
                  refine LM.cut [] (by kernel_rfl) ⟨Has.o 1 rfl, trivial⟩ ?_
                  refine LM.f 6 rfl (by kernel_rfl) trivial ?_
                  refine L.append (j := 4) rfl rfl rfl rfl (by decide) rfl rfl rfl rfl (Src.o 5 rfl) rfl (by intro v hv; simp at hv; subst hv; rfl) (by omega) (by show _ * 24 ≤ _; omega) rfl (fun A48 cc48 => ?_)
                  refine L.nil (QE.m (by kernel_rfl) ?_)
                  refine LM.f 7 rfl (by kernel_rfl) trivial ?_
                  refine L.step (Ev.fieldAddr rfl rfl rfl rfl rfl rfl (Src.o 1 rfl) (Nat.zero_lt_succ _) rfl) rfl ?_
                  refine L.nil (QE.m (by kernel_rfl) ?_)
                  refine LM.f 8 rfl (by kernel_rfl) trivial ?_
                  refine L.store (j := 1) rfl rfl rfl rfl rfl rfl rfl rfl ?_
                  refine L.nil (QE.m (by kernel_rfl) ?_)
                  refine LM.nil (by kernel_rfl) trivial ?_
                  refine QE.blkN ?_
                  refine QE.seq ?_
                  refine C.region ?_
                  refine L.step (Ev.add rfl rfl (by omega) (by omega)) rfl ?_
                  refine L.step (Ev.pure rfl) rfl ?_
                  refine L.nil ?_
                  refine QE.more (r := KidsR (hs ++ [(A46, s)]) (B8 (List.replicate k (List.replicate s (255 : UInt8))) ++ [U8 (List.replicate s (255 : UInt8))])) (Has.kidsSnoc 2 0 s rfl rfl (by rw [B8_len]; simp [hh])) ?_
                  refine QE.round (i := (k, D, cD, hs)) ((k + 1, A48, cc48, hs ++ [(A46, s)])) (by exact ⟨by dsimp only; omega, by simp [hh]⟩) (by dsimp only; omega) (by exact Le.mk' (rs := [0]) (hs := [0, 1, 2, 3, 4]) ⟨rfl, rfl, rfl, rfl, rfl, trivial⟩ ⟨(congrArg some (by rw [List.replicate_succ', ← B8_snoc])), trivial⟩ ⟨rfl, rfl, rfl, rfl, (congrArg some (own_eq rfl (by rw [List.replicate_succ', ← rows8_app (by simp [hh])]; simp))), trivial⟩ (by decide))
                · skip
                  replace hc41 := of_decide_eq_false hc41
                  refine C.exit ?_
                  refine QE.tX ?_
                  refine QE.tX ?_
                  refine QE.blk ?_
                  refine QE.seq ?_
                  refine C.seq ?_
                  refine C.region ?_
                  refine L.step (Ev.loadA rfl rfl rfl (Src.o 1 rfl) rfl rfl (by decide)) rfl ?_
                  refine L.storeA (j := 0) rfl rfl rfl rfl rfl (Nat.zero_lt_succ _) rfl rfl ?_
                  refine L.step (Ev.pure rfl) rfl ?_
                  refine L.nil ?_
                  refine QE.seq ?_
                  refine C.ret ?_
                  refine QE.freeze 4 rfl [0, 1, 2, 3] (by decide) (by decide) ?_
                  refine QE.freeze 2 rfl [0, 1, 3] (by decide) (by decide) ?_
                  refine QE.freeze 2 rfl [0, 1] (by decide) (by decide) ?_
                  refine QE.ret (js := [2, 3, 1, 0]) (hs := []) (vs := [_, _]) rfl ⟨⟨_, _, 0, _, rfl, rfl, Src.o 0 rfl, .inl ⟨rfl, by decide, _, rfl, rfl, rfl⟩⟩, rfl, trivial⟩ (by decide) ?_
                  obtain rfl : m = k := by omega
                  refine ⟨⟨D, cD, hs, A35, m, A37, m⟩, rfl, ?_, rfl, hh⟩
                  simp [sel, V0, I64_rep, Bs_rep]

theorem newPbad_c (s m l : Int) (hbad : ¬(1 ≤ s ∧ s ≤ 4096 ∧ 1 ≤ m ∧ m ≤ 64 ∧ 1 ≤ l ∧ l ≤ 100000)) :
    Ctr X 45 [.int .i64 s, .int .i64 m, .int .i64 l] [] [] (fun v R' H' => v = .tuple #[flV flz az, .int .i64 1] ∧ R' = [] ∧ H' = []) := by
  refine Ctr.of (X := X) (fn := Try.f45) Try.func45 rfl (by kernel_rfl) rfl ?_
  intro β
  refine C.seq ?_
  refine C.region ?_
  refine L.alloc rfl rfl rfl (fun A6 => ?_)
  refine L.step (Ev.pure rfl) rfl ?_
  refine L.nil ?_
  refine QE.seq ?_
  refine C.seq ?_
  refine C.seq ?_
  refine C.region ?_
  refine L.step (Ev.pure rfl) rfl ?_
  refine L.step (Ev.pure rfl) rfl ?_
  refine L.step (Ev.pure rfl) rfl ?_
  refine L.bool 11 rfl (fun hg11 => ?_) (fun hg11 => ?_)
  · skip
    replace hg11 := of_decide_eq_true hg11
    refine L.no rfl rfl rfl ?_
    refine L.no rfl rfl rfl ?_
    refine L.step (Ev.pure rfl) rfl ?_
    refine L.step (Ev.pure rfl) rfl ?_
    refine L.no rfl rfl rfl ?_
    refine L.no rfl rfl rfl ?_
    refine L.step (Ev.pure rfl) rfl ?_
    refine L.step (Ev.pure rfl) rfl ?_
    refine L.no rfl rfl rfl ?_
    refine L.no rfl rfl rfl ?_
    refine L.step (Ev.pure rfl) rfl ?_
    refine L.step (Ev.pure rfl) rfl ?_
    refine L.no rfl rfl rfl ?_
    refine L.no rfl rfl rfl ?_
    refine L.step (Ev.pure rfl) rfl ?_
    refine L.step (Ev.pure rfl) rfl ?_
    refine L.no rfl rfl rfl ?_
    refine L.no rfl rfl rfl ?_
    refine L.step (Ev.pure rfl) rfl ?_
    refine L.nil ?_
    refine QE.seq ?_
    refine C.cond rfl (fun _ => ?_) (fun h => by cases h)
    refine C.seq ?_
    refine C.region ?_
    refine L.step (Ev.build rfl rfl rfl rfl rfl rfl rfl) rfl ?_
    refine L.storeA (j := 0) rfl rfl rfl rfl rfl (Nat.zero_lt_succ _) rfl rfl ?_
    refine L.step (Ev.pure rfl) rfl ?_
    refine L.nil ?_
    refine QE.seq ?_
    refine C.ret ?_
    refine QE.tR ?_
    refine QE.ret (js := []) (hs := []) (vs := [_, _]) rfl ⟨⟨_, _, 0, _, rfl, rfl, Src.o 0 rfl, .inl ⟨rfl, by decide, _, rfl, rfl, rfl⟩⟩, rfl, trivial⟩ (by decide) ?_
    exact ⟨rfl, rfl, rfl⟩
  · skip
    replace hg11 := of_decide_eq_false hg11
    refine L.yes rfl ?_
    refine L.step (Ev.pure rfl) rfl ?_
    refine L.yes rfl ?_
    refine L.step (Ev.pure rfl) rfl ?_
    refine L.step (Ev.pure rfl) rfl ?_
    refine L.step (Ev.pure rfl) rfl ?_
    refine L.bool 15 rfl (fun hg15 => ?_) (fun hg15 => ?_)
    · skip
      replace hg15 := of_decide_eq_true hg15
      refine L.no rfl rfl rfl ?_
      refine L.no rfl rfl rfl ?_
      refine L.step (Ev.pure rfl) rfl ?_
      refine L.step (Ev.pure rfl) rfl ?_
      refine L.no rfl rfl rfl ?_
      refine L.no rfl rfl rfl ?_
      refine L.step (Ev.pure rfl) rfl ?_
      refine L.step (Ev.pure rfl) rfl ?_
      refine L.no rfl rfl rfl ?_
      refine L.no rfl rfl rfl ?_
      refine L.step (Ev.pure rfl) rfl ?_
      refine L.step (Ev.pure rfl) rfl ?_
      refine L.no rfl rfl rfl ?_
      refine L.no rfl rfl rfl ?_
      refine L.step (Ev.pure rfl) rfl ?_
      refine L.nil ?_
      refine QE.seq ?_
      refine C.cond rfl (fun _ => ?_) (fun h => by cases h)
      refine C.seq ?_
      refine C.region ?_
      refine L.step (Ev.build rfl rfl rfl rfl rfl rfl rfl) rfl ?_
      refine L.storeA (j := 0) rfl rfl rfl rfl rfl (Nat.zero_lt_succ _) rfl rfl ?_
      refine L.step (Ev.pure rfl) rfl ?_
      refine L.nil ?_
      refine QE.seq ?_
      refine C.ret ?_
      refine QE.tR ?_
      refine QE.ret (js := []) (hs := []) (vs := [_, _]) rfl ⟨⟨_, _, 0, _, rfl, rfl, Src.o 0 rfl, .inl ⟨rfl, by decide, _, rfl, rfl, rfl⟩⟩, rfl, trivial⟩ (by decide) ?_
      exact ⟨rfl, rfl, rfl⟩
    · skip
      replace hg15 := of_decide_eq_false hg15
      refine L.yes rfl ?_
      refine L.step (Ev.pure rfl) rfl ?_
      refine L.yes rfl ?_
      refine L.step (Ev.pure rfl) rfl ?_
      refine L.step (Ev.pure rfl) rfl ?_
      refine L.step (Ev.pure rfl) rfl ?_
      refine L.bool 19 rfl (fun hg19 => ?_) (fun hg19 => ?_)
      · skip
        replace hg19 := of_decide_eq_true hg19
        refine L.no rfl rfl rfl ?_
        refine L.no rfl rfl rfl ?_
        refine L.step (Ev.pure rfl) rfl ?_
        refine L.step (Ev.pure rfl) rfl ?_
        refine L.no rfl rfl rfl ?_
        refine L.no rfl rfl rfl ?_
        refine L.step (Ev.pure rfl) rfl ?_
        refine L.step (Ev.pure rfl) rfl ?_
        refine L.no rfl rfl rfl ?_
        refine L.no rfl rfl rfl ?_
        refine L.step (Ev.pure rfl) rfl ?_
        refine L.nil ?_
        refine QE.seq ?_
        refine C.cond rfl (fun _ => ?_) (fun h => by cases h)
        refine C.seq ?_
        refine C.region ?_
        refine L.step (Ev.build rfl rfl rfl rfl rfl rfl rfl) rfl ?_
        refine L.storeA (j := 0) rfl rfl rfl rfl rfl (Nat.zero_lt_succ _) rfl rfl ?_
        refine L.step (Ev.pure rfl) rfl ?_
        refine L.nil ?_
        refine QE.seq ?_
        refine C.ret ?_
        refine QE.tR ?_
        refine QE.ret (js := []) (hs := []) (vs := [_, _]) rfl ⟨⟨_, _, 0, _, rfl, rfl, Src.o 0 rfl, .inl ⟨rfl, by decide, _, rfl, rfl, rfl⟩⟩, rfl, trivial⟩ (by decide) ?_
        exact ⟨rfl, rfl, rfl⟩
      · skip
        replace hg19 := of_decide_eq_false hg19
        refine L.yes rfl ?_
        refine L.step (Ev.pure rfl) rfl ?_
        refine L.yes rfl ?_
        refine L.step (Ev.pure rfl) rfl ?_
        refine L.step (Ev.pure rfl) rfl ?_
        refine L.step (Ev.pure rfl) rfl ?_
        refine L.bool 23 rfl (fun hg23 => ?_) (fun hg23 => ?_)
        · skip
          replace hg23 := of_decide_eq_true hg23
          refine L.no rfl rfl rfl ?_
          refine L.no rfl rfl rfl ?_
          refine L.step (Ev.pure rfl) rfl ?_
          refine L.step (Ev.pure rfl) rfl ?_
          refine L.no rfl rfl rfl ?_
          refine L.no rfl rfl rfl ?_
          refine L.step (Ev.pure rfl) rfl ?_
          refine L.nil ?_
          refine QE.seq ?_
          refine C.cond rfl (fun _ => ?_) (fun h => by cases h)
          refine C.seq ?_
          refine C.region ?_
          refine L.step (Ev.build rfl rfl rfl rfl rfl rfl rfl) rfl ?_
          refine L.storeA (j := 0) rfl rfl rfl rfl rfl (Nat.zero_lt_succ _) rfl rfl ?_
          refine L.step (Ev.pure rfl) rfl ?_
          refine L.nil ?_
          refine QE.seq ?_
          refine C.ret ?_
          refine QE.tR ?_
          refine QE.ret (js := []) (hs := []) (vs := [_, _]) rfl ⟨⟨_, _, 0, _, rfl, rfl, Src.o 0 rfl, .inl ⟨rfl, by decide, _, rfl, rfl, rfl⟩⟩, rfl, trivial⟩ (by decide) ?_
          exact ⟨rfl, rfl, rfl⟩
        · skip
          replace hg23 := of_decide_eq_false hg23
          refine L.yes rfl ?_
          refine L.step (Ev.pure rfl) rfl ?_
          refine L.yes rfl ?_
          refine L.step (Ev.pure rfl) rfl ?_
          refine L.step (Ev.pure rfl) rfl ?_
          refine L.step (Ev.pure rfl) rfl ?_
          refine L.bool 27 rfl (fun hg27 => ?_) (fun hg27 => ?_)
          · skip
            replace hg27 := of_decide_eq_true hg27
            refine L.no rfl rfl rfl ?_
            refine L.no rfl rfl rfl ?_
            refine L.step (Ev.pure rfl) rfl ?_
            refine L.nil ?_
            refine QE.seq ?_
            refine C.cond rfl (fun _ => ?_) (fun h => by cases h)
            refine C.seq ?_
            refine C.region ?_
            refine L.step (Ev.build rfl rfl rfl rfl rfl rfl rfl) rfl ?_
            refine L.storeA (j := 0) rfl rfl rfl rfl rfl (Nat.zero_lt_succ _) rfl rfl ?_
            refine L.step (Ev.pure rfl) rfl ?_
            refine L.nil ?_
            refine QE.seq ?_
            refine C.ret ?_
            refine QE.tR ?_
            refine QE.ret (js := []) (hs := []) (vs := [_, _]) rfl ⟨⟨_, _, 0, _, rfl, rfl, Src.o 0 rfl, .inl ⟨rfl, by decide, _, rfl, rfl, rfl⟩⟩, rfl, trivial⟩ (by decide) ?_
            exact ⟨rfl, rfl, rfl⟩
          · skip
            replace hg27 := of_decide_eq_false hg27
            refine L.yes rfl ?_
            refine L.step (Ev.pure rfl) rfl ?_
            refine L.yes rfl ?_
            refine L.step (Ev.pure rfl) rfl ?_
            refine L.step (Ev.pure rfl) rfl ?_
            refine L.nil ?_
            refine QE.seq ?_
            refine C.condB 30 rfl (fun hc30 => ?_) (fun hc30 => ?_)
            · skip
              replace hc30 := of_decide_eq_true hc30
              refine C.seq ?_
              refine C.region ?_
              refine L.step (Ev.build rfl rfl rfl rfl rfl rfl rfl) rfl ?_
              refine L.storeA (j := 0) rfl rfl rfl rfl rfl (Nat.zero_lt_succ _) rfl rfl ?_
              refine L.step (Ev.pure rfl) rfl ?_
              refine L.nil ?_
              refine QE.seq ?_
              refine C.ret ?_
              refine QE.tR ?_
              refine QE.ret (js := []) (hs := []) (vs := [_, _]) rfl ⟨⟨_, _, 0, _, rfl, rfl, Src.o 0 rfl, .inl ⟨rfl, by decide, _, rfl, rfl, rfl⟩⟩, rfl, trivial⟩ (by decide) ?_
              exact ⟨rfl, rfl, rfl⟩
            · skip
              replace hc30 := of_decide_eq_false hc30
              exact absurd (by omega) hbad

theorem new17bad_c (s m l : Int) (hbad : ¬(1 ≤ s ∧ s ≤ 4096 ∧ 1 ≤ m ∧ m ≤ 64 ∧ 1 ≤ l ∧ l ≤ 100000)) :
    Ctr X 47 [.int .i64 s, .int .i64 m, .int .i64 l] [] [] (fun v R' H' => v = .tuple #[flV flz az, .int .i64 1] ∧ R' = [] ∧ H' = []) := by
  refine Ctr.of (X := X) (fn := Try.f47) Try.func47 rfl (by kernel_rfl) rfl ?_
  intro β
  refine C.seq ?_
  refine C.region ?_
  refine L.alloc rfl rfl rfl (fun A6 => ?_)
  refine L.step (Ev.pure rfl) rfl ?_
  refine L.nil ?_
  refine QE.seq ?_
  refine C.seq ?_
  refine C.seq ?_
  refine C.region ?_
  refine L.step (Ev.pure rfl) rfl ?_
  refine L.call (js := []) (js' := [0]) (in_c _ _ _) rfl rfl rfl (by decide) trivial rfl ?_
  rintro _ _ _ ⟨rfl, rfl, rfl⟩
  refine L.step (Ev.pure rfl) rfl ?_
  refine L.step (Ev.pure rfl) rfl ?_
  refine L.bool 13 rfl (fun hg13 => ?_) (fun hg13 => ?_)
  · skip
    have q13 : ¬(1 ≤ s ∧ s ≤ 4096) := by simp at hg13; omega
    refine L.no rfl rfl rfl ?_
    refine L.no rfl rfl rfl ?_
    refine L.no rfl rfl rfl ?_
    refine L.step (Ev.pure rfl) rfl ?_
    refine L.step (Ev.pure rfl) rfl ?_
    refine L.no rfl rfl rfl ?_
    refine L.no rfl rfl rfl ?_
    refine L.no rfl rfl rfl ?_
    refine L.step (Ev.pure rfl) rfl ?_
    refine L.nil ?_
    refine QE.seq ?_
    refine C.cond rfl (fun _ => ?_) (fun h => by cases h)
    refine C.seq ?_
    refine C.region ?_
    refine L.step (Ev.build rfl rfl rfl rfl rfl rfl rfl) rfl ?_
    refine L.storeA (j := 0) rfl rfl rfl rfl rfl (Nat.zero_lt_succ _) rfl rfl ?_
    refine L.step (Ev.pure rfl) rfl ?_
    refine L.nil ?_
    refine QE.seq ?_
    refine C.ret ?_
    refine QE.tR ?_
    refine QE.ret (js := []) (hs := []) (vs := [_, _]) rfl ⟨⟨_, _, 0, _, rfl, rfl, Src.o 0 rfl, .inl ⟨rfl, by decide, _, rfl, rfl, rfl⟩⟩, rfl, trivial⟩ (by decide) ?_
    exact ⟨rfl, rfl, rfl⟩
  · skip
    have q13 : 1 ≤ s ∧ s ≤ 4096 := by simp at hg13; omega
    refine L.yes rfl ?_
    refine L.step (Ev.pure rfl) rfl ?_
    refine L.yes rfl ?_
    refine L.call (js := []) (js' := [0]) (in_c _ _ _) rfl rfl rfl (by decide) trivial rfl ?_
    rintro _ _ _ ⟨rfl, rfl, rfl⟩
    refine L.yes rfl ?_
    refine L.step (Ev.pure rfl) rfl ?_
    refine L.step (Ev.pure rfl) rfl ?_
    refine L.step (Ev.pure rfl) rfl ?_
    refine L.bool 18 rfl (fun hg18 => ?_) (fun hg18 => ?_)
    · skip
      have q18 : ¬(1 ≤ m ∧ m ≤ 64) := by simp at hg18; omega
      refine L.no rfl rfl rfl ?_
      refine L.no rfl rfl rfl ?_
      refine L.no rfl rfl rfl ?_
      refine L.step (Ev.pure rfl) rfl ?_
      refine L.nil ?_
      refine QE.seq ?_
      refine C.cond rfl (fun _ => ?_) (fun h => by cases h)
      refine C.seq ?_
      refine C.region ?_
      refine L.step (Ev.build rfl rfl rfl rfl rfl rfl rfl) rfl ?_
      refine L.storeA (j := 0) rfl rfl rfl rfl rfl (Nat.zero_lt_succ _) rfl rfl ?_
      refine L.step (Ev.pure rfl) rfl ?_
      refine L.nil ?_
      refine QE.seq ?_
      refine C.ret ?_
      refine QE.tR ?_
      refine QE.ret (js := []) (hs := []) (vs := [_, _]) rfl ⟨⟨_, _, 0, _, rfl, rfl, Src.o 0 rfl, .inl ⟨rfl, by decide, _, rfl, rfl, rfl⟩⟩, rfl, trivial⟩ (by decide) ?_
      exact ⟨rfl, rfl, rfl⟩
    · skip
      have q18 : 1 ≤ m ∧ m ≤ 64 := by simp at hg18; omega
      refine L.yes rfl ?_
      refine L.step (Ev.pure rfl) rfl ?_
      refine L.yes rfl ?_
      refine L.call (js := []) (js' := [0]) (in_c _ _ _) rfl rfl rfl (by decide) trivial rfl ?_
      rintro _ _ _ ⟨rfl, rfl, rfl⟩
      refine L.yes rfl ?_
      refine L.step (Ev.pure rfl) rfl ?_
      refine L.step (Ev.pure rfl) rfl ?_
      refine L.nil ?_
      refine QE.seq ?_
      refine C.condB 22 rfl (fun hc22 => ?_) (fun hc22 => ?_)
      · skip
        refine C.seq ?_
        refine C.region ?_
        refine L.step (Ev.build rfl rfl rfl rfl rfl rfl rfl) rfl ?_
        refine L.storeA (j := 0) rfl rfl rfl rfl rfl (Nat.zero_lt_succ _) rfl rfl ?_
        refine L.step (Ev.pure rfl) rfl ?_
        refine L.nil ?_
        refine QE.seq ?_
        refine C.ret ?_
        refine QE.tR ?_
        refine QE.ret (js := []) (hs := []) (vs := [_, _]) rfl ⟨⟨_, _, 0, _, rfl, rfl, Src.o 0 rfl, .inl ⟨rfl, by decide, _, rfl, rfl, rfl⟩⟩, rfl, trivial⟩ (by decide) ?_
        exact ⟨rfl, rfl, rfl⟩
      · skip
        exact absurd ⟨q13.1, q13.2, q18.1, q18.2, by simp at hc22; omega⟩ hbad

end Go.Proofs.Ythfjkdgopkmgoaa
