/-
  The contracts of bits.Mul64, bits.Mul, bytes.Repeat and the New of the program.
-/
import Derived.Test.YtmbjknampholjaaEWFlH
import Derived.Test.YtmbjknampholjaaEPm
import Derived.Test.YtmbjknampholjaaESlI
namespace Go.Proofs.Ytmbjknampholjaa
open Go.Sl

theorem u64_mask (n : Nat) (h : n < 4294967296) : bop .and .u64 (n : Int) 4294967295 = (n : Int) := by
 have := bits_and_u64_nat n 4294967295 (by omega) (by decide)
 refine Eq.trans this ?_
 congr 1
 have h2 : (4294967295 : Nat) = 2 ^ 32 - 1 := by decide
 rw [h2, Nat.and_two_pow_sub_one_eq_mod]
 omega
theorem u64_hi (n : Nat) (h : n < 4294967296) : (n : Int).fdiv (2 ^ min (32 : Int).toNat IntKind.u64.bits) = 0 := by
 have : (2 : Int) ^ min (32 : Int).toNat IntKind.u64.bits = 4294967296 := by decide
 rw [this, Int.fdiv_eq_ediv_of_nonneg _ (by decide)]
 omega
theorem u64_wrap (n : Nat) (h : n < 4294967296) : IntKind.u64.wrap (n : Int) = (n : Int) := by rw [IntKind.wrap_u64]; omega
theorem u64_one (n : Nat) (h : n < 4294967296) : IntKind.u64.wrap (1 * (n : Int)) = (n : Int) := by rw [Int.one_mul]; exact u64_wrap n h
theorem u64_zero (n : Nat) : IntKind.u64.wrap (0 * (n : Int)) = 0 := by rw [Int.zero_mul]; decide
theorem sub_at {A : Option Addr} {g n p : Nat} (h : A = some ⟨g, 0, none⟩) (hp : p < n) : subA A n p 1 = some ⟨g, p, none⟩ := by
 subst h
 unfold subA
 rw [if_neg (by omega)]
 simp [Addr.add]
 exact fun h => h.symm
theorem rep_take {p k : Nat} {x : UInt8} {ys : List UInt8} (h : k ≤ p) : (U8 (List.replicate p x ++ ys)).take k = U8 (List.replicate k x) := by
 rw [U8_take, List.take_append_of_le_length (by simpa using h), List.take_replicate, Nat.min_eq_left h]
theorem rep_grow {p n : Nat} {x : UInt8} {ys : List UInt8} (_hy : ys.length = n - p) (_hp : p ≤ n) :
   (U8 (List.replicate p x ++ ys)).take p ++ U8 (List.replicate (min p (n - p)) x) ++ (U8 (List.replicate p x ++ ys)).drop (p + (U8 (List.replicate (min p (n - p)) x)).length) = U8 (List.replicate (p + min p (n - p)) x ++ ys.drop (min p (n - p))) := by
 rw [rep_take (Nat.le_refl p), U8_len, List.length_replicate]
 have : (U8 (List.replicate p x ++ ys)).drop (p + min p (n - p)) = U8 (ys.drop (min p (n - p))) := by
   unfold U8
   rw [← List.map_drop, List.drop_append, List.drop_of_length_le (by simp), List.nil_append]
   simp
 rw [this, U8_app, U8_app]
 congr 1
 rw [List.append_assoc, ← List.append_assoc, List.replicate_append_replicate]

theorem mul64_c (n : Nat) (hn : n < 4294967296) :
   Ctr X 89 [.int .u64 1, .int .u64 (n : Int)] [] [] (fun v R' H' => v = .tuple #[.int .u64 0, .int .u64 (n : Int)] ∧ R' = [] ∧ H' = []) := by
 refine Ctr.of (X := X) (fn := Try.f89) Try.func89 rfl (by kernel_rfl) rfl ?_
 intro β
 refine C.seq (C.region ?_); refine Lpu rfl rfl ?_; refine Lpu rfl rfl ?_; refine L.nil (QE.seq (C.seq (C.region ?_))); refine Lpu rfl rfl ?_; refine L.step ((Ev.cast (u := .int .u64 (1)) (Ev.pure rfl) (congrArg (Value.int .u64) (by decide)))) rfl ?_; refine Lpu rfl rfl ?_; refine L.nil (QE.seq (C.seq (C.region ?_))); refine Lpu rfl rfl ?_; refine L.step ((Ev.cast (u := .int .u64 (0)) (Ev.shr rfl rfl (by decide)) (congrArg (Value.int .u64) (by decide)))) rfl ?_; refine Lpu rfl rfl ?_; refine L.nil (QE.seq (C.seq (C.region ?_))); refine Lpu rfl rfl ?_; refine L.step ((Ev.cast (u := .int .u64 (n)) (Ev.pure rfl) (congrArg (Value.int .u64) (u64_mask n hn)))) rfl ?_; refine Lpu rfl rfl ?_; refine L.nil (QE.seq (C.seq (C.region ?_))); refine Lpu rfl rfl ?_; refine L.step ((Ev.cast (u := .int .u64 (0)) (Ev.shr rfl rfl (by decide)) (congrArg (Value.int .u64) (u64_hi n hn)))) rfl ?_; refine Lpu rfl rfl ?_; refine L.nil (QE.seq (C.seq (C.region ?_))); refine Lpu rfl rfl ?_; refine Lpu rfl rfl ?_; refine L.step ((Ev.cast (u := .int .u64 (n)) (Ev.pure rfl) (congrArg (Value.int .u64) (u64_one n hn)))) rfl ?_; refine Lpu rfl rfl ?_; refine L.nil (QE.seq (C.seq (C.region ?_))); refine Lpu rfl rfl ?_; refine Lpu rfl rfl ?_; refine L.step ((Ev.cast (u := .int .u64 (0)) (Ev.pure rfl) (congrArg (Value.int .u64) (u64_zero n)))) rfl ?_; refine Lpu rfl rfl ?_; refine L.step ((Ev.cast (u := .int .u64 (0)) (Ev.shr rfl rfl (by decide)) (congrArg (Value.int .u64) (u64_hi n hn)))) rfl ?_; refine L.step ((Ev.cast (u := .int .u64 (0)) (Ev.pure rfl) (congrArg (Value.int .u64) (by decide)))) rfl ?_; refine Lpu rfl rfl ?_; refine L.nil (QE.seq (C.seq (C.region ?_))); refine Lpu rfl rfl ?_; refine L.step ((Ev.cast (u := .int .u64 (0)) (Ev.pure rfl) (congrArg (Value.int .u64) (by decide)))) rfl ?_; refine Lpu rfl rfl ?_; refine L.nil (QE.seq (C.seq (C.region ?_))); refine Lpu rfl rfl ?_; refine L.step ((Ev.cast (u := .int .u64 (0)) (Ev.shr rfl rfl (by decide)) (congrArg (Value.int .u64) (by decide)))) rfl ?_; refine Lpu rfl rfl ?_; refine L.nil (QE.seq (C.seq (C.region ?_))); refine Lpu rfl rfl ?_; refine Lpu rfl rfl ?_; refine Lpu rfl rfl ?_; refine L.step ((Ev.cast (u := .int .u64 (0)) (Ev.pure rfl) (congrArg (Value.int .u64) (by decide)))) rfl ?_; refine L.step ((Ev.cast (u := .int .u64 (0)) (Ev.pure rfl) (congrArg (Value.int .u64) (by decide)))) rfl ?_; refine Lpu rfl rfl ?_; refine L.nil (QE.seq (C.seq (C.region ?_))); refine Lpu rfl rfl ?_; refine Lpu rfl rfl ?_; refine L.step ((Ev.cast (u := .int .u64 (0)) (Ev.pure rfl) (congrArg (Value.int .u64) (by decide)))) rfl ?_; refine Lpu rfl rfl ?_; refine L.step ((Ev.cast (u := .int .u64 (0)) (Ev.pure rfl) (congrArg (Value.int .u64) (by decide)))) rfl ?_; refine Lpu rfl rfl ?_; refine L.step ((Ev.cast (u := .int .u64 (0)) (Ev.shr rfl rfl (by decide)) (congrArg (Value.int .u64) (by decide)))) rfl ?_; refine L.step ((Ev.cast (u := .int .u64 (0)) (Ev.pure rfl) (congrArg (Value.int .u64) (by decide)))) rfl ?_; refine Lpu rfl rfl ?_; refine L.nil (QE.seq (C.seq (C.region ?_))); refine Lpu rfl rfl ?_; refine Lpu rfl rfl ?_; refine L.step ((Ev.cast (u := .int .u64 (n)) (Ev.pure rfl) (congrArg (Value.int .u64) (u64_one n hn)))) rfl ?_; refine Lpu rfl rfl ?_; refine L.nil (QE.seq (C.ret ?_)); refine QE.ret (js := []) (hs := []) (vs := [_, _]) rfl ⟨rfl, rfl, trivial⟩ (by decide) ?_
 exact ⟨rfl, rfl, rfl⟩

theorem mul_c (n : Nat) (hn : n < 4294967296) :
   Ctr X 79 [.int .u64 1, .int .u64 (n : Int)] [] [] (fun v R' H' => v = .tuple #[.int .u64 0, .int .u64 (n : Int)] ∧ R' = [] ∧ H' = []) := by
 refine Ctr.of (X := X) (fn := Try.f79) Try.func79 rfl (by kernel_rfl) rfl ?_
 intro β
 refine C.seq (C.region ?_); refine Lpu rfl rfl ?_; refine Lpu rfl rfl ?_; refine L.nil (QE.seq (C.seq ?_))
 refine C.cond rfl (fun h => by cases h) (fun _ => ?_)
 refine C.skip (QE.seq (C.seq (C.region ?_))); refine Lpu rfl rfl ?_; refine Lpu rfl rfl ?_; refine L.call (js := []) (js' := []) (mul64_c n hn) rfl rfl rfl (by decide) trivial rfl ?_
 rintro _ _ _ ⟨rfl, rfl, rfl⟩
 refine Lpu rfl rfl ?_; refine Lpu rfl rfl ?_; refine Lpu rfl rfl ?_; refine Lpu rfl rfl ?_; refine Lpu rfl rfl ?_; refine L.nil (QE.seq (C.seq (C.region ?_))); refine Lpu rfl rfl ?_; refine Lpu rfl rfl ?_; refine Lpu rfl rfl ?_; refine Lpu rfl rfl ?_; refine L.nil (QE.seq (C.ret ?_)); refine QE.ret (js := []) (hs := []) (vs := [_, _]) rfl ⟨rfl, rfl, trivial⟩ (by decide) ?_
 exact ⟨rfl, rfl, rfl⟩

end Go.Proofs.Ytmbjknampholjaa
