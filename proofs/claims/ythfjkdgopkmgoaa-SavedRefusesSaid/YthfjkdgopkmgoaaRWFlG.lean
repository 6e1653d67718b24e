/-
  The contracts of the clones, of Equal, asked, apply, Do and Cut of the program.
-/
import Derived.Test.YthfjkdgopkmgoaaRWFlE
namespace Go.Proofs.Ythfjkdgopkmgoaa
open Go.Sl

theorem clone8_c (A : Option Addr) (n c : Nat) (xs : List Value) (hx : ∀ v ∈ xs, v.oneCell' = true) (hl : xs.length = n) (hn : n ≤ 1000000) :
    Ctr X 56 [.slice A n c] [Rd A xs] [] (fun v R' H' => ∃ A' c', v = .slice A' n c' ∧ R' = [] ∧ H' = [Own 5 1 A' n c' xs]) := by
  refine Ctr.of (X := X) (fn := Try.f56) Try.func56 rfl (by kernel_rfl) rfl ?_
  intro β
  refine C.seq ?_
  refine C.region ?_
  refine L.step (Ev.pure rfl) rfl ?_
  refine L.nil ?_
  refine QE.seq ?_
  refine C.seq ?_
  refine C.seq ?_
  refine C.region ?_
  refine L.step (Ev.pure rfl) rfl ?_
  refine L.step (Ev.eqNil rfl rfl rfl rfl) rfl ?_
  refine L.nil ?_
  refine QE.seq ?_
  refine C.condB 4 rfl (fun hc4 => ?_) (fun hc4 => ?_)
  · skip
    refine C.seq ?_
    refine C.region ?_
    refine L.step (Ev.pure rfl) rfl ?_
    refine L.nil ?_
    refine QE.seq ?_
    refine C.ret ?_
    refine QE.tR ?_
    obtain rfl : A = none := by simpa using hc4
    refine QE.rdNone 0 rfl (fun h0 => ?_)
    subst h0
    subst hl
    refine QE.nil_own 5 1 ?_
    refine QE.ret (js := []) (hs := [0]) (vs := [_]) rfl ⟨rfl, trivial⟩ (by decide) ?_
    exact ⟨none, 0, rfl, rfl, rfl⟩
  · skip
    refine C.skip ?_
    refine QE.seq ?_
    refine C.seq ?_
    refine C.region ?_
    refine L.lit rfl rfl rfl rfl rfl (by rfl) (by rfl) (by rfl) rfl rfl (fun A5 => ?_)
    refine L.step (Ev.pure rfl) rfl ?_
    refine L.append (j := 0) rfl rfl rfl rfl (by decide) rfl rfl rfl rfl (Src.r 0 rfl) (by rw [hl]; exact (Nat.mul_one _).symm) hx (by omega) (by show _ * 1 ≤ _; omega) rfl (fun A7 cc7 => ?_)
    refine L.step (Ev.pure rfl) rfl ?_
    refine L.nil ?_
    refine QE.seq ?_
    refine C.ret ?_
    refine QE.ret (js := []) (hs := [0]) (vs := [_]) rfl ⟨rfl, trivial⟩ (by decide) ?_
    exact ⟨A7, cc7, by simp only [Nat.zero_add]; rfl, rfl, by simp only [sel, Nat.zero_add, List.nil_append]; rfl⟩

end Go.Proofs.Ythfjkdgopkmgoaa
