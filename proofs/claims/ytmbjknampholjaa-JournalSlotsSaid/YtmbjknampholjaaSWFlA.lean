/-
  The contracts of the reference functions In and Blank.
-/
import Derived.Test.YtmbjknampholjaaSSlT
namespace Go.Proofs.Ytmbjknampholjaa
open Go.Sl

theorem repl_step (x y : UInt8) (k n : Nat) (h : k < n) : (List.replicate k x ++ List.replicate (n - k) y).set k x = List.replicate (k + 1) x ++ List.replicate (n - (k + 1)) y := by
  obtain ⟨m, rfl⟩ : ∃ m, n = k + 1 + m := ⟨n - (k + 1), by omega⟩
  rw [show k + 1 + m - k = m + 1 from by omega, show k + 1 + m - (k + 1) = m from by omega, List.set_append_right _ _ (by simp), List.replicate_succ (n := m)]
  simp [List.replicate_succ']

theorem in_c (a lo hi : Int) :
    Ctr X 60 [.int .i64 a, .int .i64 lo, .int .i64 hi] [] [] (fun v R' H' => v = .bool (decide (lo ≤ a) && decide (a ≤ hi)) ∧ R' = [] ∧ H' = []) := by
  refine Ctr.of (X := X) (fn := Try.f60) Try.func60 rfl (by kernel_rfl) rfl ?_
  intro β
  refine C.seq ?_
  refine C.region ?_
  refine L.step (Ev.pure rfl) rfl ?_
  refine L.nil ?_
  refine QE.seq ?_
  refine C.seq ?_
  refine C.region ?_
  refine L.step (Ev.pure rfl) rfl ?_
  refine L.step (Ev.pure rfl) rfl ?_
  refine L.step (Ev.pure rfl) rfl ?_
  refine L.step (Ev.pure rfl) rfl ?_
  refine L.bool 10 rfl (fun hg10 => ?_) (fun hg10 => ?_)
  · skip
    replace hg10 := of_decide_eq_true hg10
    refine L.yes rfl ?_
    refine L.step (Ev.pure rfl) rfl ?_
    refine L.yes rfl ?_
    refine L.step (Ev.pure rfl) rfl ?_
    refine L.yes rfl ?_
    refine L.step (Ev.pure rfl) rfl ?_
    refine L.step (Ev.pure rfl) rfl ?_
    refine L.step (Ev.pure rfl) rfl ?_
    refine L.nil ?_
    refine QE.seq ?_
    refine C.ret ?_
    refine QE.ret (js := []) (hs := []) (vs := [_]) rfl ⟨rfl, trivial⟩ (by decide) ?_
    refine ⟨?_, rfl, rfl⟩
    simp [tup, hg10]
    try omega
  · skip
    replace hg10 := of_decide_eq_false hg10
    refine L.no rfl rfl rfl ?_
    refine L.no rfl rfl rfl ?_
    refine L.no rfl rfl rfl ?_
    refine L.step (Ev.pure rfl) rfl ?_
    refine L.step (Ev.pure rfl) rfl ?_
    refine L.nil ?_
    refine QE.seq ?_
    refine C.ret ?_
    refine QE.ret (js := []) (hs := []) (vs := [_]) rfl ⟨rfl, trivial⟩ (by decide) ?_
    refine ⟨?_, rfl, rfl⟩
    simp [tup, hg10]
    try omega

theorem blank_c (n : Nat) (hn : n ≤ 1000000) :
    Ctr X 26 [.int .i64 (n : Int)] [] [] (fun v R' H' => ∃ A, v = .slice A n n ∧ R' = [] ∧ H' = [Own 5 1 A n n (U8 (List.replicate n 255))]) := by
  refine Ctr.of (X := X) (fn := Try.f26) Try.func26 rfl (by kernel_rfl) rfl ?_
  intro β
  refine C.seq ?_
  refine C.region ?_
  refine L.step (Ev.pure rfl) rfl ?_
  refine L.nil ?_
  refine QE.seq ?_
  refine C.seq ?_
  refine C.region ?_
  refine L.step (Ev.pure rfl) rfl ?_
  refine L.make rfl rfl rfl rfl rfl rfl rfl rfl rfl (by show 1 * _ ≤ _; omega) (by omega) rfl (fun A6 => ?_)
  refine L.step (Ev.pure rfl) rfl ?_
  refine L.nil ?_
  refine QE.seq ?_
  refine C.seq ?_
  refine C.seq ?_
  refine C.region ?_
  refine L.step (Ev.pure rfl) rfl ?_
  refine L.nil ?_
  refine QE.seq ?_
  refine C.block ?_
  refine C.loop (fun k : Nat => [(0, .int .i64 (n : Int)), (3, .slice A6 n n), (4, .int .i64 (k : Int))]) (fun k : Nat => []) (fun k : Nat => [Own 5 1 A6 n n (U8 (List.replicate k 255 ++ List.replicate (n - k) 0))]) (fun k : Nat => k ≤ n) (fun k : Nat => n - k) 0 (by omega) (by exact Le.mk' (rs := []) (hs := [0]) ⟨rfl, rfl, rfl, trivial⟩ trivial ⟨(by simp [U8, ti5]), trivial⟩ (by decide)) ?_
  intro k hk
  refine C.seq ?_
  refine C.seq ?_
  refine C.region ?_
  refine L.step (Ev.pure rfl) rfl ?_
  refine L.step (Ev.pure rfl) rfl ?_
  refine L.step (Ev.pure rfl) rfl ?_
  refine L.nil ?_
  refine QE.seq ?_
  refine C.condB 9 rfl (fun hc9 => ?_) (fun hc9 => ?_)
  · skip
    replace hc9 := of_decide_eq_true hc9
    refine C.skip ?_
    refine QE.seq ?_
    refine C.seq ?_
    refine C.block ?_
    refine C.region ?_
    refine L.step (Ev.pure rfl) rfl ?_
    refine L.step (Ev.pure rfl) rfl ?_
    refine L.step (Ev.idx1 (k := k) rfl rfl rfl rfl rfl rfl rfl (by omega) (Src.o 0 rfl) (by rw [U8_len]; simp; omega)) rfl ?_
    refine L.store (j := 0) (v := .int .u8 ((255 : UInt8).toNat : Int)) rfl rfl rfl rfl rfl rfl rfl (U8_get (by simp; omega)) ?_
    refine L.nil ?_
    refine QE.blkN ?_
    refine QE.seq ?_
    refine C.region ?_
    refine L.step (Ev.pure rfl) rfl ?_
    refine L.step (Ev.add rfl rfl (by omega) (by omega)) rfl ?_
    refine L.step (Ev.pure rfl) rfl ?_
    refine L.nil ?_
    refine QE.round (k + 1) (by omega) (by omega) (by exact Le.mk' (rs := []) (hs := [0]) ⟨rfl, rfl, rfl, trivial⟩ trivial ⟨(by simp only [List.set_cons_zero, List.getElem?_cons_zero]; rw [U8_set]; congr 3; exact repl_step _ _ k n (by omega)), trivial⟩ (by decide))
  · skip
    replace hc9 := of_decide_eq_false hc9
    refine C.exit ?_
    refine QE.tX ?_
    refine QE.tX ?_
    refine QE.blk ?_
    refine QE.seq ?_
    refine C.seq ?_
    refine C.region ?_
    refine L.step (Ev.pure rfl) rfl ?_
    refine L.step (Ev.pure rfl) rfl ?_
    refine L.nil ?_
    refine QE.seq ?_
    refine C.ret ?_
    refine QE.ret (js := []) (hs := [0]) (vs := [_]) rfl ⟨rfl, trivial⟩ (by decide) ?_
    obtain rfl : k = n := by omega
    refine ⟨A6, rfl, rfl, ?_⟩
    simp [sel]

end Go.Proofs.Ytmbjknampholjaa
