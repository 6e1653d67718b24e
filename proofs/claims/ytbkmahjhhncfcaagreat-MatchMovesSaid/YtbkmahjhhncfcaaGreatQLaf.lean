/-
  Lifted forms made code again, as plain lists.
-/
import Derived.Test.YtbkmahjhhncfcaaGreatQLad
import Derived.Test.YtbkmahjhhncfcaaGreatQWLaG
section
namespace Go.Sl

theorem Lf.ext' {a b : Lf} (h1 : a.ws = b.ws) (h2 : a.ms = b.ms) (h3 : a.ls = b.ls) : a = b := by cases a; cases b; simp_all
instance : DecidableEq Lf := fun a b => if h : a.ws = b.ws ∧ a.ms = b.ms ∧ a.ls = b.ls then isTrue (Lf.ext' h.1 h.2.1 h.2.2) else isFalse fun e => h (by rw [e]; exact ⟨rfl, rfl, rfl⟩)
theorem Lf.eq_and (a b : Lf) : (a.ws == b.ws && (a.ms == b.ms && a.ls == b.ls)) = decide (a = b) := by
 rw [Bool.eq_iff_iff]
 simp only [Bool.and_eq_true, beq_iff_eq, decide_eq_true_eq]
 exact ⟨fun h => Lf.ext' h.1 h.2.1 h.2.2, fun h => by rw [h]; exact ⟨rfl, rfl, rfl⟩⟩
/-- The word of a marked one. -/
def unnO (w : Nat) : Nat := w / 16777216
def unnA (w : Nat) : Nat := if 7 ≤ unnO w then w / 65536 % 256 else 0
def unnN (w : Nat) : Nat := w % 2 ^ fldF (unnO w)
def lowM (w : Nat) (ls : List Int) (i : Nat) : Option Nat :=
 if unnO w < 5 ∨ 8 < unnO w ∨ ls.length ≤ unnN w then none else encF (insT (unnO w) (unnA w) (ls.getD (unnN w) 0)) (4 * (i : Int))
def lowE (x : Lf) (i : Nat) : Option Nat := if x.ms.getD i false = true then lowM (x.ws.getD i 0) x.ls i else some (x.ws.getD i 0)
def lowN (x : Lf) : Nat → Option (List Nat)
 | 0 => some []
 | k + 1 => match lowN x k with
   | some l => match lowE x k with
     | some w => some (l ++ [w])
     | none => none
   | none => none
theorem lowN_some {x : Lf} {k : Nat} {l : List Nat} {w : Nat} (h : lowN x k = some l) (g : lowE x k = some w) : lowN x (k + 1) = some (l ++ [w]) := by simp only [lowN, h, g]
theorem lowN_none {x : Lf} {k m : Nat} (g : lowE x k = none) (h : k < m) : lowN x m = none := by
 induction m with
 | zero => omega
 | succ m ih =>
   simp only [lowN]
   by_cases e : k = m
   · subst e
     cases lowN x k with
     | none => rfl
     | some l => simp only [g]
   · rw [ih (by omega)]
theorem lowN_len {x : Lf} {k : Nat} {l : List Nat} (h : lowN x k = some l) : l.length = k := by
 induction k generalizing l with
 | zero => simp only [lowN, Option.some.injEq] at h; subst h; rfl
 | succ k ih =>
   simp only [lowN] at h
   cases hk : lowN x k with
   | none => rw [hk] at h; cases h
   | some m =>
     rw [hk] at h
     cases he : lowE x k with
     | none => rw [he] at h; cases h
     | some w =>
       rw [he] at h
       injection h with h
       subst h
       rw [List.length_append, ih hk]
       rfl
theorem lowE_lt {x : Lf} (hx : W32 x.ws) {k w : Nat} (h : lowE x k = some w) : w < 4294967296 := by
 unfold lowE at h
 split at h
 · unfold lowM at h
   split at h
   · cases h
   · exact (encF_some h).1
 · injection h with h
   exact h ▸ hx k
theorem lowN_w32 {x : Lf} (hx : W32 x.ws) {k : Nat} {l : List Nat} (h : lowN x k = some l) : W32 l := by
 induction k generalizing l with
 | zero => simp only [lowN, Option.some.injEq] at h; subst h; intro i; simp
 | succ k ih =>
   simp only [lowN] at h
   cases hk : lowN x k with
   | none => rw [hk] at h; cases h
   | some m =>
     rw [hk] at h
     cases he : lowE x k with
     | none => rw [he] at h; cases h
     | some w =>
       rw [he] at h
       injection h with h
       subst h
       exact (ih hk).app (W32.of fun y hy => by rw [List.mem_singleton] at hy; exact hy ▸ lowE_lt hx he)
/-- The code of a lifted form. -/
def lowF (x : Lf) : Option (List UInt8) :=
 if 16384 < x.ws.length ∨ x.ms.length ≠ x.ws.length then none
 else match lowN x x.ws.length with
   | some l => if liftR (bytesF l) = x then some (bytesF l) else none
   | none => none
def lowB (x : Lf) : List UInt8 := (lowF x).getD []
def lowC (x : Lf) : Int := if (lowF x).isSome then 0 else 30
theorem low_no {x : Lf} (h : lowF x = none) : lowB x = [] ∧ lowC x = 30 := by
 unfold lowB lowC
 rw [h]
 exact ⟨rfl, rfl⟩
theorem low_yes {x : Lf} {b : List UInt8} (h : lowF x = some b) : lowB x = b ∧ lowC x = 0 := by
 unfold lowB lowC
 rw [h]
 exact ⟨rfl, rfl⟩
theorem lowF_form {x : Lf} (h : 16384 < x.ws.length ∨ x.ms.length ≠ x.ws.length) : lowF x = none := by unfold lowF; rw [if_pos h]
theorem lowF_word {x : Lf} {k : Nat} (hk : k < x.ws.length) (h : lowE x k = none) : lowF x = none := by
 unfold lowF
 split
 · rfl
 · rw [lowN_none h hk]
theorem lowF_all {x : Lf} {l : List Nat} (h1 : x.ws.length ≤ 16384) (h2 : x.ms.length = x.ws.length) (h : lowN x x.ws.length = some l) : lowF x = if liftR (bytesF l) = x then some (bytesF l) else none := by
 unfold lowF
 rw [if_neg (by omega), h]
theorem code_bytes {l : List Nat} (h : l.length ≤ 16384) : codeB (bytesF l) := by
 unfold codeB
 rw [bytesF_len]
 omega
theorem encR_some {x : Ins} {t : Int} (h : (encR x t).2 = 0) : encF x t = some (encR x t).1 := by
 unfold encR at h ⊢
 cases he : encF x t with
 | none => rw [he] at h; cases h
 | some w => rfl
theorem encR_none {x : Ins} {t : Int} (h : (encR x t).2 ≠ 0) : encF x t = none := by
 unfold encR at h
 cases he : encF x t with
 | none => rfl
 | some w => rw [he] at h; exact absurd rfl h
theorem encR_lt {x : Ins} {t : Int} : (encR x t).1 < 4294967296 := by
 unfold encR
 cases he : encF x t with
 | none => decide
 | some w => exact (encF_some he).1
theorem lowE_plain {x : Lf} {k : Nat} (h : x.ms.getD k false = false) : lowE x k = some (x.ws.getD k 0) := by
 unfold lowE
 rw [if_neg (by rw [h]; decide)]
theorem lowE_mark {x : Lf} {k : Nat} (h : x.ms.getD k false = true) : lowE x k = lowM (x.ws.getD k 0) x.ls k := by
 unfold lowE
 rw [if_pos h]
theorem lowM_bad {w : Nat} {ls : List Int} {i : Nat} (h : unnO w < 5 ∨ 8 < unnO w ∨ ls.length ≤ unnN w) : lowM w ls i = none := by unfold lowM; rw [if_pos h]
theorem lowM_good {w : Nat} {ls : List Int} {i : Nat} (h5 : 5 ≤ unnO w) (h8 : unnO w ≤ 8) (h : unnN w < ls.length) : lowM w ls i = encF (insT (unnO w) (unnA w) (ls.getD (unnN w) 0)) (4 * (i : Int)) := by
 unfold lowM
 rw [if_neg (by omega)]
theorem unnA_lt (w : Nat) : unnA w < 256 := by
 unfold unnA
 split <;> omega
theorem unnN_le (w : Nat) : unnN w ≤ w := Nat.mod_le _ _
theorem row_next (l ws : List Nat) {k : Nat} (hl : l.length = k) (hk : k < ws.length) (w : Nat) : (l ++ ws.drop k).set k w = l ++ [w] ++ ws.drop (k + 1) := by
 rw [List.drop_eq_getElem_cons hk, List.append_assoc]
 conv => lhs; arg 2; rw [← hl]
 rw [set_at]
 rfl
theorem row_same (l ws : List Nat) {k : Nat} (hk : k < ws.length) : l ++ ws.drop k = l ++ [ws.getD k 0] ++ ws.drop (k + 1) := by
 rw [List.drop_eq_getElem_cons hk, List.append_assoc]
 simp [hk]
theorem row_at (l ws : List Nat) {k : Nat} (hl : l.length = k) : (l ++ ws.drop k).getD k 0 = ws.getD k 0 := by
 rw [getD_app_right _ _ _ (show k = l.length + 0 by omega), getD_drop, Nat.add_zero]
end Go.Sl
end
/-
  The library's Equal and Clone; equal lifted forms.
-/
section
namespace Go.Proofs.YtbkmahjhhncfcaaGreat
open Go.Sl

theorem clone32_c (A : Option Addr) (n c : Nat) (xs : List Value) (hx : ∀ v ∈ xs, v.oneCell' = true) (hl : xs.length = n) (hn : n ≤ 1000000) :
   Ctr X 93 [.slice A n c] [Rd A xs] [] (fun v R' H' => ∃ A' c', v = .slice A' n c' ∧ R' = [] ∧ H' = [Own 73 1 A' n c' xs]) := by
 refine Ctr.of (X := X) (fn := Tryz.f93) Tryz.func93 rfl (by kernel_rfl) rfl ?_
 intro β
 refine C.seq (C.region ?_); refine Lpu rfl rfl ?_; refine L.nil (QE.seq (C.seq (C.seq (C.region ?_)))); refine Lpu rfl rfl ?_; refine L.step (Ev.eqNil rfl rfl rfl rfl) rfl ?_; refine L.nil (QE.seq ?_)
 refine C.condB 4 rfl (fun hc4 => ?_) (fun hc4 => ?_)
 ·
  refine C.seq (C.region ?_); refine Lpu rfl rfl ?_; refine L.nil (QE.seq (C.ret (QE.tR ?_)))
  obtain rfl : A = none := by simpa using hc4
  refine QE.rdNone 0 rfl (fun h0 => ?_)
  subst h0
  subst hl
  refine QE.nil_own 73 1 ?_; refine QE.ret (js := []) (hs := [0]) (vs := [_]) rfl ⟨rfl, trivial⟩ (by decide) ?_
  exact ⟨none, 0, rfl, rfl, rfl⟩
 ·
  refine C.skip (QE.seq (C.seq (C.region ?_)))
  refine L.lit rfl rfl rfl rfl rfl (by rfl) (by rfl) (by rfl) rfl rfl (fun A5 => ?_)
  refine Lpu rfl rfl ?_
  refine L.append (j := 0) rfl rfl rfl rfl (by decide) rfl rfl rfl rfl (Src.r 0 rfl) (by rw [hl]; exact (Nat.mul_one _).symm) hx (by omega) (by show _ * 4 ≤ _; omega) rfl (fun A7 cc7 => ?_)
  refine Lpu rfl rfl ?_; refine L.nil (QE.seq (C.ret ?_)); refine QE.ret (js := []) (hs := [0]) (vs := [_]) rfl ⟨rfl, trivial⟩ (by decide) ?_
  exact ⟨A7, cc7, by simp only [Nat.zero_add]; rfl, rfl, by simp only [sel, Nat.zero_add, List.nil_append]; rfl⟩

theorem eq32_c (A B : Option Addr) (c d : Nat) (xs ys : List Nat) (hx : xs.length ≤ 9223372036854775806) :
   Ctr X 113 [.slice A xs.length c, .slice B ys.length d] [Rd A (N32 xs), Rd B (N32 ys)] [] (fun v R' H' => v = .bool (xs == ys) ∧ R' = [] ∧ H' = []) := by
 refine Ctr.of (X := X) (fn := Tryz.f113) Tryz.func113 rfl (by kernel_rfl) rfl ?_
 intro β
 refine C.seq (C.region ?_); refine Lpu rfl rfl ?_; refine L.nil (QE.seq (C.seq (C.seq (C.region ?_)))); refine Lpu rfl rfl ?_; refine Lpu rfl rfl ?_; refine Lpu rfl rfl ?_; refine Lpu rfl rfl ?_; refine Lpu rfl rfl ?_; refine L.nil (QE.seq ?_)
 refine C.condB 10 rfl (fun hc10 => ?_) (fun hc10 => ?_)
 ·
  replace hc10 := b_ne hc10
  refine C.seq (C.region ?_); refine Lpu rfl rfl ?_; refine L.nil (QE.seq (C.ret (QE.tR ?_))); refine QE.ret (js := []) (hs := []) (vs := [_]) rfl ⟨rfl, trivial⟩ (by decide) ?_
  refine ⟨congrArg Value.bool ?_, rfl, rfl⟩
  rw [eq_comm, beq_eq_false_iff_ne]
  intro h
  subst h
  exact hc10 rfl
 ·
  replace hc10 := b_eq hc10
  refine C.skip (QE.seq (C.seq (C.seq (C.region ?_)))); refine Lpu rfl rfl ?_; refine Lpu rfl rfl ?_; refine Lpu rfl rfl ?_; refine L.nil (QE.seq (C.block ?_)); refine C.loop (fun k : Nat => [(0, .slice A xs.length c), (1, .slice B ys.length d), (12, .int .i64 (xs.length : Int)), (13, .int .i64 (k : Int))]) (fun k : Nat => [Rd A (N32 xs), Rd B (N32 ys)]) (fun k : Nat => []) (fun k : Nat => k ≤ xs.length ∧ xs.take k = ys.take k) (fun k : Nat => xs.length - k) 0 ⟨by omega, by simp⟩ (by exact Le.mk' (rs := [0, 1]) (hs := []) ⟨rfl, rfl, rfl, rfl, trivial⟩ ⟨rfl, rfl, trivial⟩ trivial (by decide)) ?_
  rintro k ⟨hk, htk⟩
  refine C.seq (C.region ?_); refine Lpu rfl rfl ?_; refine L.nil (QE.seq (C.seq ?_))
  refine C.condB 14 rfl (fun hc14 => ?_) (fun hc14 => ?_)
  ·
   replace hc14 := of_decide_eq_true hc14
   refine C.skip (QE.seq (C.seq (C.block (C.seq (C.region ?_))))); refine Lpu rfl rfl ?_; refine Lpu rfl rfl ?_; refine L.nil (QE.seq (C.seq ?_)); refine C.regionQ (by kernel_rfl) ?_; refine LQ.step (Ev.pure rfl) rfl ?_; refine LQ.step (Ev.pure rfl) rfl ?_; refine LQ.step (Ev.idx1 (k := k) rfl rfl rfl rfl rfl rfl rfl (by omega) (Src.r 0 rfl) (by rw [N32_len]; omega)) rfl ?_; refine LQ.step (Ev.load rfl rfl rfl (Src.r 0 rfl) (N32_get (by omega))) rfl ?_; refine LQ.step (Ev.pure rfl) rfl ?_; refine LQ.step (Ev.pure rfl) rfl ?_; refine LQ.step (Ev.idx1 (k := k) rfl rfl rfl rfl rfl rfl rfl (by omega) (Src.r 1 rfl) (by rw [N32_len]; omega)) rfl ?_; refine LQ.step (Ev.load rfl rfl rfl (Src.r 1 rfl) (N32_get (by omega))) rfl ?_; refine LQ.step (Ev.pure rfl) rfl ?_; refine LQ.nil ?_; refine QE.seq ?_
   refine C.condB 24 rfl (fun hc24 => ?_) (fun hc24 => ?_)
   ·
    replace hc24 := b_ne hc24
    refine C.seq (C.region ?_); refine Lpu rfl rfl ?_; refine L.nil (QE.seq (C.ret (QE.bR (QE.tR (QE.tR (QE.bR (QE.tR ?_))))))); refine QE.ret (js := []) (hs := []) (vs := [_]) rfl ⟨rfl, trivial⟩ (by decide) ?_
    refine ⟨congrArg Value.bool ?_, rfl, rfl⟩
    rw [eq_comm, beq_eq_false_iff_ne]
    intro h
    subst h
    exact hc24 rfl
   ·
    replace hc24 := b_eq hc24
    refine C.skip ?_; refine QE.blkN ?_; refine QE.seq (C.region ?_); refine L.step (Ev.add rfl rfl (by omega) (by omega)) rfl ?_; refine Lpu rfl rfl ?_; refine L.nil ?_
    refine QE.round (k + 1) ?_ (by omega) (by exact Le.mk' (rs := [0, 1]) (hs := []) ⟨rfl, rfl, rfl, rfl, trivial⟩ ⟨rfl, rfl, trivial⟩ trivial (by decide))
    · refine ⟨by omega, ?_⟩
      rw [take_snoc' xs 0 k (by omega), take_snoc' ys 0 k (by omega), htk, Int.ofNat_inj.1 hc24]
  ·
   replace hc14 := of_decide_eq_false hc14
   refine C.exit ?_; refine QE.tX ?_; refine QE.tX ?_; refine QE.blk ?_; refine QE.seq (C.seq (C.region ?_)); refine Lpu rfl rfl ?_; refine L.nil (QE.seq (C.ret ?_)); refine QE.ret (js := []) (hs := []) (vs := [_]) rfl ⟨rfl, trivial⟩ (by decide) ?_
   refine ⟨congrArg Value.bool ?_, rfl, rfl⟩
   obtain rfl : k = xs.length := by omega
   rw [List.take_of_length_le (Nat.le_refl _), List.take_of_length_le (by omega)] at htk
   rw [eq_comm, beq_iff_eq]
   exact htk

theorem eqI_c (A B : Option Addr) (c d : Nat) (xs ys : List Int) (hx : xs.length ≤ 9223372036854775806) :
   Ctr X 115 [.slice A xs.length c, .slice B ys.length d] [Rd A (I64 xs), Rd B (I64 ys)] [] (fun v R' H' => v = .bool (xs == ys) ∧ R' = [] ∧ H' = []) := by
 refine Ctr.of (X := X) (fn := Tryz.f115) Tryz.func115 rfl (by kernel_rfl) rfl ?_
 intro β
 refine C.seq (C.region ?_); refine Lpu rfl rfl ?_; refine L.nil (QE.seq (C.seq (C.seq (C.region ?_)))); refine Lpu rfl rfl ?_; refine Lpu rfl rfl ?_; refine Lpu rfl rfl ?_; refine Lpu rfl rfl ?_; refine Lpu rfl rfl ?_; refine L.nil (QE.seq ?_)
 refine C.condB 10 rfl (fun hc10 => ?_) (fun hc10 => ?_)
 ·
  replace hc10 := b_ne hc10
  refine C.seq (C.region ?_); refine Lpu rfl rfl ?_; refine L.nil (QE.seq (C.ret (QE.tR ?_))); refine QE.ret (js := []) (hs := []) (vs := [_]) rfl ⟨rfl, trivial⟩ (by decide) ?_
  refine ⟨congrArg Value.bool ?_, rfl, rfl⟩
  rw [eq_comm, beq_eq_false_iff_ne]
  intro h
  subst h
  exact hc10 rfl
 ·
  replace hc10 := b_eq hc10
  refine C.skip (QE.seq (C.seq (C.seq (C.region ?_)))); refine Lpu rfl rfl ?_; refine Lpu rfl rfl ?_; refine Lpu rfl rfl ?_; refine L.nil (QE.seq (C.block ?_)); refine C.loop (fun k : Nat => [(0, .slice A xs.length c), (1, .slice B ys.length d), (12, .int .i64 (xs.length : Int)), (13, .int .i64 (k : Int))]) (fun k : Nat => [Rd A (I64 xs), Rd B (I64 ys)]) (fun k : Nat => []) (fun k : Nat => k ≤ xs.length ∧ xs.take k = ys.take k) (fun k : Nat => xs.length - k) 0 ⟨by omega, by simp⟩ (by exact Le.mk' (rs := [0, 1]) (hs := []) ⟨rfl, rfl, rfl, rfl, trivial⟩ ⟨rfl, rfl, trivial⟩ trivial (by decide)) ?_
  rintro k ⟨hk, htk⟩
  refine C.seq (C.region ?_); refine Lpu rfl rfl ?_; refine L.nil (QE.seq (C.seq ?_))
  refine C.condB 14 rfl (fun hc14 => ?_) (fun hc14 => ?_)
  ·
   replace hc14 := of_decide_eq_true hc14
   refine C.skip (QE.seq (C.seq (C.block (C.seq (C.region ?_))))); refine Lpu rfl rfl ?_; refine Lpu rfl rfl ?_; refine L.nil (QE.seq (C.seq ?_)); refine C.regionQ (by kernel_rfl) ?_; refine LQ.step (Ev.pure rfl) rfl ?_; refine LQ.step (Ev.pure rfl) rfl ?_; refine LQ.step (Ev.idx1 (k := k) rfl rfl rfl rfl rfl rfl rfl (by omega) (Src.r 0 rfl) (by rw [I64_len]; omega)) rfl ?_; refine LQ.step (Ev.load rfl rfl rfl (Src.r 0 rfl) (I64_get (by omega))) rfl ?_; refine LQ.step (Ev.pure rfl) rfl ?_; refine LQ.step (Ev.pure rfl) rfl ?_; refine LQ.step (Ev.idx1 (k := k) rfl rfl rfl rfl rfl rfl rfl (by omega) (Src.r 1 rfl) (by rw [I64_len]; omega)) rfl ?_; refine LQ.step (Ev.load rfl rfl rfl (Src.r 1 rfl) (I64_get (by omega))) rfl ?_; refine LQ.step (Ev.pure rfl) rfl ?_; refine LQ.nil ?_; refine QE.seq ?_
   refine C.condB 24 rfl (fun hc24 => ?_) (fun hc24 => ?_)
   ·
    replace hc24 := b_ne hc24
    refine C.seq (C.region ?_); refine Lpu rfl rfl ?_; refine L.nil (QE.seq (C.ret (QE.bR (QE.tR (QE.tR (QE.bR (QE.tR ?_))))))); refine QE.ret (js := []) (hs := []) (vs := [_]) rfl ⟨rfl, trivial⟩ (by decide) ?_
    refine ⟨congrArg Value.bool ?_, rfl, rfl⟩
    rw [eq_comm, beq_eq_false_iff_ne]
    intro h
    subst h
    exact hc24 rfl
   ·
    replace hc24 := b_eq hc24
    refine C.skip ?_; refine QE.blkN ?_; refine QE.seq (C.region ?_); refine L.step (Ev.add rfl rfl (by omega) (by omega)) rfl ?_; refine Lpu rfl rfl ?_; refine L.nil ?_
    refine QE.round (k + 1) ?_ (by omega) (by exact Le.mk' (rs := [0, 1]) (hs := []) ⟨rfl, rfl, rfl, rfl, trivial⟩ ⟨rfl, rfl, trivial⟩ trivial (by decide))
    · refine ⟨by omega, ?_⟩
      rw [take_snoc' xs 0 k (by omega), take_snoc' ys 0 k (by omega), htk, hc24]
  ·
   replace hc14 := of_decide_eq_false hc14
   refine C.exit ?_; refine QE.tX ?_; refine QE.tX ?_; refine QE.blk ?_; refine QE.seq (C.seq (C.region ?_)); refine Lpu rfl rfl ?_; refine L.nil (QE.seq (C.ret ?_)); refine QE.ret (js := []) (hs := []) (vs := [_]) rfl ⟨rfl, trivial⟩ (by decide) ?_
   refine ⟨congrArg Value.bool ?_, rfl, rfl⟩
   obtain rfl : k = xs.length := by omega
   rw [List.take_of_length_le (Nat.le_refl _), List.take_of_length_le (by omega)] at htk
   rw [eq_comm, beq_iff_eq]
   exact htk

theorem eqB_c (A B : Option Addr) (c d : Nat) (xs ys : List Bool) (hx : xs.length ≤ 9223372036854775806) :
   Ctr X 114 [.slice A xs.length c, .slice B ys.length d] [Rd A (Bs xs), Rd B (Bs ys)] [] (fun v R' H' => v = .bool (xs == ys) ∧ R' = [] ∧ H' = []) := by
 refine Ctr.of (X := X) (fn := Tryz.f114) Tryz.func114 rfl (by kernel_rfl) rfl ?_
 intro β
 refine C.seq (C.region ?_); refine Lpu rfl rfl ?_; refine L.nil (QE.seq (C.seq (C.seq (C.region ?_)))); refine Lpu rfl rfl ?_; refine Lpu rfl rfl ?_; refine Lpu rfl rfl ?_; refine Lpu rfl rfl ?_; refine Lpu rfl rfl ?_; refine L.nil (QE.seq ?_)
 refine C.condB 10 rfl (fun hc10 => ?_) (fun hc10 => ?_)
 ·
  replace hc10 := b_ne hc10
  refine C.seq (C.region ?_); refine Lpu rfl rfl ?_; refine L.nil (QE.seq (C.ret (QE.tR ?_))); refine QE.ret (js := []) (hs := []) (vs := [_]) rfl ⟨rfl, trivial⟩ (by decide) ?_
  refine ⟨congrArg Value.bool ?_, rfl, rfl⟩
  rw [eq_comm, beq_eq_false_iff_ne]
  intro h
  subst h
  exact hc10 rfl
 ·
  replace hc10 := b_eq hc10
  refine C.skip (QE.seq (C.seq (C.seq (C.region ?_)))); refine Lpu rfl rfl ?_; refine Lpu rfl rfl ?_; refine Lpu rfl rfl ?_; refine L.nil (QE.seq (C.block ?_)); refine C.loop (fun k : Nat => [(0, .slice A xs.length c), (1, .slice B ys.length d), (12, .int .i64 (xs.length : Int)), (13, .int .i64 (k : Int))]) (fun k : Nat => [Rd A (Bs xs), Rd B (Bs ys)]) (fun k : Nat => []) (fun k : Nat => k ≤ xs.length ∧ xs.take k = ys.take k) (fun k : Nat => xs.length - k) 0 ⟨by omega, by simp⟩ (by exact Le.mk' (rs := [0, 1]) (hs := []) ⟨rfl, rfl, rfl, rfl, trivial⟩ ⟨rfl, rfl, trivial⟩ trivial (by decide)) ?_
  rintro k ⟨hk, htk⟩
  refine C.seq (C.region ?_); refine Lpu rfl rfl ?_; refine L.nil (QE.seq (C.seq ?_))
  refine C.condB 14 rfl (fun hc14 => ?_) (fun hc14 => ?_)
  ·
   replace hc14 := of_decide_eq_true hc14
   refine C.skip (QE.seq (C.seq (C.block (C.seq (C.region ?_))))); refine Lpu rfl rfl ?_; refine Lpu rfl rfl ?_; refine L.nil (QE.seq (C.seq ?_)); refine C.regionQ (by kernel_rfl) ?_; refine LQ.step (Ev.pure rfl) rfl ?_; refine LQ.step (Ev.pure rfl) rfl ?_; refine LQ.step (Ev.idx1 (k := k) rfl rfl rfl rfl rfl rfl rfl (by omega) (Src.r 0 rfl) (by rw [Bs_len]; omega)) rfl ?_; refine LQ.step (Ev.load rfl rfl rfl (Src.r 0 rfl) (Bs_get (by omega))) rfl ?_; refine LQ.step (Ev.pure rfl) rfl ?_; refine LQ.step (Ev.pure rfl) rfl ?_; refine LQ.step (Ev.idx1 (k := k) rfl rfl rfl rfl rfl rfl rfl (by omega) (Src.r 1 rfl) (by rw [Bs_len]; omega)) rfl ?_; refine LQ.step (Ev.load rfl rfl rfl (Src.r 1 rfl) (Bs_get (by omega))) rfl ?_; refine LQ.step (Ev.neBool rfl rfl rfl rfl) rfl ?_; refine LQ.nil ?_; refine QE.seq ?_
   refine C.condB 24 rfl (fun hc24 => ?_) (fun hc24 => ?_)
   ·
    refine C.seq (C.region ?_); refine Lpu rfl rfl ?_; refine L.nil (QE.seq (C.ret (QE.bR (QE.tR (QE.tR (QE.bR (QE.tR ?_))))))); refine QE.ret (js := []) (hs := []) (vs := [_]) rfl ⟨rfl, trivial⟩ (by decide) ?_
    refine ⟨congrArg Value.bool ?_, rfl, rfl⟩
    rw [eq_comm, beq_eq_false_iff_ne]
    intro h
    subst h
    exact (bne_iff_ne.1 hc24) rfl
   ·
    refine C.skip ?_; refine QE.blkN ?_; refine QE.seq (C.region ?_); refine L.step (Ev.add rfl rfl (by omega) (by omega)) rfl ?_; refine Lpu rfl rfl ?_; refine L.nil ?_
    refine QE.round (k + 1) ?_ (by omega) (by exact Le.mk' (rs := [0, 1]) (hs := []) ⟨rfl, rfl, rfl, rfl, trivial⟩ ⟨rfl, rfl, trivial⟩ trivial (by decide))
    · refine ⟨by omega, ?_⟩
      rw [take_snoc' xs false k (by omega), take_snoc' ys false k (by omega), htk, bne_eq_false_iff_eq.1 hc24]
  ·
   replace hc14 := of_decide_eq_false hc14
   refine C.exit ?_; refine QE.tX ?_; refine QE.tX ?_; refine QE.blk ?_; refine QE.seq (C.seq (C.region ?_)); refine Lpu rfl rfl ?_; refine L.nil (QE.seq (C.ret ?_)); refine QE.ret (js := []) (hs := []) (vs := [_]) rfl ⟨rfl, trivial⟩ (by decide) ?_
   refine ⟨congrArg Value.bool ?_, rfl, rfl⟩
   obtain rfl : k = xs.length := by omega
   rw [List.take_of_length_le (Nat.le_refl _), List.take_of_length_le (by omega)] at htk
   rw [eq_comm, beq_iff_eq]
   exact htk

theorem equal_c (W1 M1 L1 : Option Addr) (w1 m1 l1 : Nat) (a : Lf) (h1 : a.ws.length ≤ 1000000 ∧ a.ms.length ≤ 1000000 ∧ a.ls.length ≤ 1000000) (W2 M2 L2 : Option Addr) (w2 m2 l2 : Nat) (b : Lf) (_h2 : b.ws.length ≤ 1000000 ∧ b.ms.length ≤ 1000000 ∧ b.ls.length ≤ 1000000) :
   Ctr X 95 [.agg (List.toArray [.slice W1 a.ws.length w1, .slice M1 a.ms.length m1, .slice L1 a.ls.length l1]), .agg (List.toArray [.slice W2 b.ws.length w2, .slice M2 b.ms.length m2, .slice L2 b.ls.length l2])] [Rd W1 (N32 a.ws), Rd M1 (Bs a.ms), Rd L1 (I64 a.ls), Rd W2 (N32 b.ws), Rd M2 (Bs b.ms), Rd L2 (I64 b.ls)] [] (fun v R' H' => v = .bool (decide (a = b)) ∧ R' = [] ∧ H' = []) := by
 refine Ctr.of (X := X) (fn := Tryz.f95) Tryz.func95 rfl (by kernel_rfl) rfl ?_
 intro β
 refine C.seq (C.region ?_)
 refine L.boxA rfl rfl (fun A2 => ?_)
 refine L.boxA rfl rfl (fun A3 => ?_)
 refine Lpu rfl rfl ?_; refine L.nil (QE.seq (C.seq ?_)); refine C.freeze 0 rfl [1] (by decide) (by decide) ?_; refine C.norm (H' := [_]) [0] ⟨rfl, trivial⟩ (by decide) ?_; refine C.freeze 0 rfl [] (by decide) (by decide) ?_; refine C.region ?_; refine L.step (Ev.fieldAddr rfl rfl rfl rfl rfl rfl (Src.r 1 rfl) (Nat.zero_lt_succ _) rfl) rfl ?_; refine L.step (Ev.load rfl rfl rfl (Src.r 1 rfl) rfl) rfl ?_; refine L.step (Ev.fieldAddr rfl rfl rfl rfl rfl rfl (Src.r 0 rfl) (Nat.zero_lt_succ _) rfl) rfl ?_; refine L.step (Ev.load rfl rfl rfl (Src.r 0 rfl) rfl) rfl ?_; refine L.call (js := []) (js' := []) (eq32_c W1 W2 w1 w2 a.ws b.ws (by omega)) rfl rfl rfl (by decide) (Hq [2, 5] rfl) rfl ?_
 rintro _ _ _ ⟨rfl, rfl, rfl⟩
 refine Lpu rfl rfl ?_
 refine L.bool 10 rfl (fun hg10 => ?_) (fun hg10 => ?_)
 ·
  refine L.yes rfl ?_; refine L.step (Ev.fieldAddr rfl rfl rfl rfl rfl rfl (Src.r 1 rfl) (Nat.zero_lt_succ _) rfl) rfl ?_; refine L.yes rfl ?_; refine L.step (Ev.load rfl rfl rfl (Src.r 1 rfl) rfl) rfl ?_; refine L.yes rfl ?_; refine L.step (Ev.fieldAddr rfl rfl rfl rfl rfl rfl (Src.r 0 rfl) (Nat.zero_lt_succ _) rfl) rfl ?_; refine L.yes rfl ?_; refine L.step (Ev.load rfl rfl rfl (Src.r 0 rfl) rfl) rfl ?_; refine L.yes rfl ?_; refine L.call (js := []) (js' := []) (eqB_c M1 M2 m1 m2 a.ms b.ms (by omega)) rfl rfl rfl (by decide) (Hq [3, 6] rfl) rfl ?_
  rintro _ _ _ ⟨rfl, rfl, rfl⟩
  refine Lpu rfl rfl ?_; refine Lpu rfl rfl ?_
  refine L.bool 17 rfl (fun hg17 => ?_) (fun hg17 => ?_)
  ·
   refine L.yes rfl ?_; refine L.step (Ev.fieldAddr rfl rfl rfl rfl rfl rfl (Src.r 1 rfl) (Nat.zero_lt_succ _) rfl) rfl ?_; refine L.yes rfl ?_; refine L.step (Ev.load rfl rfl rfl (Src.r 1 rfl) rfl) rfl ?_; refine L.yes rfl ?_; refine L.step (Ev.fieldAddr rfl rfl rfl rfl rfl rfl (Src.r 0 rfl) (Nat.zero_lt_succ _) rfl) rfl ?_; refine L.yes rfl ?_; refine L.step (Ev.load rfl rfl rfl (Src.r 0 rfl) rfl) rfl ?_; refine L.yes rfl ?_; refine L.call (js := []) (js' := []) (eqI_c L1 L2 l1 l2 a.ls b.ls (by omega)) rfl rfl rfl (by decide) (Hq [4, 7] rfl) rfl ?_
   rintro _ _ _ ⟨rfl, rfl, rfl⟩
   refine Lpu rfl rfl ?_; refine Lpu rfl rfl ?_; refine L.nil (QE.seq (C.ret ?_)); refine QE.ret (js := []) (hs := []) (vs := [_]) rfl ⟨rfl, trivial⟩ (by decide) ?_
   refine ⟨congrArg Value.bool ?_, rfl, rfl⟩
   rw [← Lf.eq_and]
   rw [hg10, hg17, Bool.true_and, Bool.true_and]
  ·
   refine L.no rfl rfl rfl ?_; refine L.no rfl rfl rfl ?_; refine L.no rfl rfl rfl ?_; refine L.no rfl rfl rfl ?_; refine L.no rfl rfl rfl ?_; refine Lpu rfl rfl ?_; refine Lpu rfl rfl ?_; refine L.nil (QE.seq (C.ret ?_)); refine QE.ret (js := []) (hs := []) (vs := [_]) rfl ⟨rfl, trivial⟩ (by decide) ?_
   refine ⟨congrArg Value.bool ?_, rfl, rfl⟩
   rw [← Lf.eq_and]
   rw [hg10, hg17]; rfl
 ·
  refine L.no rfl rfl rfl ?_; refine L.no rfl rfl rfl ?_; refine L.no rfl rfl rfl ?_; refine L.no rfl rfl rfl ?_; refine L.no rfl rfl rfl ?_; refine Lpu rfl rfl ?_; refine Lpu rfl rfl ?_; refine L.no rfl rfl rfl ?_; refine L.no rfl rfl rfl ?_; refine L.no rfl rfl rfl ?_; refine L.no rfl rfl rfl ?_; refine L.no rfl rfl rfl ?_; refine Lpu rfl rfl ?_; refine Lpu rfl rfl ?_; refine L.nil (QE.seq (C.ret ?_)); refine QE.ret (js := []) (hs := []) (vs := [_]) rfl ⟨rfl, trivial⟩ (by decide) ?_
  refine ⟨congrArg Value.bool ?_, rfl, rfl⟩
  rw [← Lf.eq_and]
  rw [hg10]; rfl

end Go.Proofs.YtbkmahjhhncfcaaGreat
end
