/-
  The contracts of the clones, of Equal, asked, apply, Do and Cut of the program.
-/
import Derived.Test.YtmbjknampholjaaEWFlF
namespace Go.Proofs.Ytmbjknampholjaa
open Go.Sl

theorem copy_all {xs ys : List Value} (h : xs.length ≤ ys.length) : xs.take 0 ++ ys ++ xs.drop (0 + ys.length) = ys := by
 rw [List.take_zero, List.nil_append, Nat.zero_add, List.drop_eq_nil_of_le h, List.append_nil]
theorem clone8_c (A : Option Addr) (n c : Nat) (xs : List Value) (hx : ∀ v ∈ xs, v.oneCell' = true) (hl : xs.length = n) (hn : n ≤ 1000000) :
   Ctr X 78 [.slice A n c] [Rd A xs] [] (fun v R' H' => ∃ A' c', v = .slice A' n c' ∧ R' = [] ∧ H' = [Own 5 1 A' n c' xs]) := by
 refine Ctr.of (X := X) (fn := Try.f78) Try.func78 rfl (by kernel_rfl) rfl ?_
 intro β
 refine C.seq (C.region ?_); refine Lpu rfl rfl ?_; refine L.nil (QE.seq (C.seq (C.seq (C.region ?_)))); refine Lpu rfl rfl ?_; refine L.step (Ev.eqNil rfl rfl rfl rfl) rfl ?_; refine L.nil (QE.seq ?_)
 refine C.condB 4 rfl (fun hc4 => ?_) (fun hc4 => ?_)
 ·
  refine C.seq (C.region ?_); refine Lpu rfl rfl ?_; refine L.nil (QE.seq (C.ret (QE.tR ?_)))
  obtain rfl : A = none := by simpa using hc4
  refine QE.rdNone 0 rfl (fun h0 => ?_)
  subst h0
  subst hl
  refine QE.nil_own 5 1 ?_; refine QE.ret (js := []) (hs := [0]) (vs := [_]) rfl ⟨rfl, trivial⟩ (by decide) ?_
  exact ⟨none, 0, rfl, rfl, rfl⟩
 ·
  refine C.skip (QE.seq (C.seq (C.region ?_)))
  refine L.lit rfl rfl rfl rfl rfl (by rfl) (by rfl) (by rfl) rfl rfl (fun A5 => ?_)
  refine Lpu rfl rfl ?_
  refine L.append (j := 0) rfl rfl rfl rfl (by decide) rfl rfl rfl rfl (Src.r 0 rfl) (by rw [hl]; exact (Nat.mul_one _).symm) hx (by omega) (by show _ * 1 ≤ _; omega) rfl (fun A7 cc7 => ?_)
  refine Lpu rfl rfl ?_; refine L.nil (QE.seq (C.ret ?_)); refine QE.ret (js := []) (hs := [0]) (vs := [_]) rfl ⟨rfl, trivial⟩ (by decide) ?_
  exact ⟨A7, cc7, by simp only [Nat.zero_add]; rfl, rfl, by simp only [sel, Nat.zero_add, List.nil_append]; rfl⟩

theorem cloneD_c (A : Option Addr) (n c : Nat) (xs : List Value) (hx : ∀ v ∈ xs, v.oneCell' = true) (hl : xs.length = n) (hn : n ≤ 1000000) :
   Ctr X 72 [.slice A n c] [Rd A xs] [] (fun v R' H' => ∃ A' c', v = .slice A' n c' ∧ R' = [] ∧ H' = [Own 45 1 A' n c' xs]) := by
 refine Ctr.of (X := X) (fn := Try.f72) Try.func72 rfl (by kernel_rfl) rfl ?_
 intro β
 refine C.seq (C.region ?_); refine Lpu rfl rfl ?_; refine L.nil (QE.seq (C.seq (C.seq (C.region ?_)))); refine Lpu rfl rfl ?_; refine L.step (Ev.eqNil rfl rfl rfl rfl) rfl ?_; refine L.nil (QE.seq ?_)
 refine C.condB 4 rfl (fun hc4 => ?_) (fun hc4 => ?_)
 ·
  refine C.seq (C.region ?_); refine Lpu rfl rfl ?_; refine L.nil (QE.seq (C.ret (QE.tR ?_)))
  obtain rfl : A = none := by simpa using hc4
  refine QE.rdNone 0 rfl (fun h0 => ?_)
  subst h0
  subst hl
  refine QE.nil_own 45 1 ?_; refine QE.ret (js := []) (hs := [0]) (vs := [_]) rfl ⟨rfl, trivial⟩ (by decide) ?_
  exact ⟨none, 0, rfl, rfl, rfl⟩
 ·
  refine C.skip (QE.seq (C.seq (C.region ?_)))
  refine L.lit rfl rfl rfl rfl rfl (by rfl) (by rfl) (by rfl) rfl rfl (fun A5 => ?_)
  refine Lpu rfl rfl ?_
  refine L.append (j := 0) rfl rfl rfl rfl (by decide) rfl rfl rfl rfl (Src.r 0 rfl) (by rw [hl]; exact (Nat.mul_one _).symm) hx (by omega) (by show _ * 24 ≤ _; omega) rfl (fun A7 cc7 => ?_)
  refine Lpu rfl rfl ?_; refine L.nil (QE.seq (C.ret ?_)); refine QE.ret (js := []) (hs := [0]) (vs := [_]) rfl ⟨rfl, trivial⟩ (by decide) ?_
  exact ⟨A7, cc7, by simp only [Nat.zero_add]; rfl, rfl, by simp only [sel, Nat.zero_add, List.nil_append]; rfl⟩

theorem cloneI_c (A : Option Addr) (n c : Nat) (xs : List Value) (hx : ∀ v ∈ xs, v.oneCell' = true) (hl : xs.length = n) (hn : n ≤ 1000000) :
   Ctr X 73 [.slice A n c] [Rd A xs] [] (fun v R' H' => ∃ A' c', v = .slice A' n c' ∧ R' = [] ∧ H' = [Own 3 1 A' n c' xs]) := by
 refine Ctr.of (X := X) (fn := Try.f73) Try.func73 rfl (by kernel_rfl) rfl ?_
 intro β
 refine C.seq (C.region ?_); refine Lpu rfl rfl ?_; refine L.nil (QE.seq (C.seq (C.seq (C.region ?_)))); refine Lpu rfl rfl ?_; refine L.step (Ev.eqNil rfl rfl rfl rfl) rfl ?_; refine L.nil (QE.seq ?_)
 refine C.condB 4 rfl (fun hc4 => ?_) (fun hc4 => ?_)
 ·
  refine C.seq (C.region ?_); refine Lpu rfl rfl ?_; refine L.nil (QE.seq (C.ret (QE.tR ?_)))
  obtain rfl : A = none := by simpa using hc4
  refine QE.rdNone 0 rfl (fun h0 => ?_)
  subst h0
  subst hl
  refine QE.nil_own 3 1 ?_; refine QE.ret (js := []) (hs := [0]) (vs := [_]) rfl ⟨rfl, trivial⟩ (by decide) ?_
  exact ⟨none, 0, rfl, rfl, rfl⟩
 ·
  refine C.skip (QE.seq (C.seq (C.region ?_)))
  refine L.lit rfl rfl rfl rfl rfl (by rfl) (by rfl) (by rfl) rfl rfl (fun A5 => ?_)
  refine Lpu rfl rfl ?_
  refine L.append (j := 0) rfl rfl rfl rfl (by decide) rfl rfl rfl rfl (Src.r 0 rfl) (by rw [hl]; exact (Nat.mul_one _).symm) hx (by omega) (by show _ * 8 ≤ _; omega) rfl (fun A7 cc7 => ?_)
  refine Lpu rfl rfl ?_; refine L.nil (QE.seq (C.ret ?_)); refine QE.ret (js := []) (hs := [0]) (vs := [_]) rfl ⟨rfl, trivial⟩ (by decide) ?_
  exact ⟨A7, cc7, by simp only [Nat.zero_add]; rfl, rfl, by simp only [sel, Nat.zero_add, List.nil_append]; rfl⟩

theorem cloneB_c (A : Option Addr) (n c : Nat) (xs : List Value) (hx : ∀ v ∈ xs, v.oneCell' = true) (hl : xs.length = n) (hn : n ≤ 1000000) :
   Ctr X 74 [.slice A n c] [Rd A xs] [] (fun v R' H' => ∃ A' c', v = .slice A' n c' ∧ R' = [] ∧ H' = [Own 4 1 A' n c' xs]) := by
 refine Ctr.of (X := X) (fn := Try.f74) Try.func74 rfl (by kernel_rfl) rfl ?_
 intro β
 refine C.seq (C.region ?_); refine Lpu rfl rfl ?_; refine L.nil (QE.seq (C.seq (C.seq (C.region ?_)))); refine Lpu rfl rfl ?_; refine L.step (Ev.eqNil rfl rfl rfl rfl) rfl ?_; refine L.nil (QE.seq ?_)
 refine C.condB 4 rfl (fun hc4 => ?_) (fun hc4 => ?_)
 ·
  refine C.seq (C.region ?_); refine Lpu rfl rfl ?_; refine L.nil (QE.seq (C.ret (QE.tR ?_)))
  obtain rfl : A = none := by simpa using hc4
  refine QE.rdNone 0 rfl (fun h0 => ?_)
  subst h0
  subst hl
  refine QE.nil_own 4 1 ?_; refine QE.ret (js := []) (hs := [0]) (vs := [_]) rfl ⟨rfl, trivial⟩ (by decide) ?_
  exact ⟨none, 0, rfl, rfl, rfl⟩
 ·
  refine C.skip (QE.seq (C.seq (C.region ?_)))
  refine L.lit rfl rfl rfl rfl rfl (by rfl) (by rfl) (by rfl) rfl rfl (fun A5 => ?_)
  refine Lpu rfl rfl ?_
  refine L.append (j := 0) rfl rfl rfl rfl (by decide) rfl rfl rfl rfl (Src.r 0 rfl) (by rw [hl]; exact (Nat.mul_one _).symm) hx (by omega) (by show _ * 1 ≤ _; omega) rfl (fun A7 cc7 => ?_)
  refine Lpu rfl rfl ?_; refine L.nil (QE.seq (C.ret ?_)); refine QE.ret (js := []) (hs := [0]) (vs := [_]) rfl ⟨rfl, trivial⟩ (by decide) ?_
  exact ⟨A7, cc7, by simp only [Nat.zero_add]; rfl, rfl, by simp only [sel, Nat.zero_add, List.nil_append]; rfl⟩

theorem equal_c (A B : Option Addr) (c d : Nat) (xs ys : List UInt8) :
   Ctr X 66 [.slice A xs.length c, .slice B ys.length d] [Rd A (U8 xs), Rd B (U8 ys)] [] (fun v R' H' => v = .bool (xs == ys) ∧ R' = [] ∧ H' = []) := by
 refine Ctr.of (X := X) (fn := Try.f66) Try.func66 rfl (by kernel_rfl) rfl ?_
 intro β
 refine C.seq (C.region ?_); refine Lpu rfl rfl ?_; refine L.nil (QE.seq (C.seq (C.region ?_))); refine Lpu rfl rfl ?_; refine L.step (Ev.toStr rfl rfl rfl rfl rfl rfl rfl (Src.r 0 rfl)) rfl ?_; refine Lpu rfl rfl ?_; refine L.step (Ev.toStr rfl rfl rfl rfl rfl rfl rfl (Src.r 1 rfl)) rfl ?_; refine L.step (Ev.eqStr rfl rfl) rfl ?_; refine Lpu rfl rfl ?_; refine L.nil (QE.seq (C.ret ?_)); refine QE.ret (js := []) (hs := []) (vs := [_]) rfl ⟨rfl, trivial⟩ (by decide) ?_
 refine ⟨congrArg Value.bool ?_, rfl, rfl⟩
 unfold bstr
 rw [ByteArray.toList_mk, ByteArray.toList_mk]

theorem asked1R_c (Aw XA : Option Addr) (ws zs : List Value) (i : Int) (o : UInt8) :
   Ctr X 81 [.int .i64 i, .int .u8 (o.toNat : Int)] [Rd Aw ws, Rd XA zs] [] (fun v R' H' => v = .int .u8 255 ∧ R' = [] ∧ H' = []) := by
 refine Ctr.of (X := X) (fn := Try.f81) Try.func81 rfl (by kernel_rfl) rfl ?_
 intro β
 refine C.seq (C.region ?_); refine Lpu rfl rfl ?_; refine L.nil (QE.seq (C.seq (C.region ?_))); refine Lpu rfl rfl ?_; refine L.nil (QE.seq (C.ret ?_)); refine QE.ret (js := []) (hs := []) (vs := [_]) rfl ⟨rfl, trivial⟩ (by decide) ?_
 exact ⟨rfl, rfl, rfl⟩

theorem asked_c (x : Fo) (XA : Option Addr) (xc : Nat) (hk : x.kind = 1 ∨ x.kind = 2) (ha : x.kind = 2 → 0 ≤ x.at_ ∧ x.at_ ≤ 1000000) (hxl : x.kind = 2 → x.data.length ≤ 1000000) :
   Ctr X 71 [.agg (List.toArray [.int .i64 x.kind, .int .i64 x.sec, .int .i64 x.at_, .slice XA x.data.length xc])] [] [] (fun v R' H' => ∃ fid cap Aw ws, v = .func (.func fid) #[] cap ∧ R' = [Rd Aw ws] ∧ H' = [] ∧ (∀ (i : Nat) (o : UInt8), i ≤ 1000000 → Ctr X fid ([.int .i64 (i : Int), .int .u8 (o.toNat : Int)] ++ cap.toList) [Rd Aw ws, Rd XA (U8 x.data)] [] (fun v R' H' => v = .int .u8 ((askB x i o).toNat : Int) ∧ R' = [] ∧ H' = []))) := by
 refine Ctr.of (X := X) (fn := Try.f71) Try.func71 rfl (by kernel_rfl) rfl ?_
 intro β
 refine C.seq (C.region ?_)
 refine L.boxA rfl rfl (fun A1 => ?_)
 refine Lpu rfl rfl ?_; refine L.nil (QE.seq (C.seq (C.seq ?_))); refine C.freeze 0 rfl [] (by decide) (by decide) ?_; refine C.region ?_; refine L.step (Ev.fieldAddr rfl rfl rfl rfl rfl rfl (Src.r 0 rfl) (Nat.zero_lt_succ _) rfl) rfl ?_; refine L.step (Ev.load rfl rfl rfl (Src.r 0 rfl) rfl) rfl ?_; refine Lpu rfl rfl ?_; refine L.nil (QE.seq ?_)
 refine C.condB 5 rfl (fun hc5 => ?_) (fun hc5 => ?_)
 ·
  replace hc5 := i_eq hc5
  refine C.seq (C.region ?_); refine Lpu rfl rfl ?_; refine L.nil (QE.seq (C.ret (QE.tR ?_))); refine QE.more (r := Rd none []) (Has.nil) ?_; refine QE.ret (js := [0]) (hs := []) (vs := [_]) rfl ⟨rfl, trivial⟩ (by decide) ?_
  refine ⟨81, #[], none, [], rfl, rfl, rfl, fun i o hi => ?_⟩
  exact (asked1R_c _ _ _ _ i o).mono (fun v R' H' h => ⟨by rw [h.1, askB_1 hc5]; rfl, h.2⟩)
 ·
  replace hc5 := i_ne hc5
  refine C.skip (QE.seq (C.seq (C.region ?_))); refine Lpu rfl rfl ?_; refine Lpu rfl rfl ?_; refine L.nil (QE.seq (C.ret ?_)); refine QE.ret (js := [0]) (hs := []) (vs := [_]) rfl ⟨rfl, trivial⟩ (by decide) ?_
  refine ⟨82, #[ptrOf A1 0], A1, _, rfl, rfl, rfl, fun i o hi => ?_⟩
  exact asked2_c i o x XA A1 xc hi (ha (by omega)).1 (ha (by omega)).2 (hxl (by omega)) hc5

theorem do1R_c (Aw XA : Option Addr) (ws zs : List Value) (i : Int) :
   Ctr X 59 [.int .i64 i] [Rd Aw ws, Rd XA zs] [] (fun v R' H' => v = .int .u8 ((255 : UInt8).toNat : Int) ∧ R' = [] ∧ H' = []) := by
 refine Ctr.of (X := X) (fn := Try.f59) Try.func59 rfl (by kernel_rfl) rfl ?_
 intro β
 refine C.seq (C.region ?_); refine Lpu rfl rfl ?_; refine L.nil (QE.seq (C.seq (C.region ?_))); refine Lpu rfl rfl ?_; refine L.nil (QE.seq (C.ret ?_)); refine QE.ret (js := []) (hs := []) (vs := [_]) rfl ⟨rfl, trivial⟩ (by decide) ?_
 exact ⟨rfl, rfl, rfl⟩

end Go.Proofs.Ytmbjknampholjaa
