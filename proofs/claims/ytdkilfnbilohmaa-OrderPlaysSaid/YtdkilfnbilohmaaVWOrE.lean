/-
  The order of the reference; results held against each other.
-/
import Derived.Test.YtdkilfnbilohmaaVWOrD
import Derived.Test.YtdkilfnbilohmaaVOd
namespace Go.Proofs.Ytdkilfnbilohmaa
open Go.Sl

theorem ordered_c (LA : Option Addr) (ls : List (List Int)) (lc : Nat) (hs : List Hd) (hh : hs.length = ls.length) (hll : ls.length ≤ 9223372036854775807) (hlr : ∀ i, (ls.getD i []).length ≤ 9223372036854775807) :
   Ctr X 10 [.slice LA ls.length lc] [Rd LA (rowsV hs (J8 ls)), KidsR hs (J8 ls)] [] (fun v R' H' => ∃ (A B : Option Addr) (c d : Nat), v = .agg (List.toArray [.slice A (ordQ ls).length c, .slice B (ordH ls).length d, .int .i64 (ordE ls)]) ∧ R' = [Rd A (I64 (NI (ordQ ls))), Rd B (I64 (NI (ordH ls)))] ∧ H' = []) := by
 refine Ctr.of (X := X) (fn := Try.f10) Try.func10 rfl (by kernel_rfl) rfl ?_
 intro β
 refine C.seq (C.region ?_)
 refine L.alloc rfl rfl rfl (fun A2 => ?_)
 refine L.nil (QE.seq (C.seq (C.region ?_))); refine Lpu rfl rfl ?_; refine L.callR (js := []) (js' := [0]) (order_c LA ls lc hs hh hll hlr) rfl rfl rfl (by decide) (Hq [0, 1] rfl) rfl ?_
 rintro _ _ _ ⟨A, B, c, d, rfl, rfl, rfl⟩
 refine Lpu rfl rfl ?_; refine Lpu rfl rfl ?_; refine Lpu rfl rfl ?_; refine Lpu rfl rfl ?_; refine Lpu rfl rfl ?_; refine Lpu rfl rfl ?_; refine Lpu rfl rfl ?_; refine L.nil (QE.seq (C.seq (C.region ?_))); refine Lpu rfl rfl ?_; refine Lpu rfl rfl ?_; refine Lpu rfl rfl ?_; refine L.step (Ev.build rfl rfl rfl rfl rfl rfl rfl) rfl ?_; refine L.storeA (j := 0) rfl rfl rfl rfl rfl (Nat.zero_lt_succ _) rfl rfl ?_; refine L.nil (QE.seq (C.ret ?_)); refine QE.ret (js := [0, 1]) (hs := []) (vs := [_]) rfl ⟨⟨_, _, 0, _, rfl, rfl, Src.o 0 rfl, .inl ⟨rfl, by decide, _, rfl, rfl, rfl⟩⟩, trivial⟩ (by decide) ?_
 exact ⟨A, B, c, d, rfl, rfl, rfl⟩

theorem ints_n (A : Option Addr) (a : List Nat) (c : Nat) (B : Option Addr) (b : List Nat) (d : Nat) (ha : a.length ≤ 9223372036854775807) (hb : b.length ≤ 9223372036854775807) : Ctr X 14 [.slice A a.length c, .slice B b.length d] [Rd A (I64 (NI a)), Rd B (I64 (NI b))] [] (fun v R' H' => v = .bool (decide (a = b)) ∧ R' = [] ∧ H' = []) := by
 have := ints_c A (NI a) c B (NI b) d (by rw [NI_len]; exact ha) (by rw [NI_len]; exact hb)
 rw [NI_len, NI_len] at this
 refine this.mono ?_
 rintro v R' H' ⟨rfl, h⟩
 refine ⟨congrArg Value.bool ?_, h⟩
 rw [Bool.eq_iff_iff, decide_eq_true_eq, decide_eq_true_eq]
 exact ⟨NI_inj, fun h => by rw [h]⟩

theorem same18_c (A B A' B' : Option Addr) (c d c' d' : Nat) (q h q' h' : List Nat) (e e' : Int) (hq : q.length ≤ 1000000) (hh : h.length ≤ 1000000) (hq' : q'.length ≤ 1000000) (hh' : h'.length ≤ 1000000) :
   Ctr X 15 [.agg (List.toArray [.slice A q.length c, .slice B h.length d, .int .i64 e]), .agg (List.toArray [.slice A' q'.length c', .slice B' h'.length d', .int .i64 e'])] [Rd A (I64 (NI q)), Rd B (I64 (NI h)), Rd A' (I64 (NI q')), Rd B' (I64 (NI h'))] [] (fun v R' H' => v = .bool (decide (q = q' ∧ h = h' ∧ e = e')) ∧ R' = [] ∧ H' = []) := by
 refine Ctr.of (X := X) (fn := Try.f15) Try.func15 rfl (by kernel_rfl) rfl ?_
 intro β
 refine C.seq (C.region ?_)
 refine L.boxA rfl rfl (fun A2 => ?_)
 refine L.boxA rfl rfl (fun A3 => ?_)
 refine Lpu rfl rfl ?_; refine L.nil (QE.seq (C.seq ?_)); refine C.freeze 0 rfl [1] (by decide) (by decide) ?_; refine C.freeze 0 rfl [] (by decide) (by decide) ?_; refine C.region ?_; refine L.step (Ev.fieldAddr rfl rfl rfl rfl rfl rfl (Src.r 1 rfl) (Nat.zero_lt_succ _) rfl) rfl ?_; refine L.step (Ev.load rfl rfl rfl (Src.r 1 rfl) rfl) rfl ?_; refine L.step (Ev.fieldAddr rfl rfl rfl rfl rfl rfl (Src.r 0 rfl) (Nat.zero_lt_succ _) rfl) rfl ?_; refine L.step (Ev.load rfl rfl rfl (Src.r 0 rfl) rfl) rfl ?_; refine L.call (js := []) (js' := []) (ints_n A q c A' q' c' (by omega) (by omega)) rfl rfl rfl (by decide) (Hq [2, 4] rfl) rfl ?_
 rintro _ _ _ ⟨rfl, rfl, rfl⟩
 refine Lpu rfl rfl ?_
 refine L.bool 10 rfl (fun hg10 => ?_) (fun hg10 => ?_)
 ·
  replace hg10 := of_decide_eq_true hg10
  refine L.yes rfl ?_; refine L.step (Ev.fieldAddr rfl rfl rfl rfl rfl rfl (Src.r 1 rfl) (Nat.zero_lt_succ _) rfl) rfl ?_; refine L.yes rfl ?_; refine L.step (Ev.load rfl rfl rfl (Src.r 1 rfl) rfl) rfl ?_; refine L.yes rfl ?_; refine L.step (Ev.fieldAddr rfl rfl rfl rfl rfl rfl (Src.r 0 rfl) (Nat.zero_lt_succ _) rfl) rfl ?_; refine L.yes rfl ?_; refine L.step (Ev.load rfl rfl rfl (Src.r 0 rfl) rfl) rfl ?_; refine L.yes rfl ?_; refine L.call (js := []) (js' := []) (ints_n B h d B' h' d' (by omega) (by omega)) rfl rfl rfl (by decide) (Hq [3, 5] rfl) rfl ?_
  rintro _ _ _ ⟨rfl, rfl, rfl⟩
  refine Lpu rfl rfl ?_; refine Lpu rfl rfl ?_
  refine L.bool 17 rfl (fun hg17 => ?_) (fun hg17 => ?_)
  ·
   replace hg17 := of_decide_eq_true hg17
   refine L.yes rfl ?_; refine L.step (Ev.fieldAddr rfl rfl rfl rfl rfl rfl (Src.r 1 rfl) (Nat.zero_lt_succ _) rfl) rfl ?_; refine L.yes rfl ?_; refine L.step (Ev.load rfl rfl rfl (Src.r 1 rfl) rfl) rfl ?_; refine L.yes rfl ?_; refine L.step (Ev.fieldAddr rfl rfl rfl rfl rfl rfl (Src.r 0 rfl) (Nat.zero_lt_succ _) rfl) rfl ?_; refine L.yes rfl ?_; refine L.step (Ev.load rfl rfl rfl (Src.r 0 rfl) rfl) rfl ?_; refine L.yes rfl ?_; refine Lpu rfl rfl ?_; refine Lpu rfl rfl ?_; refine Lpu rfl rfl ?_; refine L.nil (QE.seq (C.ret ?_)); refine QE.ret (js := []) (hs := []) (vs := [_]) rfl ⟨rfl, trivial⟩ (by decide) ?_
   exact ⟨congrArg Value.bool (by subst hg10 hg17; rw [Bool.eq_iff_iff]; simp), rfl, rfl⟩
  ·
   replace hg17 := of_decide_eq_false hg17
   refine L.no rfl rfl rfl ?_; refine L.no rfl rfl rfl ?_; refine L.no rfl rfl rfl ?_; refine L.no rfl rfl rfl ?_; refine L.no rfl rfl rfl ?_; refine Lpu rfl rfl ?_; refine Lpu rfl rfl ?_; refine L.nil (QE.seq (C.ret ?_)); refine QE.ret (js := []) (hs := []) (vs := [_]) rfl ⟨rfl, trivial⟩ (by decide) ?_
   exact ⟨congrArg Value.bool ((decide_eq_false (fun x => hg17 x.2.1)).symm), rfl, rfl⟩
 ·
  replace hg10 := of_decide_eq_false hg10
  refine L.no rfl rfl rfl ?_; refine L.no rfl rfl rfl ?_; refine L.no rfl rfl rfl ?_; refine L.no rfl rfl rfl ?_; refine L.no rfl rfl rfl ?_; refine Lpu rfl rfl ?_; refine Lpu rfl rfl ?_; refine L.no rfl rfl rfl ?_; refine L.no rfl rfl rfl ?_; refine L.no rfl rfl rfl ?_; refine L.no rfl rfl rfl ?_; refine L.no rfl rfl rfl ?_; refine Lpu rfl rfl ?_; refine Lpu rfl rfl ?_; refine L.nil (QE.seq (C.ret ?_)); refine QE.ret (js := []) (hs := []) (vs := [_]) rfl ⟨rfl, trivial⟩ (by decide) ?_
  exact ⟨congrArg Value.bool ((decide_eq_false (fun x => hg10 x.1)).symm), rfl, rfl⟩

end Go.Proofs.Ytdkilfnbilohmaa
