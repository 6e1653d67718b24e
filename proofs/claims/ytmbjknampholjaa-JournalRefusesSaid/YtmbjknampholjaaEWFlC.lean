/-
  The contracts of Valid, of the reference and of the program.
-/
import Derived.Test.YtmbjknampholjaaEWFlA
namespace Go.Proofs.Ytmbjknampholjaa
open Go.Sl

def okR (z : Int) (f : Fl) (i : Nat) : Bool := decide (((f.data.getD i []).length : Int) = z ∧ 0 ≤ f.wear.getD i 0 ∧ f.wear.getD i 0 ≤ f.limit)
def okB (z : Int) (f : Fl) : Bool := decide (1 ≤ z ∧ z ≤ 4096 ∧ 1 ≤ f.limit ∧ f.limit ≤ 100000 ∧ 1 ≤ f.data.length ∧ f.data.length ≤ 64 ∧ f.wear.length = f.data.length ∧ f.dead.length = f.data.length) && (List.range f.data.length).all (okR z f)
theorem okB_no {z : Int} {f : Fl} (h : ¬ (1 ≤ z ∧ z ≤ 4096 ∧ 1 ≤ f.limit ∧ f.limit ≤ 100000 ∧ 1 ≤ f.data.length ∧ f.data.length ≤ 64 ∧ f.wear.length = f.data.length ∧ f.dead.length = f.data.length)) : okB z f = false := by unfold okB; rw [decide_eq_false h]; rfl
theorem okB_row {z : Int} {f : Fl} {k : Nat} (hk : k < f.data.length) (h : okR z f k = false) : okB z f = false := by
 unfold okB
 rw [Bool.and_eq_false_iff]
 refine .inr (List.all_eq_false.2 ⟨k, by simpa using hk, by simp [h]⟩)
theorem okB_yes {z : Int} {f : Fl} (h : 1 ≤ z ∧ z ≤ 4096 ∧ 1 ≤ f.limit ∧ f.limit ≤ 100000 ∧ 1 ≤ f.data.length ∧ f.data.length ≤ 64 ∧ f.wear.length = f.data.length ∧ f.dead.length = f.data.length) (hr : ∀ i, i < f.data.length → okR z f i = true) : okB z f = true := by
 unfold okB
 rw [decide_eq_true h, Bool.true_and, List.all_eq_true]
 exact fun i hi => hr i (by simpa using hi)
theorem okR_yes {z : Int} {f : Fl} {k : Nat} (h1 : ((f.data.getD k []).length : Int) = z) (h2 : 0 ≤ f.wear.getD k 0 ∧ f.wear.getD k 0 ≤ f.limit) : okR z f k = true := decide_eq_true ⟨h1, h2⟩
theorem okR_no {z : Int} {f : Fl} {k : Nat} (h : ¬ (((f.data.getD k []).length : Int) = z ∧ 0 ≤ f.wear.getD k 0 ∧ f.wear.getD k 0 ≤ f.limit)) : okR z f k = false := decide_eq_false h

theorem valid17_c (z : Int) (f : Fl) (a : Fa) (hh : a.hs.length = f.data.length) (hn : f.data.length ≤ 9223372036854775807) :
   Ctr X 31 [.agg (List.toArray [.int .i64 z, .slice a.D f.data.length a.cD, .slice a.W f.wear.length a.cW, .int .i64 f.limit, .slice a.E f.dead.length a.cE])] [Rd a.D (rowsV a.hs (B8 f.data)), KidsR a.hs (B8 f.data), Rd a.W (I64 f.wear), Rd a.E (Bs f.dead)] [] (fun v R' H' => v = .bool (okB z f) ∧ R' = [] ∧ H' = []) := by
 refine Ctr.of (X := X) (fn := Try.f31) Try.func31 rfl (by kernel_rfl) rfl ?_
 intro β
 refine C.seq (C.region ?_)
 refine L.boxA rfl rfl (fun A1 => ?_)
 refine Lpu rfl rfl ?_; refine L.nil (QE.seq (C.seq ?_)); refine C.freeze 0 rfl [] (by decide) (by decide) ?_; refine C.region ?_; refine L.step (Ev.fieldAddr rfl rfl rfl rfl rfl rfl (Src.r 0 rfl) (Nat.zero_lt_succ _) rfl) rfl ?_; refine L.step (Ev.load rfl rfl rfl (Src.r 0 rfl) rfl) rfl ?_; refine Lpu rfl rfl ?_; refine Lpu rfl rfl ?_; refine L.nil (QE.seq (C.seq (C.seq (C.region ?_)))); refine L.step (Ev.fieldAddr rfl rfl rfl rfl rfl rfl (Src.r 0 rfl) (Nat.zero_lt_succ _) rfl) rfl ?_; refine L.step (Ev.load rfl rfl rfl (Src.r 0 rfl) rfl) rfl ?_; refine L.call (js := []) (js' := []) (in_c _ _ _) rfl rfl rfl (by decide) trivial rfl ?_
 rintro _ _ _ ⟨rfl, rfl, rfl⟩
 refine Lpu rfl rfl ?_; refine Lpu rfl rfl ?_
 refine L.bool 12 rfl (fun hg12 => ?_) (fun hg12 => ?_)
 ·
  have q12 : ¬(1 ≤ z ∧ z ≤ 4096) := by simp at hg12; omega
  refine L.no rfl rfl rfl ?_; refine L.no rfl rfl rfl ?_; refine L.no rfl rfl rfl ?_; refine L.no rfl rfl rfl ?_; refine Lpu rfl rfl ?_; refine Lpu rfl rfl ?_; refine L.no rfl rfl rfl ?_; refine L.no rfl rfl rfl ?_; refine L.no rfl rfl rfl ?_; refine Lpu rfl rfl ?_; refine Lpu rfl rfl ?_; refine L.no rfl rfl rfl ?_; refine L.no rfl rfl rfl ?_; refine L.no rfl rfl rfl ?_; refine L.no rfl rfl rfl ?_; refine L.no rfl rfl rfl ?_; refine Lpu rfl rfl ?_; refine Lpu rfl rfl ?_; refine L.no rfl rfl rfl ?_; refine L.no rfl rfl rfl ?_; refine L.no rfl rfl rfl ?_; refine L.no rfl rfl rfl ?_; refine L.no rfl rfl rfl ?_; refine Lpu rfl rfl ?_; refine L.nil (QE.seq ?_)
  refine C.cond rfl (fun _ => ?_) (fun h => by cases h)
  refine C.seq (C.region ?_); refine Lpu rfl rfl ?_; refine L.nil (QE.seq (C.ret (QE.tR ?_))); refine QE.ret (js := []) (hs := []) (vs := [_]) rfl ⟨rfl, trivial⟩ (by decide) ?_
  refine ⟨congrArg Value.bool (Eq.symm ?_), rfl, rfl⟩
  exact okB_no (by omega)
 ·
  have q12 : 1 ≤ z ∧ z ≤ 4096 := by simp at hg12; omega
  refine L.yes rfl ?_; refine L.step (Ev.fieldAddr rfl rfl rfl rfl rfl rfl (Src.r 0 rfl) (Nat.zero_lt_succ _) rfl) rfl ?_; refine L.yes rfl ?_; refine L.step (Ev.load rfl rfl rfl (Src.r 0 rfl) rfl) rfl ?_; refine L.yes rfl ?_; refine L.call (js := []) (js' := []) (in_c _ _ _) rfl rfl rfl (by decide) trivial rfl ?_
  rintro _ _ _ ⟨rfl, rfl, rfl⟩
  refine L.yes rfl ?_; refine Lpu rfl rfl ?_; refine Lpu rfl rfl ?_; refine Lpu rfl rfl ?_
  refine L.bool 18 rfl (fun hg18 => ?_) (fun hg18 => ?_)
  ·
   have q18 : ¬(1 ≤ f.limit ∧ f.limit ≤ 100000) := by simp at hg18; omega
   refine L.no rfl rfl rfl ?_; refine L.no rfl rfl rfl ?_; refine L.no rfl rfl rfl ?_; refine Lpu rfl rfl ?_; refine Lpu rfl rfl ?_; refine L.no rfl rfl rfl ?_; refine L.no rfl rfl rfl ?_; refine L.no rfl rfl rfl ?_; refine L.no rfl rfl rfl ?_; refine L.no rfl rfl rfl ?_; refine Lpu rfl rfl ?_; refine Lpu rfl rfl ?_; refine L.no rfl rfl rfl ?_; refine L.no rfl rfl rfl ?_; refine L.no rfl rfl rfl ?_; refine L.no rfl rfl rfl ?_; refine L.no rfl rfl rfl ?_; refine Lpu rfl rfl ?_; refine L.nil (QE.seq ?_)
   refine C.cond rfl (fun _ => ?_) (fun h => by cases h)
   refine C.seq (C.region ?_); refine Lpu rfl rfl ?_; refine L.nil (QE.seq (C.ret (QE.tR ?_))); refine QE.ret (js := []) (hs := []) (vs := [_]) rfl ⟨rfl, trivial⟩ (by decide) ?_
   refine ⟨congrArg Value.bool (Eq.symm ?_), rfl, rfl⟩
   exact okB_no (by omega)
  ·
   have q18 : 1 ≤ f.limit ∧ f.limit ≤ 100000 := by simp at hg18; omega
   refine L.yes rfl ?_; refine Lpu rfl rfl ?_; refine L.yes rfl ?_; refine L.call (js := []) (js' := []) (in_c _ _ _) rfl rfl rfl (by decide) trivial rfl ?_
   rintro _ _ _ ⟨rfl, rfl, rfl⟩
   refine L.yes rfl ?_; refine Lpu rfl rfl ?_; refine Lpu rfl rfl ?_; refine Lpu rfl rfl ?_
   refine L.bool 23 rfl (fun hg23 => ?_) (fun hg23 => ?_)
   ·
    have q23 : ¬(1 ≤ (f.data.length : Int) ∧ (f.data.length : Int) ≤ 64) := by simp at hg23; omega
    refine L.no rfl rfl rfl ?_; refine L.no rfl rfl rfl ?_; refine L.no rfl rfl rfl ?_; refine L.no rfl rfl rfl ?_; refine L.no rfl rfl rfl ?_; refine Lpu rfl rfl ?_; refine Lpu rfl rfl ?_; refine L.no rfl rfl rfl ?_; refine L.no rfl rfl rfl ?_; refine L.no rfl rfl rfl ?_; refine L.no rfl rfl rfl ?_; refine L.no rfl rfl rfl ?_; refine Lpu rfl rfl ?_; refine L.nil (QE.seq ?_)
    refine C.cond rfl (fun _ => ?_) (fun h => by cases h)
    refine C.seq (C.region ?_); refine Lpu rfl rfl ?_; refine L.nil (QE.seq (C.ret (QE.tR ?_))); refine QE.ret (js := []) (hs := []) (vs := [_]) rfl ⟨rfl, trivial⟩ (by decide) ?_
    refine ⟨congrArg Value.bool (Eq.symm ?_), rfl, rfl⟩
    exact okB_no (by omega)
   ·
    have q23 : 1 ≤ (f.data.length : Int) ∧ (f.data.length : Int) ≤ 64 := by simp at hg23; omega
    refine L.yes rfl ?_; refine L.step (Ev.fieldAddr rfl rfl rfl rfl rfl rfl (Src.r 0 rfl) (Nat.zero_lt_succ _) rfl) rfl ?_; refine L.yes rfl ?_; refine L.step (Ev.load rfl rfl rfl (Src.r 0 rfl) rfl) rfl ?_; refine L.yes rfl ?_; refine Lpu rfl rfl ?_; refine L.yes rfl ?_; refine Lpu rfl rfl ?_; refine L.yes rfl ?_; refine Lpu rfl rfl ?_; refine Lpu rfl rfl ?_; refine Lpu rfl rfl ?_
    refine L.bool 30 rfl (fun hg30 => ?_) (fun hg30 => ?_)
    ·
     replace hg30 := b_ne hg30
     refine L.no rfl rfl rfl ?_; refine L.no rfl rfl rfl ?_; refine L.no rfl rfl rfl ?_; refine L.no rfl rfl rfl ?_; refine L.no rfl rfl rfl ?_; refine Lpu rfl rfl ?_; refine L.nil (QE.seq ?_)
     refine C.cond rfl (fun _ => ?_) (fun h => by cases h)
     refine C.seq (C.region ?_); refine Lpu rfl rfl ?_; refine L.nil (QE.seq (C.ret (QE.tR ?_))); refine QE.ret (js := []) (hs := []) (vs := [_]) rfl ⟨rfl, trivial⟩ (by decide) ?_
     refine ⟨congrArg Value.bool (Eq.symm ?_), rfl, rfl⟩
     exact okB_no (by omega)
    ·
     replace hg30 := b_eq hg30
     refine L.yes rfl ?_; refine L.step (Ev.fieldAddr rfl rfl rfl rfl rfl rfl (Src.r 0 rfl) (Nat.zero_lt_succ _) rfl) rfl ?_; refine L.yes rfl ?_; refine L.step (Ev.load rfl rfl rfl (Src.r 0 rfl) rfl) rfl ?_; refine L.yes rfl ?_; refine Lpu rfl rfl ?_; refine L.yes rfl ?_; refine Lpu rfl rfl ?_; refine L.yes rfl ?_; refine Lpu rfl rfl ?_; refine Lpu rfl rfl ?_; refine L.nil (QE.seq ?_)
     refine C.condB 36 rfl (fun hc36 => ?_) (fun hc36 => ?_)
     ·
      replace hc36 := b_ne hc36
      refine C.seq (C.region ?_); refine Lpu rfl rfl ?_; refine L.nil (QE.seq (C.ret (QE.tR ?_))); refine QE.ret (js := []) (hs := []) (vs := [_]) rfl ⟨rfl, trivial⟩ (by decide) ?_
      refine ⟨congrArg Value.bool (Eq.symm ?_), rfl, rfl⟩
      exact okB_no (by omega)
     ·
      replace hc36 := b_eq hc36
      refine C.skip (QE.seq (C.seq (C.seq (C.region ?_)))); refine Lpu rfl rfl ?_; refine L.nil (QE.seq (C.block ?_)); refine C.loop (fun k : Nat => [(0, .agg (List.toArray [.int .i64 z, .slice a.D f.data.length a.cD, .slice a.W f.wear.length a.cW, .int .i64 f.limit, .slice a.E f.dead.length a.cE])), (1, ptrOf A1 0), (3, .int .i64 (f.data.length : Int)), (4, .int .i64 (k : Int))]) (fun k : Nat => [Rd A1 [.int .i64 z, .slice a.D f.data.length a.cD, .slice a.W f.wear.length a.cW, .int .i64 f.limit, .slice a.E f.dead.length a.cE], Rd a.D (rowsV a.hs (B8 f.data)), KidsR a.hs (B8 f.data), Rd a.W (I64 f.wear), Rd a.E (Bs f.dead)]) (fun k : Nat => []) (fun k : Nat => k ≤ f.data.length ∧ ∀ i, i < k → okR z f i = true) (fun k : Nat => f.data.length - k) 0 ⟨by omega, fun i h => absurd h (Nat.not_lt_zero i)⟩ (by exact Le.mk' (rs := [0, 1, 2, 3, 4]) (hs := []) ⟨rfl, rfl, rfl, rfl, trivial⟩ ⟨rfl, rfl, rfl, rfl, rfl, trivial⟩ trivial (by decide)) ?_
      rintro k ⟨hk, hr⟩
      refine C.seq (C.seq (C.region ?_)); refine Lpu rfl rfl ?_; refine Lpu rfl rfl ?_; refine Lpu rfl rfl ?_; refine L.nil (QE.seq ?_)
      refine C.condB 39 rfl (fun hc39 => ?_) (fun hc39 => ?_)
      ·
       replace hc39 := of_decide_eq_true hc39
       refine C.skip (QE.seq (C.seq (C.block (C.seq ?_)))); refine C.regionQ (by kernel_rfl) ?_; refine LQ.step (Ev.fieldAddr rfl rfl rfl rfl rfl rfl (Src.r 0 rfl) (Nat.zero_lt_succ _) rfl) rfl ?_; refine LQ.step (Ev.load rfl rfl rfl (Src.r 0 rfl) rfl) rfl ?_; refine LQ.step (Ev.pure rfl) rfl ?_; refine LQ.step (Ev.idx1 (k := k) rfl rfl rfl rfl rfl rfl rfl (by omega) (Src.r 1 rfl) (by rw [rowsV_len (by rw [B8_len]; exact hh), B8_len]; omega)) rfl ?_; refine LQ.step (Ev.load rfl rfl rfl (Src.r 1 rfl) (rows8_get hh (by omega))) rfl ?_; refine LQ.step (Ev.pure rfl) rfl ?_; refine LQ.step (Ev.fieldAddr rfl rfl rfl rfl rfl rfl (Src.r 0 rfl) (Nat.zero_lt_succ _) rfl) rfl ?_; refine LQ.step (Ev.load rfl rfl rfl (Src.r 0 rfl) rfl) rfl ?_; refine LQ.step (Ev.pure rfl) rfl ?_; refine LQ.step (Ev.pure rfl) rfl ?_
       refine LQ.bool 51 rfl (fun hg51 => ?_) (fun hg51 => ?_)
       ·
        replace hg51 := b_ne hg51
        refine LQ.no rfl rfl rfl ?_; refine LQ.no rfl rfl rfl ?_; refine LQ.no rfl rfl rfl ?_; refine LQ.no rfl rfl rfl ?_; refine LQ.no rfl rfl rfl ?_; refine LQ.no rfl rfl rfl ?_; refine LQ.no rfl rfl rfl ?_; refine LQ.no rfl rfl rfl ?_; refine LQ.no rfl rfl rfl ?_; refine LQ.step (Ev.pure rfl) rfl ?_; refine LQ.nil ?_; refine QE.seq ?_
        refine C.cond rfl (fun _ => ?_) (fun h => by cases h)
        refine C.seq (C.region ?_); refine Lpu rfl rfl ?_; refine L.nil (QE.seq (C.ret (QE.bR (QE.tR (QE.tR (QE.bR (QE.tR ?_))))))); refine QE.ret (js := []) (hs := []) (vs := [_]) rfl ⟨rfl, trivial⟩ (by decide) ?_
        refine ⟨congrArg Value.bool (Eq.symm ?_), rfl, rfl⟩
        exact okB_row (k := k) (by omega) (okR_no (by omega))
       ·
        replace hg51 := b_eq hg51
        have q51 : 0 = 0 := rfl
        refine LQ.yes rfl ?_; refine LQ.step (Ev.fieldAddr rfl rfl rfl rfl rfl rfl (Src.r 0 rfl) (Nat.zero_lt_succ _) rfl) rfl ?_; refine LQ.yes rfl ?_; refine LQ.step (Ev.load rfl rfl rfl (Src.r 0 rfl) rfl) rfl ?_; refine LQ.yes rfl ?_; refine LQ.step (Ev.pure rfl) rfl ?_; refine LQ.yes rfl ?_; refine LQ.step (Ev.idx1 (k := k) rfl rfl rfl rfl rfl rfl rfl (by omega) (Src.r 3 rfl) (by rw [I64_len]; omega)) rfl ?_; refine LQ.yes rfl ?_; refine LQ.step (Ev.load rfl rfl rfl (Src.r 3 rfl) (I64_get (by omega))) rfl ?_; refine LQ.yes rfl ?_; refine LQ.step (Ev.fieldAddr rfl rfl rfl rfl rfl rfl (Src.r 0 rfl) (Nat.zero_lt_succ _) rfl) rfl ?_; refine LQ.yes rfl ?_; refine LQ.step (Ev.load rfl rfl rfl (Src.r 0 rfl) rfl) rfl ?_; refine LQ.yes rfl ?_; refine LQ.call (.bool _) (in_c _ _ _) (fun _ _ _ h => h.1) rfl trivial rfl ?_; refine LQ.yes rfl ?_; refine LQ.step (Ev.pure rfl) rfl ?_; refine LQ.step (Ev.pure rfl) rfl ?_; refine LQ.nil ?_; refine QE.seq ?_
        refine C.condB 61 rfl (fun hc61 => ?_) (fun hc61 => ?_)
        ·
         refine C.seq (C.region ?_); refine Lpu rfl rfl ?_; refine L.nil (QE.seq (C.ret (QE.bR (QE.tR (QE.tR (QE.bR (QE.tR ?_))))))); refine QE.ret (js := []) (hs := []) (vs := [_]) rfl ⟨rfl, trivial⟩ (by decide) ?_
         refine ⟨congrArg Value.bool (Eq.symm ?_), rfl, rfl⟩
         exact okB_row (k := k) (by omega) (okR_no (by simp [-List.getD_eq_getElem?_getD] at hc61; omega))
        ·
         refine C.skip ?_; refine QE.blkN ?_; refine QE.seq (C.region ?_); refine Lpu rfl rfl ?_; refine L.step (Ev.add rfl rfl (by omega) (by omega)) rfl ?_; refine Lpu rfl rfl ?_; refine L.nil ?_
         refine QE.round (k + 1) ?_ (by omega) (by exact Le.mk' (rs := [0, 1, 2, 3, 4]) (hs := []) ⟨rfl, rfl, rfl, rfl, trivial⟩ ⟨rfl, rfl, rfl, rfl, rfl, trivial⟩ trivial (by decide))
         · refine ⟨by omega, fun i hi => ?_⟩
           by_cases hik : i < k
           · exact hr i hik
           · obtain rfl : i = k := by omega
             exact okR_yes (by omega) (by simp [-List.getD_eq_getElem?_getD] at hc61; omega)
      ·
       replace hc39 := of_decide_eq_false hc39
       refine C.exit ?_; refine QE.tX ?_; refine QE.tX ?_; refine QE.blk ?_; refine QE.seq (C.seq (C.region ?_)); refine Lpu rfl rfl ?_; refine L.nil (QE.seq (C.ret ?_)); refine QE.ret (js := []) (hs := []) (vs := [_]) rfl ⟨rfl, trivial⟩ (by decide) ?_
       refine ⟨congrArg Value.bool (Eq.symm ?_), rfl, rfl⟩
       exact okB_yes (by omega) (fun i hi => hr i (by omega))

end Go.Proofs.Ytmbjknampholjaa
