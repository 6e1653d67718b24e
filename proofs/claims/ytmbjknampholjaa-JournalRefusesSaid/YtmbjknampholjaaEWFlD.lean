/-
  The contracts of Check, of the reference and of the program, and of the small closures.
-/
import Derived.Test.YtmbjknampholjaaEWFlC
namespace Go.Proofs.Ytmbjknampholjaa
open Go.Sl

theorem check17_c (f : Fl) (a : Fa) (ok : f.Ok) (_hh : a.hs.length = f.data.length) (x : Fo) (XA : Option Addr) (xc : Nat) (_hxl : x.data.length ≤ 9223372036854775807) :
   Ctr X 61 [.agg (List.toArray [.int .i64 (f.size : Int), .slice a.D f.data.length a.cD, .slice a.W f.wear.length a.cW, .int .i64 f.limit, .slice a.E f.dead.length a.cE]), .agg (List.toArray [.int .i64 x.kind, .int .i64 x.sec, .int .i64 x.at_, .slice XA x.data.length xc])] [Rd a.D (rowsV a.hs (B8 f.data)), KidsR a.hs (B8 f.data), Rd a.W (I64 f.wear), Rd a.E (Bs f.dead), Rd XA (U8 x.data)] [] (fun v R' H' => v = .int .i64 (checkE f x) ∧ R' = [] ∧ H' = []) := by
 obtain ⟨os1, os2, on1, on2, owl, odl, orows, ol1, ol2, owear⟩ := ok
 refine Ctr.of (X := X) (fn := Try.f61) Try.func61 rfl (by kernel_rfl) rfl ?_
 intro β
 refine C.seq (C.region ?_)
 refine L.boxA rfl rfl (fun A2 => ?_)
 refine L.boxA rfl rfl (fun A3 => ?_)
 refine Lpu rfl rfl ?_; refine L.nil (QE.seq (C.seq (C.seq ?_))); refine C.freeze 1 rfl [0] (by decide) (by decide) ?_; refine C.freeze 0 rfl [] (by decide) (by decide) ?_; refine C.region ?_; refine L.step (Ev.fieldAddr rfl rfl rfl rfl rfl rfl (Src.r 1 rfl) (Nat.zero_lt_succ _) rfl) rfl ?_; refine L.step (Ev.load rfl rfl rfl (Src.r 1 rfl) rfl) rfl ?_; refine Lpu rfl rfl ?_; refine Lpu rfl rfl ?_
 refine L.bool 8 rfl (fun hg8 => ?_) (fun hg8 => ?_)
 ·
  replace hg8 := b_ne hg8
  refine L.yes rfl ?_; refine L.step (Ev.fieldAddr rfl rfl rfl rfl rfl rfl (Src.r 1 rfl) (Nat.zero_lt_succ _) rfl) rfl ?_; refine L.yes rfl ?_; refine L.step (Ev.load rfl rfl rfl (Src.r 1 rfl) rfl) rfl ?_; refine L.yes rfl ?_; refine Lpu rfl rfl ?_; refine Lpu rfl rfl ?_; refine L.nil (QE.seq ?_)
  refine C.condB 12 rfl (fun hc12 => ?_) (fun hc12 => ?_)
  ·
   replace hc12 := b_ne hc12
   refine C.seq (C.region ?_); refine Lpu rfl rfl ?_; refine L.nil (QE.seq (C.ret (QE.tR ?_))); refine QE.ret (js := []) (hs := []) (vs := [_]) rfl ⟨rfl, trivial⟩ (by decide) ?_
   refine ⟨congrArg (Value.int .i64) (Eq.symm ?_), rfl, rfl⟩
   first | exact checkE_1 (by omega) | exact checkE_2 (by omega) (by omega) | exact checkE_3 (by omega) (by omega) hc50 | exact checkE_4 (by omega) (by omega) hc50 (by omega) | exact checkE_0 (by omega) (by omega) hc50 (by omega)
  ·
   replace hc12 := b_eq hc12
   refine C.skip (QE.seq (C.seq (C.seq (C.region ?_)))); refine L.step (Ev.fieldAddr rfl rfl rfl rfl rfl rfl (Src.r 1 rfl) (Nat.zero_lt_succ _) rfl) rfl ?_; refine L.step (Ev.load rfl rfl rfl (Src.r 1 rfl) rfl) rfl ?_; refine L.step (Ev.fieldAddr rfl rfl rfl rfl rfl rfl (Src.r 0 rfl) (Nat.zero_lt_succ _) rfl) rfl ?_; refine L.step (Ev.load rfl rfl rfl (Src.r 0 rfl) rfl) rfl ?_; refine Lpu rfl rfl ?_; refine L.step (Ev.sub rfl rfl (by omega) (by omega)) rfl ?_; refine L.call (js := []) (js' := []) (in_c _ _ _) rfl rfl rfl (by decide) trivial rfl ?_
   rintro _ _ _ ⟨rfl, rfl, rfl⟩
   refine Lpu rfl rfl ?_; refine Lpu rfl rfl ?_
   refine L.bool 21 rfl (fun hg21 => ?_) (fun hg21 => ?_)
   ·
    have q21 : ¬(0 ≤ x.sec ∧ x.sec ≤ (f.data.length : Int) - 1) := by simp at hg21; omega
    refine L.no rfl rfl rfl ?_; refine L.no rfl rfl rfl ?_; refine L.no rfl rfl rfl ?_; refine L.no rfl rfl rfl ?_; refine L.no rfl rfl rfl ?_; refine L.no rfl rfl rfl ?_; refine L.no rfl rfl rfl ?_; refine L.no rfl rfl rfl ?_; refine L.no rfl rfl rfl ?_; refine L.no rfl rfl rfl ?_; refine L.no rfl rfl rfl ?_; refine L.no rfl rfl rfl ?_; refine L.no rfl rfl rfl ?_; refine L.no rfl rfl rfl ?_; refine L.no rfl rfl rfl ?_; refine L.no rfl rfl rfl ?_; refine L.no rfl rfl rfl ?_; refine L.no rfl rfl rfl ?_; refine L.no rfl rfl rfl ?_; refine L.no rfl rfl rfl ?_; refine L.no rfl rfl rfl ?_; refine L.no rfl rfl rfl ?_; refine Lpu rfl rfl ?_; refine L.nil (QE.seq ?_)
    refine C.cond rfl (fun _ => ?_) (fun h => by cases h)
    refine C.seq (C.region ?_); refine Lpu rfl rfl ?_; refine L.nil (QE.seq (C.ret (QE.tR ?_))); refine QE.ret (js := []) (hs := []) (vs := [_]) rfl ⟨rfl, trivial⟩ (by decide) ?_
    refine ⟨congrArg (Value.int .i64) (Eq.symm ?_), rfl, rfl⟩
    first | exact checkE_1 (by omega) | exact checkE_2 (by omega) (by omega) | exact checkE_3 (by omega) (by omega) hc50 | exact checkE_4 (by omega) (by omega) hc50 (by omega) | exact checkE_0 (by omega) (by omega) hc50 (by omega)
   ·
    have q21 : 0 ≤ x.sec ∧ x.sec ≤ (f.data.length : Int) - 1 := by simp at hg21; omega
    refine L.yes rfl ?_; refine L.step (Ev.fieldAddr rfl rfl rfl rfl rfl rfl (Src.r 1 rfl) (Nat.zero_lt_succ _) rfl) rfl ?_; refine L.yes rfl ?_; refine L.step (Ev.load rfl rfl rfl (Src.r 1 rfl) rfl) rfl ?_; refine L.yes rfl ?_; refine Lpu rfl rfl ?_; refine L.yes rfl ?_; refine Lpu rfl rfl ?_
    refine L.bool 25 rfl (fun hg25 => ?_) (fun hg25 => ?_)
    ·
     replace hg25 := i_eq hg25
     refine L.yes rfl ?_; refine L.step (Ev.fieldAddr rfl rfl rfl rfl rfl rfl (Src.r 1 rfl) (Nat.zero_lt_succ _) rfl) rfl ?_; refine L.yes rfl ?_; refine L.step (Ev.load rfl rfl rfl (Src.r 1 rfl) rfl) rfl ?_; refine L.yes rfl ?_; refine L.step (Ev.fieldAddr rfl rfl rfl rfl rfl rfl (Src.r 0 rfl) (Nat.zero_lt_succ _) rfl) rfl ?_; refine L.yes rfl ?_; refine L.step (Ev.load rfl rfl rfl (Src.r 0 rfl) rfl) rfl ?_; refine L.yes rfl ?_; refine L.call (js := []) (js' := []) (in_c _ _ _) rfl rfl rfl (by decide) trivial rfl ?_
     rintro _ _ _ ⟨rfl, rfl, rfl⟩
     refine L.yes rfl ?_; refine Lpu rfl rfl ?_; refine L.yes rfl ?_; refine Lpu rfl rfl ?_
     refine L.bool 32 rfl (fun hg32 => ?_) (fun hg32 => ?_)
     ·
      have q32 : ¬(0 ≤ x.at_ ∧ x.at_ ≤ (f.size : Int)) := by simp at hg32; omega
      refine L.no rfl rfl rfl ?_; refine L.no rfl rfl rfl ?_; refine L.no rfl rfl rfl ?_; refine L.no rfl rfl rfl ?_; refine L.no rfl rfl rfl ?_; refine L.no rfl rfl rfl ?_; refine L.no rfl rfl rfl ?_; refine L.no rfl rfl rfl ?_; refine L.no rfl rfl rfl ?_; refine L.yes rfl ?_; refine Lpu rfl rfl ?_; refine L.yes rfl ?_; refine Lpu rfl rfl ?_; refine Lpu rfl rfl ?_; refine L.nil (QE.seq ?_)
      refine C.cond rfl (fun _ => ?_) (fun h => by cases h)
      refine C.seq (C.region ?_); refine Lpu rfl rfl ?_; refine L.nil (QE.seq (C.ret (QE.tR ?_))); refine QE.ret (js := []) (hs := []) (vs := [_]) rfl ⟨rfl, trivial⟩ (by decide) ?_
      refine ⟨congrArg (Value.int .i64) (Eq.symm ?_), rfl, rfl⟩
      first | exact checkE_1 (by omega) | exact checkE_2 (by omega) (by omega) | exact checkE_3 (by omega) (by omega) hc50 | exact checkE_4 (by omega) (by omega) hc50 (by omega) | exact checkE_0 (by omega) (by omega) hc50 (by omega)
     ·
      have q32 : 0 ≤ x.at_ ∧ x.at_ ≤ (f.size : Int) := by simp at hg32; omega
      refine L.yes rfl ?_; refine L.step (Ev.fieldAddr rfl rfl rfl rfl rfl rfl (Src.r 1 rfl) (Nat.zero_lt_succ _) rfl) rfl ?_; refine L.yes rfl ?_; refine L.step (Ev.load rfl rfl rfl (Src.r 1 rfl) rfl) rfl ?_; refine L.yes rfl ?_; refine Lpu rfl rfl ?_; refine L.yes rfl ?_; refine L.step (Ev.fieldAddr rfl rfl rfl rfl rfl rfl (Src.r 0 rfl) (Nat.zero_lt_succ _) rfl) rfl ?_; refine L.yes rfl ?_; refine L.step (Ev.load rfl rfl rfl (Src.r 0 rfl) rfl) rfl ?_; refine L.yes rfl ?_; refine L.step (Ev.fieldAddr rfl rfl rfl rfl rfl rfl (Src.r 1 rfl) (Nat.zero_lt_succ _) rfl) rfl ?_; refine L.yes rfl ?_; refine L.step (Ev.load rfl rfl rfl (Src.r 1 rfl) rfl) rfl ?_; refine L.yes rfl ?_; refine L.step (Ev.sub rfl rfl (by omega) (by omega)) rfl ?_; refine L.yes rfl ?_; refine Lpu rfl rfl ?_; refine L.yes rfl ?_; refine Lpu rfl rfl ?_; refine L.yes rfl ?_; refine Lpu rfl rfl ?_; refine Lpu rfl rfl ?_; refine L.nil (QE.seq ?_)
      refine C.condB 44 rfl (fun hc44 => ?_) (fun hc44 => ?_)
      ·
       replace hc44 := of_decide_eq_true hc44
       refine C.seq (C.region ?_); refine Lpu rfl rfl ?_; refine L.nil (QE.seq (C.ret (QE.tR ?_))); refine QE.ret (js := []) (hs := []) (vs := [_]) rfl ⟨rfl, trivial⟩ (by decide) ?_
       refine ⟨congrArg (Value.int .i64) (Eq.symm ?_), rfl, rfl⟩
       first | exact checkE_1 (by omega) | exact checkE_2 (by omega) (by omega) | exact checkE_3 (by omega) (by omega) hc50 | exact checkE_4 (by omega) (by omega) hc50 (by omega) | exact checkE_0 (by omega) (by omega) hc50 (by omega)
      ·
       replace hc44 := of_decide_eq_false hc44
       refine C.skip (QE.seq (C.seq (C.seq (C.region ?_)))); refine L.step (Ev.fieldAddr rfl rfl rfl rfl rfl rfl (Src.r 0 rfl) (Nat.zero_lt_succ _) rfl) rfl ?_; refine L.step (Ev.load rfl rfl rfl (Src.r 0 rfl) rfl) rfl ?_; refine L.step (Ev.fieldAddr rfl rfl rfl rfl rfl rfl (Src.r 1 rfl) (Nat.zero_lt_succ _) rfl) rfl ?_; refine L.step (Ev.load rfl rfl rfl (Src.r 1 rfl) rfl) rfl ?_; refine L.step (Ev.idx1 (k := x.sec.toNat) rfl rfl rfl rfl rfl rfl (by omega) (by omega) (Src.r 5 rfl) (by rw [Bs_len]; omega)) rfl ?_; refine L.step (Ev.load rfl rfl rfl (Src.r 5 rfl) (Bs_get (by omega))) rfl ?_; refine L.nil (QE.seq ?_)
       refine C.condB 50 rfl (fun hc50 => ?_) (fun hc50 => ?_)
       ·
        refine C.seq (C.region ?_); refine Lpu rfl rfl ?_; refine L.nil (QE.seq (C.ret (QE.tR ?_))); refine QE.ret (js := []) (hs := []) (vs := [_]) rfl ⟨rfl, trivial⟩ (by decide) ?_
        refine ⟨congrArg (Value.int .i64) (Eq.symm ?_), rfl, rfl⟩
        first | exact checkE_1 (by omega) | exact checkE_2 (by omega) (by omega) | exact checkE_3 (by omega) (by omega) hc50 | exact checkE_4 (by omega) (by omega) hc50 (by omega) | exact checkE_0 (by omega) (by omega) hc50 (by omega)
       ·
        refine C.skip (QE.seq (C.seq (C.seq ?_))); refine C.regionQ (by kernel_rfl) ?_; refine LQ.step (Ev.fieldAddr rfl rfl rfl rfl rfl rfl (Src.r 1 rfl) (Nat.zero_lt_succ _) rfl) rfl ?_; refine LQ.step (Ev.load rfl rfl rfl (Src.r 1 rfl) rfl) rfl ?_; refine LQ.step (Ev.pure rfl) rfl ?_; refine LQ.step (Ev.pure rfl) rfl ?_
        refine LQ.bool 54 rfl (fun hg54 => ?_) (fun hg54 => ?_)
        ·
         replace hg54 := i_eq hg54
         refine LQ.yes rfl ?_; refine LQ.step (Ev.fieldAddr rfl rfl rfl rfl rfl rfl (Src.r 0 rfl) (Nat.zero_lt_succ _) rfl) rfl ?_; refine LQ.yes rfl ?_; refine LQ.step (Ev.load rfl rfl rfl (Src.r 0 rfl) rfl) rfl ?_; refine LQ.yes rfl ?_; refine LQ.step (Ev.fieldAddr rfl rfl rfl rfl rfl rfl (Src.r 1 rfl) (Nat.zero_lt_succ _) rfl) rfl ?_; refine LQ.yes rfl ?_; refine LQ.step (Ev.load rfl rfl rfl (Src.r 1 rfl) rfl) rfl ?_; refine LQ.yes rfl ?_; refine LQ.step (Ev.idx1 (k := x.sec.toNat) rfl rfl rfl rfl rfl rfl (by omega) (by omega) (Src.r 4 rfl) (by rw [I64_len]; omega)) rfl ?_; refine LQ.yes rfl ?_; refine LQ.step (Ev.load rfl rfl rfl (Src.r 4 rfl) (I64_get (by omega))) rfl ?_; refine LQ.yes rfl ?_; refine LQ.step (Ev.fieldAddr rfl rfl rfl rfl rfl rfl (Src.r 0 rfl) (Nat.zero_lt_succ _) rfl) rfl ?_; refine LQ.yes rfl ?_; refine LQ.step (Ev.load rfl rfl rfl (Src.r 0 rfl) rfl) rfl ?_; refine LQ.yes rfl ?_; refine LQ.step (Ev.pure rfl) rfl ?_; refine LQ.step (Ev.pure rfl) rfl ?_; refine LQ.nil ?_; refine QE.seq ?_
         refine C.condB 64 rfl (fun hc64 => ?_) (fun hc64 => ?_)
         ·
          replace hc64 := i_eq hc64
          refine C.seq (C.region ?_); refine Lpu rfl rfl ?_; refine L.nil (QE.seq (C.ret (QE.tR ?_))); refine QE.ret (js := []) (hs := []) (vs := [_]) rfl ⟨rfl, trivial⟩ (by decide) ?_
          refine ⟨congrArg (Value.int .i64) (Eq.symm ?_), rfl, rfl⟩
          first | exact checkE_1 (by omega) | exact checkE_2 (by omega) (by omega) | exact checkE_3 (by omega) (by omega) hc50 | exact checkE_4 (by omega) (by omega) hc50 (by omega) | exact checkE_0 (by omega) (by omega) hc50 (by omega)
         ·
          replace hc64 := i_ne hc64
          refine C.skip (QE.seq (C.seq (C.region ?_))); refine Lpu rfl rfl ?_; refine L.nil (QE.seq (C.ret ?_)); refine QE.ret (js := []) (hs := []) (vs := [_]) rfl ⟨rfl, trivial⟩ (by decide) ?_
          refine ⟨congrArg (Value.int .i64) (Eq.symm ?_), rfl, rfl⟩
          first | exact checkE_1 (by omega) | exact checkE_2 (by omega) (by omega) | exact checkE_3 (by omega) (by omega) hc50 | exact checkE_4 (by omega) (by omega) hc50 (by omega) | exact checkE_0 (by omega) (by omega) hc50 (by omega)
        ·
         replace hg54 := i_ne hg54
         refine LQ.no rfl rfl rfl ?_; refine LQ.no rfl rfl rfl ?_; refine LQ.no rfl rfl rfl ?_; refine LQ.no rfl rfl rfl ?_; refine LQ.no rfl rfl rfl ?_; refine LQ.no rfl rfl rfl ?_; refine LQ.no rfl rfl rfl ?_; refine LQ.no rfl rfl rfl ?_; refine LQ.no rfl rfl rfl ?_; refine LQ.step (Ev.pure rfl) rfl ?_; refine LQ.nil ?_; refine QE.seq ?_
         refine C.cond rfl (fun h => by cases h) (fun _ => ?_)
         refine C.skip (QE.seq (C.seq (C.region ?_))); refine Lpu rfl rfl ?_; refine L.nil (QE.seq (C.ret ?_)); refine QE.ret (js := []) (hs := []) (vs := [_]) rfl ⟨rfl, trivial⟩ (by decide) ?_
         refine ⟨congrArg (Value.int .i64) (Eq.symm ?_), rfl, rfl⟩
         first | exact checkE_1 (by omega) | exact checkE_2 (by omega) (by omega) | exact checkE_3 (by omega) (by omega) hc50 | exact checkE_4 (by omega) (by omega) hc50 (by omega) | exact checkE_0 (by omega) (by omega) hc50 (by omega)
    ·
     replace hg25 := i_ne hg25
     refine L.no rfl rfl rfl ?_; refine L.no rfl rfl rfl ?_; refine L.no rfl rfl rfl ?_; refine L.no rfl rfl rfl ?_; refine L.no rfl rfl rfl ?_; refine L.no rfl rfl rfl ?_; refine L.no rfl rfl rfl ?_; refine L.no rfl rfl rfl ?_; refine L.no rfl rfl rfl ?_; refine L.no rfl rfl rfl ?_; refine L.no rfl rfl rfl ?_; refine L.no rfl rfl rfl ?_; refine L.no rfl rfl rfl ?_; refine L.no rfl rfl rfl ?_; refine L.no rfl rfl rfl ?_; refine L.no rfl rfl rfl ?_; refine L.no rfl rfl rfl ?_; refine L.yes rfl ?_; refine Lpu rfl rfl ?_; refine Lpu rfl rfl ?_; refine L.nil (QE.seq ?_)
     refine C.cond rfl (fun h => by cases h) (fun _ => ?_)
     refine C.skip (QE.seq (C.seq (C.seq (C.region ?_)))); refine L.step (Ev.fieldAddr rfl rfl rfl rfl rfl rfl (Src.r 0 rfl) (Nat.zero_lt_succ _) rfl) rfl ?_; refine L.step (Ev.load rfl rfl rfl (Src.r 0 rfl) rfl) rfl ?_; refine L.step (Ev.fieldAddr rfl rfl rfl rfl rfl rfl (Src.r 1 rfl) (Nat.zero_lt_succ _) rfl) rfl ?_; refine L.step (Ev.load rfl rfl rfl (Src.r 1 rfl) rfl) rfl ?_; refine L.step (Ev.idx1 (k := x.sec.toNat) rfl rfl rfl rfl rfl rfl (by omega) (by omega) (Src.r 5 rfl) (by rw [Bs_len]; omega)) rfl ?_; refine L.step (Ev.load rfl rfl rfl (Src.r 5 rfl) (Bs_get (by omega))) rfl ?_; refine L.nil (QE.seq ?_)
     refine C.condB 50 rfl (fun hc50 => ?_) (fun hc50 => ?_)
     ·
      refine C.seq (C.region ?_); refine Lpu rfl rfl ?_; refine L.nil (QE.seq (C.ret (QE.tR ?_))); refine QE.ret (js := []) (hs := []) (vs := [_]) rfl ⟨rfl, trivial⟩ (by decide) ?_
      refine ⟨congrArg (Value.int .i64) (Eq.symm ?_), rfl, rfl⟩
      first | exact checkE_1 (by omega) | exact checkE_2 (by omega) (by omega) | exact checkE_3 (by omega) (by omega) hc50 | exact checkE_4 (by omega) (by omega) hc50 (by omega) | exact checkE_0 (by omega) (by omega) hc50 (by omega)
     ·
      refine C.skip (QE.seq (C.seq (C.seq ?_))); refine C.regionQ (by kernel_rfl) ?_; refine LQ.step (Ev.fieldAddr rfl rfl rfl rfl rfl rfl (Src.r 1 rfl) (Nat.zero_lt_succ _) rfl) rfl ?_; refine LQ.step (Ev.load rfl rfl rfl (Src.r 1 rfl) rfl) rfl ?_; refine LQ.step (Ev.pure rfl) rfl ?_; refine LQ.step (Ev.pure rfl) rfl ?_
      refine LQ.bool 54 rfl (fun hg54 => ?_) (fun hg54 => ?_)
      ·
       replace hg54 := i_eq hg54
       refine LQ.yes rfl ?_; refine LQ.step (Ev.fieldAddr rfl rfl rfl rfl rfl rfl (Src.r 0 rfl) (Nat.zero_lt_succ _) rfl) rfl ?_; refine LQ.yes rfl ?_; refine LQ.step (Ev.load rfl rfl rfl (Src.r 0 rfl) rfl) rfl ?_; refine LQ.yes rfl ?_; refine LQ.step (Ev.fieldAddr rfl rfl rfl rfl rfl rfl (Src.r 1 rfl) (Nat.zero_lt_succ _) rfl) rfl ?_; refine LQ.yes rfl ?_; refine LQ.step (Ev.load rfl rfl rfl (Src.r 1 rfl) rfl) rfl ?_; refine LQ.yes rfl ?_; refine LQ.step (Ev.idx1 (k := x.sec.toNat) rfl rfl rfl rfl rfl rfl (by omega) (by omega) (Src.r 4 rfl) (by rw [I64_len]; omega)) rfl ?_; refine LQ.yes rfl ?_; refine LQ.step (Ev.load rfl rfl rfl (Src.r 4 rfl) (I64_get (by omega))) rfl ?_; refine LQ.yes rfl ?_; refine LQ.step (Ev.fieldAddr rfl rfl rfl rfl rfl rfl (Src.r 0 rfl) (Nat.zero_lt_succ _) rfl) rfl ?_; refine LQ.yes rfl ?_; refine LQ.step (Ev.load rfl rfl rfl (Src.r 0 rfl) rfl) rfl ?_; refine LQ.yes rfl ?_; refine LQ.step (Ev.pure rfl) rfl ?_; refine LQ.step (Ev.pure rfl) rfl ?_; refine LQ.nil ?_; refine QE.seq ?_
       refine C.condB 64 rfl (fun hc64 => ?_) (fun hc64 => ?_)
       ·
        replace hc64 := i_eq hc64
        refine C.seq (C.region ?_); refine Lpu rfl rfl ?_; refine L.nil (QE.seq (C.ret (QE.tR ?_))); refine QE.ret (js := []) (hs := []) (vs := [_]) rfl ⟨rfl, trivial⟩ (by decide) ?_
        refine ⟨congrArg (Value.int .i64) (Eq.symm ?_), rfl, rfl⟩
        first | exact checkE_1 (by omega) | exact checkE_2 (by omega) (by omega) | exact checkE_3 (by omega) (by omega) hc50 | exact checkE_4 (by omega) (by omega) hc50 (by omega) | exact checkE_0 (by omega) (by omega) hc50 (by omega)
       ·
        replace hc64 := i_ne hc64
        refine C.skip (QE.seq (C.seq (C.region ?_))); refine Lpu rfl rfl ?_; refine L.nil (QE.seq (C.ret ?_)); refine QE.ret (js := []) (hs := []) (vs := [_]) rfl ⟨rfl, trivial⟩ (by decide) ?_
        refine ⟨congrArg (Value.int .i64) (Eq.symm ?_), rfl, rfl⟩
        first | exact checkE_1 (by omega) | exact checkE_2 (by omega) (by omega) | exact checkE_3 (by omega) (by omega) hc50 | exact checkE_4 (by omega) (by omega) hc50 (by omega) | exact checkE_0 (by omega) (by omega) hc50 (by omega)
      ·
       replace hg54 := i_ne hg54
       refine LQ.no rfl rfl rfl ?_; refine LQ.no rfl rfl rfl ?_; refine LQ.no rfl rfl rfl ?_; refine LQ.no rfl rfl rfl ?_; refine LQ.no rfl rfl rfl ?_; refine LQ.no rfl rfl rfl ?_; refine LQ.no rfl rfl rfl ?_; refine LQ.no rfl rfl rfl ?_; refine LQ.no rfl rfl rfl ?_; refine LQ.step (Ev.pure rfl) rfl ?_; refine LQ.nil ?_; refine QE.seq ?_
       refine C.cond rfl (fun h => by cases h) (fun _ => ?_)
       refine C.skip (QE.seq (C.seq (C.region ?_))); refine Lpu rfl rfl ?_; refine L.nil (QE.seq (C.ret ?_)); refine QE.ret (js := []) (hs := []) (vs := [_]) rfl ⟨rfl, trivial⟩ (by decide) ?_
       refine ⟨congrArg (Value.int .i64) (Eq.symm ?_), rfl, rfl⟩
       first | exact checkE_1 (by omega) | exact checkE_2 (by omega) (by omega) | exact checkE_3 (by omega) (by omega) hc50 | exact checkE_4 (by omega) (by omega) hc50 (by omega) | exact checkE_0 (by omega) (by omega) hc50 (by omega)
 ·
  replace hg8 := b_eq hg8
  refine L.no rfl rfl rfl ?_; refine L.no rfl rfl rfl ?_; refine L.no rfl rfl rfl ?_; refine Lpu rfl rfl ?_; refine L.nil (QE.seq ?_)
  refine C.cond rfl (fun h => by cases h) (fun _ => ?_)
  refine C.skip (QE.seq (C.seq (C.seq (C.region ?_)))); refine L.step (Ev.fieldAddr rfl rfl rfl rfl rfl rfl (Src.r 1 rfl) (Nat.zero_lt_succ _) rfl) rfl ?_; refine L.step (Ev.load rfl rfl rfl (Src.r 1 rfl) rfl) rfl ?_; refine L.step (Ev.fieldAddr rfl rfl rfl rfl rfl rfl (Src.r 0 rfl) (Nat.zero_lt_succ _) rfl) rfl ?_; refine L.step (Ev.load rfl rfl rfl (Src.r 0 rfl) rfl) rfl ?_; refine Lpu rfl rfl ?_; refine L.step (Ev.sub rfl rfl (by omega) (by omega)) rfl ?_; refine L.call (js := []) (js' := []) (in_c _ _ _) rfl rfl rfl (by decide) trivial rfl ?_
  rintro _ _ _ ⟨rfl, rfl, rfl⟩
  refine Lpu rfl rfl ?_; refine Lpu rfl rfl ?_
  refine L.bool 21 rfl (fun hg21 => ?_) (fun hg21 => ?_)
  ·
   have q21 : ¬(0 ≤ x.sec ∧ x.sec ≤ (f.data.length : Int) - 1) := by simp at hg21; omega
   refine L.no rfl rfl rfl ?_; refine L.no rfl rfl rfl ?_; refine L.no rfl rfl rfl ?_; refine L.no rfl rfl rfl ?_; refine L.no rfl rfl rfl ?_; refine L.no rfl rfl rfl ?_; refine L.no rfl rfl rfl ?_; refine L.no rfl rfl rfl ?_; refine L.no rfl rfl rfl ?_; refine L.no rfl rfl rfl ?_; refine L.no rfl rfl rfl ?_; refine L.no rfl rfl rfl ?_; refine L.no rfl rfl rfl ?_; refine L.no rfl rfl rfl ?_; refine L.no rfl rfl rfl ?_; refine L.no rfl rfl rfl ?_; refine L.no rfl rfl rfl ?_; refine L.no rfl rfl rfl ?_; refine L.no rfl rfl rfl ?_; refine L.no rfl rfl rfl ?_; refine L.no rfl rfl rfl ?_; refine L.no rfl rfl rfl ?_; refine Lpu rfl rfl ?_; refine L.nil (QE.seq ?_)
   refine C.cond rfl (fun _ => ?_) (fun h => by cases h)
   refine C.seq (C.region ?_); refine Lpu rfl rfl ?_; refine L.nil (QE.seq (C.ret (QE.tR ?_))); refine QE.ret (js := []) (hs := []) (vs := [_]) rfl ⟨rfl, trivial⟩ (by decide) ?_
   refine ⟨congrArg (Value.int .i64) (Eq.symm ?_), rfl, rfl⟩
   first | exact checkE_1 (by omega) | exact checkE_2 (by omega) (by omega) | exact checkE_3 (by omega) (by omega) hc50 | exact checkE_4 (by omega) (by omega) hc50 (by omega) | exact checkE_0 (by omega) (by omega) hc50 (by omega)
  ·
   have q21 : 0 ≤ x.sec ∧ x.sec ≤ (f.data.length : Int) - 1 := by simp at hg21; omega
   refine L.yes rfl ?_; refine L.step (Ev.fieldAddr rfl rfl rfl rfl rfl rfl (Src.r 1 rfl) (Nat.zero_lt_succ _) rfl) rfl ?_; refine L.yes rfl ?_; refine L.step (Ev.load rfl rfl rfl (Src.r 1 rfl) rfl) rfl ?_; refine L.yes rfl ?_; refine Lpu rfl rfl ?_; refine L.yes rfl ?_; refine Lpu rfl rfl ?_
   refine L.bool 25 rfl (fun hg25 => ?_) (fun hg25 => ?_)
   ·
    replace hg25 := i_eq hg25
    refine L.yes rfl ?_; refine L.step (Ev.fieldAddr rfl rfl rfl rfl rfl rfl (Src.r 1 rfl) (Nat.zero_lt_succ _) rfl) rfl ?_; refine L.yes rfl ?_; refine L.step (Ev.load rfl rfl rfl (Src.r 1 rfl) rfl) rfl ?_; refine L.yes rfl ?_; refine L.step (Ev.fieldAddr rfl rfl rfl rfl rfl rfl (Src.r 0 rfl) (Nat.zero_lt_succ _) rfl) rfl ?_; refine L.yes rfl ?_; refine L.step (Ev.load rfl rfl rfl (Src.r 0 rfl) rfl) rfl ?_; refine L.yes rfl ?_; refine L.call (js := []) (js' := []) (in_c _ _ _) rfl rfl rfl (by decide) trivial rfl ?_
    rintro _ _ _ ⟨rfl, rfl, rfl⟩
    refine L.yes rfl ?_; refine Lpu rfl rfl ?_; refine L.yes rfl ?_; refine Lpu rfl rfl ?_
    refine L.bool 32 rfl (fun hg32 => ?_) (fun hg32 => ?_)
    ·
     have q32 : ¬(0 ≤ x.at_ ∧ x.at_ ≤ (f.size : Int)) := by simp at hg32; omega
     refine L.no rfl rfl rfl ?_; refine L.no rfl rfl rfl ?_; refine L.no rfl rfl rfl ?_; refine L.no rfl rfl rfl ?_; refine L.no rfl rfl rfl ?_; refine L.no rfl rfl rfl ?_; refine L.no rfl rfl rfl ?_; refine L.no rfl rfl rfl ?_; refine L.no rfl rfl rfl ?_; refine L.yes rfl ?_; refine Lpu rfl rfl ?_; refine L.yes rfl ?_; refine Lpu rfl rfl ?_; refine Lpu rfl rfl ?_; refine L.nil (QE.seq ?_)
     refine C.cond rfl (fun _ => ?_) (fun h => by cases h)
     refine C.seq (C.region ?_); refine Lpu rfl rfl ?_; refine L.nil (QE.seq (C.ret (QE.tR ?_))); refine QE.ret (js := []) (hs := []) (vs := [_]) rfl ⟨rfl, trivial⟩ (by decide) ?_
     refine ⟨congrArg (Value.int .i64) (Eq.symm ?_), rfl, rfl⟩
     first | exact checkE_1 (by omega) | exact checkE_2 (by omega) (by omega) | exact checkE_3 (by omega) (by omega) hc50 | exact checkE_4 (by omega) (by omega) hc50 (by omega) | exact checkE_0 (by omega) (by omega) hc50 (by omega)
    ·
     have q32 : 0 ≤ x.at_ ∧ x.at_ ≤ (f.size : Int) := by simp at hg32; omega
     refine L.yes rfl ?_; refine L.step (Ev.fieldAddr rfl rfl rfl rfl rfl rfl (Src.r 1 rfl) (Nat.zero_lt_succ _) rfl) rfl ?_; refine L.yes rfl ?_; refine L.step (Ev.load rfl rfl rfl (Src.r 1 rfl) rfl) rfl ?_; refine L.yes rfl ?_; refine Lpu rfl rfl ?_; refine L.yes rfl ?_; refine L.step (Ev.fieldAddr rfl rfl rfl rfl rfl rfl (Src.r 0 rfl) (Nat.zero_lt_succ _) rfl) rfl ?_; refine L.yes rfl ?_; refine L.step (Ev.load rfl rfl rfl (Src.r 0 rfl) rfl) rfl ?_; refine L.yes rfl ?_; refine L.step (Ev.fieldAddr rfl rfl rfl rfl rfl rfl (Src.r 1 rfl) (Nat.zero_lt_succ _) rfl) rfl ?_; refine L.yes rfl ?_; refine L.step (Ev.load rfl rfl rfl (Src.r 1 rfl) rfl) rfl ?_; refine L.yes rfl ?_; refine L.step (Ev.sub rfl rfl (by omega) (by omega)) rfl ?_; refine L.yes rfl ?_; refine Lpu rfl rfl ?_; refine L.yes rfl ?_; refine Lpu rfl rfl ?_; refine L.yes rfl ?_; refine Lpu rfl rfl ?_; refine Lpu rfl rfl ?_; refine L.nil (QE.seq ?_)
     refine C.condB 44 rfl (fun hc44 => ?_) (fun hc44 => ?_)
     ·
      replace hc44 := of_decide_eq_true hc44
      refine C.seq (C.region ?_); refine Lpu rfl rfl ?_; refine L.nil (QE.seq (C.ret (QE.tR ?_))); refine QE.ret (js := []) (hs := []) (vs := [_]) rfl ⟨rfl, trivial⟩ (by decide) ?_
      refine ⟨congrArg (Value.int .i64) (Eq.symm ?_), rfl, rfl⟩
      first | exact checkE_1 (by omega) | exact checkE_2 (by omega) (by omega) | exact checkE_3 (by omega) (by omega) hc50 | exact checkE_4 (by omega) (by omega) hc50 (by omega) | exact checkE_0 (by omega) (by omega) hc50 (by omega)
     ·
      replace hc44 := of_decide_eq_false hc44
      refine C.skip (QE.seq (C.seq (C.seq (C.region ?_)))); refine L.step (Ev.fieldAddr rfl rfl rfl rfl rfl rfl (Src.r 0 rfl) (Nat.zero_lt_succ _) rfl) rfl ?_; refine L.step (Ev.load rfl rfl rfl (Src.r 0 rfl) rfl) rfl ?_; refine L.step (Ev.fieldAddr rfl rfl rfl rfl rfl rfl (Src.r 1 rfl) (Nat.zero_lt_succ _) rfl) rfl ?_; refine L.step (Ev.load rfl rfl rfl (Src.r 1 rfl) rfl) rfl ?_; refine L.step (Ev.idx1 (k := x.sec.toNat) rfl rfl rfl rfl rfl rfl (by omega) (by omega) (Src.r 5 rfl) (by rw [Bs_len]; omega)) rfl ?_; refine L.step (Ev.load rfl rfl rfl (Src.r 5 rfl) (Bs_get (by omega))) rfl ?_; refine L.nil (QE.seq ?_)
      refine C.condB 50 rfl (fun hc50 => ?_) (fun hc50 => ?_)
      ·
       refine C.seq (C.region ?_); refine Lpu rfl rfl ?_; refine L.nil (QE.seq (C.ret (QE.tR ?_))); refine QE.ret (js := []) (hs := []) (vs := [_]) rfl ⟨rfl, trivial⟩ (by decide) ?_
       refine ⟨congrArg (Value.int .i64) (Eq.symm ?_), rfl, rfl⟩
       first | exact checkE_1 (by omega) | exact checkE_2 (by omega) (by omega) | exact checkE_3 (by omega) (by omega) hc50 | exact checkE_4 (by omega) (by omega) hc50 (by omega) | exact checkE_0 (by omega) (by omega) hc50 (by omega)
      ·
       refine C.skip (QE.seq (C.seq (C.seq ?_))); refine C.regionQ (by kernel_rfl) ?_; refine LQ.step (Ev.fieldAddr rfl rfl rfl rfl rfl rfl (Src.r 1 rfl) (Nat.zero_lt_succ _) rfl) rfl ?_; refine LQ.step (Ev.load rfl rfl rfl (Src.r 1 rfl) rfl) rfl ?_; refine LQ.step (Ev.pure rfl) rfl ?_; refine LQ.step (Ev.pure rfl) rfl ?_
       refine LQ.bool 54 rfl (fun hg54 => ?_) (fun hg54 => ?_)
       ·
        replace hg54 := i_eq hg54
        refine LQ.yes rfl ?_; refine LQ.step (Ev.fieldAddr rfl rfl rfl rfl rfl rfl (Src.r 0 rfl) (Nat.zero_lt_succ _) rfl) rfl ?_; refine LQ.yes rfl ?_; refine LQ.step (Ev.load rfl rfl rfl (Src.r 0 rfl) rfl) rfl ?_; refine LQ.yes rfl ?_; refine LQ.step (Ev.fieldAddr rfl rfl rfl rfl rfl rfl (Src.r 1 rfl) (Nat.zero_lt_succ _) rfl) rfl ?_; refine LQ.yes rfl ?_; refine LQ.step (Ev.load rfl rfl rfl (Src.r 1 rfl) rfl) rfl ?_; refine LQ.yes rfl ?_; refine LQ.step (Ev.idx1 (k := x.sec.toNat) rfl rfl rfl rfl rfl rfl (by omega) (by omega) (Src.r 4 rfl) (by rw [I64_len]; omega)) rfl ?_; refine LQ.yes rfl ?_; refine LQ.step (Ev.load rfl rfl rfl (Src.r 4 rfl) (I64_get (by omega))) rfl ?_; refine LQ.yes rfl ?_; refine LQ.step (Ev.fieldAddr rfl rfl rfl rfl rfl rfl (Src.r 0 rfl) (Nat.zero_lt_succ _) rfl) rfl ?_; refine LQ.yes rfl ?_; refine LQ.step (Ev.load rfl rfl rfl (Src.r 0 rfl) rfl) rfl ?_; refine LQ.yes rfl ?_; refine LQ.step (Ev.pure rfl) rfl ?_; refine LQ.step (Ev.pure rfl) rfl ?_; refine LQ.nil ?_; refine QE.seq ?_
        refine C.condB 64 rfl (fun hc64 => ?_) (fun hc64 => ?_)
        ·
         replace hc64 := i_eq hc64
         refine C.seq (C.region ?_); refine Lpu rfl rfl ?_; refine L.nil (QE.seq (C.ret (QE.tR ?_))); refine QE.ret (js := []) (hs := []) (vs := [_]) rfl ⟨rfl, trivial⟩ (by decide) ?_
         refine ⟨congrArg (Value.int .i64) (Eq.symm ?_), rfl, rfl⟩
         first | exact checkE_1 (by omega) | exact checkE_2 (by omega) (by omega) | exact checkE_3 (by omega) (by omega) hc50 | exact checkE_4 (by omega) (by omega) hc50 (by omega) | exact checkE_0 (by omega) (by omega) hc50 (by omega)
        ·
         replace hc64 := i_ne hc64
         refine C.skip (QE.seq (C.seq (C.region ?_))); refine Lpu rfl rfl ?_; refine L.nil (QE.seq (C.ret ?_)); refine QE.ret (js := []) (hs := []) (vs := [_]) rfl ⟨rfl, trivial⟩ (by decide) ?_
         refine ⟨congrArg (Value.int .i64) (Eq.symm ?_), rfl, rfl⟩
         first | exact checkE_1 (by omega) | exact checkE_2 (by omega) (by omega) | exact checkE_3 (by omega) (by omega) hc50 | exact checkE_4 (by omega) (by omega) hc50 (by omega) | exact checkE_0 (by omega) (by omega) hc50 (by omega)
       ·
        replace hg54 := i_ne hg54
        refine LQ.no rfl rfl rfl ?_; refine LQ.no rfl rfl rfl ?_; refine LQ.no rfl rfl rfl ?_; refine LQ.no rfl rfl rfl ?_; refine LQ.no rfl rfl rfl ?_; refine LQ.no rfl rfl rfl ?_; refine LQ.no rfl rfl rfl ?_; refine LQ.no rfl rfl rfl ?_; refine LQ.no rfl rfl rfl ?_; refine LQ.step (Ev.pure rfl) rfl ?_; refine LQ.nil ?_; refine QE.seq ?_
        refine C.cond rfl (fun h => by cases h) (fun _ => ?_)
        refine C.skip (QE.seq (C.seq (C.region ?_))); refine Lpu rfl rfl ?_; refine L.nil (QE.seq (C.ret ?_)); refine QE.ret (js := []) (hs := []) (vs := [_]) rfl ⟨rfl, trivial⟩ (by decide) ?_
        refine ⟨congrArg (Value.int .i64) (Eq.symm ?_), rfl, rfl⟩
        first | exact checkE_1 (by omega) | exact checkE_2 (by omega) (by omega) | exact checkE_3 (by omega) (by omega) hc50 | exact checkE_4 (by omega) (by omega) hc50 (by omega) | exact checkE_0 (by omega) (by omega) hc50 (by omega)
   ·
    replace hg25 := i_ne hg25
    refine L.no rfl rfl rfl ?_; refine L.no rfl rfl rfl ?_; refine L.no rfl rfl rfl ?_; refine L.no rfl rfl rfl ?_; refine L.no rfl rfl rfl ?_; refine L.no rfl rfl rfl ?_; refine L.no rfl rfl rfl ?_; refine L.no rfl rfl rfl ?_; refine L.no rfl rfl rfl ?_; refine L.no rfl rfl rfl ?_; refine L.no rfl rfl rfl ?_; refine L.no rfl rfl rfl ?_; refine L.no rfl rfl rfl ?_; refine L.no rfl rfl rfl ?_; refine L.no rfl rfl rfl ?_; refine L.no rfl rfl rfl ?_; refine L.no rfl rfl rfl ?_; refine L.yes rfl ?_; refine Lpu rfl rfl ?_; refine Lpu rfl rfl ?_; refine L.nil (QE.seq ?_)
    refine C.cond rfl (fun h => by cases h) (fun _ => ?_)
    refine C.skip (QE.seq (C.seq (C.seq (C.region ?_)))); refine L.step (Ev.fieldAddr rfl rfl rfl rfl rfl rfl (Src.r 0 rfl) (Nat.zero_lt_succ _) rfl) rfl ?_; refine L.step (Ev.load rfl rfl rfl (Src.r 0 rfl) rfl) rfl ?_; refine L.step (Ev.fieldAddr rfl rfl rfl rfl rfl rfl (Src.r 1 rfl) (Nat.zero_lt_succ _) rfl) rfl ?_; refine L.step (Ev.load rfl rfl rfl (Src.r 1 rfl) rfl) rfl ?_; refine L.step (Ev.idx1 (k := x.sec.toNat) rfl rfl rfl rfl rfl rfl (by omega) (by omega) (Src.r 5 rfl) (by rw [Bs_len]; omega)) rfl ?_; refine L.step (Ev.load rfl rfl rfl (Src.r 5 rfl) (Bs_get (by omega))) rfl ?_; refine L.nil (QE.seq ?_)
    refine C.condB 50 rfl (fun hc50 => ?_) (fun hc50 => ?_)
    ·
     refine C.seq (C.region ?_); refine Lpu rfl rfl ?_; refine L.nil (QE.seq (C.ret (QE.tR ?_))); refine QE.ret (js := []) (hs := []) (vs := [_]) rfl ⟨rfl, trivial⟩ (by decide) ?_
     refine ⟨congrArg (Value.int .i64) (Eq.symm ?_), rfl, rfl⟩
     first | exact checkE_1 (by omega) | exact checkE_2 (by omega) (by omega) | exact checkE_3 (by omega) (by omega) hc50 | exact checkE_4 (by omega) (by omega) hc50 (by omega) | exact checkE_0 (by omega) (by omega) hc50 (by omega)
    ·
     refine C.skip (QE.seq (C.seq (C.seq ?_))); refine C.regionQ (by kernel_rfl) ?_; refine LQ.step (Ev.fieldAddr rfl rfl rfl rfl rfl rfl (Src.r 1 rfl) (Nat.zero_lt_succ _) rfl) rfl ?_; refine LQ.step (Ev.load rfl rfl rfl (Src.r 1 rfl) rfl) rfl ?_; refine LQ.step (Ev.pure rfl) rfl ?_; refine LQ.step (Ev.pure rfl) rfl ?_
     refine LQ.bool 54 rfl (fun hg54 => ?_) (fun hg54 => ?_)
     ·
      replace hg54 := i_eq hg54
      refine LQ.yes rfl ?_; refine LQ.step (Ev.fieldAddr rfl rfl rfl rfl rfl rfl (Src.r 0 rfl) (Nat.zero_lt_succ _) rfl) rfl ?_; refine LQ.yes rfl ?_; refine LQ.step (Ev.load rfl rfl rfl (Src.r 0 rfl) rfl) rfl ?_; refine LQ.yes rfl ?_; refine LQ.step (Ev.fieldAddr rfl rfl rfl rfl rfl rfl (Src.r 1 rfl) (Nat.zero_lt_succ _) rfl) rfl ?_; refine LQ.yes rfl ?_; refine LQ.step (Ev.load rfl rfl rfl (Src.r 1 rfl) rfl) rfl ?_; refine LQ.yes rfl ?_; refine LQ.step (Ev.idx1 (k := x.sec.toNat) rfl rfl rfl rfl rfl rfl (by omega) (by omega) (Src.r 4 rfl) (by rw [I64_len]; omega)) rfl ?_; refine LQ.yes rfl ?_; refine LQ.step (Ev.load rfl rfl rfl (Src.r 4 rfl) (I64_get (by omega))) rfl ?_; refine LQ.yes rfl ?_; refine LQ.step (Ev.fieldAddr rfl rfl rfl rfl rfl rfl (Src.r 0 rfl) (Nat.zero_lt_succ _) rfl) rfl ?_; refine LQ.yes rfl ?_; refine LQ.step (Ev.load rfl rfl rfl (Src.r 0 rfl) rfl) rfl ?_; refine LQ.yes rfl ?_; refine LQ.step (Ev.pure rfl) rfl ?_; refine LQ.step (Ev.pure rfl) rfl ?_; refine LQ.nil ?_; refine QE.seq ?_
      refine C.condB 64 rfl (fun hc64 => ?_) (fun hc64 => ?_)
      ·
       replace hc64 := i_eq hc64
       refine C.seq (C.region ?_); refine Lpu rfl rfl ?_; refine L.nil (QE.seq (C.ret (QE.tR ?_))); refine QE.ret (js := []) (hs := []) (vs := [_]) rfl ⟨rfl, trivial⟩ (by decide) ?_
       refine ⟨congrArg (Value.int .i64) (Eq.symm ?_), rfl, rfl⟩
       first | exact checkE_1 (by omega) | exact checkE_2 (by omega) (by omega) | exact checkE_3 (by omega) (by omega) hc50 | exact checkE_4 (by omega) (by omega) hc50 (by omega) | exact checkE_0 (by omega) (by omega) hc50 (by omega)
      ·
       replace hc64 := i_ne hc64
       refine C.skip (QE.seq (C.seq (C.region ?_))); refine Lpu rfl rfl ?_; refine L.nil (QE.seq (C.ret ?_)); refine QE.ret (js := []) (hs := []) (vs := [_]) rfl ⟨rfl, trivial⟩ (by decide) ?_
       refine ⟨congrArg (Value.int .i64) (Eq.symm ?_), rfl, rfl⟩
       first | exact checkE_1 (by omega) | exact checkE_2 (by omega) (by omega) | exact checkE_3 (by omega) (by omega) hc50 | exact checkE_4 (by omega) (by omega) hc50 (by omega) | exact checkE_0 (by omega) (by omega) hc50 (by omega)
     ·
      replace hg54 := i_ne hg54
      refine LQ.no rfl rfl rfl ?_; refine LQ.no rfl rfl rfl ?_; refine LQ.no rfl rfl rfl ?_; refine LQ.no rfl rfl rfl ?_; refine LQ.no rfl rfl rfl ?_; refine LQ.no rfl rfl rfl ?_; refine LQ.no rfl rfl rfl ?_; refine LQ.no rfl rfl rfl ?_; refine LQ.no rfl rfl rfl ?_; refine LQ.step (Ev.pure rfl) rfl ?_; refine LQ.nil ?_; refine QE.seq ?_
      refine C.cond rfl (fun h => by cases h) (fun _ => ?_)
      refine C.skip (QE.seq (C.seq (C.region ?_))); refine Lpu rfl rfl ?_; refine L.nil (QE.seq (C.ret ?_)); refine QE.ret (js := []) (hs := []) (vs := [_]) rfl ⟨rfl, trivial⟩ (by decide) ?_
      refine ⟨congrArg (Value.int .i64) (Eq.symm ?_), rfl, rfl⟩
      first | exact checkE_1 (by omega) | exact checkE_2 (by omega) (by omega) | exact checkE_3 (by omega) (by omega) hc50 | exact checkE_4 (by omega) (by omega) hc50 (by omega) | exact checkE_0 (by omega) (by omega) hc50 (by omega)

theorem check_c (f : Fl) (a : Fa) (ok : f.Ok) (_hh : a.hs.length = f.data.length) (x : Fo) (XA : Option Addr) (xc : Nat) (_hxl : x.data.length ≤ 9223372036854775807) :
   Ctr X 70 [.agg (List.toArray [.int .i64 (f.size : Int), .slice a.D f.data.length a.cD, .slice a.W f.wear.length a.cW, .int .i64 f.limit, .slice a.E f.dead.length a.cE]), .agg (List.toArray [.int .i64 x.kind, .int .i64 x.sec, .int .i64 x.at_, .slice XA x.data.length xc])] [Rd a.D (rowsV a.hs (B8 f.data)), KidsR a.hs (B8 f.data), Rd a.W (I64 f.wear), Rd a.E (Bs f.dead), Rd XA (U8 x.data)] [] (fun v R' H' => v = .int .i64 (checkE f x) ∧ R' = [] ∧ H' = []) := by
 obtain ⟨os1, os2, on1, on2, owl, odl, orows, ol1, ol2, owear⟩ := ok
 have hw : 0 ≤ x.sec ∧ x.sec < (f.data.length : Int) → f.wear.getD x.sec.toNat 0 ≤ f.limit := fun h => (owear _ (by omega)).2
 refine Ctr.of (X := X) (fn := Try.f70) Try.func70 rfl (by kernel_rfl) rfl ?_
 intro β
 refine C.seq (C.region ?_)
 refine L.boxA rfl rfl (fun A2 => ?_)
 refine L.boxA rfl rfl (fun A3 => ?_)
 refine Lpu rfl rfl ?_; refine L.nil (QE.seq (C.seq ?_)); refine C.freeze 1 rfl [0] (by decide) (by decide) ?_; refine C.freeze 0 rfl [] (by decide) (by decide) ?_; refine C.regionQ (by kernel_rfl) ?_; refine LQ.step (Ev.fieldAddr rfl rfl rfl rfl rfl rfl (Src.r 1 rfl) (Nat.zero_lt_succ _) rfl) rfl ?_; refine LQ.step (Ev.load rfl rfl rfl (Src.r 1 rfl) rfl) rfl ?_; refine LQ.step (Ev.pure rfl) rfl ?_; refine LQ.step (Ev.fieldAddr rfl rfl rfl rfl rfl rfl (Src.r 1 rfl) (Nat.zero_lt_succ _) rfl) rfl ?_; refine LQ.step (Ev.load rfl rfl rfl (Src.r 1 rfl) rfl) rfl ?_; refine LQ.step (Ev.pure rfl) rfl ?_; refine LQ.step (Ev.pure rfl) rfl ?_; refine LQ.step (Ev.pure rfl) rfl ?_; refine LQ.nil ?_; refine QE.seq (C.seq (C.block (C.seq (C.region ?_)))); refine Lpu rfl rfl ?_; refine Lpu rfl rfl ?_; refine Lpu rfl rfl ?_
 refine L.bool 16 rfl (fun hg16 => ?_) (fun hg16 => ?_)
 ·
  replace hg16 := (Bool.not_eq_true' _).mp hg16
  replace hg16 := i_ne hg16
  refine L.yes rfl ?_; refine Lpu rfl rfl ?_; refine L.yes rfl ?_; refine Lpu rfl rfl ?_; refine Lpu rfl rfl ?_; refine Lpu rfl rfl ?_; refine L.nil (QE.seq ?_)
  refine C.condB 13 rfl (fun hc13 => ?_) (fun hc13 => ?_)
  ·
   replace hc13 := (Bool.not_eq_true' _).mp hc13
   replace hc13 := i_ne hc13
   refine C.seq (C.region ?_); refine Lpu rfl rfl ?_; refine L.nil (QE.seq (C.ret (QE.bR (QE.tR ?_)))); refine QE.ret (js := []) (hs := []) (vs := [_]) rfl ⟨rfl, trivial⟩ (by decide) ?_
   refine ⟨congrArg (Value.int .i64) (Eq.symm ?_), rfl, rfl⟩
   first | exact checkE_1 (by omega) | exact checkE_2 (by omega) (by omega) | exact checkE_3 (by omega) (by omega) hc56 | exact checkE_4 (by omega) (by omega) hc56 (by omega) | exact checkE_0 (by omega) (by omega) hc56 (by omega)
  ·
   replace hc13 := (Bool.not_eq_false' _).mp hc13
   replace hc13 := i_eq hc13
   refine C.seq (C.seq (C.region ?_)); refine L.step (Ev.fieldAddr rfl rfl rfl rfl rfl rfl (Src.r 1 rfl) (Nat.zero_lt_succ _) rfl) rfl ?_; refine L.step (Ev.load rfl rfl rfl (Src.r 1 rfl) rfl) rfl ?_; refine Lpu rfl rfl ?_; refine Lpu rfl rfl ?_
   refine L.bool 24 rfl (fun hg24 => ?_) (fun hg24 => ?_)
   ·
    replace hg24 := of_decide_eq_true hg24
    refine L.no rfl rfl rfl ?_; refine L.no rfl rfl rfl ?_; refine L.no rfl rfl rfl ?_; refine L.no rfl rfl rfl ?_; refine L.no rfl rfl rfl ?_; refine L.no rfl rfl rfl ?_; refine Lpu rfl rfl ?_; refine Lpu rfl rfl ?_; refine L.nil (QE.seq ?_)
    refine C.cond rfl (fun _ => ?_) (fun h => by cases h)
    refine C.skip (QE.seq ?_)
    refine C.cond rfl (fun _ => ?_) (fun h => by cases h)
    refine C.seq (C.region ?_); refine Lpu rfl rfl ?_; refine L.nil (QE.seq (C.ret (QE.bR (QE.tR ?_)))); refine QE.ret (js := []) (hs := []) (vs := [_]) rfl ⟨rfl, trivial⟩ (by decide) ?_
    refine ⟨congrArg (Value.int .i64) (Eq.symm ?_), rfl, rfl⟩
    first | exact checkE_1 (by omega) | exact checkE_2 (by omega) (by omega) | exact checkE_3 (by omega) (by omega) hc56 | exact checkE_4 (by omega) (by omega) hc56 (by omega) | exact checkE_0 (by omega) (by omega) hc56 (by omega)
   ·
    replace hg24 := of_decide_eq_false hg24
    refine L.yes rfl ?_; refine L.step (Ev.fieldAddr rfl rfl rfl rfl rfl rfl (Src.r 1 rfl) (Nat.zero_lt_succ _) rfl) rfl ?_; refine L.yes rfl ?_; refine L.step (Ev.load rfl rfl rfl (Src.r 1 rfl) rfl) rfl ?_; refine L.yes rfl ?_; refine L.step (Ev.fieldAddr rfl rfl rfl rfl rfl rfl (Src.r 0 rfl) (Nat.zero_lt_succ _) rfl) rfl ?_; refine L.yes rfl ?_; refine L.step (Ev.load rfl rfl rfl (Src.r 0 rfl) rfl) rfl ?_; refine L.yes rfl ?_; refine Lpu rfl rfl ?_; refine L.yes rfl ?_; refine Lpu rfl rfl ?_; refine Lpu rfl rfl ?_; refine Lpu rfl rfl ?_; refine L.nil (QE.seq ?_)
    refine C.condB 20 rfl (fun hc20 => ?_) (fun hc20 => ?_)
    ·
     replace hc20 := of_decide_eq_true hc20
     refine C.skip (QE.seq ?_)
     refine C.cond rfl (fun _ => ?_) (fun h => by cases h)
     refine C.seq (C.region ?_); refine Lpu rfl rfl ?_; refine L.nil (QE.seq (C.ret (QE.bR (QE.tR ?_)))); refine QE.ret (js := []) (hs := []) (vs := [_]) rfl ⟨rfl, trivial⟩ (by decide) ?_
     refine ⟨congrArg (Value.int .i64) (Eq.symm ?_), rfl, rfl⟩
     first | exact checkE_1 (by omega) | exact checkE_2 (by omega) (by omega) | exact checkE_3 (by omega) (by omega) hc56 | exact checkE_4 (by omega) (by omega) hc56 (by omega) | exact checkE_0 (by omega) (by omega) hc56 (by omega)
    ·
     replace hc20 := of_decide_eq_false hc20
     refine C.region ?_; refine Lpu rfl rfl ?_; refine Lpu rfl rfl ?_
     refine L.bool 33 rfl (fun hg33 => ?_) (fun hg33 => ?_)
     ·
      replace hg33 := i_eq hg33
      refine L.yes rfl ?_; refine L.step (Ev.fieldAddr rfl rfl rfl rfl rfl rfl (Src.r 1 rfl) (Nat.zero_lt_succ _) rfl) rfl ?_; refine L.yes rfl ?_; refine L.step (Ev.load rfl rfl rfl (Src.r 1 rfl) rfl) rfl ?_; refine L.yes rfl ?_; refine Lpu rfl rfl ?_; refine L.yes rfl ?_; refine Lpu rfl rfl ?_
      refine L.bool 37 rfl (fun hg37 => ?_) (fun hg37 => ?_)
      ·
       replace hg37 := of_decide_eq_true hg37
       refine L.no rfl rfl rfl ?_; refine L.no rfl rfl rfl ?_; refine L.no rfl rfl rfl ?_; refine L.no rfl rfl rfl ?_; refine L.no rfl rfl rfl ?_; refine L.yes rfl ?_; refine Lpu rfl rfl ?_; refine L.yes rfl ?_; refine Lpu rfl rfl ?_; refine L.no rfl rfl rfl ?_; refine L.no rfl rfl rfl ?_; refine L.no rfl rfl rfl ?_; refine L.no rfl rfl rfl ?_; refine L.no rfl rfl rfl ?_; refine L.no rfl rfl rfl ?_; refine L.no rfl rfl rfl ?_; refine L.no rfl rfl rfl ?_; refine L.no rfl rfl rfl ?_; refine L.yes rfl ?_; refine Lpu rfl rfl ?_; refine Lpu rfl rfl ?_; refine Lpu rfl rfl ?_; refine L.nil (QE.seq ?_)
       refine C.cond rfl (fun _ => ?_) (fun h => by cases h)
       refine C.seq (C.region ?_); refine Lpu rfl rfl ?_; refine L.nil (QE.seq (C.ret (QE.bR (QE.tR ?_)))); refine QE.ret (js := []) (hs := []) (vs := [_]) rfl ⟨rfl, trivial⟩ (by decide) ?_
       refine ⟨congrArg (Value.int .i64) (Eq.symm ?_), rfl, rfl⟩
       first | exact checkE_1 (by omega) | exact checkE_2 (by omega) (by omega) | exact checkE_3 (by omega) (by omega) hc56 | exact checkE_4 (by omega) (by omega) hc56 (by omega) | exact checkE_0 (by omega) (by omega) hc56 (by omega)
      ·
       replace hg37 := of_decide_eq_false hg37
       refine L.yes rfl ?_; refine L.step (Ev.fieldAddr rfl rfl rfl rfl rfl rfl (Src.r 1 rfl) (Nat.zero_lt_succ _) rfl) rfl ?_; refine L.yes rfl ?_; refine L.step (Ev.load rfl rfl rfl (Src.r 1 rfl) rfl) rfl ?_; refine L.yes rfl ?_; refine L.step (Ev.fieldAddr rfl rfl rfl rfl rfl rfl (Src.r 0 rfl) (Nat.zero_lt_succ _) rfl) rfl ?_; refine L.yes rfl ?_; refine L.step (Ev.load rfl rfl rfl (Src.r 0 rfl) rfl) rfl ?_; refine L.yes rfl ?_; refine Lpu rfl rfl ?_; refine L.yes rfl ?_; refine Lpu rfl rfl ?_; refine L.yes rfl ?_; refine Lpu rfl rfl ?_
       refine L.bool 44 rfl (fun hg44 => ?_) (fun hg44 => ?_)
       ·
        replace hg44 := of_decide_eq_true hg44
        refine L.no rfl rfl rfl ?_; refine L.no rfl rfl rfl ?_; refine L.no rfl rfl rfl ?_; refine L.no rfl rfl rfl ?_; refine L.no rfl rfl rfl ?_; refine L.no rfl rfl rfl ?_; refine L.no rfl rfl rfl ?_; refine L.no rfl rfl rfl ?_; refine L.no rfl rfl rfl ?_; refine L.yes rfl ?_; refine Lpu rfl rfl ?_; refine Lpu rfl rfl ?_; refine Lpu rfl rfl ?_; refine L.nil (QE.seq ?_)
        refine C.cond rfl (fun _ => ?_) (fun h => by cases h)
        refine C.seq (C.region ?_); refine Lpu rfl rfl ?_; refine L.nil (QE.seq (C.ret (QE.bR (QE.tR ?_)))); refine QE.ret (js := []) (hs := []) (vs := [_]) rfl ⟨rfl, trivial⟩ (by decide) ?_
        refine ⟨congrArg (Value.int .i64) (Eq.symm ?_), rfl, rfl⟩
        first | exact checkE_1 (by omega) | exact checkE_2 (by omega) (by omega) | exact checkE_3 (by omega) (by omega) hc56 | exact checkE_4 (by omega) (by omega) hc56 (by omega) | exact checkE_0 (by omega) (by omega) hc56 (by omega)
       ·
        replace hg44 := of_decide_eq_false hg44
        refine L.yes rfl ?_; refine L.step (Ev.fieldAddr rfl rfl rfl rfl rfl rfl (Src.r 1 rfl) (Nat.zero_lt_succ _) rfl) rfl ?_; refine L.yes rfl ?_; refine L.step (Ev.load rfl rfl rfl (Src.r 1 rfl) rfl) rfl ?_; refine L.yes rfl ?_; refine Lpu rfl rfl ?_; refine L.yes rfl ?_; refine L.step (Ev.fieldAddr rfl rfl rfl rfl rfl rfl (Src.r 0 rfl) (Nat.zero_lt_succ _) rfl) rfl ?_; refine L.yes rfl ?_; refine L.step (Ev.load rfl rfl rfl (Src.r 0 rfl) rfl) rfl ?_; refine L.yes rfl ?_; refine L.step (Ev.fieldAddr rfl rfl rfl rfl rfl rfl (Src.r 1 rfl) (Nat.zero_lt_succ _) rfl) rfl ?_; refine L.yes rfl ?_; refine L.step (Ev.load rfl rfl rfl (Src.r 1 rfl) rfl) rfl ?_; refine L.yes rfl ?_; refine L.step (Ev.sub rfl rfl (by omega) (by omega)) rfl ?_; refine L.yes rfl ?_; refine Lpu rfl rfl ?_; refine L.yes rfl ?_; refine Lpu rfl rfl ?_; refine Lpu rfl rfl ?_; refine Lpu rfl rfl ?_; refine L.nil (QE.seq ?_)
        refine C.condB 20 rfl (fun hc20 => ?_) (fun hc20 => ?_)
        ·
         replace hc20 := of_decide_eq_true hc20
         refine C.seq (C.region ?_); refine Lpu rfl rfl ?_; refine L.nil (QE.seq (C.ret (QE.bR (QE.tR ?_)))); refine QE.ret (js := []) (hs := []) (vs := [_]) rfl ⟨rfl, trivial⟩ (by decide) ?_
         refine ⟨congrArg (Value.int .i64) (Eq.symm ?_), rfl, rfl⟩
         first | exact checkE_1 (by omega) | exact checkE_2 (by omega) (by omega) | exact checkE_3 (by omega) (by omega) hc56 | exact checkE_4 (by omega) (by omega) hc56 (by omega) | exact checkE_0 (by omega) (by omega) hc56 (by omega)
        ·
         replace hc20 := of_decide_eq_false hc20
         refine C.seq (C.region ?_); refine L.step (Ev.fieldAddr rfl rfl rfl rfl rfl rfl (Src.r 0 rfl) (Nat.zero_lt_succ _) rfl) rfl ?_; refine L.step (Ev.load rfl rfl rfl (Src.r 0 rfl) rfl) rfl ?_; refine L.step (Ev.fieldAddr rfl rfl rfl rfl rfl rfl (Src.r 1 rfl) (Nat.zero_lt_succ _) rfl) rfl ?_; refine L.step (Ev.load rfl rfl rfl (Src.r 1 rfl) rfl) rfl ?_; refine L.step (Ev.idx1 (k := x.sec.toNat) rfl rfl rfl rfl rfl rfl (by omega) (by omega) (Src.r 5 rfl) (by rw [Bs_len]; omega)) rfl ?_; refine L.step (Ev.load rfl rfl rfl (Src.r 5 rfl) (Bs_get (by omega))) rfl ?_; refine Lpu rfl rfl ?_; refine L.nil (QE.seq ?_)
         refine C.condB 56 rfl (fun hc56 => ?_) (fun hc56 => ?_)
         ·
          refine C.seq (C.region ?_); refine Lpu rfl rfl ?_; refine L.nil (QE.seq (C.ret (QE.bR (QE.tR ?_)))); refine QE.ret (js := []) (hs := []) (vs := [_]) rfl ⟨rfl, trivial⟩ (by decide) ?_
          refine ⟨congrArg (Value.int .i64) (Eq.symm ?_), rfl, rfl⟩
          first | exact checkE_1 (by omega) | exact checkE_2 (by omega) (by omega) | exact checkE_3 (by omega) (by omega) hc56 | exact checkE_4 (by omega) (by omega) hc56 (by omega) | exact checkE_0 (by omega) (by omega) hc56 (by omega)
         ·
          refine C.seq ?_; refine C.regionQ (by kernel_rfl) ?_; refine LQ.step (Ev.pure rfl) rfl ?_; refine LQ.step (Ev.pure rfl) rfl ?_
          refine LQ.bool 65 rfl (fun hg65 => ?_) (fun hg65 => ?_)
          ·
           replace hg65 := i_eq hg65
           refine LQ.yes rfl ?_; refine LQ.step (Ev.fieldAddr rfl rfl rfl rfl rfl rfl (Src.r 0 rfl) (Nat.zero_lt_succ _) rfl) rfl ?_; refine LQ.yes rfl ?_; refine LQ.step (Ev.load rfl rfl rfl (Src.r 0 rfl) rfl) rfl ?_; refine LQ.yes rfl ?_; refine LQ.step (Ev.fieldAddr rfl rfl rfl rfl rfl rfl (Src.r 1 rfl) (Nat.zero_lt_succ _) rfl) rfl ?_; refine LQ.yes rfl ?_; refine LQ.step (Ev.load rfl rfl rfl (Src.r 1 rfl) rfl) rfl ?_; refine LQ.yes rfl ?_; refine LQ.step (Ev.idx1 (k := x.sec.toNat) rfl rfl rfl rfl rfl rfl (by omega) (by omega) (Src.r 4 rfl) (by rw [I64_len]; omega)) rfl ?_; refine LQ.yes rfl ?_; refine LQ.step (Ev.load rfl rfl rfl (Src.r 4 rfl) (I64_get (by omega))) rfl ?_; refine LQ.yes rfl ?_; refine LQ.step (Ev.fieldAddr rfl rfl rfl rfl rfl rfl (Src.r 0 rfl) (Nat.zero_lt_succ _) rfl) rfl ?_; refine LQ.yes rfl ?_; refine LQ.step (Ev.load rfl rfl rfl (Src.r 0 rfl) rfl) rfl ?_; refine LQ.yes rfl ?_; refine LQ.step (Ev.pure rfl) rfl ?_; refine LQ.step (Ev.pure rfl) rfl ?_; refine LQ.step (Ev.pure rfl) rfl ?_; refine LQ.nil ?_; refine QE.seq ?_
           refine C.condB 63 rfl (fun hc63 => ?_) (fun hc63 => ?_)
           ·
            replace hc63 := of_decide_eq_true hc63
            refine C.seq (C.region ?_); refine Lpu rfl rfl ?_; refine L.nil (QE.seq (C.ret (QE.bR (QE.tR ?_)))); refine QE.ret (js := []) (hs := []) (vs := [_]) rfl ⟨rfl, trivial⟩ (by decide) ?_
            refine ⟨congrArg (Value.int .i64) (Eq.symm ?_), rfl, rfl⟩
            first | exact checkE_1 (by omega) | exact checkE_2 (by omega) (by omega) | exact checkE_3 (by omega) (by omega) hc56 | exact checkE_4 (by omega) (by omega) hc56 (by omega) | exact checkE_0 (by omega) (by omega) hc56 (by omega)
           ·
            replace hc63 := of_decide_eq_false hc63
            refine C.skip ?_; refine QE.blkN ?_; refine QE.seq (C.seq (C.region ?_)); refine Lpu rfl rfl ?_; refine L.nil (QE.seq (C.ret ?_)); refine QE.ret (js := []) (hs := []) (vs := [_]) rfl ⟨rfl, trivial⟩ (by decide) ?_
            refine ⟨congrArg (Value.int .i64) (Eq.symm ?_), rfl, rfl⟩
            first | exact checkE_1 (by omega) | exact checkE_2 (by omega) (by omega) | exact checkE_3 (by omega) (by omega) hc56 | exact checkE_4 (by omega) (by omega) hc56 (by omega) | exact checkE_0 (by omega) (by omega) hc56 (by omega)
          ·
           replace hg65 := i_ne hg65
           refine LQ.no rfl rfl rfl ?_; refine LQ.no rfl rfl rfl ?_; refine LQ.no rfl rfl rfl ?_; refine LQ.no rfl rfl rfl ?_; refine LQ.no rfl rfl rfl ?_; refine LQ.no rfl rfl rfl ?_; refine LQ.no rfl rfl rfl ?_; refine LQ.no rfl rfl rfl ?_; refine LQ.no rfl rfl rfl ?_; refine LQ.step (Ev.pure rfl) rfl ?_; refine LQ.step (Ev.pure rfl) rfl ?_; refine LQ.nil ?_; refine QE.seq ?_
           refine C.cond rfl (fun h => by cases h) (fun _ => ?_)
           refine C.skip ?_; refine QE.blkN ?_; refine QE.seq (C.seq (C.region ?_)); refine Lpu rfl rfl ?_; refine L.nil (QE.seq (C.ret ?_)); refine QE.ret (js := []) (hs := []) (vs := [_]) rfl ⟨rfl, trivial⟩ (by decide) ?_
           refine ⟨congrArg (Value.int .i64) (Eq.symm ?_), rfl, rfl⟩
           first | exact checkE_1 (by omega) | exact checkE_2 (by omega) (by omega) | exact checkE_3 (by omega) (by omega) hc56 | exact checkE_4 (by omega) (by omega) hc56 (by omega) | exact checkE_0 (by omega) (by omega) hc56 (by omega)
     ·
      replace hg33 := i_ne hg33
      refine L.no rfl rfl rfl ?_; refine L.no rfl rfl rfl ?_; refine L.no rfl rfl rfl ?_; refine L.no rfl rfl rfl ?_; refine L.no rfl rfl rfl ?_; refine L.no rfl rfl rfl ?_; refine L.no rfl rfl rfl ?_; refine L.no rfl rfl rfl ?_; refine L.no rfl rfl rfl ?_; refine L.no rfl rfl rfl ?_; refine L.no rfl rfl rfl ?_; refine L.no rfl rfl rfl ?_; refine L.no rfl rfl rfl ?_; refine L.no rfl rfl rfl ?_; refine L.no rfl rfl rfl ?_; refine L.no rfl rfl rfl ?_; refine L.no rfl rfl rfl ?_; refine L.no rfl rfl rfl ?_; refine L.no rfl rfl rfl ?_; refine L.no rfl rfl rfl ?_; refine L.no rfl rfl rfl ?_; refine Lpu rfl rfl ?_; refine Lpu rfl rfl ?_; refine L.nil (QE.seq ?_)
      refine C.cond rfl (fun h => by cases h) (fun _ => ?_)
      refine C.seq (C.region ?_); refine L.step (Ev.fieldAddr rfl rfl rfl rfl rfl rfl (Src.r 0 rfl) (Nat.zero_lt_succ _) rfl) rfl ?_; refine L.step (Ev.load rfl rfl rfl (Src.r 0 rfl) rfl) rfl ?_; refine L.step (Ev.fieldAddr rfl rfl rfl rfl rfl rfl (Src.r 1 rfl) (Nat.zero_lt_succ _) rfl) rfl ?_; refine L.step (Ev.load rfl rfl rfl (Src.r 1 rfl) rfl) rfl ?_; refine L.step (Ev.idx1 (k := x.sec.toNat) rfl rfl rfl rfl rfl rfl (by omega) (by omega) (Src.r 5 rfl) (by rw [Bs_len]; omega)) rfl ?_; refine L.step (Ev.load rfl rfl rfl (Src.r 5 rfl) (Bs_get (by omega))) rfl ?_; refine Lpu rfl rfl ?_; refine L.nil (QE.seq ?_)
      refine C.condB 56 rfl (fun hc56 => ?_) (fun hc56 => ?_)
      ·
       refine C.seq (C.region ?_); refine Lpu rfl rfl ?_; refine L.nil (QE.seq (C.ret (QE.bR (QE.tR ?_)))); refine QE.ret (js := []) (hs := []) (vs := [_]) rfl ⟨rfl, trivial⟩ (by decide) ?_
       refine ⟨congrArg (Value.int .i64) (Eq.symm ?_), rfl, rfl⟩
       first | exact checkE_1 (by omega) | exact checkE_2 (by omega) (by omega) | exact checkE_3 (by omega) (by omega) hc56 | exact checkE_4 (by omega) (by omega) hc56 (by omega) | exact checkE_0 (by omega) (by omega) hc56 (by omega)
      ·
       refine C.seq ?_; refine C.regionQ (by kernel_rfl) ?_; refine LQ.step (Ev.pure rfl) rfl ?_; refine LQ.step (Ev.pure rfl) rfl ?_
       refine LQ.bool 65 rfl (fun hg65 => ?_) (fun hg65 => ?_)
       ·
        replace hg65 := i_eq hg65
        refine LQ.yes rfl ?_; refine LQ.step (Ev.fieldAddr rfl rfl rfl rfl rfl rfl (Src.r 0 rfl) (Nat.zero_lt_succ _) rfl) rfl ?_; refine LQ.yes rfl ?_; refine LQ.step (Ev.load rfl rfl rfl (Src.r 0 rfl) rfl) rfl ?_; refine LQ.yes rfl ?_; refine LQ.step (Ev.fieldAddr rfl rfl rfl rfl rfl rfl (Src.r 1 rfl) (Nat.zero_lt_succ _) rfl) rfl ?_; refine LQ.yes rfl ?_; refine LQ.step (Ev.load rfl rfl rfl (Src.r 1 rfl) rfl) rfl ?_; refine LQ.yes rfl ?_; refine LQ.step (Ev.idx1 (k := x.sec.toNat) rfl rfl rfl rfl rfl rfl (by omega) (by omega) (Src.r 4 rfl) (by rw [I64_len]; omega)) rfl ?_; refine LQ.yes rfl ?_; refine LQ.step (Ev.load rfl rfl rfl (Src.r 4 rfl) (I64_get (by omega))) rfl ?_; refine LQ.yes rfl ?_; refine LQ.step (Ev.fieldAddr rfl rfl rfl rfl rfl rfl (Src.r 0 rfl) (Nat.zero_lt_succ _) rfl) rfl ?_; refine LQ.yes rfl ?_; refine LQ.step (Ev.load rfl rfl rfl (Src.r 0 rfl) rfl) rfl ?_; refine LQ.yes rfl ?_; refine LQ.step (Ev.pure rfl) rfl ?_; refine LQ.step (Ev.pure rfl) rfl ?_; refine LQ.step (Ev.pure rfl) rfl ?_; refine LQ.nil ?_; refine QE.seq ?_
        refine C.condB 63 rfl (fun hc63 => ?_) (fun hc63 => ?_)
        ·
         replace hc63 := of_decide_eq_true hc63
         refine C.seq (C.region ?_); refine Lpu rfl rfl ?_; refine L.nil (QE.seq (C.ret (QE.bR (QE.tR ?_)))); refine QE.ret (js := []) (hs := []) (vs := [_]) rfl ⟨rfl, trivial⟩ (by decide) ?_
         refine ⟨congrArg (Value.int .i64) (Eq.symm ?_), rfl, rfl⟩
         first | exact checkE_1 (by omega) | exact checkE_2 (by omega) (by omega) | exact checkE_3 (by omega) (by omega) hc56 | exact checkE_4 (by omega) (by omega) hc56 (by omega) | exact checkE_0 (by omega) (by omega) hc56 (by omega)
        ·
         replace hc63 := of_decide_eq_false hc63
         refine C.skip ?_; refine QE.blkN ?_; refine QE.seq (C.seq (C.region ?_)); refine Lpu rfl rfl ?_; refine L.nil (QE.seq (C.ret ?_)); refine QE.ret (js := []) (hs := []) (vs := [_]) rfl ⟨rfl, trivial⟩ (by decide) ?_
         refine ⟨congrArg (Value.int .i64) (Eq.symm ?_), rfl, rfl⟩
         first | exact checkE_1 (by omega) | exact checkE_2 (by omega) (by omega) | exact checkE_3 (by omega) (by omega) hc56 | exact checkE_4 (by omega) (by omega) hc56 (by omega) | exact checkE_0 (by omega) (by omega) hc56 (by omega)
       ·
        replace hg65 := i_ne hg65
        refine LQ.no rfl rfl rfl ?_; refine LQ.no rfl rfl rfl ?_; refine LQ.no rfl rfl rfl ?_; refine LQ.no rfl rfl rfl ?_; refine LQ.no rfl rfl rfl ?_; refine LQ.no rfl rfl rfl ?_; refine LQ.no rfl rfl rfl ?_; refine LQ.no rfl rfl rfl ?_; refine LQ.no rfl rfl rfl ?_; refine LQ.step (Ev.pure rfl) rfl ?_; refine LQ.step (Ev.pure rfl) rfl ?_; refine LQ.nil ?_; refine QE.seq ?_
        refine C.cond rfl (fun h => by cases h) (fun _ => ?_)
        refine C.skip ?_; refine QE.blkN ?_; refine QE.seq (C.seq (C.region ?_)); refine Lpu rfl rfl ?_; refine L.nil (QE.seq (C.ret ?_)); refine QE.ret (js := []) (hs := []) (vs := [_]) rfl ⟨rfl, trivial⟩ (by decide) ?_
        refine ⟨congrArg (Value.int .i64) (Eq.symm ?_), rfl, rfl⟩
        first | exact checkE_1 (by omega) | exact checkE_2 (by omega) (by omega) | exact checkE_3 (by omega) (by omega) hc56 | exact checkE_4 (by omega) (by omega) hc56 (by omega) | exact checkE_0 (by omega) (by omega) hc56 (by omega)
 ·
  replace hg16 := (Bool.not_eq_false' _).mp hg16
  replace hg16 := i_eq hg16
  refine L.no rfl rfl rfl ?_; refine L.no rfl rfl rfl ?_; refine Lpu rfl rfl ?_; refine Lpu rfl rfl ?_; refine L.nil (QE.seq ?_)
  refine C.cond rfl (fun h => by cases h) (fun _ => ?_)
  refine C.seq (C.seq (C.region ?_)); refine L.step (Ev.fieldAddr rfl rfl rfl rfl rfl rfl (Src.r 1 rfl) (Nat.zero_lt_succ _) rfl) rfl ?_; refine L.step (Ev.load rfl rfl rfl (Src.r 1 rfl) rfl) rfl ?_; refine Lpu rfl rfl ?_; refine Lpu rfl rfl ?_
  refine L.bool 24 rfl (fun hg24 => ?_) (fun hg24 => ?_)
  ·
   replace hg24 := of_decide_eq_true hg24
   refine L.no rfl rfl rfl ?_; refine L.no rfl rfl rfl ?_; refine L.no rfl rfl rfl ?_; refine L.no rfl rfl rfl ?_; refine L.no rfl rfl rfl ?_; refine L.no rfl rfl rfl ?_; refine Lpu rfl rfl ?_; refine Lpu rfl rfl ?_; refine L.nil (QE.seq ?_)
   refine C.cond rfl (fun _ => ?_) (fun h => by cases h)
   refine C.skip (QE.seq ?_)
   refine C.cond rfl (fun _ => ?_) (fun h => by cases h)
   refine C.seq (C.region ?_); refine Lpu rfl rfl ?_; refine L.nil (QE.seq (C.ret (QE.bR (QE.tR ?_)))); refine QE.ret (js := []) (hs := []) (vs := [_]) rfl ⟨rfl, trivial⟩ (by decide) ?_
   refine ⟨congrArg (Value.int .i64) (Eq.symm ?_), rfl, rfl⟩
   first | exact checkE_1 (by omega) | exact checkE_2 (by omega) (by omega) | exact checkE_3 (by omega) (by omega) hc56 | exact checkE_4 (by omega) (by omega) hc56 (by omega) | exact checkE_0 (by omega) (by omega) hc56 (by omega)
  ·
   replace hg24 := of_decide_eq_false hg24
   refine L.yes rfl ?_; refine L.step (Ev.fieldAddr rfl rfl rfl rfl rfl rfl (Src.r 1 rfl) (Nat.zero_lt_succ _) rfl) rfl ?_; refine L.yes rfl ?_; refine L.step (Ev.load rfl rfl rfl (Src.r 1 rfl) rfl) rfl ?_; refine L.yes rfl ?_; refine L.step (Ev.fieldAddr rfl rfl rfl rfl rfl rfl (Src.r 0 rfl) (Nat.zero_lt_succ _) rfl) rfl ?_; refine L.yes rfl ?_; refine L.step (Ev.load rfl rfl rfl (Src.r 0 rfl) rfl) rfl ?_; refine L.yes rfl ?_; refine Lpu rfl rfl ?_; refine L.yes rfl ?_; refine Lpu rfl rfl ?_; refine Lpu rfl rfl ?_; refine Lpu rfl rfl ?_; refine L.nil (QE.seq ?_)
   refine C.condB 20 rfl (fun hc20 => ?_) (fun hc20 => ?_)
   ·
    replace hc20 := of_decide_eq_true hc20
    refine C.skip (QE.seq ?_)
    refine C.cond rfl (fun _ => ?_) (fun h => by cases h)
    refine C.seq (C.region ?_); refine Lpu rfl rfl ?_; refine L.nil (QE.seq (C.ret (QE.bR (QE.tR ?_)))); refine QE.ret (js := []) (hs := []) (vs := [_]) rfl ⟨rfl, trivial⟩ (by decide) ?_
    refine ⟨congrArg (Value.int .i64) (Eq.symm ?_), rfl, rfl⟩
    first | exact checkE_1 (by omega) | exact checkE_2 (by omega) (by omega) | exact checkE_3 (by omega) (by omega) hc56 | exact checkE_4 (by omega) (by omega) hc56 (by omega) | exact checkE_0 (by omega) (by omega) hc56 (by omega)
   ·
    replace hc20 := of_decide_eq_false hc20
    refine C.region ?_; refine Lpu rfl rfl ?_; refine Lpu rfl rfl ?_
    refine L.bool 33 rfl (fun hg33 => ?_) (fun hg33 => ?_)
    ·
     replace hg33 := i_eq hg33
     refine L.yes rfl ?_; refine L.step (Ev.fieldAddr rfl rfl rfl rfl rfl rfl (Src.r 1 rfl) (Nat.zero_lt_succ _) rfl) rfl ?_; refine L.yes rfl ?_; refine L.step (Ev.load rfl rfl rfl (Src.r 1 rfl) rfl) rfl ?_; refine L.yes rfl ?_; refine Lpu rfl rfl ?_; refine L.yes rfl ?_; refine Lpu rfl rfl ?_
     refine L.bool 37 rfl (fun hg37 => ?_) (fun hg37 => ?_)
     ·
      replace hg37 := of_decide_eq_true hg37
      refine L.no rfl rfl rfl ?_; refine L.no rfl rfl rfl ?_; refine L.no rfl rfl rfl ?_; refine L.no rfl rfl rfl ?_; refine L.no rfl rfl rfl ?_; refine L.yes rfl ?_; refine Lpu rfl rfl ?_; refine L.yes rfl ?_; refine Lpu rfl rfl ?_; refine L.no rfl rfl rfl ?_; refine L.no rfl rfl rfl ?_; refine L.no rfl rfl rfl ?_; refine L.no rfl rfl rfl ?_; refine L.no rfl rfl rfl ?_; refine L.no rfl rfl rfl ?_; refine L.no rfl rfl rfl ?_; refine L.no rfl rfl rfl ?_; refine L.no rfl rfl rfl ?_; refine L.yes rfl ?_; refine Lpu rfl rfl ?_; refine Lpu rfl rfl ?_; refine Lpu rfl rfl ?_; refine L.nil (QE.seq ?_)
      refine C.cond rfl (fun _ => ?_) (fun h => by cases h)
      refine C.seq (C.region ?_); refine Lpu rfl rfl ?_; refine L.nil (QE.seq (C.ret (QE.bR (QE.tR ?_)))); refine QE.ret (js := []) (hs := []) (vs := [_]) rfl ⟨rfl, trivial⟩ (by decide) ?_
      refine ⟨congrArg (Value.int .i64) (Eq.symm ?_), rfl, rfl⟩
      first | exact checkE_1 (by omega) | exact checkE_2 (by omega) (by omega) | exact checkE_3 (by omega) (by omega) hc56 | exact checkE_4 (by omega) (by omega) hc56 (by omega) | exact checkE_0 (by omega) (by omega) hc56 (by omega)
     ·
      replace hg37 := of_decide_eq_false hg37
      refine L.yes rfl ?_; refine L.step (Ev.fieldAddr rfl rfl rfl rfl rfl rfl (Src.r 1 rfl) (Nat.zero_lt_succ _) rfl) rfl ?_; refine L.yes rfl ?_; refine L.step (Ev.load rfl rfl rfl (Src.r 1 rfl) rfl) rfl ?_; refine L.yes rfl ?_; refine L.step (Ev.fieldAddr rfl rfl rfl rfl rfl rfl (Src.r 0 rfl) (Nat.zero_lt_succ _) rfl) rfl ?_; refine L.yes rfl ?_; refine L.step (Ev.load rfl rfl rfl (Src.r 0 rfl) rfl) rfl ?_; refine L.yes rfl ?_; refine Lpu rfl rfl ?_; refine L.yes rfl ?_; refine Lpu rfl rfl ?_; refine L.yes rfl ?_; refine Lpu rfl rfl ?_
      refine L.bool 44 rfl (fun hg44 => ?_) (fun hg44 => ?_)
      ·
       replace hg44 := of_decide_eq_true hg44
       refine L.no rfl rfl rfl ?_; refine L.no rfl rfl rfl ?_; refine L.no rfl rfl rfl ?_; refine L.no rfl rfl rfl ?_; refine L.no rfl rfl rfl ?_; refine L.no rfl rfl rfl ?_; refine L.no rfl rfl rfl ?_; refine L.no rfl rfl rfl ?_; refine L.no rfl rfl rfl ?_; refine L.yes rfl ?_; refine Lpu rfl rfl ?_; refine Lpu rfl rfl ?_; refine Lpu rfl rfl ?_; refine L.nil (QE.seq ?_)
       refine C.cond rfl (fun _ => ?_) (fun h => by cases h)
       refine C.seq (C.region ?_); refine Lpu rfl rfl ?_; refine L.nil (QE.seq (C.ret (QE.bR (QE.tR ?_)))); refine QE.ret (js := []) (hs := []) (vs := [_]) rfl ⟨rfl, trivial⟩ (by decide) ?_
       refine ⟨congrArg (Value.int .i64) (Eq.symm ?_), rfl, rfl⟩
       first | exact checkE_1 (by omega) | exact checkE_2 (by omega) (by omega) | exact checkE_3 (by omega) (by omega) hc56 | exact checkE_4 (by omega) (by omega) hc56 (by omega) | exact checkE_0 (by omega) (by omega) hc56 (by omega)
      ·
       replace hg44 := of_decide_eq_false hg44
       refine L.yes rfl ?_; refine L.step (Ev.fieldAddr rfl rfl rfl rfl rfl rfl (Src.r 1 rfl) (Nat.zero_lt_succ _) rfl) rfl ?_; refine L.yes rfl ?_; refine L.step (Ev.load rfl rfl rfl (Src.r 1 rfl) rfl) rfl ?_; refine L.yes rfl ?_; refine Lpu rfl rfl ?_; refine L.yes rfl ?_; refine L.step (Ev.fieldAddr rfl rfl rfl rfl rfl rfl (Src.r 0 rfl) (Nat.zero_lt_succ _) rfl) rfl ?_; refine L.yes rfl ?_; refine L.step (Ev.load rfl rfl rfl (Src.r 0 rfl) rfl) rfl ?_; refine L.yes rfl ?_; refine L.step (Ev.fieldAddr rfl rfl rfl rfl rfl rfl (Src.r 1 rfl) (Nat.zero_lt_succ _) rfl) rfl ?_; refine L.yes rfl ?_; refine L.step (Ev.load rfl rfl rfl (Src.r 1 rfl) rfl) rfl ?_; refine L.yes rfl ?_; refine L.step (Ev.sub rfl rfl (by omega) (by omega)) rfl ?_; refine L.yes rfl ?_; refine Lpu rfl rfl ?_; refine L.yes rfl ?_; refine Lpu rfl rfl ?_; refine Lpu rfl rfl ?_; refine Lpu rfl rfl ?_; refine L.nil (QE.seq ?_)
       refine C.condB 20 rfl (fun hc20 => ?_) (fun hc20 => ?_)
       ·
        replace hc20 := of_decide_eq_true hc20
        refine C.seq (C.region ?_); refine Lpu rfl rfl ?_; refine L.nil (QE.seq (C.ret (QE.bR (QE.tR ?_)))); refine QE.ret (js := []) (hs := []) (vs := [_]) rfl ⟨rfl, trivial⟩ (by decide) ?_
        refine ⟨congrArg (Value.int .i64) (Eq.symm ?_), rfl, rfl⟩
        first | exact checkE_1 (by omega) | exact checkE_2 (by omega) (by omega) | exact checkE_3 (by omega) (by omega) hc56 | exact checkE_4 (by omega) (by omega) hc56 (by omega) | exact checkE_0 (by omega) (by omega) hc56 (by omega)
       ·
        replace hc20 := of_decide_eq_false hc20
        refine C.seq (C.region ?_); refine L.step (Ev.fieldAddr rfl rfl rfl rfl rfl rfl (Src.r 0 rfl) (Nat.zero_lt_succ _) rfl) rfl ?_; refine L.step (Ev.load rfl rfl rfl (Src.r 0 rfl) rfl) rfl ?_; refine L.step (Ev.fieldAddr rfl rfl rfl rfl rfl rfl (Src.r 1 rfl) (Nat.zero_lt_succ _) rfl) rfl ?_; refine L.step (Ev.load rfl rfl rfl (Src.r 1 rfl) rfl) rfl ?_; refine L.step (Ev.idx1 (k := x.sec.toNat) rfl rfl rfl rfl rfl rfl (by omega) (by omega) (Src.r 5 rfl) (by rw [Bs_len]; omega)) rfl ?_; refine L.step (Ev.load rfl rfl rfl (Src.r 5 rfl) (Bs_get (by omega))) rfl ?_; refine Lpu rfl rfl ?_; refine L.nil (QE.seq ?_)
        refine C.condB 56 rfl (fun hc56 => ?_) (fun hc56 => ?_)
        ·
         refine C.seq (C.region ?_); refine Lpu rfl rfl ?_; refine L.nil (QE.seq (C.ret (QE.bR (QE.tR ?_)))); refine QE.ret (js := []) (hs := []) (vs := [_]) rfl ⟨rfl, trivial⟩ (by decide) ?_
         refine ⟨congrArg (Value.int .i64) (Eq.symm ?_), rfl, rfl⟩
         first | exact checkE_1 (by omega) | exact checkE_2 (by omega) (by omega) | exact checkE_3 (by omega) (by omega) hc56 | exact checkE_4 (by omega) (by omega) hc56 (by omega) | exact checkE_0 (by omega) (by omega) hc56 (by omega)
        ·
         refine C.seq ?_; refine C.regionQ (by kernel_rfl) ?_; refine LQ.step (Ev.pure rfl) rfl ?_; refine LQ.step (Ev.pure rfl) rfl ?_
         refine LQ.bool 65 rfl (fun hg65 => ?_) (fun hg65 => ?_)
         ·
          replace hg65 := i_eq hg65
          refine LQ.yes rfl ?_; refine LQ.step (Ev.fieldAddr rfl rfl rfl rfl rfl rfl (Src.r 0 rfl) (Nat.zero_lt_succ _) rfl) rfl ?_; refine LQ.yes rfl ?_; refine LQ.step (Ev.load rfl rfl rfl (Src.r 0 rfl) rfl) rfl ?_; refine LQ.yes rfl ?_; refine LQ.step (Ev.fieldAddr rfl rfl rfl rfl rfl rfl (Src.r 1 rfl) (Nat.zero_lt_succ _) rfl) rfl ?_; refine LQ.yes rfl ?_; refine LQ.step (Ev.load rfl rfl rfl (Src.r 1 rfl) rfl) rfl ?_; refine LQ.yes rfl ?_; refine LQ.step (Ev.idx1 (k := x.sec.toNat) rfl rfl rfl rfl rfl rfl (by omega) (by omega) (Src.r 4 rfl) (by rw [I64_len]; omega)) rfl ?_; refine LQ.yes rfl ?_; refine LQ.step (Ev.load rfl rfl rfl (Src.r 4 rfl) (I64_get (by omega))) rfl ?_; refine LQ.yes rfl ?_; refine LQ.step (Ev.fieldAddr rfl rfl rfl rfl rfl rfl (Src.r 0 rfl) (Nat.zero_lt_succ _) rfl) rfl ?_; refine LQ.yes rfl ?_; refine LQ.step (Ev.load rfl rfl rfl (Src.r 0 rfl) rfl) rfl ?_; refine LQ.yes rfl ?_; refine LQ.step (Ev.pure rfl) rfl ?_; refine LQ.step (Ev.pure rfl) rfl ?_; refine LQ.step (Ev.pure rfl) rfl ?_; refine LQ.nil ?_; refine QE.seq ?_
          refine C.condB 63 rfl (fun hc63 => ?_) (fun hc63 => ?_)
          ·
           replace hc63 := of_decide_eq_true hc63
           refine C.seq (C.region ?_); refine Lpu rfl rfl ?_; refine L.nil (QE.seq (C.ret (QE.bR (QE.tR ?_)))); refine QE.ret (js := []) (hs := []) (vs := [_]) rfl ⟨rfl, trivial⟩ (by decide) ?_
           refine ⟨congrArg (Value.int .i64) (Eq.symm ?_), rfl, rfl⟩
           first | exact checkE_1 (by omega) | exact checkE_2 (by omega) (by omega) | exact checkE_3 (by omega) (by omega) hc56 | exact checkE_4 (by omega) (by omega) hc56 (by omega) | exact checkE_0 (by omega) (by omega) hc56 (by omega)
          ·
           replace hc63 := of_decide_eq_false hc63
           refine C.skip ?_; refine QE.blkN ?_; refine QE.seq (C.seq (C.region ?_)); refine Lpu rfl rfl ?_; refine L.nil (QE.seq (C.ret ?_)); refine QE.ret (js := []) (hs := []) (vs := [_]) rfl ⟨rfl, trivial⟩ (by decide) ?_
           refine ⟨congrArg (Value.int .i64) (Eq.symm ?_), rfl, rfl⟩
           first | exact checkE_1 (by omega) | exact checkE_2 (by omega) (by omega) | exact checkE_3 (by omega) (by omega) hc56 | exact checkE_4 (by omega) (by omega) hc56 (by omega) | exact checkE_0 (by omega) (by omega) hc56 (by omega)
         ·
          replace hg65 := i_ne hg65
          refine LQ.no rfl rfl rfl ?_; refine LQ.no rfl rfl rfl ?_; refine LQ.no rfl rfl rfl ?_; refine LQ.no rfl rfl rfl ?_; refine LQ.no rfl rfl rfl ?_; refine LQ.no rfl rfl rfl ?_; refine LQ.no rfl rfl rfl ?_; refine LQ.no rfl rfl rfl ?_; refine LQ.no rfl rfl rfl ?_; refine LQ.step (Ev.pure rfl) rfl ?_; refine LQ.step (Ev.pure rfl) rfl ?_; refine LQ.nil ?_; refine QE.seq ?_
          refine C.cond rfl (fun h => by cases h) (fun _ => ?_)
          refine C.skip ?_; refine QE.blkN ?_; refine QE.seq (C.seq (C.region ?_)); refine Lpu rfl rfl ?_; refine L.nil (QE.seq (C.ret ?_)); refine QE.ret (js := []) (hs := []) (vs := [_]) rfl ⟨rfl, trivial⟩ (by decide) ?_
          refine ⟨congrArg (Value.int .i64) (Eq.symm ?_), rfl, rfl⟩
          first | exact checkE_1 (by omega) | exact checkE_2 (by omega) (by omega) | exact checkE_3 (by omega) (by omega) hc56 | exact checkE_4 (by omega) (by omega) hc56 (by omega) | exact checkE_0 (by omega) (by omega) hc56 (by omega)
    ·
     replace hg33 := i_ne hg33
     refine L.no rfl rfl rfl ?_; refine L.no rfl rfl rfl ?_; refine L.no rfl rfl rfl ?_; refine L.no rfl rfl rfl ?_; refine L.no rfl rfl rfl ?_; refine L.no rfl rfl rfl ?_; refine L.no rfl rfl rfl ?_; refine L.no rfl rfl rfl ?_; refine L.no rfl rfl rfl ?_; refine L.no rfl rfl rfl ?_; refine L.no rfl rfl rfl ?_; refine L.no rfl rfl rfl ?_; refine L.no rfl rfl rfl ?_; refine L.no rfl rfl rfl ?_; refine L.no rfl rfl rfl ?_; refine L.no rfl rfl rfl ?_; refine L.no rfl rfl rfl ?_; refine L.no rfl rfl rfl ?_; refine L.no rfl rfl rfl ?_; refine L.no rfl rfl rfl ?_; refine L.no rfl rfl rfl ?_; refine Lpu rfl rfl ?_; refine Lpu rfl rfl ?_; refine L.nil (QE.seq ?_)
     refine C.cond rfl (fun h => by cases h) (fun _ => ?_)
     refine C.seq (C.region ?_); refine L.step (Ev.fieldAddr rfl rfl rfl rfl rfl rfl (Src.r 0 rfl) (Nat.zero_lt_succ _) rfl) rfl ?_; refine L.step (Ev.load rfl rfl rfl (Src.r 0 rfl) rfl) rfl ?_; refine L.step (Ev.fieldAddr rfl rfl rfl rfl rfl rfl (Src.r 1 rfl) (Nat.zero_lt_succ _) rfl) rfl ?_; refine L.step (Ev.load rfl rfl rfl (Src.r 1 rfl) rfl) rfl ?_; refine L.step (Ev.idx1 (k := x.sec.toNat) rfl rfl rfl rfl rfl rfl (by omega) (by omega) (Src.r 5 rfl) (by rw [Bs_len]; omega)) rfl ?_; refine L.step (Ev.load rfl rfl rfl (Src.r 5 rfl) (Bs_get (by omega))) rfl ?_; refine Lpu rfl rfl ?_; refine L.nil (QE.seq ?_)
     refine C.condB 56 rfl (fun hc56 => ?_) (fun hc56 => ?_)
     ·
      refine C.seq (C.region ?_); refine Lpu rfl rfl ?_; refine L.nil (QE.seq (C.ret (QE.bR (QE.tR ?_)))); refine QE.ret (js := []) (hs := []) (vs := [_]) rfl ⟨rfl, trivial⟩ (by decide) ?_
      refine ⟨congrArg (Value.int .i64) (Eq.symm ?_), rfl, rfl⟩
      first | exact checkE_1 (by omega) | exact checkE_2 (by omega) (by omega) | exact checkE_3 (by omega) (by omega) hc56 | exact checkE_4 (by omega) (by omega) hc56 (by omega) | exact checkE_0 (by omega) (by omega) hc56 (by omega)
     ·
      refine C.seq ?_; refine C.regionQ (by kernel_rfl) ?_; refine LQ.step (Ev.pure rfl) rfl ?_; refine LQ.step (Ev.pure rfl) rfl ?_
      refine LQ.bool 65 rfl (fun hg65 => ?_) (fun hg65 => ?_)
      ·
       replace hg65 := i_eq hg65
       refine LQ.yes rfl ?_; refine LQ.step (Ev.fieldAddr rfl rfl rfl rfl rfl rfl (Src.r 0 rfl) (Nat.zero_lt_succ _) rfl) rfl ?_; refine LQ.yes rfl ?_; refine LQ.step (Ev.load rfl rfl rfl (Src.r 0 rfl) rfl) rfl ?_; refine LQ.yes rfl ?_; refine LQ.step (Ev.fieldAddr rfl rfl rfl rfl rfl rfl (Src.r 1 rfl) (Nat.zero_lt_succ _) rfl) rfl ?_; refine LQ.yes rfl ?_; refine LQ.step (Ev.load rfl rfl rfl (Src.r 1 rfl) rfl) rfl ?_; refine LQ.yes rfl ?_; refine LQ.step (Ev.idx1 (k := x.sec.toNat) rfl rfl rfl rfl rfl rfl (by omega) (by omega) (Src.r 4 rfl) (by rw [I64_len]; omega)) rfl ?_; refine LQ.yes rfl ?_; refine LQ.step (Ev.load rfl rfl rfl (Src.r 4 rfl) (I64_get (by omega))) rfl ?_; refine LQ.yes rfl ?_; refine LQ.step (Ev.fieldAddr rfl rfl rfl rfl rfl rfl (Src.r 0 rfl) (Nat.zero_lt_succ _) rfl) rfl ?_; refine LQ.yes rfl ?_; refine LQ.step (Ev.load rfl rfl rfl (Src.r 0 rfl) rfl) rfl ?_; refine LQ.yes rfl ?_; refine LQ.step (Ev.pure rfl) rfl ?_; refine LQ.step (Ev.pure rfl) rfl ?_; refine LQ.step (Ev.pure rfl) rfl ?_; refine LQ.nil ?_; refine QE.seq ?_
       refine C.condB 63 rfl (fun hc63 => ?_) (fun hc63 => ?_)
       ·
        replace hc63 := of_decide_eq_true hc63
        refine C.seq (C.region ?_); refine Lpu rfl rfl ?_; refine L.nil (QE.seq (C.ret (QE.bR (QE.tR ?_)))); refine QE.ret (js := []) (hs := []) (vs := [_]) rfl ⟨rfl, trivial⟩ (by decide) ?_
        refine ⟨congrArg (Value.int .i64) (Eq.symm ?_), rfl, rfl⟩
        first | exact checkE_1 (by omega) | exact checkE_2 (by omega) (by omega) | exact checkE_3 (by omega) (by omega) hc56 | exact checkE_4 (by omega) (by omega) hc56 (by omega) | exact checkE_0 (by omega) (by omega) hc56 (by omega)
       ·
        replace hc63 := of_decide_eq_false hc63
        refine C.skip ?_; refine QE.blkN ?_; refine QE.seq (C.seq (C.region ?_)); refine Lpu rfl rfl ?_; refine L.nil (QE.seq (C.ret ?_)); refine QE.ret (js := []) (hs := []) (vs := [_]) rfl ⟨rfl, trivial⟩ (by decide) ?_
        refine ⟨congrArg (Value.int .i64) (Eq.symm ?_), rfl, rfl⟩
        first | exact checkE_1 (by omega) | exact checkE_2 (by omega) (by omega) | exact checkE_3 (by omega) (by omega) hc56 | exact checkE_4 (by omega) (by omega) hc56 (by omega) | exact checkE_0 (by omega) (by omega) hc56 (by omega)
      ·
       replace hg65 := i_ne hg65
       refine LQ.no rfl rfl rfl ?_; refine LQ.no rfl rfl rfl ?_; refine LQ.no rfl rfl rfl ?_; refine LQ.no rfl rfl rfl ?_; refine LQ.no rfl rfl rfl ?_; refine LQ.no rfl rfl rfl ?_; refine LQ.no rfl rfl rfl ?_; refine LQ.no rfl rfl rfl ?_; refine LQ.no rfl rfl rfl ?_; refine LQ.step (Ev.pure rfl) rfl ?_; refine LQ.step (Ev.pure rfl) rfl ?_; refine LQ.nil ?_; refine QE.seq ?_
       refine C.cond rfl (fun h => by cases h) (fun _ => ?_)
       refine C.skip ?_; refine QE.blkN ?_; refine QE.seq (C.seq (C.region ?_)); refine Lpu rfl rfl ?_; refine L.nil (QE.seq (C.ret ?_)); refine QE.ret (js := []) (hs := []) (vs := [_]) rfl ⟨rfl, trivial⟩ (by decide) ?_
       refine ⟨congrArg (Value.int .i64) (Eq.symm ?_), rfl, rfl⟩
       first | exact checkE_1 (by omega) | exact checkE_2 (by omega) (by omega) | exact checkE_3 (by omega) (by omega) hc56 | exact checkE_4 (by omega) (by omega) hc56 (by omega) | exact checkE_0 (by omega) (by omega) hc56 (by omega)

theorem asked2_c (i : Nat) (o : UInt8) (x : Fo) (XA A : Option Addr) (xc : Nat) (hi : i ≤ 1000000) (h0 : 0 ≤ x.at_) (h1 : x.at_ ≤ 1000000) (hxl : x.data.length ≤ 1000000) (hk : x.kind ≠ 1) :
   Ctr X 82 [.int .i64 (i : Int), .int .u8 (o.toNat : Int), ptrOf A 0] [Rd A [.int .i64 x.kind, .int .i64 x.sec, .int .i64 x.at_, .slice XA x.data.length xc], Rd XA (U8 x.data)] [] (fun v R' H' => v = .int .u8 ((askB x i o).toNat : Int) ∧ R' = [] ∧ H' = []) := by
 refine Ctr.of (X := X) (fn := Try.f82) Try.func82 rfl (by kernel_rfl) rfl ?_
 intro β
 refine C.seq (C.region ?_); refine Lpu rfl rfl ?_; refine L.nil (QE.seq (C.seq (C.seq (C.region ?_)))); refine Lpu rfl rfl ?_
 first | refine L.step (Ev.fieldAddr rfl rfl rfl rfl rfl rfl (Src.o 0 rfl) (Nat.zero_lt_succ _) rfl) rfl ?_ | refine L.step (Ev.fieldAddr rfl rfl rfl rfl rfl rfl (Src.o 1 rfl) (Nat.zero_lt_succ _) rfl) rfl ?_ | refine L.step (Ev.fieldAddr rfl rfl rfl rfl rfl rfl (Src.o 2 rfl) (Nat.zero_lt_succ _) rfl) rfl ?_ | refine L.step (Ev.fieldAddr rfl rfl rfl rfl rfl rfl (Src.o 3 rfl) (Nat.zero_lt_succ _) rfl) rfl ?_ | refine L.step (Ev.fieldAddr rfl rfl rfl rfl rfl rfl (Src.o 4 rfl) (Nat.zero_lt_succ _) rfl) rfl ?_ | refine L.step (Ev.fieldAddr rfl rfl rfl rfl rfl rfl (Src.o 5 rfl) (Nat.zero_lt_succ _) rfl) rfl ?_ | refine L.step (Ev.fieldAddr rfl rfl rfl rfl rfl rfl (Src.r 0 rfl) (Nat.zero_lt_succ _) rfl) rfl ?_ | refine L.step (Ev.fieldAddr rfl rfl rfl rfl rfl rfl (Src.r 1 rfl) (Nat.zero_lt_succ _) rfl) rfl ?_ | refine L.step (Ev.fieldAddr rfl rfl rfl rfl rfl rfl (Src.r 2 rfl) (Nat.zero_lt_succ _) rfl) rfl ?_ | refine L.step (Ev.fieldAddr rfl rfl rfl rfl rfl rfl (Src.r 3 rfl) (Nat.zero_lt_succ _) rfl) rfl ?_ | refine L.step (Ev.fieldAddr rfl rfl rfl rfl rfl rfl (Src.r 4 rfl) (Nat.zero_lt_succ _) rfl) rfl ?_ | refine L.step (Ev.fieldAddr rfl rfl rfl rfl rfl rfl (Src.r 5 rfl) (Nat.zero_lt_succ _) rfl) rfl ?_
 first | refine L.step (Ev.load rfl rfl rfl (Src.o 0 rfl) rfl) rfl ?_ | refine L.step (Ev.load rfl rfl rfl (Src.o 1 rfl) rfl) rfl ?_ | refine L.step (Ev.load rfl rfl rfl (Src.o 2 rfl) rfl) rfl ?_ | refine L.step (Ev.load rfl rfl rfl (Src.o 3 rfl) rfl) rfl ?_ | refine L.step (Ev.load rfl rfl rfl (Src.o 4 rfl) rfl) rfl ?_ | refine L.step (Ev.load rfl rfl rfl (Src.o 5 rfl) rfl) rfl ?_ | refine L.step (Ev.load rfl rfl rfl (Src.r 0 rfl) rfl) rfl ?_ | refine L.step (Ev.load rfl rfl rfl (Src.r 1 rfl) rfl) rfl ?_ | refine L.step (Ev.load rfl rfl rfl (Src.r 2 rfl) rfl) rfl ?_ | refine L.step (Ev.load rfl rfl rfl (Src.r 3 rfl) rfl) rfl ?_ | refine L.step (Ev.load rfl rfl rfl (Src.r 4 rfl) rfl) rfl ?_ | refine L.step (Ev.load rfl rfl rfl (Src.r 5 rfl) rfl) rfl ?_
 refine L.step (Ev.sub rfl rfl (by omega) (by omega)) rfl ?_; refine Lpu rfl rfl ?_; refine L.nil (QE.seq (C.seq (C.region ?_))); refine Lpu rfl rfl ?_; refine Lpu rfl rfl ?_; refine Lpu rfl rfl ?_
 refine L.bool 13 rfl (fun hg13 => ?_) (fun hg13 => ?_)
 ·
  replace hg13 := of_decide_eq_true hg13
  refine L.yes rfl ?_; refine Lpu rfl rfl ?_; refine L.yes rfl ?_
  first | refine L.step (Ev.fieldAddr rfl rfl rfl rfl rfl rfl (Src.o 0 rfl) (Nat.zero_lt_succ _) rfl) rfl ?_ | refine L.step (Ev.fieldAddr rfl rfl rfl rfl rfl rfl (Src.o 1 rfl) (Nat.zero_lt_succ _) rfl) rfl ?_ | refine L.step (Ev.fieldAddr rfl rfl rfl rfl rfl rfl (Src.o 2 rfl) (Nat.zero_lt_succ _) rfl) rfl ?_ | refine L.step (Ev.fieldAddr rfl rfl rfl rfl rfl rfl (Src.o 3 rfl) (Nat.zero_lt_succ _) rfl) rfl ?_ | refine L.step (Ev.fieldAddr rfl rfl rfl rfl rfl rfl (Src.o 4 rfl) (Nat.zero_lt_succ _) rfl) rfl ?_ | refine L.step (Ev.fieldAddr rfl rfl rfl rfl rfl rfl (Src.o 5 rfl) (Nat.zero_lt_succ _) rfl) rfl ?_ | refine L.step (Ev.fieldAddr rfl rfl rfl rfl rfl rfl (Src.r 0 rfl) (Nat.zero_lt_succ _) rfl) rfl ?_ | refine L.step (Ev.fieldAddr rfl rfl rfl rfl rfl rfl (Src.r 1 rfl) (Nat.zero_lt_succ _) rfl) rfl ?_ | refine L.step (Ev.fieldAddr rfl rfl rfl rfl rfl rfl (Src.r 2 rfl) (Nat.zero_lt_succ _) rfl) rfl ?_ | refine L.step (Ev.fieldAddr rfl rfl rfl rfl rfl rfl (Src.r 3 rfl) (Nat.zero_lt_succ _) rfl) rfl ?_ | refine L.step (Ev.fieldAddr rfl rfl rfl rfl rfl rfl (Src.r 4 rfl) (Nat.zero_lt_succ _) rfl) rfl ?_ | refine L.step (Ev.fieldAddr rfl rfl rfl rfl rfl rfl (Src.r 5 rfl) (Nat.zero_lt_succ _) rfl) rfl ?_
  refine L.yes rfl ?_
  first | refine L.step (Ev.load rfl rfl rfl (Src.o 0 rfl) rfl) rfl ?_ | refine L.step (Ev.load rfl rfl rfl (Src.o 1 rfl) rfl) rfl ?_ | refine L.step (Ev.load rfl rfl rfl (Src.o 2 rfl) rfl) rfl ?_ | refine L.step (Ev.load rfl rfl rfl (Src.o 3 rfl) rfl) rfl ?_ | refine L.step (Ev.load rfl rfl rfl (Src.o 4 rfl) rfl) rfl ?_ | refine L.step (Ev.load rfl rfl rfl (Src.o 5 rfl) rfl) rfl ?_ | refine L.step (Ev.load rfl rfl rfl (Src.r 0 rfl) rfl) rfl ?_ | refine L.step (Ev.load rfl rfl rfl (Src.r 1 rfl) rfl) rfl ?_ | refine L.step (Ev.load rfl rfl rfl (Src.r 2 rfl) rfl) rfl ?_ | refine L.step (Ev.load rfl rfl rfl (Src.r 3 rfl) rfl) rfl ?_ | refine L.step (Ev.load rfl rfl rfl (Src.r 4 rfl) rfl) rfl ?_ | refine L.step (Ev.load rfl rfl rfl (Src.r 5 rfl) rfl) rfl ?_
  refine L.yes rfl ?_; refine Lpu rfl rfl ?_; refine L.yes rfl ?_; refine Lpu rfl rfl ?_; refine Lpu rfl rfl ?_; refine L.nil (QE.seq ?_)
  refine C.condB 19 rfl (fun hc19 => ?_) (fun hc19 => ?_)
  ·
   replace hc19 := of_decide_eq_true hc19
   refine C.seq (C.region ?_); refine Lpu rfl rfl ?_
   first | refine L.step (Ev.fieldAddr rfl rfl rfl rfl rfl rfl (Src.o 0 rfl) (Nat.zero_lt_succ _) rfl) rfl ?_ | refine L.step (Ev.fieldAddr rfl rfl rfl rfl rfl rfl (Src.o 1 rfl) (Nat.zero_lt_succ _) rfl) rfl ?_ | refine L.step (Ev.fieldAddr rfl rfl rfl rfl rfl rfl (Src.o 2 rfl) (Nat.zero_lt_succ _) rfl) rfl ?_ | refine L.step (Ev.fieldAddr rfl rfl rfl rfl rfl rfl (Src.o 3 rfl) (Nat.zero_lt_succ _) rfl) rfl ?_ | refine L.step (Ev.fieldAddr rfl rfl rfl rfl rfl rfl (Src.o 4 rfl) (Nat.zero_lt_succ _) rfl) rfl ?_ | refine L.step (Ev.fieldAddr rfl rfl rfl rfl rfl rfl (Src.o 5 rfl) (Nat.zero_lt_succ _) rfl) rfl ?_ | refine L.step (Ev.fieldAddr rfl rfl rfl rfl rfl rfl (Src.r 0 rfl) (Nat.zero_lt_succ _) rfl) rfl ?_ | refine L.step (Ev.fieldAddr rfl rfl rfl rfl rfl rfl (Src.r 1 rfl) (Nat.zero_lt_succ _) rfl) rfl ?_ | refine L.step (Ev.fieldAddr rfl rfl rfl rfl rfl rfl (Src.r 2 rfl) (Nat.zero_lt_succ _) rfl) rfl ?_ | refine L.step (Ev.fieldAddr rfl rfl rfl rfl rfl rfl (Src.r 3 rfl) (Nat.zero_lt_succ _) rfl) rfl ?_ | refine L.step (Ev.fieldAddr rfl rfl rfl rfl rfl rfl (Src.r 4 rfl) (Nat.zero_lt_succ _) rfl) rfl ?_ | refine L.step (Ev.fieldAddr rfl rfl rfl rfl rfl rfl (Src.r 5 rfl) (Nat.zero_lt_succ _) rfl) rfl ?_
   first | refine L.step (Ev.load rfl rfl rfl (Src.o 0 rfl) rfl) rfl ?_ | refine L.step (Ev.load rfl rfl rfl (Src.o 1 rfl) rfl) rfl ?_ | refine L.step (Ev.load rfl rfl rfl (Src.o 2 rfl) rfl) rfl ?_ | refine L.step (Ev.load rfl rfl rfl (Src.o 3 rfl) rfl) rfl ?_ | refine L.step (Ev.load rfl rfl rfl (Src.o 4 rfl) rfl) rfl ?_ | refine L.step (Ev.load rfl rfl rfl (Src.o 5 rfl) rfl) rfl ?_ | refine L.step (Ev.load rfl rfl rfl (Src.r 0 rfl) rfl) rfl ?_ | refine L.step (Ev.load rfl rfl rfl (Src.r 1 rfl) rfl) rfl ?_ | refine L.step (Ev.load rfl rfl rfl (Src.r 2 rfl) rfl) rfl ?_ | refine L.step (Ev.load rfl rfl rfl (Src.r 3 rfl) rfl) rfl ?_ | refine L.step (Ev.load rfl rfl rfl (Src.r 4 rfl) rfl) rfl ?_ | refine L.step (Ev.load rfl rfl rfl (Src.r 5 rfl) rfl) rfl ?_
   refine Lpu rfl rfl ?_; refine L.step (Ev.idx1 (k := ((i : Int) - x.at_).toNat) rfl rfl rfl rfl rfl rfl (by omega) (by omega) (Src.r 1 rfl) (by rw [U8_len]; omega)) rfl ?_; refine L.step (Ev.load rfl rfl rfl (Src.r 1 rfl) (U8_get (by omega))) rfl ?_
   first | refine L.step (Ev.and8 rfl rfl) rfl ?_ | refine L.step (Ev.pure rfl) rfl ?_
   refine Lpu rfl rfl ?_; refine L.nil (QE.seq (C.ret (QE.tR ?_))); refine QE.ret (js := []) (hs := []) (vs := [_]) rfl ⟨rfl, trivial⟩ (by decide) ?_
   refine ⟨?_, rfl, rfl⟩
   rw [askB_in hk (by omega)]
   rfl
  ·
   replace hc19 := of_decide_eq_false hc19
   refine C.skip (QE.seq (C.seq (C.region ?_))); refine Lpu rfl rfl ?_; refine Lpu rfl rfl ?_; refine L.nil (QE.seq (C.ret ?_)); refine QE.ret (js := []) (hs := []) (vs := [_]) rfl ⟨rfl, trivial⟩ (by decide) ?_
   refine ⟨?_, rfl, rfl⟩
   rw [askB_out hk (by omega)]
   rfl
 ·
  replace hg13 := of_decide_eq_false hg13
  refine L.no rfl rfl rfl ?_; refine L.no rfl rfl rfl ?_; refine L.no rfl rfl rfl ?_; refine L.no rfl rfl rfl ?_; refine L.no rfl rfl rfl ?_; refine Lpu rfl rfl ?_; refine L.nil (QE.seq ?_)
  refine C.cond rfl (fun h => by cases h) (fun _ => ?_)
  refine C.skip (QE.seq (C.seq (C.region ?_))); refine Lpu rfl rfl ?_; refine Lpu rfl rfl ?_; refine L.nil (QE.seq (C.ret ?_)); refine QE.ret (js := []) (hs := []) (vs := [_]) rfl ⟨rfl, trivial⟩ (by decide) ?_
  refine ⟨?_, rfl, rfl⟩
  rw [askB_out hk (by omega)]
  rfl

end Go.Proofs.Ytmbjknampholjaa
