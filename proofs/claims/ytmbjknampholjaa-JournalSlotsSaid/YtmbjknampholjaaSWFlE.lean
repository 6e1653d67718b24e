/-
  The contracts of Same, SameOp, Sized.
-/
import Derived.Test.YtmbjknampholjaaSWFlD
import Derived.Test.YtmbjknampholjaaSWBase
namespace Go.Proofs.Ytmbjknampholjaa
open Go.Sl

theorem Fo.beq {x y : Fo} (h1 : x.kind = y.kind) (h2 : x.sec = y.sec) (h3 : x.at_ = y.at_) : (x.data == y.data) = decide (x = y) := by
  cases x; cases y
  simp only at h1 h2 h3
  subst h1 h2 h3
  rw [Bool.eq_iff_iff]
  simp

theorem sameO_c (x y : Fo) (XA YA : Option Addr) (xc yc : Nat) (hx : x.data.length ≤ 9223372036854775807) (hy : y.data.length ≤ 9223372036854775807) :
    Ctr X 44 [.agg (List.toArray [.int .i64 x.kind, .int .i64 x.sec, .int .i64 x.at_, .slice XA x.data.length xc]), .agg (List.toArray [.int .i64 y.kind, .int .i64 y.sec, .int .i64 y.at_, .slice YA y.data.length yc])] [Rd XA (U8 x.data), Rd YA (U8 y.data)] [] (fun v R' H' => v = .bool (decide (x = y)) ∧ R' = [] ∧ H' = []) := by
  refine Ctr.of (X := X) (fn := Try.f44) Try.func44 rfl (by kernel_rfl) rfl ?_
  intro β
  refine C.seq ?_
  refine C.region ?_
  refine L.boxA rfl rfl (fun A2 => ?_)
  refine L.boxA rfl rfl (fun A3 => ?_)
  refine L.step (Ev.pure rfl) rfl ?_
  refine L.nil ?_
  refine QE.seq ?_
  refine C.seq ?_
  refine C.freeze 0 rfl [1] (by decide) (by decide) ?_
  refine C.freeze 0 rfl [] (by decide) (by decide) ?_
  refine C.region ?_
  refine L.step (Ev.fieldAddr rfl rfl rfl rfl rfl rfl (Src.r 1 rfl) (Nat.zero_lt_succ _) rfl) rfl ?_
  refine L.step (Ev.load rfl rfl rfl (Src.r 1 rfl) rfl) rfl ?_
  refine L.step (Ev.fieldAddr rfl rfl rfl rfl rfl rfl (Src.r 0 rfl) (Nat.zero_lt_succ _) rfl) rfl ?_
  refine L.step (Ev.load rfl rfl rfl (Src.r 0 rfl) rfl) rfl ?_
  refine L.step (Ev.pure rfl) rfl ?_
  refine L.step (Ev.pure rfl) rfl ?_
  refine L.bool 10 rfl (fun hg10 => ?_) (fun hg10 => ?_)
  · skip
    replace hg10 := i_eq hg10
    refine L.yes rfl ?_
    refine L.step (Ev.fieldAddr rfl rfl rfl rfl rfl rfl (Src.r 1 rfl) (Nat.zero_lt_succ _) rfl) rfl ?_
    refine L.yes rfl ?_
    refine L.step (Ev.load rfl rfl rfl (Src.r 1 rfl) rfl) rfl ?_
    refine L.yes rfl ?_
    refine L.step (Ev.fieldAddr rfl rfl rfl rfl rfl rfl (Src.r 0 rfl) (Nat.zero_lt_succ _) rfl) rfl ?_
    refine L.yes rfl ?_
    refine L.step (Ev.load rfl rfl rfl (Src.r 0 rfl) rfl) rfl ?_
    refine L.yes rfl ?_
    refine L.step (Ev.pure rfl) rfl ?_
    refine L.step (Ev.pure rfl) rfl ?_
    refine L.step (Ev.pure rfl) rfl ?_
    refine L.bool 17 rfl (fun hg17 => ?_) (fun hg17 => ?_)
    · skip
      replace hg17 := i_eq hg17
      refine L.yes rfl ?_
      refine L.step (Ev.fieldAddr rfl rfl rfl rfl rfl rfl (Src.r 1 rfl) (Nat.zero_lt_succ _) rfl) rfl ?_
      refine L.yes rfl ?_
      refine L.step (Ev.load rfl rfl rfl (Src.r 1 rfl) rfl) rfl ?_
      refine L.yes rfl ?_
      refine L.step (Ev.fieldAddr rfl rfl rfl rfl rfl rfl (Src.r 0 rfl) (Nat.zero_lt_succ _) rfl) rfl ?_
      refine L.yes rfl ?_
      refine L.step (Ev.load rfl rfl rfl (Src.r 0 rfl) rfl) rfl ?_
      refine L.yes rfl ?_
      refine L.step (Ev.pure rfl) rfl ?_
      refine L.step (Ev.pure rfl) rfl ?_
      refine L.step (Ev.pure rfl) rfl ?_
      refine L.bool 24 rfl (fun hg24 => ?_) (fun hg24 => ?_)
      · skip
        replace hg24 := i_eq hg24
        refine L.yes rfl ?_
        refine L.step (Ev.fieldAddr rfl rfl rfl rfl rfl rfl (Src.r 1 rfl) (Nat.zero_lt_succ _) rfl) rfl ?_
        refine L.yes rfl ?_
        refine L.step (Ev.load rfl rfl rfl (Src.r 1 rfl) rfl) rfl ?_
        refine L.yes rfl ?_
        refine L.step (Ev.fieldAddr rfl rfl rfl rfl rfl rfl (Src.r 0 rfl) (Nat.zero_lt_succ _) rfl) rfl ?_
        refine L.yes rfl ?_
        refine L.step (Ev.load rfl rfl rfl (Src.r 0 rfl) rfl) rfl ?_
        refine L.yes rfl ?_
        refine L.call (js := []) (js' := []) (same_c _ _ _ _ _ _ hx hy) rfl rfl rfl (by decide) ⟨(Has.r 2 rfl), (Has.r 3 rfl), trivial⟩ rfl ?_
        rintro _ _ _ ⟨rfl, rfl, rfl⟩
        refine L.step (Ev.pure rfl) rfl ?_
        refine L.step (Ev.pure rfl) rfl ?_
        refine L.nil ?_
        refine QE.seq ?_
        refine C.ret ?_
        refine QE.ret (js := []) (hs := []) (vs := [_]) rfl ⟨rfl, trivial⟩ (by decide) ?_
        refine ⟨congrArg Value.bool ?_, rfl, rfl⟩
        exact Fo.beq hg10 hg17 hg24
      · skip
        replace hg24 := i_ne hg24
        refine L.no rfl rfl rfl ?_
        refine L.no rfl rfl rfl ?_
        refine L.no rfl rfl rfl ?_
        refine L.no rfl rfl rfl ?_
        refine L.no rfl rfl rfl ?_
        refine L.step (Ev.pure rfl) rfl ?_
        refine L.step (Ev.pure rfl) rfl ?_
        refine L.nil ?_
        refine QE.seq ?_
        refine C.ret ?_
        refine QE.ret (js := []) (hs := []) (vs := [_]) rfl ⟨rfl, trivial⟩ (by decide) ?_
        refine ⟨congrArg Value.bool ?_, rfl, rfl⟩
        exact (decide_eq_false fun h => hg24 (by rw [h])).symm
    · skip
      replace hg17 := i_ne hg17
      refine L.no rfl rfl rfl ?_
      refine L.no rfl rfl rfl ?_
      refine L.no rfl rfl rfl ?_
      refine L.no rfl rfl rfl ?_
      refine L.no rfl rfl rfl ?_
      refine L.step (Ev.pure rfl) rfl ?_
      refine L.step (Ev.pure rfl) rfl ?_
      refine L.no rfl rfl rfl ?_
      refine L.no rfl rfl rfl ?_
      refine L.no rfl rfl rfl ?_
      refine L.no rfl rfl rfl ?_
      refine L.no rfl rfl rfl ?_
      refine L.step (Ev.pure rfl) rfl ?_
      refine L.step (Ev.pure rfl) rfl ?_
      refine L.nil ?_
      refine QE.seq ?_
      refine C.ret ?_
      refine QE.ret (js := []) (hs := []) (vs := [_]) rfl ⟨rfl, trivial⟩ (by decide) ?_
      refine ⟨congrArg Value.bool ?_, rfl, rfl⟩
      exact (decide_eq_false fun h => hg17 (by rw [h])).symm
  · skip
    replace hg10 := i_ne hg10
    refine L.no rfl rfl rfl ?_
    refine L.no rfl rfl rfl ?_
    refine L.no rfl rfl rfl ?_
    refine L.no rfl rfl rfl ?_
    refine L.no rfl rfl rfl ?_
    refine L.step (Ev.pure rfl) rfl ?_
    refine L.step (Ev.pure rfl) rfl ?_
    refine L.no rfl rfl rfl ?_
    refine L.no rfl rfl rfl ?_
    refine L.no rfl rfl rfl ?_
    refine L.no rfl rfl rfl ?_
    refine L.no rfl rfl rfl ?_
    refine L.step (Ev.pure rfl) rfl ?_
    refine L.step (Ev.pure rfl) rfl ?_
    refine L.no rfl rfl rfl ?_
    refine L.no rfl rfl rfl ?_
    refine L.no rfl rfl rfl ?_
    refine L.no rfl rfl rfl ?_
    refine L.no rfl rfl rfl ?_
    refine L.step (Ev.pure rfl) rfl ?_
    refine L.step (Ev.pure rfl) rfl ?_
    refine L.nil ?_
    refine QE.seq ?_
    refine C.ret ?_
    refine QE.ret (js := []) (hs := []) (vs := [_]) rfl ⟨rfl, trivial⟩ (by decide) ?_
    refine ⟨congrArg Value.bool ?_, rfl, rfl⟩
    exact (decide_eq_false fun h => hg10 (by rw [h])).symm

end Go.Proofs.Ytmbjknampholjaa
