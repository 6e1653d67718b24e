/-
  The better one of two patches; the quotient of bytes.
-/
import Derived.ProofKit
import Derived.Deep.Slices
import Derived.Below
import Derived.OpenShut
import Derived.Lib.SmallJoins
import Derived.ChangeArms
import Derived.Test.YtbkmahjhhncfcaaGreatRMp
import Derived.Test.YtbkmahjhhncfcaaGreatRWMtQ
import Derived.Test.YtbkmahjhhncfcaaGreatRSlG
import Derived.Test.YtbkmahjhhncfcaaGreatRSlI
import Derived.Test.YtbkmahjhhncfcaaGreatRPl
import Derived.Test.YtbkmahjhhncfcaaGreatRMn
import Derived.Test.YtbkmahjhhncfcaaGreatROg
section
namespace Go.Sl

section
variable {X : Cx} {β : Base} {Γ : Env} {R H : List Pr}
theorem Ev.quo8n {t ty : Nat} {x y : Operand} {a b : Nat} (hx : ev Γ x = some (.int .u8 (a : Int))) (hy : ev Γ y = some (.int .u8 (b : Int))) (h0 : a < 256) (h1 : 0 < b) : Ev X β Γ R H (.binOp .quo t x y ty) (.int .u8 ((a / b : Nat) : Int)) := by
 intro ρ w hρ hs o ho
 have hb : ¬ (b : Int) = 0 := by omega
 obtain ⟨q, hq⟩ : ∃ q, q = a / b := ⟨_, rfl⟩
 have h4 : q ≤ a := by rw [hq]; exact Nat.div_le_self _ _
 have h5 : IntKind.u8.wrap (q : Int) = (q : Int) := by rw [wrap_u8]; omega
 have h6 : (a : Int).tdiv (b : Int) = (q : Int) := by rw [hq]; rfl
 rw [← hq]
 simp only [execOp, ho, hρ _ _ hx, hρ _ _ hy, Sem.run_bind, run_guard, Result.andThen_ok, binOp, Op.intDiv, if_neg hb, h6, h5, Sem.run_pure, ne_eq, not_true_eq_false, if_false]
end
def bstN (old new : List UInt8) : Nat := if betB old new = true then refL (foF old) (foF new) else refL old new
theorem BsOk.cost {old new : List UInt8} {x : Cd} (h : BsOk old new x) : cosL x.l = (bstN old new : Int) := by
 unfold bstN
 cases hb : betB old new with
 | true => rw [if_pos rfl]; exact (h.yes hb).mq.cost
 | false => rw [if_neg (by decide)]; exact (h.no hb).mq.cost
theorem BsOk.lf {old new : List UInt8} {x : Cd} (h : BsOk old new x) : x.lf = betB old new := by
 cases hb : betB old new with
 | true => exact (h.yes hb).lf
 | false => exact (h.no hb).lf
theorem BsOk.chk {old new : List UInt8} {x : Cd} (h : BsOk old new x) : chkP x.inn x.out x.l = 0 := by
 cases hb : betB old new with
 | true => exact (h.yes hb).chk
 | false => exact (h.no hb).chk
theorem betB_eq {old new : List UInt8} (h0 : codeR old new = 0) : decide ((refL (foF old) (foF new) : Int) < (refL old new : Int)) = betB old new := by
 unfold betB
 rw [decide_eq_true h0, Bool.true_and, Bool.eq_iff_iff, decide_eq_true_eq, decide_eq_true_eq]
 omega
end Go.Sl
end
/-
  The law MatchBest.
-/
section
namespace Go.Proofs.YtbkmahjhhncfcaaGreat
open Go.Sl

theorem madeB_c (B C_ : Option Addr) (old new : List UInt8) (bc cc : Nat) (x : Cd) (hco : codeB old) (hx : BsOk old new x) (hbc : old.length ≤ bc) : Ctr X 22 [.agg (List.toArray x.cells), .slice B old.length bc, .slice C_ new.length cc] [Rd B (U8 old), Rd C_ (U8 new), Rd x.A (pqV x.l), KidsR (pqH x.l) (B8 (pqD x.l))] [] (fun v R' H' => v = .bool true ∧ R' = [] ∧ H' = []) := by
 have hl : x.l.length ≤ 9223372036854775807 := by
   have := (chkP_iff.1 hx.chk).2.2.2.2.1
   omega
 cases hb : betB old new with
 | true =>
   have h := hx.yes hb
   exact madeL_c B C_ old new bc cc x.lf x.inn x.out x.l x.A x.c hl h.lf hco (codeB_of (codeR_iff.1 (betB_ok hb).1).2) hbc h.chk h.inn h.mq.run
 | false =>
   have h := hx.no hb
   exact made_c B C_ old new bc cc x.lf x.inn x.out x.l x.A x.c hl h.lf h.chk h.inn h.mq.run
set_option maxHeartbeats 4000000 in
theorem mbest07_c (QA C0 C1 : Option Addr) (la lb : List (List UInt8)) (k0 k1 : Nat) (ql : List UInt8) (qc : Nat) (w : UInt8) (hqc : ql.length ≤ qc) (hl0 : la.length ≤ 9223372036854775807) (hl1 : lb.length ≤ 9223372036854775807) :
   Ctr X 6 [.agg (List.toArray [.slice C0 la.length k0, .slice C1 lb.length k1]), .slice QA ql.length qc, .int .u8 (w.toNat : Int)] [Rd C0 (frV la), Rd C1 (frV lb), Rd QA (U8 ql)] [] (fun v R' H' => v = .bool true ∧ R' = [] ∧ H' = []) := by
 refine Ctr.of (X := X) (fn := Tryz.f6) Tryz.func6 rfl (by kernel_rfl) rfl ?_
 intro β
 have hw8 := u8_lt w
 have hxl := codB_len la 20
 have hyl := codB_len lb 20
 have h1 := codB_code la (show 20 ≤ 16384 by decide)
 refine C.seq (C.region ?_)
 refine L.boxA rfl rfl (fun A3 => ?_)
 refine Lpu rfl rfl ?_; refine L.nil (QE.seq (C.seq ?_)); refine C.freeze 0 rfl [] (by decide) (by decide) ?_; refine C.region ?_; refine L.call (js := []) (js' := []) (sanity07_c) rfl rfl rfl (by decide) trivial rfl ?_
 rintro _ _ _ ⟨rfl, rfl, rfl⟩
 refine Lpu rfl rfl ?_; refine L.nil (QE.seq (C.seq (C.region ?_))); refine L.step (Ev.idxArr (k := 0) (m := 0) rfl rfl rfl rfl rfl rfl (by decide) (Src.r 0 rfl) (Nat.zero_lt_succ _) rfl) rfl ?_; refine L.step (Ev.load rfl rfl rfl (Src.r 0 rfl) rfl) rfl ?_; refine L.call (js := []) (js' := []) (code_c C0 la k0 20 (by omega) (by decide)) rfl rfl rfl (by decide) (Hq [1] rfl) rfl ?_
 rintro _ _ _ ⟨XA, xc, rfl, rfl, rfl⟩
 refine L.norm (H' := [_]) [0] ⟨rfl, trivial⟩ (by decide) ?_; refine Lpu rfl rfl ?_; refine L.nil (QE.seq (C.seq (C.region ?_))); refine L.step (Ev.idxArr (k := 1) (m := 1) rfl rfl rfl rfl rfl rfl (by decide) (Src.r 0 rfl) (Nat.zero_lt_succ _) rfl) rfl ?_; refine L.step (Ev.load rfl rfl rfl (Src.r 0 rfl) rfl) rfl ?_; refine L.call (js := []) (js' := [0]) (code_c C1 lb k1 20 (by omega) (by decide)) rfl rfl rfl (by decide) (Hq [2] rfl) rfl ?_
 rintro _ _ _ ⟨YA, yc, rfl, rfl, rfl⟩
 refine L.norm (H' := [_, _]) [0, 1] ⟨rfl, rfl, trivial⟩ (by decide) ?_; refine Lpu rfl rfl ?_; refine L.nil (QE.seq ?_); refine C.seqJ (fun s : Im => [(1, .slice QA ql.length qc), (2, .int .u8 (w.toNat : Int)), (7, .bool true), (8, .slice XA (codB la 20).length xc), (9, .slice s.A s.l.length s.c)]) (fun s : Im => [Rd s.A (U8 s.l), Rd XA (U8 (codB la 20)), Rd QA (U8 ql)]) (fun s : Im => []) (fun s : Im => s.l.length ≤ s.c ∧ s.l.length ≤ 168 ∧ (codB la 20).length ≤ xc) ?_ ?_
 ·
  refine C.seq ?_
  refine C.capO 1 rfl (fun hxc => ?_)
  refine C.capO 0 rfl (fun hyc => ?_)
  refine C.freeze 1 rfl [0] (by decide) (by decide) ?_; refine C.norm (H' := [_]) [0] ⟨rfl, trivial⟩ (by decide) ?_; refine C.freeze 0 rfl [] (by decide) (by decide) ?_; refine C.region ?_; refine Lpu rfl rfl ?_; refine L.step (Ev.cast (u := .int .u8 (((w.toNat % 4) : Nat) : Int)) (Ev.rem rfl rfl (by omega) (by decide)) (congrArg (Value.int .u8) (by rw [Int.natCast_emod]; rfl))) rfl ?_; refine Lpu rfl rfl ?_; refine L.nil (QE.seq ?_)
  refine C.condB 27 rfl (fun hc27 => ?_) (fun hc27 => ?_)
  ·
   replace hc27 := i_eq hc27
   refine C.region ?_; refine Lpu rfl rfl ?_; refine Lpu rfl rfl ?_; refine L.step (Ev.quo8n (b := 4) rfl rfl (by omega) (by decide)) rfl ?_; refine L.step (Ev.toInt rfl rfl rfl rfl (by omega) (by omega)) rfl ?_; refine Lpu rfl rfl ?_; refine Lpu rfl rfl ?_; refine L.step (Ev.cast (u := .int .i64 ((((codB la 20).length / 4) : Nat) : Int)) (Ev.quo rfl rfl (by omega) (by decide) (by omega)) (congrArg (Value.int .i64) (by rw [Int.natCast_ediv]; rfl))) rfl ?_; refine L.step (Ev.cast (u := .int .i64 ((((codB la 20).length / 4 + 1) : Nat) : Int)) (Ev.add rfl rfl (by omega) (by omega)) (congrArg (Value.int .i64) (by omega))) rfl ?_; refine L.step (Ev.cast (u := .int .i64 ((((w.toNat / 4) % ((codB la 20).length / 4 + 1)) : Nat) : Int)) (Ev.rem rfl rfl (by omega) (by omega)) (congrArg (Value.int .i64) (by rw [Int.natCast_emod]))) rfl ?_; refine L.step (Ev.build rfl rfl rfl rfl rfl rfl rfl) rfl ?_; refine L.call (js := []) (js' := []) (moved3_c XA (codB la 20) xc (by omega) (((w.toNat / 4) % ((codB la 20).length / 4 + 1)) : Int) 1) rfl rfl rfl (by decide) (Hq [1] rfl) rfl ?_
   rintro _ _ _ ⟨ZA, zc, rfl, rfl, rfl⟩
   have hmv := moved_len (b := (codB la 20)) (p := ((w.toNat / 4) % ((codB la 20).length / 4 + 1))) (q := 1) (by omega) (by decide)
   refine L.norm (H' := [_]) [0] ⟨rfl, trivial⟩ (by decide) ?_
   refine L.capO 0 rfl (fun hzc => ?_)
   refine Lpu rfl rfl ?_; refine Lpu rfl rfl ?_; refine Lpu rfl rfl ?_; refine Lpu rfl rfl ?_; refine L.nil ?_; refine QE.freeze 0 rfl [] (by decide) (by decide) ?_
   refine QE.join (⟨ZA, zc, (movB (codB la 20) (((w.toNat / 4) % ((codB la 20).length / 4 + 1)) : Int) 1)⟩) (by exact ⟨hzc, hmv, hxc⟩) (by exact Le.mk' (rs := [0, 2, 6]) (hs := []) ⟨rfl, rfl, rfl, rfl, rfl, trivial⟩ ⟨rfl, rfl, rfl, trivial⟩ trivial (by decide))
  ·
   replace hc27 := i_ne hc27
   refine C.skip ?_
   refine QE.join (⟨YA, yc, (codB lb 20)⟩) (by exact ⟨hyc, by dsimp only; omega, hxc⟩) (by exact Le.mk' (rs := [0, 1, 5]) (hs := []) ⟨rfl, rfl, rfl, rfl, rfl, trivial⟩ ⟨rfl, rfl, rfl, trivial⟩ trivial (by decide))
 ·
  rintro s ⟨hsc, hsl, hxc⟩
  refine C.seqJ (fun s : Im => [(1, .slice QA ql.length qc), (2, .int .u8 (w.toNat : Int)), (7, .bool true), (8, .slice XA (codB la 20).length xc), (9, .slice s.A s.l.length s.c)]) (fun s : Im => [Rd s.A (U8 s.l), Rd XA (U8 (codB la 20)), Rd QA (U8 ql)]) (fun s : Im => []) (fun s : Im => s.l.length ≤ s.c ∧ s.l.length ≤ 168 ∧ (codB la 20).length ≤ xc) ?_ ?_
  ·
   refine C.seq (C.region ?_); refine Lpu rfl rfl ?_; refine L.step (Ev.cast (u := .int .u8 (((w.toNat % 4) : Nat) : Int)) (Ev.rem rfl rfl (by omega) (by decide)) (congrArg (Value.int .u8) (by rw [Int.natCast_emod]; rfl))) rfl ?_; refine Lpu rfl rfl ?_; refine L.nil (QE.seq ?_)
   refine C.condB 44 rfl (fun hc44 => ?_) (fun hc44 => ?_)
   ·
    replace hc44 := i_eq hc44
    refine C.region ?_; refine Lpu rfl rfl ?_; refine L.call (js := []) (js' := []) (limited_c QA ql qc 60 hqc) rfl rfl rfl (by decide) trivial rfl ?_
    rintro _ _ _ ⟨rfl, rfl, rfl⟩
    refine Lpu rfl rfl ?_; refine L.nil ?_; refine QE.more (r := Rd QA (U8 (ql.take 60))) (Has.takeU (Has.r 2 rfl) 60) ?_
    refine QE.join (⟨QA, qc, ql.take 60⟩) (by exact ⟨by dsimp only; rw [List.length_take]; omega, by dsimp only; rw [List.length_take]; omega, hxc⟩) (by exact Le.mk' (rs := [0, 2, 3]) (hs := []) ⟨rfl, rfl, rfl, rfl, rfl, trivial⟩ ⟨rfl, rfl, rfl, trivial⟩ trivial (by decide))
   ·
    replace hc44 := i_ne hc44
    refine C.skip ?_
    refine QE.join (s) (by exact ⟨hsc, hsl, hxc⟩) (by exact Le.mk' (rs := [0, 1, 2]) (hs := []) ⟨rfl, rfl, rfl, rfl, rfl, trivial⟩ ⟨rfl, rfl, rfl, trivial⟩ trivial (by decide))
  ·
   rintro s ⟨hsc, hsl, hxc⟩
   refine C.seq (C.region ?_); refine Lpu rfl rfl ?_; refine Lpu rfl rfl ?_; refine L.callR (js := []) (js' := []) (plainA_c XA s.A (codB la 20) s.l xc s.c (by omega) (by omega) (by omega)) rfl rfl rfl (by decide) (Hq [1, 0] rfl) rfl ?_
   rintro _ _ _ ⟨p, rfl, rfl, rfl, hp⟩
   refine Lpu rfl rfl ?_; refine Lpu rfl rfl ?_; refine Lpu rfl rfl ?_
   refine L.alloc rfl rfl rfl (fun A10 => ?_)
   refine L.storeA (j := 0) rfl rfl rfl rfl rfl (Nat.zero_lt_succ _) rfl rfl ?_; refine Lpu rfl rfl ?_; refine L.nil (QE.seq (C.seq (C.region ?_))); refine Lpu rfl rfl ?_; refine Lpu rfl rfl ?_; refine L.callR (js := []) (js' := [0]) (codeA_c XA s.A (codB la 20) s.l xc s.c (by omega) (by omega) (by omega) (by omega) ⟨by have := foF_len (b := (codB la 20)); omega, by have := foF_len (b := s.l); omega⟩) rfl rfl rfl (by decide) (Hq [3, 2] rfl) rfl ?_
   rintro _ _ _ ⟨q, rfl, rfl, rfl, hq⟩
   refine L.norm (H' := [_]) [0] ⟨rfl, trivial⟩ (by decide) ?_; refine Lpu rfl rfl ?_; refine Lpu rfl rfl ?_; refine Lpu rfl rfl ?_
   refine L.alloc rfl rfl rfl (fun A12 => ?_)
   refine L.storeA (j := 1) rfl rfl rfl rfl rfl (Nat.zero_lt_succ _) rfl rfl ?_; refine Lpu rfl rfl ?_; refine L.nil (QE.seq (C.seq (C.region ?_))); refine Lpu rfl rfl ?_; refine Lpu rfl rfl ?_; refine L.callR (js := []) (js' := [0, 1]) (best_c XA s.A (codB la 20) s.l xc s.c hxc hsc (by omega) (by omega)) rfl rfl rfl (by decide) (Hq [5, 4] rfl) rfl ?_
   rintro _ _ _ ⟨r, rfl, rfl, rfl, hr⟩
   have hrc := hr.chk
   refine L.norm (H' := [_, _]) [0, 1] ⟨rfl, rfl, trivial⟩ (by decide) ?_; refine Lpu rfl rfl ?_; refine Lpu rfl rfl ?_; refine Lpu rfl rfl ?_
   refine L.alloc rfl rfl rfl (fun A14 => ?_)
   refine L.storeA (j := 2) rfl rfl rfl rfl rfl (Nat.zero_lt_succ _) rfl rfl ?_; refine Lpu rfl rfl ?_; refine L.nil (QE.seq (C.seq ?_)); refine C.seqJ (fun z : Unit => [(1, .slice QA ql.length qc), (2, .int .u8 (w.toNat : Int)), (7, .bool true), (8, .slice XA (codB la 20).length xc), (9, .slice s.A s.l.length s.c), (10, ptrOf A10 0), (12, ptrOf A12 0), (14, ptrOf A14 0), (11, .int .i64 0), (13, .int .i64 (codeR (codB la 20) s.l)), (15, .int .i64 0), (89, .bool false)]) (fun z : Unit => [Rd r.A (pqV r.l), KidsR (pqH r.l) (B8 (pqD r.l)), Rd q.A (pqV q.l), KidsR (pqH q.l) (B8 (pqD q.l)), Rd p.A (pqV p.l), KidsR (pqH p.l) (B8 (pqD p.l)), Rd s.A (U8 s.l), Rd XA (U8 (codB la 20)), Rd QA (U8 ql)]) (fun z : Unit => [Own 35 4 A10 1 1 p.cells, Own 35 4 A12 1 1 q.cells, Own 35 4 A14 1 1 r.cells]) (fun z : Unit => True) ?_ ?_
   ·
    refine C.region ?_; refine Lpu rfl rfl ?_; refine Lpu rfl rfl ?_; refine Lpu rfl rfl ?_
    refine L.bool 67 rfl (fun hg67 => ?_) (fun hg67 => ?_)
    ·
     replace hg67 := b_ne hg67
     exact absurd rfl hg67
    ·
     replace hg67 := b_eq hg67
     refine L.yes rfl ?_; refine Lpu rfl rfl ?_; refine L.yes rfl ?_; refine Lpu rfl rfl ?_; refine Lpu rfl rfl ?_; refine Lpu rfl rfl ?_
     refine L.bool 71 rfl (fun hg71 => ?_) (fun hg71 => ?_)
     ·
      replace hg71 := b_ne hg71
      exact absurd rfl hg71
     ·
      replace hg71 := b_eq hg71
      refine L.yes rfl ?_; refine L.step (Ev.loadA (vs := [.bool p.lf, .int .i64 p.inn, .int .i64 p.out, .slice p.A p.l.length p.c]) rfl rfl rfl (Src.o 0 rfl) rfl rfl (by decide)) rfl ?_; refine L.yes rfl ?_; refine L.call (js := []) (js' := [0, 1, 2]) (Ctr.tbM true (right06Q_c p.lf p.inn p.out p.l p.A p.c (by have := (chkP_iff.1 hp.chk).2.2.2.2.1; omega)) (by rw [hp.chk]; rfl)) rfl rfl rfl (by decide) (Hq [4] rfl) rfl ?_
      rintro _ _ _ ⟨rfl, rfl, rfl⟩
      refine L.norm (H' := [_, _, _]) [0, 1, 2] ⟨rfl, rfl, rfl, trivial⟩ (by decide) ?_; refine L.yes rfl ?_; refine Lpu rfl rfl ?_; refine Lpu rfl rfl ?_; refine Lpu rfl rfl ?_; refine L.yes rfl ?_; refine L.step (Ev.loadA (vs := [.bool r.lf, .int .i64 r.inn, .int .i64 r.out, .slice r.A r.l.length r.c]) rfl rfl rfl (Src.o 2 rfl) rfl rfl (by decide)) rfl ?_; refine L.yes rfl ?_; refine L.call (js := []) (js' := [0, 1, 2]) (Ctr.tbM true (right06Q_c r.lf r.inn r.out r.l r.A r.c (by have := (chkP_iff.1 hrc).2.2.2.2.1; omega)) (by rw [hrc]; rfl)) rfl rfl rfl (by decide) (Hq [0] rfl) rfl ?_
      rintro _ _ _ ⟨rfl, rfl, rfl⟩
      refine L.norm (H' := [_, _, _]) [0, 1, 2] ⟨rfl, rfl, rfl, trivial⟩ (by decide) ?_; refine L.yes rfl ?_; refine Lpu rfl rfl ?_; refine Lpu rfl rfl ?_; refine Lpu rfl rfl ?_; refine L.yes rfl ?_; refine Lpu rfl rfl ?_; refine L.yes rfl ?_; refine Lpu rfl rfl ?_; refine L.yes rfl ?_; refine Lpu rfl rfl ?_
      refine L.bool 84 rfl (fun hg84 => ?_) (fun hg84 => ?_)
      ·
       replace hg84 := i_eq hg84
       have hqo := hq hg84
       refine L.yes rfl ?_; refine L.step (Ev.loadA (vs := [.bool q.lf, .int .i64 q.inn, .int .i64 q.out, .slice q.A q.l.length q.c]) rfl rfl rfl (Src.o 1 rfl) rfl rfl (by decide)) rfl ?_; refine L.yes rfl ?_; refine L.call (js := []) (js' := [0, 1, 2]) (Ctr.tbM true (right06Q_c q.lf q.inn q.out q.l q.A q.c (by have := (chkP_iff.1 hqo.chk).2.2.2.2.1; omega)) (by rw [hqo.chk]; rfl)) rfl rfl rfl (by decide) (Hq [2] rfl) rfl ?_
       rintro _ _ _ ⟨rfl, rfl, rfl⟩
       refine L.norm (H' := [_, _, _]) [0, 1, 2] ⟨rfl, rfl, rfl, trivial⟩ (by decide) ?_; refine L.yes rfl ?_; refine Lpu rfl rfl ?_; refine L.yes rfl ?_; refine Lpu rfl rfl ?_; refine Lpu rfl rfl ?_; refine L.nil ?_
       refine QE.join (()) (by exact trivial) (by exact Le.mk' (rs := [0, 1, 2, 3, 4, 5, 6, 7, 8]) (hs := [0, 1, 2]) ⟨rfl, rfl, rfl, rfl, rfl, rfl, rfl, rfl, rfl, rfl, rfl, rfl, trivial⟩ ⟨rfl, rfl, rfl, rfl, rfl, rfl, rfl, rfl, rfl, trivial⟩ ⟨rfl, rfl, rfl, trivial⟩ (by decide))
      ·
       replace hg84 := i_ne hg84
       refine L.no rfl rfl rfl ?_; refine L.no rfl rfl rfl ?_; refine L.no rfl rfl rfl ?_; refine L.yes rfl ?_; refine Lpu rfl rfl ?_; refine Lpu rfl rfl ?_; refine L.nil ?_
       refine QE.join (()) (by exact trivial) (by exact Le.mk' (rs := [0, 1, 2, 3, 4, 5, 6, 7, 8]) (hs := [0, 1, 2]) ⟨rfl, rfl, rfl, rfl, rfl, rfl, rfl, rfl, rfl, rfl, rfl, rfl, trivial⟩ ⟨rfl, rfl, rfl, rfl, rfl, rfl, rfl, rfl, rfl, trivial⟩ ⟨rfl, rfl, rfl, trivial⟩ (by decide))
   ·
    rintro _ -
    refine C.condB 89 rfl (fun hc89 => ?_) (fun hc89 => ?_)
    ·
     cases hc89
    ·
     refine C.skip (QE.seq ?_); refine C.seqJ (fun z : Unit => [(1, .slice QA ql.length qc), (2, .int .u8 (w.toNat : Int)), (7, .bool true), (8, .slice XA (codB la 20).length xc), (9, .slice s.A s.l.length s.c), (10, ptrOf A10 0), (12, ptrOf A12 0), (14, ptrOf A14 0), (11, .int .i64 0), (13, .int .i64 (codeR (codB la 20) s.l)), (15, .int .i64 0), (16, .bool (betB (codB la 20) s.l))]) (fun z : Unit => [Rd r.A (pqV r.l), KidsR (pqH r.l) (B8 (pqD r.l)), Rd q.A (pqV q.l), KidsR (pqH q.l) (B8 (pqD q.l)), Rd p.A (pqV p.l), KidsR (pqH p.l) (B8 (pqD p.l)), Rd s.A (U8 s.l), Rd XA (U8 (codB la 20)), Rd QA (U8 ql)]) (fun z : Unit => [Own 35 4 A10 1 1 p.cells, Own 35 4 A12 1 1 q.cells, Own 35 4 A14 1 1 r.cells]) (fun z : Unit => True) ?_ ?_
     ·
      refine C.regionQ (by kernel_rfl) ?_; refine LQ.step (Ev.pure rfl) rfl ?_; refine LQ.step (Ev.pure rfl) rfl ?_; refine LQ.step (Ev.pure rfl) rfl ?_
      refine LQ.bool 92 rfl (fun hg92 => ?_) (fun hg92 => ?_)
      ·
       replace hg92 := i_eq hg92
       have hqo := hq hg92
       refine LQ.yes rfl ?_; refine LQ.step (Ev.loadA (vs := [.bool q.lf, .int .i64 q.inn, .int .i64 q.out, .slice q.A q.l.length q.c]) rfl rfl rfl (Src.o 1 rfl) rfl rfl (by decide)) rfl ?_; refine LQ.yes rfl ?_; refine LQ.call (.int .i64 (cosL q.l)) (costQ_c q.lf q.inn q.out q.l q.A q.c (by have := (chkP_iff.1 hqo.chk).2.2.2.2.1; omega) hqo.chk) (fun _ _ _ h => h.1) rfl (Hq [2] rfl) rfl ?_; refine LQ.yes rfl ?_; refine LQ.step (Ev.loadA (vs := [.bool p.lf, .int .i64 p.inn, .int .i64 p.out, .slice p.A p.l.length p.c]) rfl rfl rfl (Src.o 0 rfl) rfl rfl (by decide)) rfl ?_; refine LQ.yes rfl ?_; refine LQ.call (.int .i64 (cosL p.l)) (costQ_c p.lf p.inn p.out p.l p.A p.c (by have := (chkP_iff.1 hp.chk).2.2.2.2.1; omega) hp.chk) (fun _ _ _ h => h.1) rfl (Hq [4] rfl) rfl ?_; refine LQ.yes rfl ?_; refine LQ.step (Ev.cast (u := .bool (betB (codB la 20) s.l)) (Ev.pure rfl) (by rw [hqo.mq.cost, hp.mq.cost, betB_eq hg92])) rfl ?_; refine LQ.step (Ev.pure rfl) rfl ?_; refine LQ.step (Ev.pure rfl) rfl ?_; refine LQ.nil ?_
       refine QE.join (()) (by exact trivial) (by exact Le.mk' (rs := [0, 1, 2, 3, 4, 5, 6, 7, 8]) (hs := [0, 1, 2]) ⟨rfl, rfl, rfl, rfl, rfl, rfl, rfl, rfl, rfl, rfl, rfl, rfl, trivial⟩ ⟨rfl, rfl, rfl, rfl, rfl, rfl, rfl, rfl, rfl, trivial⟩ ⟨rfl, rfl, rfl, trivial⟩ (by decide))
      ·
       replace hg92 := i_ne hg92
       refine LQ.no rfl rfl rfl ?_; refine LQ.no rfl rfl rfl ?_; refine LQ.no rfl rfl rfl ?_; refine LQ.no rfl rfl rfl ?_; refine LQ.no rfl rfl rfl ?_; refine LQ.step (Ev.pure rfl) rfl ?_; refine LQ.step (Ev.pure rfl) rfl ?_; refine LQ.nil ?_
       refine QE.join (()) (by exact trivial) (by exact Le.mk' (rs := [0, 1, 2, 3, 4, 5, 6, 7, 8]) (hs := [0, 1, 2]) ⟨rfl, rfl, rfl, rfl, rfl, rfl, rfl, rfl, rfl, rfl, rfl, (by rw [betB_err (fun h => hg92 h)]; rfl), trivial⟩ ⟨rfl, rfl, rfl, rfl, rfl, rfl, rfl, rfl, rfl, trivial⟩ ⟨rfl, rfl, rfl, trivial⟩ (by decide))
     ·
      rintro _ -
      refine C.seq (C.region ?_); refine L.step (Ev.loadA (vs := [.bool p.lf, .int .i64 p.inn, .int .i64 p.out, .slice p.A p.l.length p.c]) rfl rfl rfl (Src.o 0 rfl) rfl rfl (by decide)) rfl ?_; refine L.call (js := []) (js' := [0, 1, 2]) (costQ_c p.lf p.inn p.out p.l p.A p.c (by have := (chkP_iff.1 hp.chk).2.2.2.2.1; omega) hp.chk) rfl rfl rfl (by decide) (Hq [4] rfl) rfl ?_
      rintro _ _ _ ⟨rfl, rfl, rfl⟩
      refine L.norm (H' := [_, _, _]) [0, 1, 2] ⟨rfl, rfl, rfl, trivial⟩ (by decide) ?_; refine Lpu rfl rfl ?_; refine L.nil (QE.seq ?_); refine C.seqJ (fun z : Unit => [(1, .slice QA ql.length qc), (2, .int .u8 (w.toNat : Int)), (7, .bool true), (8, .slice XA (codB la 20).length xc), (9, .slice s.A s.l.length s.c), (10, ptrOf A10 0), (12, ptrOf A12 0), (14, ptrOf A14 0), (11, .int .i64 0), (13, .int .i64 (codeR (codB la 20) s.l)), (15, .int .i64 0), (16, .bool (betB (codB la 20) s.l)), (17, .int .i64 (bstN (codB la 20) s.l : Int))]) (fun z : Unit => [Rd r.A (pqV r.l), KidsR (pqH r.l) (B8 (pqD r.l)), Rd q.A (pqV q.l), KidsR (pqH q.l) (B8 (pqD q.l)), Rd p.A (pqV p.l), KidsR (pqH p.l) (B8 (pqD p.l)), Rd s.A (U8 s.l), Rd XA (U8 (codB la 20)), Rd QA (U8 ql)]) (fun z : Unit => [Own 35 4 A10 1 1 p.cells, Own 35 4 A12 1 1 q.cells, Own 35 4 A14 1 1 r.cells]) (fun z : Unit => True) ?_ ?_
      ·
       refine C.seq (C.region ?_); refine Lpu rfl rfl ?_; refine L.nil (QE.seq ?_)
       refine C.condB 101 rfl (fun hc101 => ?_) (fun hc101 => ?_)
       ·
        have h0 := (betB_ok hc101).1
        have hqo := hq h0
        refine C.region ?_; refine L.step (Ev.loadA (vs := [.bool q.lf, .int .i64 q.inn, .int .i64 q.out, .slice q.A q.l.length q.c]) rfl rfl rfl (Src.o 1 rfl) rfl rfl (by decide)) rfl ?_; refine L.call (js := []) (js' := [0, 1, 2]) (costQ_c q.lf q.inn q.out q.l q.A q.c (by have := (chkP_iff.1 hqo.chk).2.2.2.2.1; omega) hqo.chk) rfl rfl rfl (by decide) (Hq [2] rfl) rfl ?_
        rintro _ _ _ ⟨rfl, rfl, rfl⟩
        refine L.norm (H' := [_, _, _]) [0, 1, 2] ⟨rfl, rfl, rfl, trivial⟩ (by decide) ?_; refine Lpu rfl rfl ?_; refine L.nil ?_
        refine QE.join (()) (by exact trivial) (by exact Le.mk' (rs := [0, 1, 2, 3, 4, 5, 6, 7, 8]) (hs := [0, 1, 2]) ⟨rfl, rfl, rfl, rfl, rfl, rfl, rfl, rfl, rfl, rfl, rfl, rfl, (by rw [hqo.mq.cost, bstN, if_pos hc101]; rfl), trivial⟩ ⟨rfl, rfl, rfl, rfl, rfl, rfl, rfl, rfl, rfl, trivial⟩ ⟨rfl, rfl, rfl, trivial⟩ (by decide))
       ·
        refine C.skip ?_
        refine QE.join (()) (by exact trivial) (by exact Le.mk' (rs := [0, 1, 2, 3, 4, 5, 6, 7, 8]) (hs := [0, 1, 2]) ⟨rfl, rfl, rfl, rfl, rfl, rfl, rfl, rfl, rfl, rfl, rfl, rfl, (by rw [hp.mq.cost, bstN, if_neg (by rw [hc101]; decide)]; rfl), trivial⟩ ⟨rfl, rfl, rfl, rfl, rfl, rfl, rfl, rfl, rfl, trivial⟩ ⟨rfl, rfl, rfl, trivial⟩ (by decide))
      ·
       rintro _ -
       refine C.seq (C.region ?_); refine Lpu rfl rfl ?_; refine Lpu rfl rfl ?_; refine L.yes rfl ?_; refine L.step (Ev.fieldAddr rfl rfl rfl rfl rfl rfl (Src.o 2 rfl) (Nat.zero_lt_succ _) rfl) rfl ?_; refine L.yes rfl ?_; refine L.step (Ev.cast (u := .bool (betB (codB la 20) s.l)) (Ev.load rfl rfl rfl (Src.o 2 rfl) rfl) (congrArg Value.bool hr.lf)) rfl ?_; refine L.yes rfl ?_; refine Lpu rfl rfl ?_; refine L.yes rfl ?_; refine L.step (Ev.cast (u := .bool true) (Ev.eqBool rfl rfl rfl rfl) (by simp)) rfl ?_; refine Lpu rfl rfl ?_; refine Lpu rfl rfl ?_; refine L.yes rfl ?_; refine L.step (Ev.loadA (vs := [.bool r.lf, .int .i64 r.inn, .int .i64 r.out, .slice r.A r.l.length r.c]) rfl rfl rfl (Src.o 2 rfl) rfl rfl (by decide)) rfl ?_; refine L.yes rfl ?_; refine L.call (js := []) (js' := [0, 1, 2]) (costQ_c r.lf r.inn r.out r.l r.A r.c (by have := (chkP_iff.1 hrc).2.2.2.2.1; omega) hrc) rfl rfl rfl (by decide) (Hq [0] rfl) rfl ?_
       rintro _ _ _ ⟨rfl, rfl, rfl⟩
       refine L.norm (H' := [_, _, _]) [0, 1, 2] ⟨rfl, rfl, rfl, trivial⟩ (by decide) ?_; refine L.yes rfl ?_; refine Lpu rfl rfl ?_; refine L.yes rfl ?_; refine L.step (Ev.cast (u := .bool true) (Ev.pure rfl) (by rw [hr.cost]; simp)) rfl ?_; refine Lpu rfl rfl ?_; refine Lpu rfl rfl ?_; refine L.yes rfl ?_; refine L.step (Ev.loadA (vs := [.bool r.lf, .int .i64 r.inn, .int .i64 r.out, .slice r.A r.l.length r.c]) rfl rfl rfl (Src.o 2 rfl) rfl rfl (by decide)) rfl ?_; refine L.yes rfl ?_; refine Lpu rfl rfl ?_; refine L.yes rfl ?_; refine Lpu rfl rfl ?_; refine L.yes rfl ?_; refine L.call (js := []) (js' := [0, 1, 2]) (madeB_c XA s.A (codB la 20) s.l xc s.c r h1 hr hxc) rfl rfl rfl (by decide) (Hq [7, 6, 0, 1] rfl) rfl ?_
       rintro _ _ _ ⟨rfl, rfl, rfl⟩
       refine L.norm (H' := [_, _, _]) [0, 1, 2] ⟨rfl, rfl, rfl, trivial⟩ (by decide) ?_; refine Lpu rfl rfl ?_; refine Lpu rfl rfl ?_; refine L.nil (QE.seq (C.ret ?_)); refine QE.ret (js := []) (hs := []) (vs := [_]) rfl ⟨rfl, trivial⟩ (by decide) ?_
       exact ⟨rfl, rfl, rfl⟩

end Go.Proofs.YtbkmahjhhncfcaaGreat
end
/-
  From the readings of a call's arguments to the facts of the small separation logic.
-/
section
namespace Go.Sl
open Go.ChangeShapes Go.WideShapes Go.RowKit Go.Deep

theorem cell_lt {w : World} {a : Addr} {v : Value} (h : w.cell? a = some v) : a.block < w.heap.size := by
 rcases Nat.lt_or_ge a.block w.heap.size with h1 | h1
 · exact h1
 · unfold World.cell? at h
   rw [Array.getElem?_eq_none h1] at h
   simp at h
theorem Rd.lt {w : World} {A : Option Addr} {xs : List Value} (h : (Rd A xs).p w) {k : Nat} (hk : (Rd A xs).fp k) : k < w.heap.size := by
 obtain ⟨hne, a, rfl, rfl⟩ := hk
 cases xs with
 | nil => exact absurd rfl hne
 | cons u us =>
   obtain ⟨b, hb, hc⟩ := h 0 u rfl
   cases hb
   have := cell_lt hc
   rwa [addblock] at this
theorem KidsR.lt {w : World} {hs : List Hd} {vss : List (List Value)} (h : (KidsR hs vss).p w) {k : Nat} (hk : (KidsR hs vss).fp k) : k < w.heap.size := by
 obtain ⟨i, hd, v, h1, h2, h3⟩ := hk
 exact Rd.lt (h i hd v h1 h2) h3

/-- The state at a call that owns nothing. -/
theorem Sat.start {w : World} {R : List Pr} (hr : ∀ r ∈ R, r.p w) (hf : ∀ r ∈ R, ∀ k, r.fp k → k < w.heap.size) : Sat (ownBase w R []) w R [] :=
 ⟨⟨rfl, rfl, rfl, Nat.le_refl _, fun _ _ _ => rfl⟩, hr, fun r h k hk => ⟨hf r h k hk, .inr (.inr ⟨r, h, hk⟩)⟩, fun i c h => by simp at h, fun i c h => by simp at h, fun i j c d h => by simp at h, fun r _ j c h => by simp at h⟩
theorem Sat.below {w w' : World} {R R' H' : List Pr} (h : Sat (ownBase w R []) w' R' H') : Below w.heap.size w w' :=
 ⟨h.ext.os, h.ext.tape, h.ext.output, h.ext.size, fun k hk => h.ext.block k hk (fun ⟨i, c, hi, _⟩ => by simp at hi)⟩

section
variable {H : Type} {enc : TypeId × Value → H} {P : Program} {w : World} {base : Nat} {spare : Nat → Bool} {held : Bool}

def byteOf (n : Int) : UInt8 := UInt8.ofNat n.toNat
theorem byteOf_eq {n : Int} (h : (Lit.int .u8 n).wf = true) : Value.int .u8 ((byteOf n).toNat : Int) = .int .u8 n := by
 have : 0 ≤ n ∧ n ≤ 255 := by
   simp [Lit.wf, IntKind.min, IntKind.max, IntKind.signed, IntKind.bits] at h
   omega
 unfold byteOf
 congr 1
 simp
 omega

/-- A slice of bytes. -/
theorem open_U8 {t e : TypeId} {fuel : Nat} {cs : List Value} {x : DataW H × List MemPlace} (ht : P.underlying t = some (.slice e)) (he : P.underlying e = some (.int .u8)) (hc : P.cellsOf e = 1) (h : DataW.trod enc P w base spare held fuel t cs = some x) :
   ∃ (A : Option Addr) (c : Nat) (l : List UInt8), cs = [.slice A l.length c] ∧ l.length ≤ c ∧ l.length ≤ maxLen ∧ (Rd A (U8 l)).p w := by
 rcases open_ints ht he hc h with ⟨rfl, _⟩ | ⟨a, len, cap, zs, rfl, _, hl, hm, hz, _, hcell, hwz⟩
 · exact ⟨none, 0, [], rfl, Nat.le_refl _, Nat.zero_le _, fun j u hu => by simp [U8] at hu⟩
 · have hle : len ≤ zs.length := by rw [hz]; split <;> omega
   have hlen : ((zs.take len).map byteOf).length = len := by rw [List.length_map, List.length_take]; omega
   refine ⟨some a, cap, (zs.take len).map byteOf, by rw [hlen], by omega, by omega, fun j u hu => ⟨a, rfl, ?_⟩⟩
   have hj : j < len := by
     have := (List.getElem?_eq_some_iff.1 hu).1
     rwa [U8_len, hlen] at this
   rw [hcell j (by omega), ← hu]
   have hw := hwz _ (List.getElem_mem (show j < zs.length by omega))
   have hu2 : (U8 ((zs.take len).map byteOf))[j]? = some (.int .u8 ((byteOf (zs[j]'(by omega))).toNat : Int)) := by
     simp [U8, hj, show j < zs.length from by omega]
   rw [hu2, byteOf_eq hw]
   simp [List.getD_eq_getElem?_getD, show j < zs.length from by omega]
end
end Go.Sl
end
/-
  From the readings of a call's arguments to facts: three numbers, bytes, a script of steps.
-/
section
namespace Go.Sl
open Go.ChangeShapes Go.WideShapes Go.RowKit Go.Deep Go.Joins

section
variable {H : Type} {enc : TypeId × Value → H} {P : Program} {w : World} {base : Nat} {spare : Nat → Bool} {held : Bool}

/-- Bytes. -/
theorem open_bytesV {r : Reach} {b0 : Nat} {t e : TypeId} {v : Value} {d : DataW H} {ps : List MemPlace} (ht : P.underlying t = some (.slice e)) (he : P.underlying e = some (.int .u8)) (ce : P.cellsOf e = 1)
   (hv : Value.okWide P w r b0 t v) (h : DataW.Trod enc P w base spare held t v d ps) :
   ∃ (A : Option Addr) (c : Nat) (l : List UInt8), v = .slice A l.length c ∧ l.length ≤ c ∧ l.length ≤ maxLen ∧ (Rd A (U8 l)).p w := by
 obtain ⟨A, n, c, rfl⟩ := okWide_slice ht hv
 obtain ⟨fuel, hf⟩ := h
 obtain ⟨B, c', l, hcs, h1, h2, h3⟩ := open_U8 ht he ce hf
 have e : Value.slice A n c = .slice B l.length c' := (List.cons.inj (show [Value.slice A n c] = [.slice B l.length c'] from by simpa [Value.cells] using hcs)).1
 exact ⟨B, c', l, e, h1, h2, h3⟩
end
end Go.Sl
end
/-
  From the readings of a call's arguments to facts: numbers, slices of slices of numbers, small arrays.
-/
section
namespace Go.Sl
open Go.ChangeShapes Go.WideShapes Go.RowKit Go.Deep Go.Joins

section
variable {H : Type} {enc : TypeId × Value → H} {P : Program} {w : World} {base : Nat} {spare : Nat → Bool} {held : Bool}

/-- The cells of an array of small numbers. -/
theorem open_arr8 {n : Nat} {t e : TypeId} {fuel : Nat} {cs : List Value} {x : DataW H × List MemPlace} (ht : P.underlying t = some (.array n e)) (he : P.underlying e = some (.int .u8)) (ce : P.cellsOf e = 1) (hl : cs.length = n)
   (h : DataW.trod enc P w base spare held fuel t cs = some x) : ∀ i, i < n → ∃ y : UInt8, cs[i]? = some (.int .u8 (y.toNat : Int)) := by
 intro i hi
 obtain ⟨xs, m2, -, -, -, hxl, hg⟩ := DataW.trod_array ht h
 have g := hg i hi
 rw [ce, List.getElem?_eq_getElem (by rw [hxl]; exact hi)] at g
 have e1 : (cs.drop (i * 1)).take 1 = [cs[i]'(by omega)] := by
   rw [Nat.mul_one, List.drop_eq_getElem_cons (by omega), List.take_succ_cons, List.take_zero]
 rw [e1] at g
 obtain ⟨z, hz, -, wz⟩ := DataW.trod_int he g
 exact ⟨byteOf z, by rw [List.getElem?_eq_getElem (by omega), (List.cons.inj hz).1, byteOf_eq wz]⟩
end
end Go.Sl
end
/-
  From the readings of a call's arguments to facts: slices of arrays of four bytes, of words, of booleans; lifted code.
-/
section
namespace Go.Sl
open Go.ChangeShapes Go.WideShapes Go.RowKit Go.Deep Go.Joins

section
variable {H : Type} {enc : TypeId × Value → H} {P : Program} {w : World} {base : Nat} {spare : Nat → Bool} {held : Bool}

theorem open_u4c {t e : TypeId} {fuel : Nat} {cs : List Value} {x : DataW H × List MemPlace} (ht : P.underlying t = some (.array 4 e)) (he : P.underlying e = some (.int .u8)) (ce : P.cellsOf e = 1) (hl : cs.length = 4)
   (h : DataW.trod enc P w base spare held fuel t cs = some x) : ∃ r : List UInt8, cs = u4 r := by
 have hi := open_arr8 ht he ce hl h
 obtain ⟨y0, h0⟩ := hi 0 (by decide)
 obtain ⟨y1, h1⟩ := hi 1 (by decide)
 obtain ⟨y2, h2⟩ := hi 2 (by decide)
 obtain ⟨y3, h3⟩ := hi 3 (by decide)
 match cs, hl, h0, h1, h2, h3 with
 | [a, b, c, d], _, h0, h1, h2, h3 =>
   simp at h0 h1 h2 h3
   exact ⟨[y0, y1, y2, y3], by rw [h0, h1, h2, h3]; rfl⟩
end
end Go.Sl
end
/-
  From the readings of a call's arguments to facts: arrays of two slices of arrays of four bytes.
-/
section
namespace Go.Sl
open Go.ChangeShapes Go.WideShapes Go.RowKit Go.Deep Go.Joins

section
variable {H : Type} {enc : TypeId × Value → H} {P : Program} {w : World} {base : Nat} {spare : Nat → Bool} {held : Bool}

theorem open_foursC {q t e : TypeId} {fuel : Nat} {cs : List Value} {x : DataW H × List MemPlace} (hq : P.underlying q = some (.slice t)) (ht : P.underlying t = some (.array 4 e)) (he : P.underlying e = some (.int .u8)) (ce : P.cellsOf e = 1) (ct : P.cellsOf t = 4)
   (h : DataW.trod enc P w base spare held fuel q cs = some x) :
   ∃ (A : Option Addr) (c : Nat) (l : List (List UInt8)), cs = [.slice A l.length c] ∧ l.length ≤ maxLen ∧ (Rd A (frV l)).p w := by
 rcases open_slice hq h with ⟨rfl, _⟩ | ⟨a, len, cap, m, k, D, Pl, rfl, _, hl, hm, hmm, _, hi⟩
 · exact ⟨none, 0, [], rfl, Nat.zero_le _, fun j u hu => by simp [frV] at hu⟩
 · have hle : len ≤ m := by rw [hmm]; split <;> omega
   have each : ∀ i : Nat, ∃ x : List UInt8, i < len → ∀ j, j < 4 → w.cell? ((a.add (i * 4)).add j) = (u4 x)[j]? := fun i => by
     by_cases h1 : i < len
     · obtain ⟨cs', hc, htr⟩ := hi i (by omega)
       rw [ct] at hc
       obtain ⟨_, hcl, hat⟩ := World.cells?_some hc
       obtain ⟨y, rfl⟩ := open_u4c ht he ce (by simpa using hcl) htr
       exact ⟨y, fun _ j hj => hat j hj⟩
     · exact ⟨[], fun h => absurd h h1⟩
   obtain ⟨F, hF⟩ := Classical.axiomOfChoice each
   have hlen : ((List.range len).map F).length = len := by simp
   have get : ∀ i, i < len → ((List.range len).map F).getD i [] = F i := fun i h => by simp [h]
   refine ⟨some a, cap, (List.range len).map F, by rw [hlen], by rw [hlen]; omega, fun j u hu => ⟨a, rfl, ?_⟩⟩
   have hj : j < len * 4 := by
     have := (List.getElem?_eq_some_iff.1 hu).1
     rwa [frV_len, hlen] at this
   have hd : j / 4 < len := by omega
   have hu2 := hu
   have hq4 : (frV ((List.range len).map F))[j / 4 * 4 + j % 4]? = (u4 (F (j / 4)))[j % 4]? := by
     rw [frV_get _ (by rw [hlen]; exact hd) (by omega), get _ hd, u4_get _ (by omega)]
   rw [show j = j / 4 * 4 + j % 4 from by omega, hq4] at hu2
   rw [← hu2, ← hF _ hd (j % 4) (by omega), addadd]
   congr 2
   omega
/-- An array of two such slices. -/
theorem open_fours2 {r : Reach} {b0 : Nat} {s q t e : TypeId} {v : Value} {d : DataW H} {ps : List MemPlace} (hs : P.underlying s = some (.array 2 q)) (hq : P.underlying q = some (.slice t)) (ht : P.underlying t = some (.array 4 e)) (he : P.underlying e = some (.int .u8)) (ce : P.cellsOf e = 1) (ct : P.cellsOf t = 4) (cq : P.cellsOf q = 1) (cs2 : P.cellsOf s = 2)
   (hv : Value.okWide P w r b0 s v) (h : DataW.Trod enc P w base spare held s v d ps) :
   ∃ (A B : Option Addr) (a b : Nat) (l k : List (List UInt8)), v = .agg (List.toArray [.slice A l.length a, .slice B k.length b]) ∧ (l.length ≤ maxLen ∧ (Rd A (frV l)).p w) ∧ (k.length ≤ maxLen ∧ (Rd B (frV k)).p w) := by
 simp only [Value.okWide, hs] at hv
 obtain ⟨cs, rfl, hsz, -⟩ := hv
 rw [cs2] at hsz
 obtain ⟨ls⟩ := cs
 obtain ⟨a0, a1, rfl⟩ : ∃ a0 a1, ls = [a0, a1] := by
   match ls, hsz with
   | [a, b], _ => exact ⟨a, b, rfl⟩
 obtain ⟨fuel, hf⟩ := h
 obtain ⟨xs, m2, -, -, -, hxl, hg⟩ := DataW.trod_array hs hf
 have g0 := hg 0 (by decide)
 have g1 := hg 1 (by decide)
 rw [cq, List.getElem?_eq_getElem (by rw [hxl]; decide)] at g0 g1
 obtain ⟨A, a, l, h0, hl0, fl⟩ := open_foursC (cs := [a0]) hq ht he ce ct g0
 obtain ⟨B, b, k, h1, hk0, fk⟩ := open_foursC (cs := [a1]) hq ht he ce ct g1
 obtain rfl := (List.cons.inj h0).1
 obtain rfl := (List.cons.inj h1).1
 exact ⟨A, B, a, b, l, k, rfl, ⟨hl0, fl⟩, ⟨hk0, fk⟩⟩
end
end Go.Sl
end
