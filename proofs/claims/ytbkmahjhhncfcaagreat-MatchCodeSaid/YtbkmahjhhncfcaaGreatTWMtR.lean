/-
  The law MatchCode.
-/
import Derived.ProofKit
import Derived.Deep.Slices
import Derived.Below
import Derived.OpenShut
import Derived.Lib.SmallJoins
import Derived.ChangeArms
import Derived.Test.YtbkmahjhhncfcaaGreatTWMtQ
import Derived.Test.YtbkmahjhhncfcaaGreatTSlG
import Derived.Test.YtbkmahjhhncfcaaGreatTSlI
import Derived.Test.YtbkmahjhhncfcaaGreatTPl
import Derived.Test.YtbkmahjhhncfcaaGreatTMn
import Derived.Test.YtbkmahjhhncfcaaGreatTOg
section
namespace Go.Proofs.YtbkmahjhhncfcaaGreat
open Go.Sl

set_option maxHeartbeats 2000000 in
theorem mcode07_c (C0 C1 : Option Addr) (la lb : List (List UInt8)) (k0 k1 : Nat) (hl0 : la.length ≤ 9223372036854775807) (hl1 : lb.length ≤ 9223372036854775807) :
   Ctr X 5 [.agg (List.toArray [.slice C0 la.length k0, .slice C1 lb.length k1])] [Rd C0 (frV la), Rd C1 (frV lb)] [] (fun v R' H' => v = .bool true ∧ R' = [] ∧ H' = []) := by
 refine Ctr.of (X := X) (fn := Tryz.f5) Tryz.func5 rfl (by kernel_rfl) rfl ?_
 intro β
 refine C.seq (C.region ?_)
 refine L.boxA rfl rfl (fun A1 => ?_)
 refine Lpu rfl rfl ?_; refine L.nil (QE.seq (C.seq ?_)); refine C.freeze 0 rfl [] (by decide) (by decide) ?_; refine C.region ?_; refine L.call (js := []) (js' := []) (sanity07_c) rfl rfl rfl (by decide) trivial rfl ?_
 rintro _ _ _ ⟨rfl, rfl, rfl⟩
 refine Lpu rfl rfl ?_; refine L.nil (QE.seq (C.seq (C.region ?_))); refine L.step (Ev.idxArr (k := 0) (m := 0) rfl rfl rfl rfl rfl rfl (by decide) (Src.r 0 rfl) (Nat.zero_lt_succ _) rfl) rfl ?_; refine L.step (Ev.load rfl rfl rfl (Src.r 0 rfl) rfl) rfl ?_; refine L.call (js := []) (js' := []) (code_c C0 la k0 30 (by omega) (by decide)) rfl rfl rfl (by decide) (Hq [1] rfl) rfl ?_
 rintro _ _ _ ⟨XA, xc, rfl, rfl, rfl⟩
 refine L.norm (H' := [_]) [0] ⟨rfl, trivial⟩ (by decide) ?_; refine Lpu rfl rfl ?_; refine L.nil (QE.seq (C.seq (C.region ?_))); refine L.step (Ev.idxArr (k := 1) (m := 1) rfl rfl rfl rfl rfl rfl (by decide) (Src.r 0 rfl) (Nat.zero_lt_succ _) rfl) rfl ?_; refine L.step (Ev.load rfl rfl rfl (Src.r 0 rfl) rfl) rfl ?_; refine L.call (js := []) (js' := [0]) (code_c C1 lb k1 30 (by omega) (by decide)) rfl rfl rfl (by decide) (Hq [2] rfl) rfl ?_
 rintro _ _ _ ⟨YA, yc, rfl, rfl, rfl⟩
 refine L.norm (H' := [_, _]) [0, 1] ⟨rfl, rfl, trivial⟩ (by decide) ?_; refine Lpu rfl rfl ?_; refine L.nil (QE.seq (C.seq ?_))
 refine C.capO 1 rfl (fun hxc => ?_)
 refine C.capO 0 rfl (fun hyc => ?_)
 have hxl := codB_len la 30
 have hyl := codB_len lb 30
 have h1 := codB_code la (show 30 ≤ 16384 by decide)
 have h2 := codB_code lb (show 30 ≤ 16384 by decide)
 have hcr := codeR_code h1 h2
 have hlx := liftR_lens (codB la 30)
 have hly := liftR_lens (codB lb 30)
 refine C.freeze 1 rfl [0] (by decide) (by decide) ?_; refine C.norm (H' := [_]) [0] ⟨rfl, trivial⟩ (by decide) ?_; refine C.freeze 0 rfl [] (by decide) (by decide) ?_; refine C.region ?_; refine Lpu rfl rfl ?_; refine Lpu rfl rfl ?_; refine L.callR (js := []) (js' := []) (codeA_c XA YA (codB la 30) (codB lb 30) xc yc (by omega) (by omega) (by omega) (by omega) ⟨by have := foF_len (b := (codB la 30)); omega, by have := foF_len (b := (codB lb 30)); omega⟩) rfl rfl rfl (by decide) (Hq [1, 0] rfl) rfl ?_
 rw [hcr]
 rintro _ _ _ ⟨p, rfl, rfl, rfl, hp⟩
 have hpo := hp rfl
 refine Lpu rfl rfl ?_; refine Lpu rfl rfl ?_; refine Lpu rfl rfl ?_
 refine L.alloc rfl rfl rfl (fun A6 => ?_)
 refine L.storeA (j := 0) rfl rfl rfl rfl rfl (Nat.zero_lt_succ _) rfl rfl ?_; refine Lpu rfl rfl ?_; refine L.nil (QE.seq (C.seq (C.region ?_))); refine Lpu rfl rfl ?_; refine L.call (js := []) (js' := [0]) (lift3_c XA (codB la 30) xc (by omega)) rfl rfl rfl (by decide) (Hq [3] rfl) rfl ?_
 rw [liftE_code h1]
 rintro _ _ _ ⟨W1, M1, L1, w1, m1, l1, rfl, rfl, rfl⟩
 refine L.norm (H' := [_, _, _, _]) [0, 1, 2, 3] ⟨rfl, rfl, rfl, rfl, trivial⟩ (by decide) ?_; refine Lpu rfl rfl ?_; refine Lpu rfl rfl ?_; refine Lpu rfl rfl ?_
 refine L.alloc rfl rfl rfl (fun A8 => ?_)
 refine L.storeA (j := 4) rfl rfl rfl rfl rfl (Nat.zero_lt_succ _) rfl rfl ?_; refine Lpu rfl rfl ?_; refine L.nil (QE.seq (C.seq ?_)); refine C.freeze 0 rfl [1, 2, 3, 4] (by decide) (by decide) ?_; refine C.norm (H' := [_, _, _, _]) [0, 1, 2, 3] ⟨rfl, rfl, rfl, rfl, trivial⟩ (by decide) ?_; refine C.freeze 0 rfl [1, 2, 3] (by decide) (by decide) ?_; refine C.norm (H' := [_, _, _]) [0, 1, 2] ⟨rfl, rfl, rfl, trivial⟩ (by decide) ?_; refine C.freeze 0 rfl [1, 2] (by decide) (by decide) ?_; refine C.norm (H' := [_, _]) [0, 1] ⟨rfl, rfl, trivial⟩ (by decide) ?_; refine C.region ?_; refine Lpu rfl rfl ?_; refine L.call (js := []) (js' := [0, 1]) (lift3_c YA (codB lb 30) yc (by omega)) rfl rfl rfl (by decide) (Hq [5] rfl) rfl ?_
 rw [liftE_code h2]
 rintro _ _ _ ⟨W2, M2, L2, w2, m2, l2, rfl, rfl, rfl⟩
 refine L.norm (H' := [_, _, _, _, _]) [0, 1, 2, 3, 4] ⟨rfl, rfl, rfl, rfl, rfl, trivial⟩ (by decide) ?_; refine Lpu rfl rfl ?_; refine Lpu rfl rfl ?_; refine Lpu rfl rfl ?_
 refine L.alloc rfl rfl rfl (fun A10 => ?_)
 refine L.storeA (j := 5) rfl rfl rfl rfl rfl (Nat.zero_lt_succ _) rfl rfl ?_; refine Lpu rfl rfl ?_; refine L.nil (QE.seq (C.seq (C.seq ?_))); refine C.freeze 0 rfl [1, 2, 3, 4, 5] (by decide) (by decide) ?_; refine C.norm (H' := [_, _, _, _, _]) [0, 1, 2, 3, 4] ⟨rfl, rfl, rfl, rfl, rfl, trivial⟩ (by decide) ?_; refine C.freeze 0 rfl [1, 2, 3, 4] (by decide) (by decide) ?_; refine C.norm (H' := [_, _, _, _]) [0, 1, 2, 3] ⟨rfl, rfl, rfl, rfl, trivial⟩ (by decide) ?_; refine C.freeze 0 rfl [1, 2, 3] (by decide) (by decide) ?_; refine C.norm (H' := [_, _, _]) [0, 1, 2] ⟨rfl, rfl, rfl, trivial⟩ (by decide) ?_; refine C.region ?_; refine Lpu rfl rfl ?_; refine Lpu rfl rfl ?_; refine Lpu rfl rfl ?_
 refine L.bool 37 rfl (fun hg37 => ?_) (fun hg37 => ?_)
 ·
  replace hg37 := b_ne hg37
  exact absurd rfl hg37
 ·
  replace hg37 := b_eq hg37
  refine L.yes rfl ?_; refine Lpu rfl rfl ?_; refine L.yes rfl ?_; refine Lpu rfl rfl ?_; refine Lpu rfl rfl ?_; refine Lpu rfl rfl ?_
  refine L.bool 41 rfl (fun hg41 => ?_) (fun hg41 => ?_)
  ·
   replace hg41 := b_ne hg41
   exact absurd rfl hg41
  ·
   replace hg41 := b_eq hg41
   refine L.yes rfl ?_; refine Lpu rfl rfl ?_; refine L.yes rfl ?_; refine Lpu rfl rfl ?_; refine Lpu rfl rfl ?_; refine L.nil (QE.seq ?_)
   refine C.condB 44 rfl (fun hc44 => ?_) (fun hc44 => ?_)
   ·
    replace hc44 := b_ne hc44
    exact absurd rfl hc44
   ·
    replace hc44 := b_eq hc44
    refine C.skip (QE.seq (C.seq ?_)); refine C.regionM [Rd A6 [.bool p.lf, .int .i64 p.inn, .int .i64 p.out, .slice p.A p.l.length p.c], Rd A8 [.slice W1 (liftR (codB la 30)).ws.length w1, .slice M1 (liftR (codB la 30)).ms.length m1, .slice L1 (liftR (codB la 30)).ls.length l1], Rd A10 [.slice W2 (liftR (codB lb 30)).ws.length w2, .slice M2 (liftR (codB lb 30)).ms.length m2, .slice L2 (liftR (codB lb 30)).ls.length l2]] ⟨Has.o 0 rfl, Has.o 1 rfl, Has.o 2 rfl, trivial⟩ ?_; refine LM.q 0 rfl (by kernel_rfl) (Ev.pure rfl) rfl ⟨Has.o 0 rfl, Has.o 1 rfl, Has.o 2 rfl, trivial⟩ ?_; refine LM.q 1 rfl (by kernel_rfl) (Ev.pure rfl) rfl ⟨Has.o 0 rfl, Has.o 1 rfl, Has.o 2 rfl, trivial⟩ ?_; refine LM.qy 2 rfl (by kernel_rfl) rfl (Ev.fieldAddr rfl rfl rfl rfl rfl rfl (Src.r 0 rfl) (Nat.zero_lt_succ _) rfl) rfl ⟨Has.o 0 rfl, Has.o 1 rfl, Has.o 2 rfl, trivial⟩ ?_; refine LM.qy 3 rfl (by kernel_rfl) rfl (Ev.cast (u := .bool true) (Ev.load rfl rfl rfl (Src.r 0 rfl) rfl) (congrArg Value.bool hpo.lf)) rfl ⟨Has.o 0 rfl, Has.o 1 rfl, Has.o 2 rfl, trivial⟩ ?_; refine LM.q 4 rfl (by kernel_rfl) (Ev.pure rfl) rfl ⟨Has.o 0 rfl, Has.o 1 rfl, Has.o 2 rfl, trivial⟩ ?_; refine LM.q 5 rfl (by kernel_rfl) (Ev.pure rfl) rfl ⟨Has.o 0 rfl, Has.o 1 rfl, Has.o 2 rfl, trivial⟩ ?_
    refine LM.bool 50 rfl (fun hg50 => ?_) (fun hg50 => ?_)
    ·
     refine LM.qy 6 rfl (by kernel_rfl) rfl (Ev.fieldAddr rfl rfl rfl rfl rfl rfl (Src.r 0 rfl) (Nat.zero_lt_succ _) rfl) rfl ⟨Has.o 0 rfl, Has.o 1 rfl, Has.o 2 rfl, trivial⟩ ?_; refine LM.qy 7 rfl (by kernel_rfl) rfl (Ev.load rfl rfl rfl (Src.r 0 rfl) rfl) rfl ⟨Has.o 0 rfl, Has.o 1 rfl, Has.o 2 rfl, trivial⟩ ?_; refine LM.qy 8 rfl (by kernel_rfl) rfl (Ev.loadA (vs := [.slice W1 (liftR (codB la 30)).ws.length w1, .slice M1 (liftR (codB la 30)).ms.length m1, .slice L1 (liftR (codB la 30)).ls.length l1]) rfl rfl rfl (Src.r 1 rfl) rfl rfl (by decide)) rfl ⟨Has.o 0 rfl, Has.o 1 rfl, Has.o 2 rfl, trivial⟩ ?_; refine LM.f 9 rfl (by kernel_rfl) ⟨Has.o 0 rfl, Has.o 1 rfl, Has.o 2 rfl, trivial⟩ ?_; refine L.yes rfl ?_; refine L.call (js := []) (js' := [0, 1, 2]) (form3_c W1 M1 L1 w1 m1 l1 (liftR (codB la 30)) (by omega) (by omega) (by omega) (liftR_w32 (codB la 30)) (liftR_marks (codB la 30)) liftR_asc) rfl rfl rfl (by decide) (Hq [5, 4, 3] rfl) rfl ?_
     rintro _ _ _ ⟨F1, f1, rfl, rfl, rfl⟩
     refine L.norm (H' := [_, _, _, _]) [0, 1, 2, 3] ⟨rfl, rfl, rfl, rfl, trivial⟩ (by decide) ?_
     refine L.nil (QE.m (by kernel_rfl) ?_)
     refine LM.qy 10 rfl (by kernel_rfl) rfl (Ev.pure rfl) rfl ⟨Has.o 1 rfl, Has.o 2 rfl, Has.o 3 rfl, trivial⟩ ?_; refine LM.qy 11 rfl (by kernel_rfl) rfl (Ev.cast (u := .bool true) (Ev.pure rfl) (congrArg Value.bool (decide_eq_true hpo.inn))) rfl ⟨Has.o 1 rfl, Has.o 2 rfl, Has.o 3 rfl, trivial⟩ ?_; refine LM.q 12 rfl (by kernel_rfl) (Ev.pure rfl) rfl ⟨Has.o 1 rfl, Has.o 2 rfl, Has.o 3 rfl, trivial⟩ ?_; refine LM.q 13 rfl (by kernel_rfl) (Ev.pure rfl) rfl ⟨Has.o 1 rfl, Has.o 2 rfl, Has.o 3 rfl, trivial⟩ ?_
     refine LM.bool 58 rfl (fun hg58 => ?_) (fun hg58 => ?_)
     ·
      refine LM.qy 14 rfl (by kernel_rfl) rfl (Ev.fieldAddr rfl rfl rfl rfl rfl rfl (Src.r 0 rfl) (Nat.zero_lt_succ _) rfl) rfl ⟨Has.o 1 rfl, Has.o 2 rfl, Has.o 3 rfl, trivial⟩ ?_; refine LM.qy 15 rfl (by kernel_rfl) rfl (Ev.load rfl rfl rfl (Src.r 0 rfl) rfl) rfl ⟨Has.o 1 rfl, Has.o 2 rfl, Has.o 3 rfl, trivial⟩ ?_; refine LM.qy 16 rfl (by kernel_rfl) rfl (Ev.loadA (vs := [.slice W2 (liftR (codB lb 30)).ws.length w2, .slice M2 (liftR (codB lb 30)).ms.length m2, .slice L2 (liftR (codB lb 30)).ls.length l2]) rfl rfl rfl (Src.r 2 rfl) rfl rfl (by decide)) rfl ⟨Has.o 1 rfl, Has.o 2 rfl, Has.o 3 rfl, trivial⟩ ?_; refine LM.f 17 rfl (by kernel_rfl) ⟨Has.o 1 rfl, Has.o 2 rfl, Has.o 3 rfl, trivial⟩ ?_; refine L.yes rfl ?_; refine L.call (js := []) (js' := [0, 1, 2, 3]) (form3_c W2 M2 L2 w2 m2 l2 (liftR (codB lb 30)) (by omega) (by omega) (by omega) (liftR_w32 (codB lb 30)) (liftR_marks (codB lb 30)) liftR_asc) rfl rfl rfl (by decide) (Hq [2, 1, 0] rfl) rfl ?_
      rintro _ _ _ ⟨F2, f2, rfl, rfl, rfl⟩
      refine L.norm (H' := [_, _, _, _, _]) [0, 1, 2, 3, 4] ⟨rfl, rfl, rfl, rfl, rfl, trivial⟩ (by decide) ?_
      refine L.nil (QE.m (by kernel_rfl) ?_)
      refine LM.qy 18 rfl (by kernel_rfl) rfl (Ev.pure rfl) rfl ⟨Has.o 2 rfl, Has.o 3 rfl, Has.o 4 rfl, trivial⟩ ?_; refine LM.qy 19 rfl (by kernel_rfl) rfl (Ev.cast (u := .bool true) (Ev.pure rfl) (congrArg Value.bool (decide_eq_true hpo.out))) rfl ⟨Has.o 2 rfl, Has.o 3 rfl, Has.o 4 rfl, trivial⟩ ?_; refine LM.q 20 rfl (by kernel_rfl) (Ev.pure rfl) rfl ⟨Has.o 2 rfl, Has.o 3 rfl, Has.o 4 rfl, trivial⟩ ?_; refine LM.q 21 rfl (by kernel_rfl) (Ev.pure rfl) rfl ⟨Has.o 2 rfl, Has.o 3 rfl, Has.o 4 rfl, trivial⟩ ?_
      refine LM.bool 66 rfl (fun hg66 => ?_) (fun hg66 => ?_)
      ·
       refine LM.qy 22 rfl (by kernel_rfl) rfl (Ev.loadA (vs := [.bool p.lf, .int .i64 p.inn, .int .i64 p.out, .slice p.A p.l.length p.c]) rfl rfl rfl (Src.r 0 rfl) rfl rfl (by decide)) rfl ⟨Has.o 2 rfl, Has.o 3 rfl, Has.o 4 rfl, trivial⟩ ?_; refine LM.qy 23 rfl (by kernel_rfl) rfl (Ev.pure rfl) rfl ⟨Has.o 2 rfl, Has.o 3 rfl, Has.o 4 rfl, trivial⟩ ?_; refine LM.f 24 rfl (by kernel_rfl) ⟨Has.o 2 rfl, Has.o 3 rfl, Has.o 4 rfl, trivial⟩ ?_; refine L.yes rfl ?_; refine Lpu rfl rfl ?_
       refine L.nil (QE.m (by kernel_rfl) ?_)
       refine LM.cut [] (by kernel_rfl) ⟨Has.o 2 rfl, Has.o 3 rfl, Has.o 4 rfl, trivial⟩ ?_; refine LM.f 25 rfl (by kernel_rfl) trivial ?_; refine L.yes rfl ?_; refine L.call (js := []) (js' := [0, 1, 2, 3, 4]) (madeL_c XA YA (codB la 30) (codB lb 30) xc yc p.lf p.inn p.out p.l p.A p.c (by have := (chkP_iff.1 hpo.chk).2.2.2.2.1; omega) hpo.lf h1 h2 hxc hpo.chk hpo.inn hpo.mq.run) rfl rfl rfl (by decide) (Hq [9, 8, 6, 7] rfl) rfl ?_
       rintro _ _ _ ⟨rfl, rfl, rfl⟩
       refine L.norm (H' := [_, _, _, _, _]) [0, 1, 2, 3, 4] ⟨rfl, rfl, rfl, rfl, rfl, trivial⟩ (by decide) ?_
       refine L.nil (QE.m (by kernel_rfl) ?_)
       refine LM.f 26 rfl (by kernel_rfl) trivial ?_; refine Lpu rfl rfl ?_
       refine L.nil (QE.m (by kernel_rfl) ?_)
       refine LM.f 27 rfl (by kernel_rfl) trivial ?_; refine Lpu rfl rfl ?_
       refine L.nil (QE.m (by kernel_rfl) ?_)
       refine LM.nil (by kernel_rfl) trivial ?_; refine QE.seq (C.ret ?_); refine QE.ret (js := []) (hs := []) (vs := [_]) rfl ⟨rfl, trivial⟩ (by decide) ?_
       exact ⟨rfl, rfl, rfl⟩
      ·
       cases hg66
     ·
      cases hg58
    ·
     cases hg50

end Go.Proofs.YtbkmahjhhncfcaaGreat
end
/-
  From the readings of a call's arguments to the facts of the small separation logic.
-/
section
namespace Go.Sl
open Go.ChangeShapes Go.WideShapes Go.RowKit Go.Deep

theorem cell_lt {w : World} {a : Addr} {v : Value} (h : w.cell? a = some v) : a.block < w.heap.size := by
 rcases Nat.lt_or_ge a.block w.heap.size with h1 | h1
 · exact h1
 · unfold World.cell? at h
   rw [Array.getElem?_eq_none h1] at h
   simp at h
theorem Rd.lt {w : World} {A : Option Addr} {xs : List Value} (h : (Rd A xs).p w) {k : Nat} (hk : (Rd A xs).fp k) : k < w.heap.size := by
 obtain ⟨hne, a, rfl, rfl⟩ := hk
 cases xs with
 | nil => exact absurd rfl hne
 | cons u us =>
   obtain ⟨b, hb, hc⟩ := h 0 u rfl
   cases hb
   have := cell_lt hc
   rwa [addblock] at this
theorem KidsR.lt {w : World} {hs : List Hd} {vss : List (List Value)} (h : (KidsR hs vss).p w) {k : Nat} (hk : (KidsR hs vss).fp k) : k < w.heap.size := by
 obtain ⟨i, hd, v, h1, h2, h3⟩ := hk
 exact Rd.lt (h i hd v h1 h2) h3

/-- The state at a call that owns nothing. -/
theorem Sat.start {w : World} {R : List Pr} (hr : ∀ r ∈ R, r.p w) (hf : ∀ r ∈ R, ∀ k, r.fp k → k < w.heap.size) : Sat (ownBase w R []) w R [] :=
 ⟨⟨rfl, rfl, rfl, Nat.le_refl _, fun _ _ _ => rfl⟩, hr, fun r h k hk => ⟨hf r h k hk, .inr (.inr ⟨r, h, hk⟩)⟩, fun i c h => by simp at h, fun i c h => by simp at h, fun i j c d h => by simp at h, fun r _ j c h => by simp at h⟩
theorem Sat.below {w w' : World} {R R' H' : List Pr} (h : Sat (ownBase w R []) w' R' H') : Below w.heap.size w w' :=
 ⟨h.ext.os, h.ext.tape, h.ext.output, h.ext.size, fun k hk => h.ext.block k hk (fun ⟨i, c, hi, _⟩ => by simp at hi)⟩

section
variable {H : Type} {enc : TypeId × Value → H} {P : Program} {w : World} {base : Nat} {spare : Nat → Bool} {held : Bool}

def byteOf (n : Int) : UInt8 := UInt8.ofNat n.toNat
theorem byteOf_eq {n : Int} (h : (Lit.int .u8 n).wf = true) : Value.int .u8 ((byteOf n).toNat : Int) = .int .u8 n := by
 have : 0 ≤ n ∧ n ≤ 255 := by
   simp [Lit.wf, IntKind.min, IntKind.max, IntKind.signed, IntKind.bits] at h
   omega
 unfold byteOf
 congr 1
 simp
 omega

end
end Go.Sl
end
/-
  From the readings of a call's arguments to facts: numbers, slices of slices of numbers, small arrays.
-/
section
namespace Go.Sl
open Go.ChangeShapes Go.WideShapes Go.RowKit Go.Deep Go.Joins

section
variable {H : Type} {enc : TypeId × Value → H} {P : Program} {w : World} {base : Nat} {spare : Nat → Bool} {held : Bool}

/-- The cells of an array of small numbers. -/
theorem open_arr8 {n : Nat} {t e : TypeId} {fuel : Nat} {cs : List Value} {x : DataW H × List MemPlace} (ht : P.underlying t = some (.array n e)) (he : P.underlying e = some (.int .u8)) (ce : P.cellsOf e = 1) (hl : cs.length = n)
   (h : DataW.trod enc P w base spare held fuel t cs = some x) : ∀ i, i < n → ∃ y : UInt8, cs[i]? = some (.int .u8 (y.toNat : Int)) := by
 intro i hi
 obtain ⟨xs, m2, -, -, -, hxl, hg⟩ := DataW.trod_array ht h
 have g := hg i hi
 rw [ce, List.getElem?_eq_getElem (by rw [hxl]; exact hi)] at g
 have e1 : (cs.drop (i * 1)).take 1 = [cs[i]'(by omega)] := by
   rw [Nat.mul_one, List.drop_eq_getElem_cons (by omega), List.take_succ_cons, List.take_zero]
 rw [e1] at g
 obtain ⟨z, hz, -, wz⟩ := DataW.trod_int he g
 exact ⟨byteOf z, by rw [List.getElem?_eq_getElem (by omega), (List.cons.inj hz).1, byteOf_eq wz]⟩
end
end Go.Sl
end
/-
  From the readings of a call's arguments to facts: slices of arrays of four bytes, of words, of booleans; lifted code.
-/
section
namespace Go.Sl
open Go.ChangeShapes Go.WideShapes Go.RowKit Go.Deep Go.Joins

section
variable {H : Type} {enc : TypeId × Value → H} {P : Program} {w : World} {base : Nat} {spare : Nat → Bool} {held : Bool}

theorem open_u4c {t e : TypeId} {fuel : Nat} {cs : List Value} {x : DataW H × List MemPlace} (ht : P.underlying t = some (.array 4 e)) (he : P.underlying e = some (.int .u8)) (ce : P.cellsOf e = 1) (hl : cs.length = 4)
   (h : DataW.trod enc P w base spare held fuel t cs = some x) : ∃ r : List UInt8, cs = u4 r := by
 have hi := open_arr8 ht he ce hl h
 obtain ⟨y0, h0⟩ := hi 0 (by decide)
 obtain ⟨y1, h1⟩ := hi 1 (by decide)
 obtain ⟨y2, h2⟩ := hi 2 (by decide)
 obtain ⟨y3, h3⟩ := hi 3 (by decide)
 match cs, hl, h0, h1, h2, h3 with
 | [a, b, c, d], _, h0, h1, h2, h3 =>
   simp at h0 h1 h2 h3
   exact ⟨[y0, y1, y2, y3], by rw [h0, h1, h2, h3]; rfl⟩
end
end Go.Sl
end
/-
  From the readings of a call's arguments to facts: arrays of two slices of arrays of four bytes.
-/
section
namespace Go.Sl
open Go.ChangeShapes Go.WideShapes Go.RowKit Go.Deep Go.Joins

section
variable {H : Type} {enc : TypeId × Value → H} {P : Program} {w : World} {base : Nat} {spare : Nat → Bool} {held : Bool}

theorem open_foursC {q t e : TypeId} {fuel : Nat} {cs : List Value} {x : DataW H × List MemPlace} (hq : P.underlying q = some (.slice t)) (ht : P.underlying t = some (.array 4 e)) (he : P.underlying e = some (.int .u8)) (ce : P.cellsOf e = 1) (ct : P.cellsOf t = 4)
   (h : DataW.trod enc P w base spare held fuel q cs = some x) :
   ∃ (A : Option Addr) (c : Nat) (l : List (List UInt8)), cs = [.slice A l.length c] ∧ l.length ≤ maxLen ∧ (Rd A (frV l)).p w := by
 rcases open_slice hq h with ⟨rfl, _⟩ | ⟨a, len, cap, m, k, D, Pl, rfl, _, hl, hm, hmm, _, hi⟩
 · exact ⟨none, 0, [], rfl, Nat.zero_le _, fun j u hu => by simp [frV] at hu⟩
 · have hle : len ≤ m := by rw [hmm]; split <;> omega
   have each : ∀ i : Nat, ∃ x : List UInt8, i < len → ∀ j, j < 4 → w.cell? ((a.add (i * 4)).add j) = (u4 x)[j]? := fun i => by
     by_cases h1 : i < len
     · obtain ⟨cs', hc, htr⟩ := hi i (by omega)
       rw [ct] at hc
       obtain ⟨_, hcl, hat⟩ := World.cells?_some hc
       obtain ⟨y, rfl⟩ := open_u4c ht he ce (by simpa using hcl) htr
       exact ⟨y, fun _ j hj => hat j hj⟩
     · exact ⟨[], fun h => absurd h h1⟩
   obtain ⟨F, hF⟩ := Classical.axiomOfChoice each
   have hlen : ((List.range len).map F).length = len := by simp
   have get : ∀ i, i < len → ((List.range len).map F).getD i [] = F i := fun i h => by simp [h]
   refine ⟨some a, cap, (List.range len).map F, by rw [hlen], by rw [hlen]; omega, fun j u hu => ⟨a, rfl, ?_⟩⟩
   have hj : j < len * 4 := by
     have := (List.getElem?_eq_some_iff.1 hu).1
     rwa [frV_len, hlen] at this
   have hd : j / 4 < len := by omega
   have hu2 := hu
   have hq4 : (frV ((List.range len).map F))[j / 4 * 4 + j % 4]? = (u4 (F (j / 4)))[j % 4]? := by
     rw [frV_get _ (by rw [hlen]; exact hd) (by omega), get _ hd, u4_get _ (by omega)]
   rw [show j = j / 4 * 4 + j % 4 from by omega, hq4] at hu2
   rw [← hu2, ← hF _ hd (j % 4) (by omega), addadd]
   congr 2
   omega
/-- An array of two such slices. -/
theorem open_fours2 {r : Reach} {b0 : Nat} {s q t e : TypeId} {v : Value} {d : DataW H} {ps : List MemPlace} (hs : P.underlying s = some (.array 2 q)) (hq : P.underlying q = some (.slice t)) (ht : P.underlying t = some (.array 4 e)) (he : P.underlying e = some (.int .u8)) (ce : P.cellsOf e = 1) (ct : P.cellsOf t = 4) (cq : P.cellsOf q = 1) (cs2 : P.cellsOf s = 2)
   (hv : Value.okWide P w r b0 s v) (h : DataW.Trod enc P w base spare held s v d ps) :
   ∃ (A B : Option Addr) (a b : Nat) (l k : List (List UInt8)), v = .agg (List.toArray [.slice A l.length a, .slice B k.length b]) ∧ (l.length ≤ maxLen ∧ (Rd A (frV l)).p w) ∧ (k.length ≤ maxLen ∧ (Rd B (frV k)).p w) := by
 simp only [Value.okWide, hs] at hv
 obtain ⟨cs, rfl, hsz, -⟩ := hv
 rw [cs2] at hsz
 obtain ⟨ls⟩ := cs
 obtain ⟨a0, a1, rfl⟩ : ∃ a0 a1, ls = [a0, a1] := by
   match ls, hsz with
   | [a, b], _ => exact ⟨a, b, rfl⟩
 obtain ⟨fuel, hf⟩ := h
 obtain ⟨xs, m2, -, -, -, hxl, hg⟩ := DataW.trod_array hs hf
 have g0 := hg 0 (by decide)
 have g1 := hg 1 (by decide)
 rw [cq, List.getElem?_eq_getElem (by rw [hxl]; decide)] at g0 g1
 obtain ⟨A, a, l, h0, hl0, fl⟩ := open_foursC (cs := [a0]) hq ht he ce ct g0
 obtain ⟨B, b, k, h1, hk0, fk⟩ := open_foursC (cs := [a1]) hq ht he ce ct g1
 obtain rfl := (List.cons.inj h0).1
 obtain rfl := (List.cons.inj h1).1
 exact ⟨A, B, a, b, l, k, rfl, ⟨hl0, fl⟩, ⟨hk0, fk⟩⟩
end
end Go.Sl
end
