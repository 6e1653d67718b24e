/-
  The fixed examples of the laws of labels.
-/
import Derived.Test.YtkjhcjhfegakoaaVLaj
import Derived.Test.YtkjhcjhfegakoaaVWLaW
section
namespace Go.Sl

def sB : List UInt8 := [1, 1, 2, 3, 5, 255, 255, 255, 7, 5, 0, 0]
def sX : Lf := ⟨[16843267, 83886080, 117768193], [false, true, true], [0, 8]⟩
def sF : List UInt8 := [0, 3, 0, 2, 0, 0, 0, 2, 6, 1, 1, 2, 3, 5, 0, 0, 0, 7, 5, 0, 1]
def sM : List UInt8 := [1, 1, 2, 3, 0, 0, 0, 0, 5, 255, 255, 254, 7, 5, 0, 0]
def sY : Lf := ⟨[83886080], [false], []⟩
theorem sB_lift : liftR sB = sX := by kernel_rfl
theorem sX_lowB : lowB sX = sB := by kernel_rfl
theorem sX_lowC : lowC sX = 0 := by kernel_rfl
theorem sX_form : formF sX = sF := by kernel_rfl
theorem sF_read : readR sF = sX := by kernel_rfl
theorem sF_readE : readE sF = 0 := by kernel_rfl
theorem sB_movB : movB sB 1 1 = sM := by kernel_rfl
theorem sB_movC : movC sB 1 1 = 0 := by kernel_rfl
theorem sB_cut : liftR (sB.take 3) = Lf.zero := by kernel_rfl
theorem sY_low : lowB sY = [] ∧ lowC sY = 30 := ⟨by kernel_rfl, by kernel_rfl⟩
theorem s0_read : readR [] = Lf.zero ∧ readE [] = 3 := ⟨by kernel_rfl, by kernel_rfl⟩
theorem sB_movB4 : movB sB 4 0 = [] := by kernel_rfl
theorem sB_movC4 : movC sB 4 0 = 30 := by kernel_rfl
end Go.Sl
end
/-
  Contracts with fixed results, and the contract of the label laws' sanity.
-/
section
namespace Go.Proofs.Ytkjhcjhfegakoaa
open Go.Sl

theorem Ctr.tbL (c : Bool) {f : Nat} {args : List Value} {R H : List Pr} {b : Bool} (h : Ctr X f args R H (fun v R' H' => v = .bool b ∧ R' = [] ∧ H' = [])) (hb : b = c) : Ctr X f args R H (fun v R' H' => v = .bool c ∧ R' = [] ∧ H' = []) := hb ▸ h
theorem Has.takeL {R H : List Pr} {A : Option Addr} {xs : List Value} (h : Has R H (Rd A xs)) (m : Nat) : Has R H (Rd A (xs.take m)) := by
 refine ⟨fun β w hw j u hu => h.1 β w hw j u ?_, fun k hk => h.2 k ⟨fun h0 => hk.1 (by rw [h0, List.take_nil]), hk.2⟩⟩
 rw [List.getElem?_take] at hu
 split at hu
 · exact hu
 · cases hu
theorem lift_k (B : Option Addr) (b : List UInt8) (bc : Nat) (hb : b.length ≤ bc) (hl : b.length ≤ 1000000) (x : Lf) (e : Int) (hx : liftR b = x) (he : liftE b = e) :
   Ctr X 13 [.slice B b.length bc] [Rd B (U8 b)] [] (fun v R' H' => ∃ (WA MA LA : Option Addr) (lc : Nat), v = .tuple #[.agg (List.toArray [.slice WA x.ws.length x.ws.length, .slice MA x.ms.length x.ms.length, .slice LA x.ls.length lc]), .int .i64 e] ∧ R' = [] ∧ H' = [Own 53 1 WA x.ws.length x.ws.length (N32 x.ws), Own 4 1 MA x.ms.length x.ms.length (Bs x.ms), Own 3 1 LA x.ls.length lc (I64 x.ls)]) := by
 subst hx he
 exact lift_c B b bc hb hl
theorem lower_k (WA MA LA : Option Addr) (wc mc lc : Nat) (x : Lf) (hxw : x.ws.length ≤ 1000000) (hxm : x.ms.length ≤ 1000000) (hxl : x.ls.length ≤ 1000000) (hx32 : W32 x.ws) (r : List UInt8) (e : Int) (hx : lowB x = r) (he : lowC x = e) :
   Ctr X 17 [.agg (List.toArray [.slice WA x.ws.length wc, .slice MA x.ms.length mc, .slice LA x.ls.length lc])] [Rd WA (N32 x.ws), Rd MA (Bs x.ms), Rd LA (I64 x.ls)] [] (fun v R' H' => ∃ (A : Option Addr) (c : Nat), v = .tuple #[.slice A r.length c, .int .i64 e] ∧ R' = [] ∧ H' = [Own 5 1 A r.length c (U8 r)]) := by
 subst hx he
 exact lower_c WA MA LA wc mc lc x hxw hxm hxl hx32
theorem read_k (B : Option Addr) (b : List UInt8) (bc : Nat) (hb : b.length ≤ bc) (hl : b.length ≤ 1000000) (x : Lf) (e : Int) (hx : readR b = x) (he : readE b = e) :
   Ctr X 18 [.slice B b.length bc] [Rd B (U8 b)] [] (fun v R' H' => ∃ (WA MA LA : Option Addr) (wc mc lc : Nat), v = .tuple #[.agg (List.toArray [.slice WA x.ws.length wc, .slice MA x.ms.length mc, .slice LA x.ls.length lc]), .int .i64 e] ∧ R' = [] ∧ H' = [Own 53 1 WA x.ws.length wc (N32 x.ws), Own 4 1 MA x.ms.length mc (Bs x.ms), Own 3 1 LA x.ls.length lc (I64 x.ls)]) := by
 subst hx he
 exact read_c B b bc hb hl
theorem moved_k (B : Option Addr) (b : List UInt8) (bc : Nat) (hb : b.length ≤ bc) (hl : b.length ≤ 1000000) (p q : Int) (r : List UInt8) (e : Int) (hx : movB b p q = r) (he : movC b p q = e) :
   Ctr X 15 [.slice B b.length bc, .int .i64 p, .int .i64 q] [Rd B (U8 b)] [] (fun v R' H' => ∃ (A : Option Addr) (c : Nat), v = .tuple #[.slice A r.length c, .int .i64 e] ∧ R' = [] ∧ H' = [Own 5 1 A r.length c (U8 r)]) := by
 subst hx he
 exact moved_c B b bc hb hl p q
theorem form_k (WA MA LA : Option Addr) (wc mc lc : Nat) (x : Lf) (hxw : x.ws.length ≤ 1000000) (hxm : x.ms.length ≤ 1000000) (hxl : x.ls.length ≤ 1000000) (hx32 : W32 x.ws) (hmc : x.ms.length ≤ mc) (hasc : ascL x.ls) (r : List UInt8) (hx : formF x = r) :
   Ctr X 22 [.agg (List.toArray [.slice WA x.ws.length wc, .slice MA x.ms.length mc, .slice LA x.ls.length lc])] [Rd WA (N32 x.ws), Rd MA (Bs x.ms), Rd LA (I64 x.ls)] [] (fun v R' H' => ∃ (A : Option Addr) (c : Nat), v = .slice A r.length c ∧ R' = [] ∧ H' = [Own 5 1 A r.length c (U8 r)]) := by
 subst hx
 exact form_c WA MA LA wc mc lc x hxw hxm hxl hx32 hmc hasc
theorem sX_w32 : W32 sX.ws := sB_lift ▸ liftR_w32 sB
theorem sX_asc : ascL sX.ls := sB_lift ▸ liftR_asc
theorem sX_len : sX.ws.length ≤ 1000000 ∧ sX.ms.length ≤ 1000000 ∧ sX.ls.length ≤ 1000000 := by decide
theorem sY_w32 : W32 sY.ws := W32.of (by decide)

set_option maxHeartbeats 2000000 in
theorem sanity03_c  :
   Ctr X 11 [] [] [] (fun v R' H' => v = .bool true ∧ R' = [] ∧ H' = []) := by
 refine Ctr.of (X := X) (fn := Try.f11) Try.func11 rfl (by kernel_rfl) rfl ?_
 intro β
 refine C.seq (C.region ?_); refine Lpu rfl rfl ?_; refine L.nil (QE.seq (C.seq (C.region ?_)))
 refine L.lit rfl rfl rfl rfl rfl (by rfl) (by rfl) (by rfl) rfl rfl (fun A22 => ?_)
 refine Lpu rfl rfl ?_; refine L.nil (QE.seq (C.seq (C.region ?_)))
 refine L.lit rfl rfl rfl rfl rfl (by rfl) (by rfl) (by rfl) rfl rfl (fun A23 => ?_)
 refine L.lit rfl rfl rfl rfl rfl (by rfl) (by rfl) (by rfl) rfl rfl (fun A24 => ?_)
 refine L.lit rfl rfl rfl rfl rfl (by rfl) (by rfl) (by rfl) rfl rfl (fun A25 => ?_)
 refine L.step (Ev.build rfl rfl rfl rfl rfl rfl rfl) rfl ?_
 refine L.alloc rfl rfl rfl (fun A2 => ?_)
 refine L.storeA (j := 4) rfl rfl rfl rfl rfl (Nat.zero_lt_succ _) rfl rfl ?_; refine L.nil (QE.seq (C.seq ?_)); refine C.freeze 0 rfl [1, 2, 3, 4] (by decide) (by decide) ?_; refine C.norm (H' := [_, _, _, _]) [0, 1, 2, 3] ⟨rfl, rfl, rfl, rfl, trivial⟩ (by decide) ?_; refine C.freeze 0 rfl [1, 2, 3] (by decide) (by decide) ?_; refine C.norm (H' := [_, _, _]) [0, 1, 2] ⟨rfl, rfl, rfl, trivial⟩ (by decide) ?_; refine C.freeze 0 rfl [1, 2] (by decide) (by decide) ?_; refine C.norm (H' := [_, _]) [0, 1] ⟨rfl, rfl, trivial⟩ (by decide) ?_; refine C.freeze 0 rfl [1] (by decide) (by decide) ?_; refine C.norm (H' := [_]) [0] ⟨rfl, trivial⟩ (by decide) ?_; refine C.freeze 0 rfl [] (by decide) (by decide) ?_; refine C.region ?_; refine Lpu rfl rfl ?_; refine L.call (js := []) (js' := []) (lift_k A22 sB 12 (by decide) (by decide) sX 0 sB_lift rfl) rfl rfl rfl (by decide) (Hq [4] rfl) rfl ?_
 rintro _ _ _ ⟨W1, M1, L1, l1, rfl, rfl, rfl⟩
 refine L.norm (H' := [_, _, _]) [0, 1, 2] ⟨rfl, rfl, rfl, trivial⟩ (by decide) ?_; refine Lpu rfl rfl ?_; refine Lpu rfl rfl ?_; refine Lpu rfl rfl ?_
 refine L.alloc rfl rfl rfl (fun A3 => ?_)
 refine L.storeA (j := 3) rfl rfl rfl rfl rfl (Nat.zero_lt_succ _) rfl rfl ?_; refine Lpu rfl rfl ?_; refine L.nil (QE.seq (C.seq (C.region ?_))); refine L.step (Ev.loadA (vs := [.slice A23 sX.ws.length 3, .slice A24 sX.ms.length 3, .slice A25 sX.ls.length 2]) rfl rfl rfl (Src.r 0 rfl) rfl rfl (by decide)) rfl ?_; refine L.call (js := []) (js' := [0, 1, 2, 3]) (lower_k A23 A24 A25 3 3 2 sX (by decide) (by decide) (by decide) sX_w32 sB 0 sX_lowB sX_lowC) rfl rfl rfl (by decide) (Hq [3, 2, 1] rfl) rfl ?_
 rintro _ _ _ ⟨Y1, y1, rfl, rfl, rfl⟩
 refine L.norm (H' := [_, _, _, _, _]) [0, 1, 2, 3, 4] ⟨rfl, rfl, rfl, rfl, rfl, trivial⟩ (by decide) ?_; refine Lpu rfl rfl ?_; refine Lpu rfl rfl ?_; refine Lpu rfl rfl ?_; refine Lpu rfl rfl ?_; refine Lpu rfl rfl ?_; refine L.nil (QE.seq (C.seq (C.region ?_))); refine L.step (Ev.loadA (vs := [.slice A23 sX.ws.length 3, .slice A24 sX.ms.length 3, .slice A25 sX.ls.length 2]) rfl rfl rfl (Src.r 0 rfl) rfl rfl (by decide)) rfl ?_; refine L.call (js := []) (js' := [0, 1, 2, 3, 4]) (form_k A23 A24 A25 3 3 2 sX (by decide) (by decide) (by decide) sX_w32 (by decide) sX_asc sF sX_form) rfl rfl rfl (by decide) (Hq [3, 2, 1] rfl) rfl ?_
 rintro _ _ _ ⟨Y2, y2, rfl, rfl, rfl⟩
 refine L.norm (H' := [_, _, _, _, _, _]) [0, 1, 2, 3, 4, 5] ⟨rfl, rfl, rfl, rfl, rfl, rfl, trivial⟩ (by decide) ?_; refine Lpu rfl rfl ?_; refine L.nil (QE.seq (C.seq ?_))
 refine C.cap 0 rfl (fun hcap => ?_)
 refine C.region ?_; refine Lpu rfl rfl ?_; refine L.call (js := []) (js' := [0, 1, 2, 3, 4, 5]) (read_k Y2 sF y2 hcap (by decide) sX 0 sF_read sF_readE) rfl rfl rfl (by decide) ⟨(Has.o 0 rfl), trivial⟩ rfl ?_
 rintro _ _ _ ⟨W2, M2, L2, w2, m2, l2, rfl, rfl, rfl⟩
 refine L.norm (H' := [_, _, _, _, _, _, _, _, _]) [0, 1, 2, 3, 4, 5, 6, 7, 8] ⟨rfl, rfl, rfl, rfl, rfl, rfl, rfl, rfl, rfl, trivial⟩ (by decide) ?_; refine Lpu rfl rfl ?_; refine Lpu rfl rfl ?_; refine Lpu rfl rfl ?_
 refine L.alloc rfl rfl rfl (fun A8 => ?_)
 refine L.storeA (j := 9) rfl rfl rfl rfl rfl (Nat.zero_lt_succ _) rfl rfl ?_; refine Lpu rfl rfl ?_; refine L.nil (QE.seq (C.seq (C.region ?_))); refine Lpu rfl rfl ?_; refine L.call (js := []) (js' := [0, 1, 2, 3, 4, 5, 6, 7, 8, 9]) (moved_k A22 sB 12 (by decide) (by decide) 1 1 sM 0 sB_movB sB_movC) rfl rfl rfl (by decide) (Hq [4] rfl) rfl ?_
 rintro _ _ _ ⟨Y3, y3, rfl, rfl, rfl⟩
 refine L.norm (H' := [_, _, _, _, _, _, _, _, _, _, _]) [0, 1, 2, 3, 4, 5, 6, 7, 8, 9, 10] ⟨rfl, rfl, rfl, rfl, rfl, rfl, rfl, rfl, rfl, rfl, rfl, trivial⟩ (by decide) ?_; refine Lpu rfl rfl ?_; refine Lpu rfl rfl ?_; refine Lpu rfl rfl ?_; refine Lpu rfl rfl ?_; refine Lpu rfl rfl ?_; refine L.nil (QE.seq (C.seq (C.region ?_))); refine Lpu rfl rfl ?_; refine L.step (Ev.sliceH (h := 3) rfl rfl rfl rfl rfl rfl (by decide)) rfl ?_; refine L.call (js := []) (js' := [0, 1, 2, 3, 4, 5, 6, 7, 8, 9, 10]) (lift_k A22 (sB.take 3) 12 (by decide) (by decide) Lf.zero 30 sB_cut rfl) rfl rfl rfl (by decide) ⟨(Has.takeL (xs := U8 sB) (Has.r 4 rfl) 3), trivial⟩ rfl ?_
 rintro _ _ _ ⟨W3, M3, L3, l3, rfl, rfl, rfl⟩
 refine L.norm (H' := [_, _, _, _, _, _, _, _, _, _, _, _, _, _]) [0, 1, 2, 3, 4, 5, 6, 7, 8, 9, 10, 11, 12, 13] ⟨rfl, rfl, rfl, rfl, rfl, rfl, rfl, rfl, rfl, rfl, rfl, rfl, rfl, rfl, trivial⟩ (by decide) ?_; refine Lpu rfl rfl ?_; refine Lpu rfl rfl ?_; refine Lpu rfl rfl ?_
 refine L.alloc rfl rfl rfl (fun A12 => ?_)
 refine L.storeA (j := 14) rfl rfl rfl rfl rfl (Nat.zero_lt_succ _) rfl rfl ?_; refine Lpu rfl rfl ?_; refine L.nil (QE.seq (C.seq (C.region ?_)))
 refine L.lit rfl rfl rfl rfl rfl (by rfl) (by rfl) (by rfl) rfl rfl (fun A56 => ?_)
 refine L.lit rfl rfl rfl rfl rfl (by rfl) (by rfl) (by rfl) rfl rfl (fun A57 => ?_)
 refine L.step (Ev.build rfl rfl rfl rfl rfl rfl rfl) rfl ?_; refine L.freeze 15 rfl [0, 1, 2, 3, 4, 5, 6, 7, 8, 9, 10, 11, 12, 13, 14, 16] (by decide) (by decide) ?_; refine L.norm (H' := [_, _, _, _, _, _, _, _, _, _, _, _, _, _, _, _]) [0, 1, 2, 3, 4, 5, 6, 7, 8, 9, 10, 11, 12, 13, 14, 15] ⟨rfl, rfl, rfl, rfl, rfl, rfl, rfl, rfl, rfl, rfl, rfl, rfl, rfl, rfl, rfl, rfl, trivial⟩ (by decide) ?_; refine L.freeze 15 rfl [0, 1, 2, 3, 4, 5, 6, 7, 8, 9, 10, 11, 12, 13, 14] (by decide) (by decide) ?_; refine L.norm (H' := [_, _, _, _, _, _, _, _, _, _, _, _, _, _, _]) [0, 1, 2, 3, 4, 5, 6, 7, 8, 9, 10, 11, 12, 13, 14] ⟨rfl, rfl, rfl, rfl, rfl, rfl, rfl, rfl, rfl, rfl, rfl, rfl, rfl, rfl, rfl, trivial⟩ (by decide) ?_; refine L.call (js := []) (js' := [0, 1, 2, 3, 4, 5, 6, 7, 8, 9, 10, 11, 12, 13, 14]) (lower_k A56 A57 none 1 1 0 sY (by decide) (by decide) (by decide) sY_w32 [] 30 sY_low.1 sY_low.2) rfl rfl rfl (by decide) ⟨(Has.r 1 rfl), (Has.r 0 rfl), Has.nil, trivial⟩ rfl ?_
 rintro _ _ _ ⟨Y4, y4, rfl, rfl, rfl⟩
 refine L.norm (H' := [_, _, _, _, _, _, _, _, _, _, _, _, _, _, _, _]) [0, 1, 2, 3, 4, 5, 6, 7, 8, 9, 10, 11, 12, 13, 14, 15] ⟨rfl, rfl, rfl, rfl, rfl, rfl, rfl, rfl, rfl, rfl, rfl, rfl, rfl, rfl, rfl, rfl, trivial⟩ (by decide) ?_; refine Lpu rfl rfl ?_; refine Lpu rfl rfl ?_; refine Lpu rfl rfl ?_; refine Lpu rfl rfl ?_; refine Lpu rfl rfl ?_; refine L.nil (QE.seq (C.seq (C.region ?_))); refine L.call (js := []) (js' := [0, 1, 2, 3, 4, 5, 6, 7, 8, 9, 10, 11, 12, 13, 14, 15]) (read_k none [] 0 (by decide) (by decide) Lf.zero 3 s0_read.1 s0_read.2) rfl rfl rfl (by decide) ⟨Has.nil, trivial⟩ rfl ?_
 rintro _ _ _ ⟨W4, M4, L4, w4, m4, l4, rfl, rfl, rfl⟩
 refine L.norm (H' := [_, _, _, _, _, _, _, _, _, _, _, _, _, _, _, _, _, _, _]) [0, 1, 2, 3, 4, 5, 6, 7, 8, 9, 10, 11, 12, 13, 14, 15, 16, 17, 18] ⟨rfl, rfl, rfl, rfl, rfl, rfl, rfl, rfl, rfl, rfl, rfl, rfl, rfl, rfl, rfl, rfl, rfl, rfl, rfl, trivial⟩ (by decide) ?_; refine Lpu rfl rfl ?_; refine Lpu rfl rfl ?_; refine Lpu rfl rfl ?_
 refine L.alloc rfl rfl rfl (fun A16 => ?_)
 refine L.storeA (j := 19) rfl rfl rfl rfl rfl (Nat.zero_lt_succ _) rfl rfl ?_; refine Lpu rfl rfl ?_; refine L.nil (QE.seq (C.seq (C.region ?_))); refine Lpu rfl rfl ?_; refine L.call (js := []) (js' := [0, 1, 2, 3, 4, 5, 6, 7, 8, 9, 10, 11, 12, 13, 14, 15, 16, 17, 18, 19]) (moved_k A22 sB 12 (by decide) (by decide) 4 0 [] 30 sB_movB4 sB_movC4) rfl rfl rfl (by decide) (Hq [6] rfl) rfl ?_
 rintro _ _ _ ⟨Y5, y5, rfl, rfl, rfl⟩
 refine L.norm (H' := [_, _, _, _, _, _, _, _, _, _, _, _, _, _, _, _, _, _, _, _, _]) [0, 1, 2, 3, 4, 5, 6, 7, 8, 9, 10, 11, 12, 13, 14, 15, 16, 17, 18, 19, 20] ⟨rfl, rfl, rfl, rfl, rfl, rfl, rfl, rfl, rfl, rfl, rfl, rfl, rfl, rfl, rfl, rfl, rfl, rfl, rfl, rfl, rfl, trivial⟩ (by decide) ?_; refine Lpu rfl rfl ?_; refine Lpu rfl rfl ?_; refine Lpu rfl rfl ?_; refine Lpu rfl rfl ?_; refine Lpu rfl rfl ?_; refine L.nil (QE.seq (C.seq (C.region ?_))); refine Lpu rfl rfl ?_; refine Lpu rfl rfl ?_; refine Lpu rfl rfl ?_
 refine L.bool 73 rfl (fun hg73 => ?_) (fun hg73 => ?_)
 ·
  replace hg73 := i_eq hg73
  refine L.yes rfl ?_; refine Lpu rfl rfl ?_; refine L.yes rfl ?_; refine Lpu rfl rfl ?_; refine Lpu rfl rfl ?_; refine Lpu rfl rfl ?_
  refine L.bool 77 rfl (fun hg77 => ?_) (fun hg77 => ?_)
  ·
   replace hg77 := i_eq hg77
   refine L.yes rfl ?_; refine Lpu rfl rfl ?_; refine L.yes rfl ?_; refine Lpu rfl rfl ?_; refine Lpu rfl rfl ?_; refine Lpu rfl rfl ?_
   refine L.bool 81 rfl (fun hg81 => ?_) (fun hg81 => ?_)
   ·
    replace hg81 := i_eq hg81
    refine L.yes rfl ?_; refine Lpu rfl rfl ?_; refine L.yes rfl ?_; refine Lpu rfl rfl ?_; refine Lpu rfl rfl ?_; refine Lpu rfl rfl ?_
    refine L.bool 85 rfl (fun hg85 => ?_) (fun hg85 => ?_)
    ·
     replace hg85 := i_eq hg85
     refine L.yes rfl ?_; refine Lpu rfl rfl ?_; refine L.yes rfl ?_; refine Lpu rfl rfl ?_; refine Lpu rfl rfl ?_; refine Lpu rfl rfl ?_
     refine L.bool 89 rfl (fun hg89 => ?_) (fun hg89 => ?_)
     ·
      replace hg89 := i_eq hg89
      refine L.yes rfl ?_; refine Lpu rfl rfl ?_; refine L.yes rfl ?_; refine Lpu rfl rfl ?_; refine Lpu rfl rfl ?_; refine Lpu rfl rfl ?_
      refine L.bool 93 rfl (fun hg93 => ?_) (fun hg93 => ?_)
      ·
       replace hg93 := i_eq hg93
       refine L.yes rfl ?_; refine Lpu rfl rfl ?_; refine L.yes rfl ?_; refine Lpu rfl rfl ?_; refine Lpu rfl rfl ?_; refine Lpu rfl rfl ?_
       refine L.bool 97 rfl (fun hg97 => ?_) (fun hg97 => ?_)
       ·
        replace hg97 := i_eq hg97
        refine L.yes rfl ?_; refine Lpu rfl rfl ?_; refine L.yes rfl ?_; refine Lpu rfl rfl ?_; refine Lpu rfl rfl ?_; refine Lpu rfl rfl ?_; refine L.nil (QE.seq (C.seq (C.region ?_))); refine Lpu rfl rfl ?_
        refine L.lit rfl rfl rfl rfl rfl (by rfl) (by rfl) (by rfl) rfl rfl (fun A102 => ?_)
        refine L.freeze 21 rfl [0, 1, 2, 3, 4, 5, 6, 7, 8, 9, 10, 11, 12, 13, 14, 15, 16, 17, 18, 19, 20] (by decide) (by decide) ?_; refine L.norm (H' := [_, _, _, _, _, _, _, _, _, _, _, _, _, _, _, _, _, _, _, _, _]) [0, 1, 2, 3, 4, 5, 6, 7, 8, 9, 10, 11, 12, 13, 14, 15, 16, 17, 18, 19, 20] ⟨rfl, rfl, rfl, rfl, rfl, rfl, rfl, rfl, rfl, rfl, rfl, rfl, rfl, rfl, rfl, rfl, rfl, rfl, rfl, rfl, rfl, trivial⟩ (by decide) ?_; refine L.call (js := []) (js' := [0, 1, 2, 3, 4, 5, 6, 7, 8, 9, 10, 11, 12, 13, 14, 15, 16, 17, 18, 19, 20]) (Ctr.tbL true (same_c Y2 A102 y2 21 sF sF (by decide) (by decide)) (by kernel_rfl)) rfl rfl rfl (by decide) ⟨(Has.o 12 rfl), (Has.r 0 rfl), trivial⟩ rfl ?_
        rintro _ _ _ ⟨rfl, rfl, rfl⟩
        refine L.norm (H' := [_, _, _, _, _, _, _, _, _, _, _, _, _, _, _, _, _, _, _, _, _]) [0, 1, 2, 3, 4, 5, 6, 7, 8, 9, 10, 11, 12, 13, 14, 15, 16, 17, 18, 19, 20] ⟨rfl, rfl, rfl, rfl, rfl, rfl, rfl, rfl, rfl, rfl, rfl, rfl, rfl, rfl, rfl, rfl, rfl, rfl, rfl, rfl, rfl, trivial⟩ (by decide) ?_; refine Lpu rfl rfl ?_; refine L.nil (QE.seq (C.seq (C.region ?_))); refine Lpu rfl rfl ?_; refine Lpu rfl rfl ?_
        refine L.bool 105 rfl (fun hg105 => ?_) (fun hg105 => ?_)
        ·
         replace hg105 := i_eq hg105
         refine L.yes rfl ?_; refine Lpu rfl rfl ?_; refine Lpu rfl rfl ?_; refine Lpu rfl rfl ?_; refine L.yes rfl ?_; refine L.step (Ev.loadA (vs := [.slice W1 sX.ws.length 3, .slice M1 sX.ms.length 3, .slice L1 sX.ls.length l1]) rfl rfl rfl (Src.o 17 rfl) rfl rfl (by decide)) rfl ?_; refine L.yes rfl ?_; refine L.step (Ev.loadA (vs := [.slice A23 sX.ws.length 3, .slice A24 sX.ms.length 3, .slice A25 sX.ls.length 2]) rfl rfl rfl (Src.r 3 rfl) rfl rfl (by decide)) rfl ?_; refine L.yes rfl ?_; refine L.call (js := []) (js' := [0, 1, 2, 3, 4, 5, 6, 7, 8, 9, 10, 11, 12, 13, 14, 15, 16, 17, 18, 19, 20]) (Ctr.tbL true (same3_c W1 M1 L1 3 3 l1 sX sX_len A23 A24 A25 3 3 2 sX sX_len) (by kernel_rfl)) rfl rfl rfl (by decide) ⟨(Has.o 14 rfl), (Has.o 15 rfl), (Has.o 16 rfl), (Has.r 6 rfl), (Has.r 5 rfl), (Has.r 4 rfl), trivial⟩ rfl ?_
         rintro _ _ _ ⟨rfl, rfl, rfl⟩
         refine L.norm (H' := [_, _, _, _, _, _, _, _, _, _, _, _, _, _, _, _, _, _, _, _, _]) [0, 1, 2, 3, 4, 5, 6, 7, 8, 9, 10, 11, 12, 13, 14, 15, 16, 17, 18, 19, 20] ⟨rfl, rfl, rfl, rfl, rfl, rfl, rfl, rfl, rfl, rfl, rfl, rfl, rfl, rfl, rfl, rfl, rfl, rfl, rfl, rfl, rfl, trivial⟩ (by decide) ?_; refine Lpu rfl rfl ?_; refine Lpu rfl rfl ?_; refine L.yes rfl ?_; refine Lpu rfl rfl ?_; refine L.yes rfl ?_; refine Lpu rfl rfl ?_; refine L.yes rfl ?_; refine L.call (js := []) (js' := [0, 1, 2, 3, 4, 5, 6, 7, 8, 9, 10, 11, 12, 13, 14, 15, 16, 17, 18, 19, 20]) (Ctr.tbL true (same_c Y1 A22 y1 12 sB sB (by decide) (by decide)) (by kernel_rfl)) rfl rfl rfl (by decide) ⟨(Has.o 13 rfl), (Has.r 7 rfl), trivial⟩ rfl ?_
         rintro _ _ _ ⟨rfl, rfl, rfl⟩
         refine L.norm (H' := [_, _, _, _, _, _, _, _, _, _, _, _, _, _, _, _, _, _, _, _, _]) [0, 1, 2, 3, 4, 5, 6, 7, 8, 9, 10, 11, 12, 13, 14, 15, 16, 17, 18, 19, 20] ⟨rfl, rfl, rfl, rfl, rfl, rfl, rfl, rfl, rfl, rfl, rfl, rfl, rfl, rfl, rfl, rfl, rfl, rfl, rfl, rfl, rfl, trivial⟩ (by decide) ?_; refine Lpu rfl rfl ?_; refine Lpu rfl rfl ?_; refine L.yes rfl ?_; refine L.step (Ev.loadA (vs := [.slice W2 sX.ws.length w2, .slice M2 sX.ms.length m2, .slice L2 sX.ls.length l2]) rfl rfl rfl (Src.o 18 rfl) rfl rfl (by decide)) rfl ?_; refine L.yes rfl ?_; refine L.step (Ev.loadA (vs := [.slice A23 sX.ws.length 3, .slice A24 sX.ms.length 3, .slice A25 sX.ls.length 2]) rfl rfl rfl (Src.r 3 rfl) rfl rfl (by decide)) rfl ?_; refine L.yes rfl ?_; refine L.call (js := []) (js' := [0, 1, 2, 3, 4, 5, 6, 7, 8, 9, 10, 11, 12, 13, 14, 15, 16, 17, 18, 19, 20]) (Ctr.tbL true (same3_c W2 M2 L2 w2 m2 l2 sX sX_len A23 A24 A25 3 3 2 sX sX_len) (by kernel_rfl)) rfl rfl rfl (by decide) ⟨(Has.o 9 rfl), (Has.o 10 rfl), (Has.o 11 rfl), (Has.r 6 rfl), (Has.r 5 rfl), (Has.r 4 rfl), trivial⟩ rfl ?_
         rintro _ _ _ ⟨rfl, rfl, rfl⟩
         refine L.norm (H' := [_, _, _, _, _, _, _, _, _, _, _, _, _, _, _, _, _, _, _, _, _]) [0, 1, 2, 3, 4, 5, 6, 7, 8, 9, 10, 11, 12, 13, 14, 15, 16, 17, 18, 19, 20] ⟨rfl, rfl, rfl, rfl, rfl, rfl, rfl, rfl, rfl, rfl, rfl, rfl, rfl, rfl, rfl, rfl, rfl, rfl, rfl, rfl, rfl, trivial⟩ (by decide) ?_; refine Lpu rfl rfl ?_; refine Lpu rfl rfl ?_; refine L.yes rfl ?_; refine Lpu rfl rfl ?_; refine L.yes rfl ?_
         refine L.lit rfl rfl rfl rfl rfl (by rfl) (by rfl) (by rfl) rfl rfl (fun A125 => ?_)
         refine L.yes rfl ?_; refine L.freeze 21 rfl [0, 1, 2, 3, 4, 5, 6, 7, 8, 9, 10, 11, 12, 13, 14, 15, 16, 17, 18, 19, 20] (by decide) (by decide) ?_; refine L.norm (H' := [_, _, _, _, _, _, _, _, _, _, _, _, _, _, _, _, _, _, _, _, _]) [0, 1, 2, 3, 4, 5, 6, 7, 8, 9, 10, 11, 12, 13, 14, 15, 16, 17, 18, 19, 20] ⟨rfl, rfl, rfl, rfl, rfl, rfl, rfl, rfl, rfl, rfl, rfl, rfl, rfl, rfl, rfl, rfl, rfl, rfl, rfl, rfl, rfl, trivial⟩ (by decide) ?_; refine L.call (js := []) (js' := [0, 1, 2, 3, 4, 5, 6, 7, 8, 9, 10, 11, 12, 13, 14, 15, 16, 17, 18, 19, 20]) (Ctr.tbL true (same_c Y3 A125 y3 16 sM sM (by decide) (by decide)) (by kernel_rfl)) rfl rfl rfl (by decide) ⟨(Has.o 8 rfl), (Has.r 0 rfl), trivial⟩ rfl ?_
         rintro _ _ _ ⟨rfl, rfl, rfl⟩
         refine L.norm (H' := [_, _, _, _, _, _, _, _, _, _, _, _, _, _, _, _, _, _, _, _, _]) [0, 1, 2, 3, 4, 5, 6, 7, 8, 9, 10, 11, 12, 13, 14, 15, 16, 17, 18, 19, 20] ⟨rfl, rfl, rfl, rfl, rfl, rfl, rfl, rfl, rfl, rfl, rfl, rfl, rfl, rfl, rfl, rfl, rfl, rfl, rfl, rfl, rfl, trivial⟩ (by decide) ?_; refine Lpu rfl rfl ?_; refine Lpu rfl rfl ?_; refine L.nil (QE.seq (C.ret ?_)); refine QE.ret (js := []) (hs := []) (vs := [_]) rfl ⟨rfl, trivial⟩ (by decide) ?_
         exact ⟨rfl, rfl, rfl⟩
        ·
         replace hg105 := i_ne hg105
         exact absurd rfl hg105
       ·
        replace hg97 := i_ne hg97
        exact absurd rfl hg97
      ·
       replace hg93 := i_ne hg93
       exact absurd rfl hg93
     ·
      replace hg89 := i_ne hg89
      exact absurd rfl hg89
    ·
     replace hg85 := i_ne hg85
     exact absurd rfl hg85
   ·
    replace hg81 := i_ne hg81
    exact absurd rfl hg81
  ·
   replace hg77 := i_ne hg77
   exact absurd rfl hg77
 ·
  replace hg73 := i_ne hg73
  exact absurd rfl hg73

end Go.Proofs.Ytkjhcjhfegakoaa
end
