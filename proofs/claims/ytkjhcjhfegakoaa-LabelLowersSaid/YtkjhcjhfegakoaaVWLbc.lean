/-
  The law LabelLowers.
-/
import Derived.Test.YtkjhcjhfegakoaaVLao
import Derived.Test.YtkjhcjhfegakoaaVLaq
namespace Go.Proofs.Ytkjhcjhfegakoaa
open Go.Sl

set_option maxHeartbeats 4000000 in
theorem lLowers_c (LA : Option Addr) (l : List (List UInt8)) (lc : Nat) (hll : l.length ≤ 9223372036854775807) (YW YM YL : Option Addr) (ywc ymc ylc : Nat) (y : Lf) (hy32 : W32 y.ws) (u0 u1 u2 u3 : Nat) (hu0 : u0 ≤ 65535) (hu1 : u1 ≤ 65535) (hu2 : u2 ≤ 65535) :
   Ctr X 6 [.slice LA l.length lc, .agg (List.toArray [.slice YW y.ws.length ywc, .slice YM y.ms.length ymc, .slice YL y.ls.length ylc]), .agg (List.toArray [.int .u16 (u0 : Int), .int .u16 (u1 : Int), .int .u16 (u2 : Int), .int .u16 (u3 : Int)])] [Rd LA (frV l), Rd YW (N32 y.ws), Rd YM (Bs y.ms), Rd YL (I64 y.ls)] [] (fun v R' H' => v = .bool true ∧ R' = [] ∧ H' = []) := by
 refine Ctr.of (X := X) (fn := Try.f6) Try.func6 rfl (by kernel_rfl) rfl ?_
 intro β
 refine C.seq (C.region ?_)
 refine L.boxA rfl rfl (fun A4 => ?_)
 refine L.boxA rfl rfl (fun A5 => ?_)
 refine Lpu rfl rfl ?_; refine L.nil (QE.seq (C.seq ?_)); refine C.freeze 1 rfl [0] (by decide) (by decide) ?_; refine C.norm (H' := [_]) [0] ⟨rfl, trivial⟩ (by decide) ?_; refine C.freeze 0 rfl [] (by decide) (by decide) ?_; refine C.region ?_; refine L.call (js := []) (js' := []) (sanity03_c) rfl rfl rfl (by decide) trivial rfl ?_
 rintro _ _ _ ⟨rfl, rfl, rfl⟩
 refine Lpu rfl rfl ?_; refine L.nil (QE.seq (C.seq (C.seq (C.region ?_)))); refine L.step (Ev.fieldAddr rfl rfl rfl rfl rfl rfl (Src.r 0 rfl) (Nat.zero_lt_succ _) rfl) rfl ?_; refine L.step (Ev.load rfl rfl rfl (Src.r 0 rfl) rfl) rfl ?_; refine Lpu rfl rfl ?_; refine Lpu rfl rfl ?_; refine Lpu rfl rfl ?_
 refine L.bool 25 rfl (fun hg25 => ?_) (fun hg25 => ?_)
 ·
  replace hg25 := of_decide_eq_true hg25
  refine L.no rfl rfl rfl ?_; refine L.no rfl rfl rfl ?_; refine L.no rfl rfl rfl ?_; refine L.no rfl rfl rfl ?_; refine Lpu rfl rfl ?_; refine Lpu rfl rfl ?_; refine L.no rfl rfl rfl ?_; refine L.no rfl rfl rfl ?_; refine L.no rfl rfl rfl ?_; refine L.no rfl rfl rfl ?_; refine Lpu rfl rfl ?_; refine L.nil (QE.seq ?_)
  refine C.cond rfl (fun _ => ?_) (fun h => by cases h)
  refine C.seq (C.region ?_); refine Lpu rfl rfl ?_; refine Lpu rfl rfl ?_; refine L.nil (QE.seq (C.ret (QE.tR ?_))); refine QE.ret (js := []) (hs := []) (vs := [_]) rfl ⟨rfl, trivial⟩ (by decide) ?_
  exact ⟨rfl, rfl, rfl⟩
 ·
  replace hg25 := of_decide_eq_false hg25
  refine L.yes rfl ?_; refine L.step (Ev.fieldAddr rfl rfl rfl rfl rfl rfl (Src.r 0 rfl) (Nat.zero_lt_succ _) rfl) rfl ?_; refine L.yes rfl ?_; refine L.step (Ev.load rfl rfl rfl (Src.r 0 rfl) rfl) rfl ?_; refine L.yes rfl ?_; refine Lpu rfl rfl ?_; refine L.yes rfl ?_; refine Lpu rfl rfl ?_; refine Lpu rfl rfl ?_; refine Lpu rfl rfl ?_
  refine L.bool 31 rfl (fun hg31 => ?_) (fun hg31 => ?_)
  ·
   replace hg31 := of_decide_eq_true hg31
   refine L.no rfl rfl rfl ?_; refine L.no rfl rfl rfl ?_; refine L.no rfl rfl rfl ?_; refine L.no rfl rfl rfl ?_; refine Lpu rfl rfl ?_; refine L.nil (QE.seq ?_)
   refine C.cond rfl (fun _ => ?_) (fun h => by cases h)
   refine C.seq (C.region ?_); refine Lpu rfl rfl ?_; refine Lpu rfl rfl ?_; refine L.nil (QE.seq (C.ret (QE.tR ?_))); refine QE.ret (js := []) (hs := []) (vs := [_]) rfl ⟨rfl, trivial⟩ (by decide) ?_
   exact ⟨rfl, rfl, rfl⟩
  ·
   replace hg31 := of_decide_eq_false hg31
   refine L.yes rfl ?_; refine L.step (Ev.fieldAddr rfl rfl rfl rfl rfl rfl (Src.r 0 rfl) (Nat.zero_lt_succ _) rfl) rfl ?_; refine L.yes rfl ?_; refine L.step (Ev.load rfl rfl rfl (Src.r 0 rfl) rfl) rfl ?_; refine L.yes rfl ?_; refine Lpu rfl rfl ?_; refine L.yes rfl ?_; refine Lpu rfl rfl ?_; refine Lpu rfl rfl ?_; refine L.nil (QE.seq ?_)
   refine C.condB 36 rfl (fun hc36 => ?_) (fun hc36 => ?_)
   ·
    replace hc36 := of_decide_eq_true hc36
    refine C.seq (C.region ?_); refine Lpu rfl rfl ?_; refine Lpu rfl rfl ?_; refine L.nil (QE.seq (C.ret (QE.tR ?_))); refine QE.ret (js := []) (hs := []) (vs := [_]) rfl ⟨rfl, trivial⟩ (by decide) ?_
    exact ⟨rfl, rfl, rfl⟩
   ·
    replace hc36 := of_decide_eq_false hc36
    refine C.skip (QE.seq (C.seq (C.region ?_))); refine Lpu rfl rfl ?_; refine L.call (js := []) (js' := []) (code_c LA l lc 12 hll (by decide)) rfl rfl rfl (by decide) (Hq [2] rfl) rfl ?_
    rintro _ _ _ ⟨B, bc, rfl, rfl, rfl⟩
    refine L.norm (H' := [_]) [0] ⟨rfl, trivial⟩ (by decide) ?_; refine L.call (js := []) (js' := [0]) (lift3_c B (codB l 12) bc (by have := codB_len l 12; omega)) rfl rfl rfl (by decide) ⟨(Has.o 0 rfl), trivial⟩ rfl ?_
    rintro _ _ _ ⟨W41, M41, L41, w41, m41, l41, rfl, rfl, rfl⟩
    refine L.norm (H' := [_, _, _, _]) [0, 1, 2, 3] ⟨rfl, rfl, rfl, rfl, trivial⟩ (by decide) ?_; refine Lpu rfl rfl ?_; refine Lpu rfl rfl ?_; refine Lpu rfl rfl ?_
    refine L.alloc rfl rfl rfl (fun A8 => ?_)
    refine L.storeA (j := 4) rfl rfl rfl rfl rfl (Nat.zero_lt_succ _) rfl rfl ?_; refine Lpu rfl rfl ?_; refine L.nil (QE.seq (C.seq ?_))
    have hbl := codB_len l 12
    have hb4 := codB_four l 12
    have hco : codeB (codB l 12) := codB_code l (by decide)
    have hxl := lift_len hco
    have hx32 := liftR_w32 (codB l 12)
    have hxa : ∀ k, k < (liftR (codB l 12)).ls.length → 0 ≤ (liftR (codB l 12)).ls.getD k 0 ∧ (liftR (codB l 12)).ls.getD k 0 < 65536 := fun k hk => liftR_label hk
    refine C.freeze 0 rfl [1, 2, 3, 4] (by decide) (by decide) ?_; refine C.norm (H' := [_, _, _, _]) [0, 1, 2, 3] ⟨rfl, rfl, rfl, rfl, trivial⟩ (by decide) ?_; refine C.freeze 0 rfl [1, 2, 3] (by decide) (by decide) ?_; refine C.norm (H' := [_, _, _]) [0, 1, 2] ⟨rfl, rfl, rfl, trivial⟩ (by decide) ?_; refine C.freeze 0 rfl [1, 2] (by decide) (by decide) ?_; refine C.norm (H' := [_, _]) [0, 1] ⟨rfl, rfl, trivial⟩ (by decide) ?_; refine C.freeze 1 rfl [0] (by decide) (by decide) ?_; refine C.norm (H' := [_]) [0] ⟨rfl, trivial⟩ (by decide) ?_; refine C.join (fun q : At Unit × Option Addr => [(4, ptrOf A4 0), (5, ptrOf A5 0), (7, .bool true), (10, ptrOf q.2 0)]) (fun q : At Unit × Option Addr => [Rd A4 [.slice YW y.ws.length ywc, .slice YM y.ms.length ymc, .slice YL y.ls.length ylc], Rd A5 [.int .u16 (u0 : Int), .int .u16 (u1 : Int), .int .u16 (u2 : Int), .int .u16 (u3 : Int)], Rd YW (N32 y.ws), Rd YM (Bs y.ms), Rd YL (I64 y.ls)]) (fun q : At Unit × Option Addr => [Own 32 3 q.2 1 1 [.slice q.1.W (liftR (codB l 12)).ws.length q.1.wc, .slice q.1.M (liftR (codB l 12)).ms.length q.1.mc, .slice q.1.L (liftR (codB l 12)).ls.length q.1.lc], Own 53 1 q.1.W (liftR (codB l 12)).ws.length q.1.wc (N32 (liftR (codB l 12)).ws), Own 4 1 q.1.M (liftR (codB l 12)).ms.length q.1.mc (Bs (liftR (codB l 12)).ms), Own 3 1 q.1.L (liftR (codB l 12)).ls.length q.1.lc (I64 (liftR (codB l 12)).ls)]) (fun q : At Unit × Option Addr => True) ?_ ?_
    ·
     refine C.regionM [Rd A8 [.slice W41 (liftR (codB l 12)).ws.length w41, .slice M41 (liftR (codB l 12)).ms.length m41, .slice L41 (liftR (codB l 12)).ls.length l41], Rd W41 (N32 (liftR (codB l 12)).ws), Rd M41 (Bs (liftR (codB l 12)).ms), Rd L41 (I64 (liftR (codB l 12)).ls)] (Hq [0, 3, 2, 1] rfl) ?_; refine LM.q 1 rfl (by kernel_rfl) (Ev.fieldAddr rfl rfl rfl rfl rfl rfl (Src.r 0 rfl) (Nat.zero_lt_succ _) rfl) rfl (Hq [0, 3, 2, 1] rfl) ?_; refine LM.q 2 rfl (by kernel_rfl) (Ev.load rfl rfl rfl (Src.r 0 rfl) rfl) rfl (Hq [0, 3, 2, 1] rfl) ?_; refine LM.q 5 rfl (by kernel_rfl) (Ev.fieldAddr rfl rfl rfl rfl rfl rfl (Src.r 0 rfl) (Nat.zero_lt_succ _) rfl) rfl (Hq [0, 3, 2, 1] rfl) ?_; refine LM.q 6 rfl (by kernel_rfl) (Ev.load rfl rfl rfl (Src.r 0 rfl) rfl) rfl (Hq [0, 3, 2, 1] rfl) ?_; refine LM.q 9 rfl (by kernel_rfl) (Ev.fieldAddr rfl rfl rfl rfl rfl rfl (Src.r 0 rfl) (Nat.zero_lt_succ _) rfl) rfl (Hq [0, 3, 2, 1] rfl) ?_; refine LM.q 10 rfl (by kernel_rfl) (Ev.load rfl rfl rfl (Src.r 0 rfl) rfl) rfl (Hq [0, 3, 2, 1] rfl) ?_; refine LM.a4 0 4 8 13 (by kernel_rfl) (Hq [0, 3, 2, 1] rfl) rfl rfl rfl rfl ?_ ?_ ?_ ?_
     refine L.lit0S rfl rfl rfl rfl (fun A44 => ?_)
     refine L.nm (by kernel_rfl) ?_; refine LM.a4 3 4 8 13 (by kernel_rfl) (Hq [0, 3, 2, 1] rfl) rfl rfl rfl rfl ?_ ?_ ?_ ?_
     refine L.append (j := 1) rfl rfl rfl rfl (by decide) rfl rfl rfl rfl (Src.r 3 rfl) ((N32_len _).trans (Nat.mul_one _).symm) (N32_one _) (by omega) (by show _ * 4 ≤ _; omega) rfl (fun A47 cc47 => ?_)
     refine L.nm (by kernel_rfl) ?_; refine LM.a3 4 8 13 (by kernel_rfl) (Hq [0, 3, 2, 1] rfl) rfl rfl rfl ?_ ?_ ?_
     refine L.lit0S rfl rfl rfl rfl (fun A48 => ?_)
     refine L.nm (by kernel_rfl) ?_; refine LM.a3 7 8 13 (by kernel_rfl) (Hq [0, 3, 2, 1] rfl) rfl rfl rfl ?_ ?_ ?_
     refine L.append (j := 2) rfl rfl rfl rfl (by decide) rfl rfl rfl rfl (Src.r 2 rfl) ((Bs_len _).trans (Nat.mul_one _).symm) (Bs_one _) (by omega) (by show _ * 1 ≤ _; omega) rfl (fun A51 cc51 => ?_)
     refine L.nm (by kernel_rfl) ?_; refine LM.a2 8 13 (by kernel_rfl) (Hq [0, 3, 2, 1] rfl) rfl rfl ?_ ?_
     refine L.lit0S rfl rfl rfl rfl (fun A52 => ?_)
     refine L.nm (by kernel_rfl) ?_; refine LM.a2 11 13 (by kernel_rfl) (Hq [0, 3, 2, 1] rfl) rfl rfl ?_ ?_
     refine L.append (j := 3) rfl rfl rfl rfl (by decide) rfl rfl rfl rfl (Src.r 1 rfl) ((I64_len _).trans (Nat.mul_one _).symm) (I64_one _) (by omega) (by show _ * 8 ≤ _; omega) rfl (fun A55 cc55 => ?_)
     refine L.nm (by kernel_rfl) ?_; refine LM.q 12 rfl (by kernel_rfl) (Ev.build rfl rfl rfl rfl rfl rfl rfl) rfl (Hq [0, 3, 2, 1] rfl) ?_; refine LM.f 13 rfl (by kernel_rfl) (Hq [0, 3, 2, 1] rfl) ?_
     refine L.alloc rfl rfl rfl (fun A10 => ?_)
     refine L.norm (H' := [_, _, _, _, _]) [3, 2, 1, 4, 0] ⟨rfl, rfl, rfl, rfl, rfl, trivial⟩ (by decide) ?_; refine L.nm (by kernel_rfl) ?_
     rotate_left
     refine L.alloc rfl rfl rfl (fun A10 => ?_)
     refine L.nm (by kernel_rfl) ?_; refine LM.f 11 rfl (by kernel_rfl) (Hq [0, 3, 2, 1] rfl) ?_
     refine L.append (j := 3) rfl rfl rfl rfl (by decide) rfl rfl rfl rfl (Src.r 1 rfl) ((I64_len _).trans (Nat.mul_one _).symm) (I64_one _) (by omega) (by show _ * 8 ≤ _; omega) rfl (fun A55 cc55 => ?_)
     refine L.nm (by kernel_rfl) ?_; refine LM.f 12 rfl (by kernel_rfl) (Hq [0, 3, 2, 1] rfl) ?_; refine L.step (Ev.build rfl rfl rfl rfl rfl rfl rfl) rfl ?_; refine L.norm (H' := [_, _, _, _, _]) [3, 2, 1, 4, 0] ⟨rfl, rfl, rfl, rfl, rfl, trivial⟩ (by decide) ?_; refine L.nm (by kernel_rfl) ?_
     rotate_left
     refine L.alloc rfl rfl rfl (fun A10 => ?_)
     refine L.nm (by kernel_rfl) ?_; refine LM.f 8 rfl (by kernel_rfl) (Hq [0, 3, 2, 1] rfl) ?_
     refine L.lit0S rfl rfl rfl rfl (fun A52 => ?_)
     refine L.nm (by kernel_rfl) ?_; refine LM.f 11 rfl (by kernel_rfl) (Hq [0, 3, 2, 1] rfl) ?_
     refine L.append (j := 4) rfl rfl rfl rfl (by decide) rfl rfl rfl rfl (Src.r 1 rfl) ((I64_len _).trans (Nat.mul_one _).symm) (I64_one _) (by omega) (by show _ * 8 ≤ _; omega) rfl (fun A55 cc55 => ?_)
     refine L.nm (by kernel_rfl) ?_; refine LM.f 12 rfl (by kernel_rfl) (Hq [0, 3, 2, 1] rfl) ?_; refine L.step (Ev.build rfl rfl rfl rfl rfl rfl rfl) rfl ?_; refine L.norm (H' := [_, _, _, _, _]) [4, 2, 1, 3, 0] ⟨rfl, rfl, rfl, rfl, rfl, trivial⟩ (by decide) ?_; refine L.nm (by kernel_rfl) ?_
     rotate_left
     refine L.lit0S rfl rfl rfl rfl (fun A52 => ?_)
     refine L.nm (by kernel_rfl) ?_; refine LM.a2 7 13 (by kernel_rfl) (Hq [0, 3, 2, 1] rfl) rfl rfl ?_ ?_
     refine L.append (j := 2) rfl rfl rfl rfl (by decide) rfl rfl rfl rfl (Src.r 2 rfl) ((Bs_len _).trans (Nat.mul_one _).symm) (Bs_one _) (by omega) (by show _ * 1 ≤ _; omega) rfl (fun A51 cc51 => ?_)
     refine L.nm (by kernel_rfl) ?_; refine LM.a2 11 13 (by kernel_rfl) (Hq [0, 3, 2, 1] rfl) rfl rfl ?_ ?_
     refine L.append (j := 3) rfl rfl rfl rfl (by decide) rfl rfl rfl rfl (Src.r 1 rfl) ((I64_len _).trans (Nat.mul_one _).symm) (I64_one _) (by omega) (by show _ * 8 ≤ _; omega) rfl (fun A55 cc55 => ?_)
     refine L.nm (by kernel_rfl) ?_; refine LM.q 12 rfl (by kernel_rfl) (Ev.build rfl rfl rfl rfl rfl rfl rfl) rfl (Hq [0, 3, 2, 1] rfl) ?_; refine LM.f 13 rfl (by kernel_rfl) (Hq [0, 3, 2, 1] rfl) ?_
     refine L.alloc rfl rfl rfl (fun A10 => ?_)
     refine L.norm (H' := [_, _, _, _, _]) [3, 2, 1, 4, 0] ⟨rfl, rfl, rfl, rfl, rfl, trivial⟩ (by decide) ?_; refine L.nm (by kernel_rfl) ?_
     rotate_left
     refine L.alloc rfl rfl rfl (fun A10 => ?_)
     refine L.nm (by kernel_rfl) ?_; refine LM.f 11 rfl (by kernel_rfl) (Hq [0, 3, 2, 1] rfl) ?_
     refine L.append (j := 3) rfl rfl rfl rfl (by decide) rfl rfl rfl rfl (Src.r 1 rfl) ((I64_len _).trans (Nat.mul_one _).symm) (I64_one _) (by omega) (by show _ * 8 ≤ _; omega) rfl (fun A55 cc55 => ?_)
     refine L.nm (by kernel_rfl) ?_; refine LM.f 12 rfl (by kernel_rfl) (Hq [0, 3, 2, 1] rfl) ?_; refine L.step (Ev.build rfl rfl rfl rfl rfl rfl rfl) rfl ?_; refine L.norm (H' := [_, _, _, _, _]) [3, 2, 1, 4, 0] ⟨rfl, rfl, rfl, rfl, rfl, trivial⟩ (by decide) ?_; refine L.nm (by kernel_rfl) ?_
     rotate_left
     refine L.alloc rfl rfl rfl (fun A10 => ?_)
     refine L.nm (by kernel_rfl) ?_; refine LM.f 7 rfl (by kernel_rfl) (Hq [0, 3, 2, 1] rfl) ?_
     refine L.append (j := 2) rfl rfl rfl rfl (by decide) rfl rfl rfl rfl (Src.r 2 rfl) ((Bs_len _).trans (Nat.mul_one _).symm) (Bs_one _) (by omega) (by show _ * 1 ≤ _; omega) rfl (fun A51 cc51 => ?_)
     refine L.nm (by kernel_rfl) ?_; refine LM.f 11 rfl (by kernel_rfl) (Hq [0, 3, 2, 1] rfl) ?_
     refine L.append (j := 3) rfl rfl rfl rfl (by decide) rfl rfl rfl rfl (Src.r 1 rfl) ((I64_len _).trans (Nat.mul_one _).symm) (I64_one _) (by omega) (by show _ * 8 ≤ _; omega) rfl (fun A55 cc55 => ?_)
     refine L.nm (by kernel_rfl) ?_; refine LM.f 12 rfl (by kernel_rfl) (Hq [0, 3, 2, 1] rfl) ?_; refine L.step (Ev.build rfl rfl rfl rfl rfl rfl rfl) rfl ?_; refine L.norm (H' := [_, _, _, _, _]) [3, 2, 1, 4, 0] ⟨rfl, rfl, rfl, rfl, rfl, trivial⟩ (by decide) ?_; refine L.nm (by kernel_rfl) ?_
     rotate_left
     refine L.alloc rfl rfl rfl (fun A10 => ?_)
     refine L.nm (by kernel_rfl) ?_; refine LM.a2 7 8 (by kernel_rfl) (Hq [0, 3, 2, 1] rfl) rfl rfl ?_ ?_
     refine L.append (j := 2) rfl rfl rfl rfl (by decide) rfl rfl rfl rfl (Src.r 2 rfl) ((Bs_len _).trans (Nat.mul_one _).symm) (Bs_one _) (by omega) (by show _ * 1 ≤ _; omega) rfl (fun A51 cc51 => ?_)
     refine L.nm (by kernel_rfl) ?_; refine LM.f 8 rfl (by kernel_rfl) (Hq [0, 3, 2, 1] rfl) ?_
     refine L.lit0S rfl rfl rfl rfl (fun A52 => ?_)
     refine L.nm (by kernel_rfl) ?_; refine LM.f 11 rfl (by kernel_rfl) (Hq [0, 3, 2, 1] rfl) ?_
     refine L.append (j := 4) rfl rfl rfl rfl (by decide) rfl rfl rfl rfl (Src.r 1 rfl) ((I64_len _).trans (Nat.mul_one _).symm) (I64_one _) (by omega) (by show _ * 8 ≤ _; omega) rfl (fun A55 cc55 => ?_)
     refine L.nm (by kernel_rfl) ?_; refine LM.f 12 rfl (by kernel_rfl) (Hq [0, 3, 2, 1] rfl) ?_; refine L.step (Ev.build rfl rfl rfl rfl rfl rfl rfl) rfl ?_; refine L.norm (H' := [_, _, _, _, _]) [4, 2, 1, 3, 0] ⟨rfl, rfl, rfl, rfl, rfl, trivial⟩ (by decide) ?_; refine L.nm (by kernel_rfl) ?_
     rotate_left
     refine L.lit0S rfl rfl rfl rfl (fun A52 => ?_)
     refine L.nm (by kernel_rfl) ?_; refine LM.f 7 rfl (by kernel_rfl) (Hq [0, 3, 2, 1] rfl) ?_
     refine L.append (j := 2) rfl rfl rfl rfl (by decide) rfl rfl rfl rfl (Src.r 2 rfl) ((Bs_len _).trans (Nat.mul_one _).symm) (Bs_one _) (by omega) (by show _ * 1 ≤ _; omega) rfl (fun A51 cc51 => ?_)
     refine L.nm (by kernel_rfl) ?_; refine LM.f 11 rfl (by kernel_rfl) (Hq [0, 3, 2, 1] rfl) ?_
     refine L.append (j := 4) rfl rfl rfl rfl (by decide) rfl rfl rfl rfl (Src.r 1 rfl) ((I64_len _).trans (Nat.mul_one _).symm) (I64_one _) (by omega) (by show _ * 8 ≤ _; omega) rfl (fun A55 cc55 => ?_)
     refine L.nm (by kernel_rfl) ?_; refine LM.f 12 rfl (by kernel_rfl) (Hq [0, 3, 2, 1] rfl) ?_; refine L.step (Ev.build rfl rfl rfl rfl rfl rfl rfl) rfl ?_; refine L.norm (H' := [_, _, _, _, _]) [4, 2, 1, 3, 0] ⟨rfl, rfl, rfl, rfl, rfl, trivial⟩ (by decide) ?_; refine L.nm (by kernel_rfl) ?_
     rotate_left
     refine L.lit0S rfl rfl rfl rfl (fun A52 => ?_)
     refine L.nm (by kernel_rfl) ?_; refine LM.a2 4 13 (by kernel_rfl) (Hq [0, 3, 2, 1] rfl) rfl rfl ?_ ?_
     refine L.lit0S rfl rfl rfl rfl (fun A48 => ?_)
     refine L.nm (by kernel_rfl) ?_; refine LM.a2 7 13 (by kernel_rfl) (Hq [0, 3, 2, 1] rfl) rfl rfl ?_ ?_
     refine L.append (j := 3) rfl rfl rfl rfl (by decide) rfl rfl rfl rfl (Src.r 2 rfl) ((Bs_len _).trans (Nat.mul_one _).symm) (Bs_one _) (by omega) (by show _ * 1 ≤ _; omega) rfl (fun A51 cc51 => ?_)
     refine L.nm (by kernel_rfl) ?_; refine LM.a2 11 13 (by kernel_rfl) (Hq [0, 3, 2, 1] rfl) rfl rfl ?_ ?_
     refine L.append (j := 2) rfl rfl rfl rfl (by decide) rfl rfl rfl rfl (Src.r 1 rfl) ((I64_len _).trans (Nat.mul_one _).symm) (I64_one _) (by omega) (by show _ * 8 ≤ _; omega) rfl (fun A55 cc55 => ?_)
     refine L.nm (by kernel_rfl) ?_; refine LM.q 12 rfl (by kernel_rfl) (Ev.build rfl rfl rfl rfl rfl rfl rfl) rfl (Hq [0, 3, 2, 1] rfl) ?_; refine LM.f 13 rfl (by kernel_rfl) (Hq [0, 3, 2, 1] rfl) ?_
     refine L.alloc rfl rfl rfl (fun A10 => ?_)
     refine L.norm (H' := [_, _, _, _, _]) [2, 3, 1, 4, 0] ⟨rfl, rfl, rfl, rfl, rfl, trivial⟩ (by decide) ?_; refine L.nm (by kernel_rfl) ?_
     rotate_left
     refine L.alloc rfl rfl rfl (fun A10 => ?_)
     refine L.nm (by kernel_rfl) ?_; refine LM.f 11 rfl (by kernel_rfl) (Hq [0, 3, 2, 1] rfl) ?_
     refine L.append (j := 2) rfl rfl rfl rfl (by decide) rfl rfl rfl rfl (Src.r 1 rfl) ((I64_len _).trans (Nat.mul_one _).symm) (I64_one _) (by omega) (by show _ * 8 ≤ _; omega) rfl (fun A55 cc55 => ?_)
     refine L.nm (by kernel_rfl) ?_; refine LM.f 12 rfl (by kernel_rfl) (Hq [0, 3, 2, 1] rfl) ?_; refine L.step (Ev.build rfl rfl rfl rfl rfl rfl rfl) rfl ?_; refine L.norm (H' := [_, _, _, _, _]) [2, 3, 1, 4, 0] ⟨rfl, rfl, rfl, rfl, rfl, trivial⟩ (by decide) ?_; refine L.nm (by kernel_rfl) ?_
     rotate_left
     refine L.alloc rfl rfl rfl (fun A10 => ?_)
     refine L.nm (by kernel_rfl) ?_; refine LM.f 7 rfl (by kernel_rfl) (Hq [0, 3, 2, 1] rfl) ?_
     refine L.append (j := 3) rfl rfl rfl rfl (by decide) rfl rfl rfl rfl (Src.r 2 rfl) ((Bs_len _).trans (Nat.mul_one _).symm) (Bs_one _) (by omega) (by show _ * 1 ≤ _; omega) rfl (fun A51 cc51 => ?_)
     refine L.nm (by kernel_rfl) ?_; refine LM.f 11 rfl (by kernel_rfl) (Hq [0, 3, 2, 1] rfl) ?_
     refine L.append (j := 2) rfl rfl rfl rfl (by decide) rfl rfl rfl rfl (Src.r 1 rfl) ((I64_len _).trans (Nat.mul_one _).symm) (I64_one _) (by omega) (by show _ * 8 ≤ _; omega) rfl (fun A55 cc55 => ?_)
     refine L.nm (by kernel_rfl) ?_; refine LM.f 12 rfl (by kernel_rfl) (Hq [0, 3, 2, 1] rfl) ?_; refine L.step (Ev.build rfl rfl rfl rfl rfl rfl rfl) rfl ?_; refine L.norm (H' := [_, _, _, _, _]) [2, 3, 1, 4, 0] ⟨rfl, rfl, rfl, rfl, rfl, trivial⟩ (by decide) ?_; refine L.nm (by kernel_rfl) ?_
     rotate_left
     refine L.alloc rfl rfl rfl (fun A10 => ?_)
     refine L.nm (by kernel_rfl) ?_; refine LM.f 4 rfl (by kernel_rfl) (Hq [0, 3, 2, 1] rfl) ?_
     refine L.lit0S rfl rfl rfl rfl (fun A48 => ?_)
     refine L.nm (by kernel_rfl) ?_; refine LM.f 7 rfl (by kernel_rfl) (Hq [0, 3, 2, 1] rfl) ?_
     refine L.append (j := 4) rfl rfl rfl rfl (by decide) rfl rfl rfl rfl (Src.r 2 rfl) ((Bs_len _).trans (Nat.mul_one _).symm) (Bs_one _) (by omega) (by show _ * 1 ≤ _; omega) rfl (fun A51 cc51 => ?_)
     refine L.nm (by kernel_rfl) ?_; refine LM.f 11 rfl (by kernel_rfl) (Hq [0, 3, 2, 1] rfl) ?_
     refine L.append (j := 2) rfl rfl rfl rfl (by decide) rfl rfl rfl rfl (Src.r 1 rfl) ((I64_len _).trans (Nat.mul_one _).symm) (I64_one _) (by omega) (by show _ * 8 ≤ _; omega) rfl (fun A55 cc55 => ?_)
     refine L.nm (by kernel_rfl) ?_; refine LM.f 12 rfl (by kernel_rfl) (Hq [0, 3, 2, 1] rfl) ?_; refine L.step (Ev.build rfl rfl rfl rfl rfl rfl rfl) rfl ?_; refine L.norm (H' := [_, _, _, _, _]) [2, 4, 1, 3, 0] ⟨rfl, rfl, rfl, rfl, rfl, trivial⟩ (by decide) ?_; refine L.nm (by kernel_rfl) ?_
     rotate_left
     refine L.alloc rfl rfl rfl (fun A10 => ?_)
     refine L.nm (by kernel_rfl) ?_; refine LM.a2 4 8 (by kernel_rfl) (Hq [0, 3, 2, 1] rfl) rfl rfl ?_ ?_
     refine L.lit0S rfl rfl rfl rfl (fun A48 => ?_)
     refine L.nm (by kernel_rfl) ?_; refine LM.a2 7 8 (by kernel_rfl) (Hq [0, 3, 2, 1] rfl) rfl rfl ?_ ?_
     refine L.append (j := 3) rfl rfl rfl rfl (by decide) rfl rfl rfl rfl (Src.r 2 rfl) ((Bs_len _).trans (Nat.mul_one _).symm) (Bs_one _) (by omega) (by show _ * 1 ≤ _; omega) rfl (fun A51 cc51 => ?_)
     refine L.nm (by kernel_rfl) ?_; refine LM.f 8 rfl (by kernel_rfl) (Hq [0, 3, 2, 1] rfl) ?_
     refine L.lit0S rfl rfl rfl rfl (fun A52 => ?_)
     refine L.nm (by kernel_rfl) ?_; refine LM.f 11 rfl (by kernel_rfl) (Hq [0, 3, 2, 1] rfl) ?_
     refine L.append (j := 4) rfl rfl rfl rfl (by decide) rfl rfl rfl rfl (Src.r 1 rfl) ((I64_len _).trans (Nat.mul_one _).symm) (I64_one _) (by omega) (by show _ * 8 ≤ _; omega) rfl (fun A55 cc55 => ?_)
     refine L.nm (by kernel_rfl) ?_; refine LM.f 12 rfl (by kernel_rfl) (Hq [0, 3, 2, 1] rfl) ?_; refine L.step (Ev.build rfl rfl rfl rfl rfl rfl rfl) rfl ?_; refine L.norm (H' := [_, _, _, _, _]) [4, 3, 1, 2, 0] ⟨rfl, rfl, rfl, rfl, rfl, trivial⟩ (by decide) ?_; refine L.nm (by kernel_rfl) ?_
     rotate_left
     refine L.lit0S rfl rfl rfl rfl (fun A52 => ?_)
     refine L.nm (by kernel_rfl) ?_; refine LM.f 7 rfl (by kernel_rfl) (Hq [0, 3, 2, 1] rfl) ?_
     refine L.append (j := 3) rfl rfl rfl rfl (by decide) rfl rfl rfl rfl (Src.r 2 rfl) ((Bs_len _).trans (Nat.mul_one _).symm) (Bs_one _) (by omega) (by show _ * 1 ≤ _; omega) rfl (fun A51 cc51 => ?_)
     refine L.nm (by kernel_rfl) ?_; refine LM.f 11 rfl (by kernel_rfl) (Hq [0, 3, 2, 1] rfl) ?_
     refine L.append (j := 4) rfl rfl rfl rfl (by decide) rfl rfl rfl rfl (Src.r 1 rfl) ((I64_len _).trans (Nat.mul_one _).symm) (I64_one _) (by omega) (by show _ * 8 ≤ _; omega) rfl (fun A55 cc55 => ?_)
     refine L.nm (by kernel_rfl) ?_; refine LM.f 12 rfl (by kernel_rfl) (Hq [0, 3, 2, 1] rfl) ?_; refine L.step (Ev.build rfl rfl rfl rfl rfl rfl rfl) rfl ?_; refine L.norm (H' := [_, _, _, _, _]) [4, 3, 1, 2, 0] ⟨rfl, rfl, rfl, rfl, rfl, trivial⟩ (by decide) ?_; refine L.nm (by kernel_rfl) ?_
     rotate_left
     refine L.lit0S rfl rfl rfl rfl (fun A52 => ?_)
     refine L.nm (by kernel_rfl) ?_; refine LM.f 4 rfl (by kernel_rfl) (Hq [0, 3, 2, 1] rfl) ?_
     refine L.lit0S rfl rfl rfl rfl (fun A48 => ?_)
     refine L.nm (by kernel_rfl) ?_; refine LM.f 7 rfl (by kernel_rfl) (Hq [0, 3, 2, 1] rfl) ?_
     refine L.append (j := 4) rfl rfl rfl rfl (by decide) rfl rfl rfl rfl (Src.r 2 rfl) ((Bs_len _).trans (Nat.mul_one _).symm) (Bs_one _) (by omega) (by show _ * 1 ≤ _; omega) rfl (fun A51 cc51 => ?_)
     refine L.nm (by kernel_rfl) ?_; refine LM.f 11 rfl (by kernel_rfl) (Hq [0, 3, 2, 1] rfl) ?_
     refine L.append (j := 3) rfl rfl rfl rfl (by decide) rfl rfl rfl rfl (Src.r 1 rfl) ((I64_len _).trans (Nat.mul_one _).symm) (I64_one _) (by omega) (by show _ * 8 ≤ _; omega) rfl (fun A55 cc55 => ?_)
     refine L.nm (by kernel_rfl) ?_; refine LM.f 12 rfl (by kernel_rfl) (Hq [0, 3, 2, 1] rfl) ?_; refine L.step (Ev.build rfl rfl rfl rfl rfl rfl rfl) rfl ?_; refine L.norm (H' := [_, _, _, _, _]) [3, 4, 1, 2, 0] ⟨rfl, rfl, rfl, rfl, rfl, trivial⟩ (by decide) ?_; refine L.nm (by kernel_rfl) ?_
     rotate_left
     refine L.lit0S rfl rfl rfl rfl (fun A48 => ?_)
     refine L.nm (by kernel_rfl) ?_; refine LM.a3 3 8 13 (by kernel_rfl) (Hq [0, 3, 2, 1] rfl) rfl rfl rfl ?_ ?_ ?_
     refine L.append (j := 1) rfl rfl rfl rfl (by decide) rfl rfl rfl rfl (Src.r 3 rfl) ((N32_len _).trans (Nat.mul_one _).symm) (N32_one _) (by omega) (by show _ * 4 ≤ _; omega) rfl (fun A47 cc47 => ?_)
     refine L.nm (by kernel_rfl) ?_; refine LM.a3 7 8 13 (by kernel_rfl) (Hq [0, 3, 2, 1] rfl) rfl rfl rfl ?_ ?_ ?_
     refine L.append (j := 2) rfl rfl rfl rfl (by decide) rfl rfl rfl rfl (Src.r 2 rfl) ((Bs_len _).trans (Nat.mul_one _).symm) (Bs_one _) (by omega) (by show _ * 1 ≤ _; omega) rfl (fun A51 cc51 => ?_)
     refine L.nm (by kernel_rfl) ?_; refine LM.a2 8 13 (by kernel_rfl) (Hq [0, 3, 2, 1] rfl) rfl rfl ?_ ?_
     refine L.lit0S rfl rfl rfl rfl (fun A52 => ?_)
     refine L.nm (by kernel_rfl) ?_; refine LM.a2 11 13 (by kernel_rfl) (Hq [0, 3, 2, 1] rfl) rfl rfl ?_ ?_
     refine L.append (j := 3) rfl rfl rfl rfl (by decide) rfl rfl rfl rfl (Src.r 1 rfl) ((I64_len _).trans (Nat.mul_one _).symm) (I64_one _) (by omega) (by show _ * 8 ≤ _; omega) rfl (fun A55 cc55 => ?_)
     refine L.nm (by kernel_rfl) ?_; refine LM.q 12 rfl (by kernel_rfl) (Ev.build rfl rfl rfl rfl rfl rfl rfl) rfl (Hq [0, 3, 2, 1] rfl) ?_; refine LM.f 13 rfl (by kernel_rfl) (Hq [0, 3, 2, 1] rfl) ?_
     refine L.alloc rfl rfl rfl (fun A10 => ?_)
     refine L.norm (H' := [_, _, _, _, _]) [3, 2, 1, 4, 0] ⟨rfl, rfl, rfl, rfl, rfl, trivial⟩ (by decide) ?_; refine L.nm (by kernel_rfl) ?_
     rotate_left
     refine L.alloc rfl rfl rfl (fun A10 => ?_)
     refine L.nm (by kernel_rfl) ?_; refine LM.f 11 rfl (by kernel_rfl) (Hq [0, 3, 2, 1] rfl) ?_
     refine L.append (j := 3) rfl rfl rfl rfl (by decide) rfl rfl rfl rfl (Src.r 1 rfl) ((I64_len _).trans (Nat.mul_one _).symm) (I64_one _) (by omega) (by show _ * 8 ≤ _; omega) rfl (fun A55 cc55 => ?_)
     refine L.nm (by kernel_rfl) ?_; refine LM.f 12 rfl (by kernel_rfl) (Hq [0, 3, 2, 1] rfl) ?_; refine L.step (Ev.build rfl rfl rfl rfl rfl rfl rfl) rfl ?_; refine L.norm (H' := [_, _, _, _, _]) [3, 2, 1, 4, 0] ⟨rfl, rfl, rfl, rfl, rfl, trivial⟩ (by decide) ?_; refine L.nm (by kernel_rfl) ?_
     rotate_left
     refine L.alloc rfl rfl rfl (fun A10 => ?_)
     refine L.nm (by kernel_rfl) ?_; refine LM.f 8 rfl (by kernel_rfl) (Hq [0, 3, 2, 1] rfl) ?_
     refine L.lit0S rfl rfl rfl rfl (fun A52 => ?_)
     refine L.nm (by kernel_rfl) ?_; refine LM.f 11 rfl (by kernel_rfl) (Hq [0, 3, 2, 1] rfl) ?_
     refine L.append (j := 4) rfl rfl rfl rfl (by decide) rfl rfl rfl rfl (Src.r 1 rfl) ((I64_len _).trans (Nat.mul_one _).symm) (I64_one _) (by omega) (by show _ * 8 ≤ _; omega) rfl (fun A55 cc55 => ?_)
     refine L.nm (by kernel_rfl) ?_; refine LM.f 12 rfl (by kernel_rfl) (Hq [0, 3, 2, 1] rfl) ?_; refine L.step (Ev.build rfl rfl rfl rfl rfl rfl rfl) rfl ?_; refine L.norm (H' := [_, _, _, _, _]) [4, 2, 1, 3, 0] ⟨rfl, rfl, rfl, rfl, rfl, trivial⟩ (by decide) ?_; refine L.nm (by kernel_rfl) ?_
     rotate_left
     refine L.lit0S rfl rfl rfl rfl (fun A52 => ?_)
     refine L.nm (by kernel_rfl) ?_; refine LM.a2 7 13 (by kernel_rfl) (Hq [0, 3, 2, 1] rfl) rfl rfl ?_ ?_
     refine L.append (j := 2) rfl rfl rfl rfl (by decide) rfl rfl rfl rfl (Src.r 2 rfl) ((Bs_len _).trans (Nat.mul_one _).symm) (Bs_one _) (by omega) (by show _ * 1 ≤ _; omega) rfl (fun A51 cc51 => ?_)
     refine L.nm (by kernel_rfl) ?_; refine LM.a2 11 13 (by kernel_rfl) (Hq [0, 3, 2, 1] rfl) rfl rfl ?_ ?_
     refine L.append (j := 3) rfl rfl rfl rfl (by decide) rfl rfl rfl rfl (Src.r 1 rfl) ((I64_len _).trans (Nat.mul_one _).symm) (I64_one _) (by omega) (by show _ * 8 ≤ _; omega) rfl (fun A55 cc55 => ?_)
     refine L.nm (by kernel_rfl) ?_; refine LM.q 12 rfl (by kernel_rfl) (Ev.build rfl rfl rfl rfl rfl rfl rfl) rfl (Hq [0, 3, 2, 1] rfl) ?_; refine LM.f 13 rfl (by kernel_rfl) (Hq [0, 3, 2, 1] rfl) ?_
     refine L.alloc rfl rfl rfl (fun A10 => ?_)
     refine L.norm (H' := [_, _, _, _, _]) [3, 2, 1, 4, 0] ⟨rfl, rfl, rfl, rfl, rfl, trivial⟩ (by decide) ?_; refine L.nm (by kernel_rfl) ?_
     rotate_left
     refine L.alloc rfl rfl rfl (fun A10 => ?_)
     refine L.nm (by kernel_rfl) ?_; refine LM.f 11 rfl (by kernel_rfl) (Hq [0, 3, 2, 1] rfl) ?_
     refine L.append (j := 3) rfl rfl rfl rfl (by decide) rfl rfl rfl rfl (Src.r 1 rfl) ((I64_len _).trans (Nat.mul_one _).symm) (I64_one _) (by omega) (by show _ * 8 ≤ _; omega) rfl (fun A55 cc55 => ?_)
     refine L.nm (by kernel_rfl) ?_; refine LM.f 12 rfl (by kernel_rfl) (Hq [0, 3, 2, 1] rfl) ?_; refine L.step (Ev.build rfl rfl rfl rfl rfl rfl rfl) rfl ?_; refine L.norm (H' := [_, _, _, _, _]) [3, 2, 1, 4, 0] ⟨rfl, rfl, rfl, rfl, rfl, trivial⟩ (by decide) ?_; refine L.nm (by kernel_rfl) ?_
     rotate_left
     refine L.alloc rfl rfl rfl (fun A10 => ?_)
     refine L.nm (by kernel_rfl) ?_; refine LM.f 7 rfl (by kernel_rfl) (Hq [0, 3, 2, 1] rfl) ?_
     refine L.append (j := 2) rfl rfl rfl rfl (by decide) rfl rfl rfl rfl (Src.r 2 rfl) ((Bs_len _).trans (Nat.mul_one _).symm) (Bs_one _) (by omega) (by show _ * 1 ≤ _; omega) rfl (fun A51 cc51 => ?_)
     refine L.nm (by kernel_rfl) ?_; refine LM.f 11 rfl (by kernel_rfl) (Hq [0, 3, 2, 1] rfl) ?_
     refine L.append (j := 3) rfl rfl rfl rfl (by decide) rfl rfl rfl rfl (Src.r 1 rfl) ((I64_len _).trans (Nat.mul_one _).symm) (I64_one _) (by omega) (by show _ * 8 ≤ _; omega) rfl (fun A55 cc55 => ?_)
     refine L.nm (by kernel_rfl) ?_; refine LM.f 12 rfl (by kernel_rfl) (Hq [0, 3, 2, 1] rfl) ?_; refine L.step (Ev.build rfl rfl rfl rfl rfl rfl rfl) rfl ?_; refine L.norm (H' := [_, _, _, _, _]) [3, 2, 1, 4, 0] ⟨rfl, rfl, rfl, rfl, rfl, trivial⟩ (by decide) ?_; refine L.nm (by kernel_rfl) ?_
     rotate_left
     refine L.alloc rfl rfl rfl (fun A10 => ?_)
     refine L.nm (by kernel_rfl) ?_; refine LM.a2 7 8 (by kernel_rfl) (Hq [0, 3, 2, 1] rfl) rfl rfl ?_ ?_
     refine L.append (j := 2) rfl rfl rfl rfl (by decide) rfl rfl rfl rfl (Src.r 2 rfl) ((Bs_len _).trans (Nat.mul_one _).symm) (Bs_one _) (by omega) (by show _ * 1 ≤ _; omega) rfl (fun A51 cc51 => ?_)
     refine L.nm (by kernel_rfl) ?_; refine LM.f 8 rfl (by kernel_rfl) (Hq [0, 3, 2, 1] rfl) ?_
     refine L.lit0S rfl rfl rfl rfl (fun A52 => ?_)
     refine L.nm (by kernel_rfl) ?_; refine LM.f 11 rfl (by kernel_rfl) (Hq [0, 3, 2, 1] rfl) ?_
     refine L.append (j := 4) rfl rfl rfl rfl (by decide) rfl rfl rfl rfl (Src.r 1 rfl) ((I64_len _).trans (Nat.mul_one _).symm) (I64_one _) (by omega) (by show _ * 8 ≤ _; omega) rfl (fun A55 cc55 => ?_)
     refine L.nm (by kernel_rfl) ?_; refine LM.f 12 rfl (by kernel_rfl) (Hq [0, 3, 2, 1] rfl) ?_; refine L.step (Ev.build rfl rfl rfl rfl rfl rfl rfl) rfl ?_; refine L.norm (H' := [_, _, _, _, _]) [4, 2, 1, 3, 0] ⟨rfl, rfl, rfl, rfl, rfl, trivial⟩ (by decide) ?_; refine L.nm (by kernel_rfl) ?_
     rotate_left
     refine L.lit0S rfl rfl rfl rfl (fun A52 => ?_)
     refine L.nm (by kernel_rfl) ?_; refine LM.f 7 rfl (by kernel_rfl) (Hq [0, 3, 2, 1] rfl) ?_
     refine L.append (j := 2) rfl rfl rfl rfl (by decide) rfl rfl rfl rfl (Src.r 2 rfl) ((Bs_len _).trans (Nat.mul_one _).symm) (Bs_one _) (by omega) (by show _ * 1 ≤ _; omega) rfl (fun A51 cc51 => ?_)
     refine L.nm (by kernel_rfl) ?_; refine LM.f 11 rfl (by kernel_rfl) (Hq [0, 3, 2, 1] rfl) ?_
     refine L.append (j := 4) rfl rfl rfl rfl (by decide) rfl rfl rfl rfl (Src.r 1 rfl) ((I64_len _).trans (Nat.mul_one _).symm) (I64_one _) (by omega) (by show _ * 8 ≤ _; omega) rfl (fun A55 cc55 => ?_)
     refine L.nm (by kernel_rfl) ?_; refine LM.f 12 rfl (by kernel_rfl) (Hq [0, 3, 2, 1] rfl) ?_; refine L.step (Ev.build rfl rfl rfl rfl rfl rfl rfl) rfl ?_; refine L.norm (H' := [_, _, _, _, _]) [4, 2, 1, 3, 0] ⟨rfl, rfl, rfl, rfl, rfl, trivial⟩ (by decide) ?_; refine L.nm (by kernel_rfl) ?_
     rotate_left
     refine L.lit0S rfl rfl rfl rfl (fun A52 => ?_)
     refine L.nm (by kernel_rfl) ?_; refine LM.a2 3 13 (by kernel_rfl) (Hq [0, 3, 2, 1] rfl) rfl rfl ?_ ?_
     refine L.append (j := 1) rfl rfl rfl rfl (by decide) rfl rfl rfl rfl (Src.r 3 rfl) ((N32_len _).trans (Nat.mul_one _).symm) (N32_one _) (by omega) (by show _ * 4 ≤ _; omega) rfl (fun A47 cc47 => ?_)
     refine L.nm (by kernel_rfl) ?_; refine LM.a2 7 13 (by kernel_rfl) (Hq [0, 3, 2, 1] rfl) rfl rfl ?_ ?_
     refine L.append (j := 2) rfl rfl rfl rfl (by decide) rfl rfl rfl rfl (Src.r 2 rfl) ((Bs_len _).trans (Nat.mul_one _).symm) (Bs_one _) (by omega) (by show _ * 1 ≤ _; omega) rfl (fun A51 cc51 => ?_)
     refine L.nm (by kernel_rfl) ?_; refine LM.a2 11 13 (by kernel_rfl) (Hq [0, 3, 2, 1] rfl) rfl rfl ?_ ?_
     refine L.append (j := 3) rfl rfl rfl rfl (by decide) rfl rfl rfl rfl (Src.r 1 rfl) ((I64_len _).trans (Nat.mul_one _).symm) (I64_one _) (by omega) (by show _ * 8 ≤ _; omega) rfl (fun A55 cc55 => ?_)
     refine L.nm (by kernel_rfl) ?_; refine LM.q 12 rfl (by kernel_rfl) (Ev.build rfl rfl rfl rfl rfl rfl rfl) rfl (Hq [0, 3, 2, 1] rfl) ?_; refine LM.f 13 rfl (by kernel_rfl) (Hq [0, 3, 2, 1] rfl) ?_
     refine L.alloc rfl rfl rfl (fun A10 => ?_)
     refine L.norm (H' := [_, _, _, _, _]) [3, 2, 1, 4, 0] ⟨rfl, rfl, rfl, rfl, rfl, trivial⟩ (by decide) ?_; refine L.nm (by kernel_rfl) ?_
     rotate_left
     refine L.alloc rfl rfl rfl (fun A10 => ?_)
     refine L.nm (by kernel_rfl) ?_; refine LM.f 11 rfl (by kernel_rfl) (Hq [0, 3, 2, 1] rfl) ?_
     refine L.append (j := 3) rfl rfl rfl rfl (by decide) rfl rfl rfl rfl (Src.r 1 rfl) ((I64_len _).trans (Nat.mul_one _).symm) (I64_one _) (by omega) (by show _ * 8 ≤ _; omega) rfl (fun A55 cc55 => ?_)
     refine L.nm (by kernel_rfl) ?_; refine LM.f 12 rfl (by kernel_rfl) (Hq [0, 3, 2, 1] rfl) ?_; refine L.step (Ev.build rfl rfl rfl rfl rfl rfl rfl) rfl ?_; refine L.norm (H' := [_, _, _, _, _]) [3, 2, 1, 4, 0] ⟨rfl, rfl, rfl, rfl, rfl, trivial⟩ (by decide) ?_; refine L.nm (by kernel_rfl) ?_
     rotate_left
     refine L.alloc rfl rfl rfl (fun A10 => ?_)
     refine L.nm (by kernel_rfl) ?_; refine LM.f 7 rfl (by kernel_rfl) (Hq [0, 3, 2, 1] rfl) ?_
     refine L.append (j := 2) rfl rfl rfl rfl (by decide) rfl rfl rfl rfl (Src.r 2 rfl) ((Bs_len _).trans (Nat.mul_one _).symm) (Bs_one _) (by omega) (by show _ * 1 ≤ _; omega) rfl (fun A51 cc51 => ?_)
     refine L.nm (by kernel_rfl) ?_; refine LM.f 11 rfl (by kernel_rfl) (Hq [0, 3, 2, 1] rfl) ?_
     refine L.append (j := 3) rfl rfl rfl rfl (by decide) rfl rfl rfl rfl (Src.r 1 rfl) ((I64_len _).trans (Nat.mul_one _).symm) (I64_one _) (by omega) (by show _ * 8 ≤ _; omega) rfl (fun A55 cc55 => ?_)
     refine L.nm (by kernel_rfl) ?_; refine LM.f 12 rfl (by kernel_rfl) (Hq [0, 3, 2, 1] rfl) ?_; refine L.step (Ev.build rfl rfl rfl rfl rfl rfl rfl) rfl ?_; refine L.norm (H' := [_, _, _, _, _]) [3, 2, 1, 4, 0] ⟨rfl, rfl, rfl, rfl, rfl, trivial⟩ (by decide) ?_; refine L.nm (by kernel_rfl) ?_
     rotate_left
     refine L.alloc rfl rfl rfl (fun A10 => ?_)
     refine L.nm (by kernel_rfl) ?_; refine LM.f 3 rfl (by kernel_rfl) (Hq [0, 3, 2, 1] rfl) ?_
     refine L.append (j := 1) rfl rfl rfl rfl (by decide) rfl rfl rfl rfl (Src.r 3 rfl) ((N32_len _).trans (Nat.mul_one _).symm) (N32_one _) (by omega) (by show _ * 4 ≤ _; omega) rfl (fun A47 cc47 => ?_)
     refine L.nm (by kernel_rfl) ?_; refine LM.f 7 rfl (by kernel_rfl) (Hq [0, 3, 2, 1] rfl) ?_
     refine L.append (j := 2) rfl rfl rfl rfl (by decide) rfl rfl rfl rfl (Src.r 2 rfl) ((Bs_len _).trans (Nat.mul_one _).symm) (Bs_one _) (by omega) (by show _ * 1 ≤ _; omega) rfl (fun A51 cc51 => ?_)
     refine L.nm (by kernel_rfl) ?_; refine LM.f 11 rfl (by kernel_rfl) (Hq [0, 3, 2, 1] rfl) ?_
     refine L.append (j := 3) rfl rfl rfl rfl (by decide) rfl rfl rfl rfl (Src.r 1 rfl) ((I64_len _).trans (Nat.mul_one _).symm) (I64_one _) (by omega) (by show _ * 8 ≤ _; omega) rfl (fun A55 cc55 => ?_)
     refine L.nm (by kernel_rfl) ?_; refine LM.f 12 rfl (by kernel_rfl) (Hq [0, 3, 2, 1] rfl) ?_; refine L.step (Ev.build rfl rfl rfl rfl rfl rfl rfl) rfl ?_; refine L.norm (H' := [_, _, _, _, _]) [3, 2, 1, 4, 0] ⟨rfl, rfl, rfl, rfl, rfl, trivial⟩ (by decide) ?_; refine L.nm (by kernel_rfl) ?_
     rotate_left
     refine L.alloc rfl rfl rfl (fun A10 => ?_)
     refine L.nm (by kernel_rfl) ?_; refine LM.a2 3 8 (by kernel_rfl) (Hq [0, 3, 2, 1] rfl) rfl rfl ?_ ?_
     refine L.append (j := 1) rfl rfl rfl rfl (by decide) rfl rfl rfl rfl (Src.r 3 rfl) ((N32_len _).trans (Nat.mul_one _).symm) (N32_one _) (by omega) (by show _ * 4 ≤ _; omega) rfl (fun A47 cc47 => ?_)
     refine L.nm (by kernel_rfl) ?_; refine LM.a2 7 8 (by kernel_rfl) (Hq [0, 3, 2, 1] rfl) rfl rfl ?_ ?_
     refine L.append (j := 2) rfl rfl rfl rfl (by decide) rfl rfl rfl rfl (Src.r 2 rfl) ((Bs_len _).trans (Nat.mul_one _).symm) (Bs_one _) (by omega) (by show _ * 1 ≤ _; omega) rfl (fun A51 cc51 => ?_)
     refine L.nm (by kernel_rfl) ?_; refine LM.f 8 rfl (by kernel_rfl) (Hq [0, 3, 2, 1] rfl) ?_
     refine L.lit0S rfl rfl rfl rfl (fun A52 => ?_)
     refine L.nm (by kernel_rfl) ?_; refine LM.f 11 rfl (by kernel_rfl) (Hq [0, 3, 2, 1] rfl) ?_
     refine L.append (j := 4) rfl rfl rfl rfl (by decide) rfl rfl rfl rfl (Src.r 1 rfl) ((I64_len _).trans (Nat.mul_one _).symm) (I64_one _) (by omega) (by show _ * 8 ≤ _; omega) rfl (fun A55 cc55 => ?_)
     refine L.nm (by kernel_rfl) ?_; refine LM.f 12 rfl (by kernel_rfl) (Hq [0, 3, 2, 1] rfl) ?_; refine L.step (Ev.build rfl rfl rfl rfl rfl rfl rfl) rfl ?_; refine L.norm (H' := [_, _, _, _, _]) [4, 2, 1, 3, 0] ⟨rfl, rfl, rfl, rfl, rfl, trivial⟩ (by decide) ?_; refine L.nm (by kernel_rfl) ?_
     rotate_left
     refine L.lit0S rfl rfl rfl rfl (fun A52 => ?_)
     refine L.nm (by kernel_rfl) ?_; refine LM.f 7 rfl (by kernel_rfl) (Hq [0, 3, 2, 1] rfl) ?_
     refine L.append (j := 2) rfl rfl rfl rfl (by decide) rfl rfl rfl rfl (Src.r 2 rfl) ((Bs_len _).trans (Nat.mul_one _).symm) (Bs_one _) (by omega) (by show _ * 1 ≤ _; omega) rfl (fun A51 cc51 => ?_)
     refine L.nm (by kernel_rfl) ?_; refine LM.f 11 rfl (by kernel_rfl) (Hq [0, 3, 2, 1] rfl) ?_
     refine L.append (j := 4) rfl rfl rfl rfl (by decide) rfl rfl rfl rfl (Src.r 1 rfl) ((I64_len _).trans (Nat.mul_one _).symm) (I64_one _) (by omega) (by show _ * 8 ≤ _; omega) rfl (fun A55 cc55 => ?_)
     refine L.nm (by kernel_rfl) ?_; refine LM.f 12 rfl (by kernel_rfl) (Hq [0, 3, 2, 1] rfl) ?_; refine L.step (Ev.build rfl rfl rfl rfl rfl rfl rfl) rfl ?_; refine L.norm (H' := [_, _, _, _, _]) [4, 2, 1, 3, 0] ⟨rfl, rfl, rfl, rfl, rfl, trivial⟩ (by decide) ?_; refine L.nm (by kernel_rfl) ?_
     rotate_left
     refine L.lit0S rfl rfl rfl rfl (fun A52 => ?_)
     refine L.nm (by kernel_rfl) ?_; refine LM.f 3 rfl (by kernel_rfl) (Hq [0, 3, 2, 1] rfl) ?_
     refine L.append (j := 1) rfl rfl rfl rfl (by decide) rfl rfl rfl rfl (Src.r 3 rfl) ((N32_len _).trans (Nat.mul_one _).symm) (N32_one _) (by omega) (by show _ * 4 ≤ _; omega) rfl (fun A47 cc47 => ?_)
     refine L.nm (by kernel_rfl) ?_; refine LM.f 7 rfl (by kernel_rfl) (Hq [0, 3, 2, 1] rfl) ?_
     refine L.append (j := 2) rfl rfl rfl rfl (by decide) rfl rfl rfl rfl (Src.r 2 rfl) ((Bs_len _).trans (Nat.mul_one _).symm) (Bs_one _) (by omega) (by show _ * 1 ≤ _; omega) rfl (fun A51 cc51 => ?_)
     refine L.nm (by kernel_rfl) ?_; refine LM.f 11 rfl (by kernel_rfl) (Hq [0, 3, 2, 1] rfl) ?_
     refine L.append (j := 4) rfl rfl rfl rfl (by decide) rfl rfl rfl rfl (Src.r 1 rfl) ((I64_len _).trans (Nat.mul_one _).symm) (I64_one _) (by omega) (by show _ * 8 ≤ _; omega) rfl (fun A55 cc55 => ?_)
     refine L.nm (by kernel_rfl) ?_; refine LM.f 12 rfl (by kernel_rfl) (Hq [0, 3, 2, 1] rfl) ?_; refine L.step (Ev.build rfl rfl rfl rfl rfl rfl rfl) rfl ?_; refine L.norm (H' := [_, _, _, _, _]) [4, 2, 1, 3, 0] ⟨rfl, rfl, rfl, rfl, rfl, trivial⟩ (by decide) ?_; refine L.nm (by kernel_rfl) ?_
     rotate_left
     refine L.lit0S rfl rfl rfl rfl (fun A52 => ?_)
     refine L.nm (by kernel_rfl) ?_; refine LM.a3 3 4 13 (by kernel_rfl) (Hq [0, 3, 2, 1] rfl) rfl rfl rfl ?_ ?_ ?_
     refine L.append (j := 1) rfl rfl rfl rfl (by decide) rfl rfl rfl rfl (Src.r 3 rfl) ((N32_len _).trans (Nat.mul_one _).symm) (N32_one _) (by omega) (by show _ * 4 ≤ _; omega) rfl (fun A47 cc47 => ?_)
     refine L.nm (by kernel_rfl) ?_; refine LM.a2 4 13 (by kernel_rfl) (Hq [0, 3, 2, 1] rfl) rfl rfl ?_ ?_
     refine L.lit0S rfl rfl rfl rfl (fun A48 => ?_)
     refine L.nm (by kernel_rfl) ?_; refine LM.a2 7 13 (by kernel_rfl) (Hq [0, 3, 2, 1] rfl) rfl rfl ?_ ?_
     refine L.append (j := 3) rfl rfl rfl rfl (by decide) rfl rfl rfl rfl (Src.r 2 rfl) ((Bs_len _).trans (Nat.mul_one _).symm) (Bs_one _) (by omega) (by show _ * 1 ≤ _; omega) rfl (fun A51 cc51 => ?_)
     refine L.nm (by kernel_rfl) ?_; refine LM.a2 11 13 (by kernel_rfl) (Hq [0, 3, 2, 1] rfl) rfl rfl ?_ ?_
     refine L.append (j := 2) rfl rfl rfl rfl (by decide) rfl rfl rfl rfl (Src.r 1 rfl) ((I64_len _).trans (Nat.mul_one _).symm) (I64_one _) (by omega) (by show _ * 8 ≤ _; omega) rfl (fun A55 cc55 => ?_)
     refine L.nm (by kernel_rfl) ?_; refine LM.q 12 rfl (by kernel_rfl) (Ev.build rfl rfl rfl rfl rfl rfl rfl) rfl (Hq [0, 3, 2, 1] rfl) ?_; refine LM.f 13 rfl (by kernel_rfl) (Hq [0, 3, 2, 1] rfl) ?_
     refine L.alloc rfl rfl rfl (fun A10 => ?_)
     refine L.norm (H' := [_, _, _, _, _]) [2, 3, 1, 4, 0] ⟨rfl, rfl, rfl, rfl, rfl, trivial⟩ (by decide) ?_; refine L.nm (by kernel_rfl) ?_
     rotate_left
     refine L.alloc rfl rfl rfl (fun A10 => ?_)
     refine L.nm (by kernel_rfl) ?_; refine LM.f 11 rfl (by kernel_rfl) (Hq [0, 3, 2, 1] rfl) ?_
     refine L.append (j := 2) rfl rfl rfl rfl (by decide) rfl rfl rfl rfl (Src.r 1 rfl) ((I64_len _).trans (Nat.mul_one _).symm) (I64_one _) (by omega) (by show _ * 8 ≤ _; omega) rfl (fun A55 cc55 => ?_)
     refine L.nm (by kernel_rfl) ?_; refine LM.f 12 rfl (by kernel_rfl) (Hq [0, 3, 2, 1] rfl) ?_; refine L.step (Ev.build rfl rfl rfl rfl rfl rfl rfl) rfl ?_; refine L.norm (H' := [_, _, _, _, _]) [2, 3, 1, 4, 0] ⟨rfl, rfl, rfl, rfl, rfl, trivial⟩ (by decide) ?_; refine L.nm (by kernel_rfl) ?_
     rotate_left
     refine L.alloc rfl rfl rfl (fun A10 => ?_)
     refine L.nm (by kernel_rfl) ?_; refine LM.f 7 rfl (by kernel_rfl) (Hq [0, 3, 2, 1] rfl) ?_
     refine L.append (j := 3) rfl rfl rfl rfl (by decide) rfl rfl rfl rfl (Src.r 2 rfl) ((Bs_len _).trans (Nat.mul_one _).symm) (Bs_one _) (by omega) (by show _ * 1 ≤ _; omega) rfl (fun A51 cc51 => ?_)
     refine L.nm (by kernel_rfl) ?_; refine LM.f 11 rfl (by kernel_rfl) (Hq [0, 3, 2, 1] rfl) ?_
     refine L.append (j := 2) rfl rfl rfl rfl (by decide) rfl rfl rfl rfl (Src.r 1 rfl) ((I64_len _).trans (Nat.mul_one _).symm) (I64_one _) (by omega) (by show _ * 8 ≤ _; omega) rfl (fun A55 cc55 => ?_)
     refine L.nm (by kernel_rfl) ?_; refine LM.f 12 rfl (by kernel_rfl) (Hq [0, 3, 2, 1] rfl) ?_; refine L.step (Ev.build rfl rfl rfl rfl rfl rfl rfl) rfl ?_; refine L.norm (H' := [_, _, _, _, _]) [2, 3, 1, 4, 0] ⟨rfl, rfl, rfl, rfl, rfl, trivial⟩ (by decide) ?_; refine L.nm (by kernel_rfl) ?_
     rotate_left
     refine L.alloc rfl rfl rfl (fun A10 => ?_)
     refine L.nm (by kernel_rfl) ?_; refine LM.f 4 rfl (by kernel_rfl) (Hq [0, 3, 2, 1] rfl) ?_
     refine L.lit0S rfl rfl rfl rfl (fun A48 => ?_)
     refine L.nm (by kernel_rfl) ?_; refine LM.f 7 rfl (by kernel_rfl) (Hq [0, 3, 2, 1] rfl) ?_
     refine L.append (j := 4) rfl rfl rfl rfl (by decide) rfl rfl rfl rfl (Src.r 2 rfl) ((Bs_len _).trans (Nat.mul_one _).symm) (Bs_one _) (by omega) (by show _ * 1 ≤ _; omega) rfl (fun A51 cc51 => ?_)
     refine L.nm (by kernel_rfl) ?_; refine LM.f 11 rfl (by kernel_rfl) (Hq [0, 3, 2, 1] rfl) ?_
     refine L.append (j := 2) rfl rfl rfl rfl (by decide) rfl rfl rfl rfl (Src.r 1 rfl) ((I64_len _).trans (Nat.mul_one _).symm) (I64_one _) (by omega) (by show _ * 8 ≤ _; omega) rfl (fun A55 cc55 => ?_)
     refine L.nm (by kernel_rfl) ?_; refine LM.f 12 rfl (by kernel_rfl) (Hq [0, 3, 2, 1] rfl) ?_; refine L.step (Ev.build rfl rfl rfl rfl rfl rfl rfl) rfl ?_; refine L.norm (H' := [_, _, _, _, _]) [2, 4, 1, 3, 0] ⟨rfl, rfl, rfl, rfl, rfl, trivial⟩ (by decide) ?_; refine L.nm (by kernel_rfl) ?_
     rotate_left
     refine L.lit0S rfl rfl rfl rfl (fun A48 => ?_)
     refine L.nm (by kernel_rfl) ?_; refine LM.a2 3 13 (by kernel_rfl) (Hq [0, 3, 2, 1] rfl) rfl rfl ?_ ?_
     refine L.append (j := 1) rfl rfl rfl rfl (by decide) rfl rfl rfl rfl (Src.r 3 rfl) ((N32_len _).trans (Nat.mul_one _).symm) (N32_one _) (by omega) (by show _ * 4 ≤ _; omega) rfl (fun A47 cc47 => ?_)
     refine L.nm (by kernel_rfl) ?_; refine LM.a2 7 13 (by kernel_rfl) (Hq [0, 3, 2, 1] rfl) rfl rfl ?_ ?_
     refine L.append (j := 3) rfl rfl rfl rfl (by decide) rfl rfl rfl rfl (Src.r 2 rfl) ((Bs_len _).trans (Nat.mul_one _).symm) (Bs_one _) (by omega) (by show _ * 1 ≤ _; omega) rfl (fun A51 cc51 => ?_)
     refine L.nm (by kernel_rfl) ?_; refine LM.a2 11 13 (by kernel_rfl) (Hq [0, 3, 2, 1] rfl) rfl rfl ?_ ?_
     refine L.append (j := 2) rfl rfl rfl rfl (by decide) rfl rfl rfl rfl (Src.r 1 rfl) ((I64_len _).trans (Nat.mul_one _).symm) (I64_one _) (by omega) (by show _ * 8 ≤ _; omega) rfl (fun A55 cc55 => ?_)
     refine L.nm (by kernel_rfl) ?_; refine LM.q 12 rfl (by kernel_rfl) (Ev.build rfl rfl rfl rfl rfl rfl rfl) rfl (Hq [0, 3, 2, 1] rfl) ?_; refine LM.f 13 rfl (by kernel_rfl) (Hq [0, 3, 2, 1] rfl) ?_
     refine L.alloc rfl rfl rfl (fun A10 => ?_)
     refine L.norm (H' := [_, _, _, _, _]) [2, 3, 1, 4, 0] ⟨rfl, rfl, rfl, rfl, rfl, trivial⟩ (by decide) ?_; refine L.nm (by kernel_rfl) ?_
     rotate_left
     refine L.alloc rfl rfl rfl (fun A10 => ?_)
     refine L.nm (by kernel_rfl) ?_; refine LM.f 11 rfl (by kernel_rfl) (Hq [0, 3, 2, 1] rfl) ?_
     refine L.append (j := 2) rfl rfl rfl rfl (by decide) rfl rfl rfl rfl (Src.r 1 rfl) ((I64_len _).trans (Nat.mul_one _).symm) (I64_one _) (by omega) (by show _ * 8 ≤ _; omega) rfl (fun A55 cc55 => ?_)
     refine L.nm (by kernel_rfl) ?_; refine LM.f 12 rfl (by kernel_rfl) (Hq [0, 3, 2, 1] rfl) ?_; refine L.step (Ev.build rfl rfl rfl rfl rfl rfl rfl) rfl ?_; refine L.norm (H' := [_, _, _, _, _]) [2, 3, 1, 4, 0] ⟨rfl, rfl, rfl, rfl, rfl, trivial⟩ (by decide) ?_; refine L.nm (by kernel_rfl) ?_
     rotate_left
     refine L.alloc rfl rfl rfl (fun A10 => ?_)
     refine L.nm (by kernel_rfl) ?_; refine LM.f 7 rfl (by kernel_rfl) (Hq [0, 3, 2, 1] rfl) ?_
     refine L.append (j := 3) rfl rfl rfl rfl (by decide) rfl rfl rfl rfl (Src.r 2 rfl) ((Bs_len _).trans (Nat.mul_one _).symm) (Bs_one _) (by omega) (by show _ * 1 ≤ _; omega) rfl (fun A51 cc51 => ?_)
     refine L.nm (by kernel_rfl) ?_; refine LM.f 11 rfl (by kernel_rfl) (Hq [0, 3, 2, 1] rfl) ?_
     refine L.append (j := 2) rfl rfl rfl rfl (by decide) rfl rfl rfl rfl (Src.r 1 rfl) ((I64_len _).trans (Nat.mul_one _).symm) (I64_one _) (by omega) (by show _ * 8 ≤ _; omega) rfl (fun A55 cc55 => ?_)
     refine L.nm (by kernel_rfl) ?_; refine LM.f 12 rfl (by kernel_rfl) (Hq [0, 3, 2, 1] rfl) ?_; refine L.step (Ev.build rfl rfl rfl rfl rfl rfl rfl) rfl ?_; refine L.norm (H' := [_, _, _, _, _]) [2, 3, 1, 4, 0] ⟨rfl, rfl, rfl, rfl, rfl, trivial⟩ (by decide) ?_; refine L.nm (by kernel_rfl) ?_
     rotate_left
     refine L.alloc rfl rfl rfl (fun A10 => ?_)
     refine L.nm (by kernel_rfl) ?_; refine LM.f 3 rfl (by kernel_rfl) (Hq [0, 3, 2, 1] rfl) ?_
     refine L.append (j := 1) rfl rfl rfl rfl (by decide) rfl rfl rfl rfl (Src.r 3 rfl) ((N32_len _).trans (Nat.mul_one _).symm) (N32_one _) (by omega) (by show _ * 4 ≤ _; omega) rfl (fun A47 cc47 => ?_)
     refine L.nm (by kernel_rfl) ?_; refine LM.f 7 rfl (by kernel_rfl) (Hq [0, 3, 2, 1] rfl) ?_
     refine L.append (j := 3) rfl rfl rfl rfl (by decide) rfl rfl rfl rfl (Src.r 2 rfl) ((Bs_len _).trans (Nat.mul_one _).symm) (Bs_one _) (by omega) (by show _ * 1 ≤ _; omega) rfl (fun A51 cc51 => ?_)
     refine L.nm (by kernel_rfl) ?_; refine LM.f 11 rfl (by kernel_rfl) (Hq [0, 3, 2, 1] rfl) ?_
     refine L.append (j := 2) rfl rfl rfl rfl (by decide) rfl rfl rfl rfl (Src.r 1 rfl) ((I64_len _).trans (Nat.mul_one _).symm) (I64_one _) (by omega) (by show _ * 8 ≤ _; omega) rfl (fun A55 cc55 => ?_)
     refine L.nm (by kernel_rfl) ?_; refine LM.f 12 rfl (by kernel_rfl) (Hq [0, 3, 2, 1] rfl) ?_; refine L.step (Ev.build rfl rfl rfl rfl rfl rfl rfl) rfl ?_; refine L.norm (H' := [_, _, _, _, _]) [2, 3, 1, 4, 0] ⟨rfl, rfl, rfl, rfl, rfl, trivial⟩ (by decide) ?_; refine L.nm (by kernel_rfl) ?_
     rotate_left
     refine L.alloc rfl rfl rfl (fun A10 => ?_)
     refine L.nm (by kernel_rfl) ?_; refine LM.a2 3 4 (by kernel_rfl) (Hq [0, 3, 2, 1] rfl) rfl rfl ?_ ?_
     refine L.append (j := 1) rfl rfl rfl rfl (by decide) rfl rfl rfl rfl (Src.r 3 rfl) ((N32_len _).trans (Nat.mul_one _).symm) (N32_one _) (by omega) (by show _ * 4 ≤ _; omega) rfl (fun A47 cc47 => ?_)
     refine L.nm (by kernel_rfl) ?_; refine LM.f 4 rfl (by kernel_rfl) (Hq [0, 3, 2, 1] rfl) ?_
     refine L.lit0S rfl rfl rfl rfl (fun A48 => ?_)
     refine L.nm (by kernel_rfl) ?_; refine LM.f 7 rfl (by kernel_rfl) (Hq [0, 3, 2, 1] rfl) ?_
     refine L.append (j := 4) rfl rfl rfl rfl (by decide) rfl rfl rfl rfl (Src.r 2 rfl) ((Bs_len _).trans (Nat.mul_one _).symm) (Bs_one _) (by omega) (by show _ * 1 ≤ _; omega) rfl (fun A51 cc51 => ?_)
     refine L.nm (by kernel_rfl) ?_; refine LM.f 11 rfl (by kernel_rfl) (Hq [0, 3, 2, 1] rfl) ?_
     refine L.append (j := 2) rfl rfl rfl rfl (by decide) rfl rfl rfl rfl (Src.r 1 rfl) ((I64_len _).trans (Nat.mul_one _).symm) (I64_one _) (by omega) (by show _ * 8 ≤ _; omega) rfl (fun A55 cc55 => ?_)
     refine L.nm (by kernel_rfl) ?_; refine LM.f 12 rfl (by kernel_rfl) (Hq [0, 3, 2, 1] rfl) ?_; refine L.step (Ev.build rfl rfl rfl rfl rfl rfl rfl) rfl ?_; refine L.norm (H' := [_, _, _, _, _]) [2, 4, 1, 3, 0] ⟨rfl, rfl, rfl, rfl, rfl, trivial⟩ (by decide) ?_; refine L.nm (by kernel_rfl) ?_
     rotate_left
     refine L.lit0S rfl rfl rfl rfl (fun A48 => ?_)
     refine L.nm (by kernel_rfl) ?_; refine LM.f 3 rfl (by kernel_rfl) (Hq [0, 3, 2, 1] rfl) ?_
     refine L.append (j := 1) rfl rfl rfl rfl (by decide) rfl rfl rfl rfl (Src.r 3 rfl) ((N32_len _).trans (Nat.mul_one _).symm) (N32_one _) (by omega) (by show _ * 4 ≤ _; omega) rfl (fun A47 cc47 => ?_)
     refine L.nm (by kernel_rfl) ?_; refine LM.f 7 rfl (by kernel_rfl) (Hq [0, 3, 2, 1] rfl) ?_
     refine L.append (j := 4) rfl rfl rfl rfl (by decide) rfl rfl rfl rfl (Src.r 2 rfl) ((Bs_len _).trans (Nat.mul_one _).symm) (Bs_one _) (by omega) (by show _ * 1 ≤ _; omega) rfl (fun A51 cc51 => ?_)
     refine L.nm (by kernel_rfl) ?_; refine LM.f 11 rfl (by kernel_rfl) (Hq [0, 3, 2, 1] rfl) ?_
     refine L.append (j := 2) rfl rfl rfl rfl (by decide) rfl rfl rfl rfl (Src.r 1 rfl) ((I64_len _).trans (Nat.mul_one _).symm) (I64_one _) (by omega) (by show _ * 8 ≤ _; omega) rfl (fun A55 cc55 => ?_)
     refine L.nm (by kernel_rfl) ?_; refine LM.f 12 rfl (by kernel_rfl) (Hq [0, 3, 2, 1] rfl) ?_; refine L.step (Ev.build rfl rfl rfl rfl rfl rfl rfl) rfl ?_; refine L.norm (H' := [_, _, _, _, _]) [2, 4, 1, 3, 0] ⟨rfl, rfl, rfl, rfl, rfl, trivial⟩ (by decide) ?_; refine L.nm (by kernel_rfl) ?_
     rotate_left
     refine L.alloc rfl rfl rfl (fun A10 => ?_)
     refine L.nm (by kernel_rfl) ?_; refine LM.a3 3 4 8 (by kernel_rfl) (Hq [0, 3, 2, 1] rfl) rfl rfl rfl ?_ ?_ ?_
     refine L.append (j := 1) rfl rfl rfl rfl (by decide) rfl rfl rfl rfl (Src.r 3 rfl) ((N32_len _).trans (Nat.mul_one _).symm) (N32_one _) (by omega) (by show _ * 4 ≤ _; omega) rfl (fun A47 cc47 => ?_)
     refine L.nm (by kernel_rfl) ?_; refine LM.a2 4 8 (by kernel_rfl) (Hq [0, 3, 2, 1] rfl) rfl rfl ?_ ?_
     refine L.lit0S rfl rfl rfl rfl (fun A48 => ?_)
     refine L.nm (by kernel_rfl) ?_; refine LM.a2 7 8 (by kernel_rfl) (Hq [0, 3, 2, 1] rfl) rfl rfl ?_ ?_
     refine L.append (j := 3) rfl rfl rfl rfl (by decide) rfl rfl rfl rfl (Src.r 2 rfl) ((Bs_len _).trans (Nat.mul_one _).symm) (Bs_one _) (by omega) (by show _ * 1 ≤ _; omega) rfl (fun A51 cc51 => ?_)
     refine L.nm (by kernel_rfl) ?_; refine LM.f 8 rfl (by kernel_rfl) (Hq [0, 3, 2, 1] rfl) ?_
     refine L.lit0S rfl rfl rfl rfl (fun A52 => ?_)
     refine L.nm (by kernel_rfl) ?_; refine LM.f 11 rfl (by kernel_rfl) (Hq [0, 3, 2, 1] rfl) ?_
     refine L.append (j := 4) rfl rfl rfl rfl (by decide) rfl rfl rfl rfl (Src.r 1 rfl) ((I64_len _).trans (Nat.mul_one _).symm) (I64_one _) (by omega) (by show _ * 8 ≤ _; omega) rfl (fun A55 cc55 => ?_)
     refine L.nm (by kernel_rfl) ?_; refine LM.f 12 rfl (by kernel_rfl) (Hq [0, 3, 2, 1] rfl) ?_; refine L.step (Ev.build rfl rfl rfl rfl rfl rfl rfl) rfl ?_; refine L.norm (H' := [_, _, _, _, _]) [4, 3, 1, 2, 0] ⟨rfl, rfl, rfl, rfl, rfl, trivial⟩ (by decide) ?_; refine L.nm (by kernel_rfl) ?_
     rotate_left
     refine L.lit0S rfl rfl rfl rfl (fun A52 => ?_)
     refine L.nm (by kernel_rfl) ?_; refine LM.f 7 rfl (by kernel_rfl) (Hq [0, 3, 2, 1] rfl) ?_
     refine L.append (j := 3) rfl rfl rfl rfl (by decide) rfl rfl rfl rfl (Src.r 2 rfl) ((Bs_len _).trans (Nat.mul_one _).symm) (Bs_one _) (by omega) (by show _ * 1 ≤ _; omega) rfl (fun A51 cc51 => ?_)
     refine L.nm (by kernel_rfl) ?_; refine LM.f 11 rfl (by kernel_rfl) (Hq [0, 3, 2, 1] rfl) ?_
     refine L.append (j := 4) rfl rfl rfl rfl (by decide) rfl rfl rfl rfl (Src.r 1 rfl) ((I64_len _).trans (Nat.mul_one _).symm) (I64_one _) (by omega) (by show _ * 8 ≤ _; omega) rfl (fun A55 cc55 => ?_)
     refine L.nm (by kernel_rfl) ?_; refine LM.f 12 rfl (by kernel_rfl) (Hq [0, 3, 2, 1] rfl) ?_; refine L.step (Ev.build rfl rfl rfl rfl rfl rfl rfl) rfl ?_; refine L.norm (H' := [_, _, _, _, _]) [4, 3, 1, 2, 0] ⟨rfl, rfl, rfl, rfl, rfl, trivial⟩ (by decide) ?_; refine L.nm (by kernel_rfl) ?_
     rotate_left
     refine L.lit0S rfl rfl rfl rfl (fun A52 => ?_)
     refine L.nm (by kernel_rfl) ?_; refine LM.f 4 rfl (by kernel_rfl) (Hq [0, 3, 2, 1] rfl) ?_
     refine L.lit0S rfl rfl rfl rfl (fun A48 => ?_)
     refine L.nm (by kernel_rfl) ?_; refine LM.f 7 rfl (by kernel_rfl) (Hq [0, 3, 2, 1] rfl) ?_
     refine L.append (j := 4) rfl rfl rfl rfl (by decide) rfl rfl rfl rfl (Src.r 2 rfl) ((Bs_len _).trans (Nat.mul_one _).symm) (Bs_one _) (by omega) (by show _ * 1 ≤ _; omega) rfl (fun A51 cc51 => ?_)
     refine L.nm (by kernel_rfl) ?_; refine LM.f 11 rfl (by kernel_rfl) (Hq [0, 3, 2, 1] rfl) ?_
     refine L.append (j := 3) rfl rfl rfl rfl (by decide) rfl rfl rfl rfl (Src.r 1 rfl) ((I64_len _).trans (Nat.mul_one _).symm) (I64_one _) (by omega) (by show _ * 8 ≤ _; omega) rfl (fun A55 cc55 => ?_)
     refine L.nm (by kernel_rfl) ?_; refine LM.f 12 rfl (by kernel_rfl) (Hq [0, 3, 2, 1] rfl) ?_; refine L.step (Ev.build rfl rfl rfl rfl rfl rfl rfl) rfl ?_; refine L.norm (H' := [_, _, _, _, _]) [3, 4, 1, 2, 0] ⟨rfl, rfl, rfl, rfl, rfl, trivial⟩ (by decide) ?_; refine L.nm (by kernel_rfl) ?_
     rotate_left
     refine L.lit0S rfl rfl rfl rfl (fun A48 => ?_)
     refine L.nm (by kernel_rfl) ?_; refine LM.a2 3 8 (by kernel_rfl) (Hq [0, 3, 2, 1] rfl) rfl rfl ?_ ?_
     refine L.append (j := 1) rfl rfl rfl rfl (by decide) rfl rfl rfl rfl (Src.r 3 rfl) ((N32_len _).trans (Nat.mul_one _).symm) (N32_one _) (by omega) (by show _ * 4 ≤ _; omega) rfl (fun A47 cc47 => ?_)
     refine L.nm (by kernel_rfl) ?_; refine LM.a2 7 8 (by kernel_rfl) (Hq [0, 3, 2, 1] rfl) rfl rfl ?_ ?_
     refine L.append (j := 3) rfl rfl rfl rfl (by decide) rfl rfl rfl rfl (Src.r 2 rfl) ((Bs_len _).trans (Nat.mul_one _).symm) (Bs_one _) (by omega) (by show _ * 1 ≤ _; omega) rfl (fun A51 cc51 => ?_)
     refine L.nm (by kernel_rfl) ?_; refine LM.f 8 rfl (by kernel_rfl) (Hq [0, 3, 2, 1] rfl) ?_
     refine L.lit0S rfl rfl rfl rfl (fun A52 => ?_)
     refine L.nm (by kernel_rfl) ?_; refine LM.f 11 rfl (by kernel_rfl) (Hq [0, 3, 2, 1] rfl) ?_
     refine L.append (j := 4) rfl rfl rfl rfl (by decide) rfl rfl rfl rfl (Src.r 1 rfl) ((I64_len _).trans (Nat.mul_one _).symm) (I64_one _) (by omega) (by show _ * 8 ≤ _; omega) rfl (fun A55 cc55 => ?_)
     refine L.nm (by kernel_rfl) ?_; refine LM.f 12 rfl (by kernel_rfl) (Hq [0, 3, 2, 1] rfl) ?_; refine L.step (Ev.build rfl rfl rfl rfl rfl rfl rfl) rfl ?_; refine L.norm (H' := [_, _, _, _, _]) [4, 3, 1, 2, 0] ⟨rfl, rfl, rfl, rfl, rfl, trivial⟩ (by decide) ?_; refine L.nm (by kernel_rfl) ?_
     rotate_left
     refine L.lit0S rfl rfl rfl rfl (fun A52 => ?_)
     refine L.nm (by kernel_rfl) ?_; refine LM.f 7 rfl (by kernel_rfl) (Hq [0, 3, 2, 1] rfl) ?_
     refine L.append (j := 3) rfl rfl rfl rfl (by decide) rfl rfl rfl rfl (Src.r 2 rfl) ((Bs_len _).trans (Nat.mul_one _).symm) (Bs_one _) (by omega) (by show _ * 1 ≤ _; omega) rfl (fun A51 cc51 => ?_)
     refine L.nm (by kernel_rfl) ?_; refine LM.f 11 rfl (by kernel_rfl) (Hq [0, 3, 2, 1] rfl) ?_
     refine L.append (j := 4) rfl rfl rfl rfl (by decide) rfl rfl rfl rfl (Src.r 1 rfl) ((I64_len _).trans (Nat.mul_one _).symm) (I64_one _) (by omega) (by show _ * 8 ≤ _; omega) rfl (fun A55 cc55 => ?_)
     refine L.nm (by kernel_rfl) ?_; refine LM.f 12 rfl (by kernel_rfl) (Hq [0, 3, 2, 1] rfl) ?_; refine L.step (Ev.build rfl rfl rfl rfl rfl rfl rfl) rfl ?_; refine L.norm (H' := [_, _, _, _, _]) [4, 3, 1, 2, 0] ⟨rfl, rfl, rfl, rfl, rfl, trivial⟩ (by decide) ?_; refine L.nm (by kernel_rfl) ?_
     rotate_left
     refine L.lit0S rfl rfl rfl rfl (fun A52 => ?_)
     refine L.nm (by kernel_rfl) ?_; refine LM.f 3 rfl (by kernel_rfl) (Hq [0, 3, 2, 1] rfl) ?_
     refine L.append (j := 1) rfl rfl rfl rfl (by decide) rfl rfl rfl rfl (Src.r 3 rfl) ((N32_len _).trans (Nat.mul_one _).symm) (N32_one _) (by omega) (by show _ * 4 ≤ _; omega) rfl (fun A47 cc47 => ?_)
     refine L.nm (by kernel_rfl) ?_; refine LM.f 7 rfl (by kernel_rfl) (Hq [0, 3, 2, 1] rfl) ?_
     refine L.append (j := 3) rfl rfl rfl rfl (by decide) rfl rfl rfl rfl (Src.r 2 rfl) ((Bs_len _).trans (Nat.mul_one _).symm) (Bs_one _) (by omega) (by show _ * 1 ≤ _; omega) rfl (fun A51 cc51 => ?_)
     refine L.nm (by kernel_rfl) ?_; refine LM.f 11 rfl (by kernel_rfl) (Hq [0, 3, 2, 1] rfl) ?_
     refine L.append (j := 4) rfl rfl rfl rfl (by decide) rfl rfl rfl rfl (Src.r 1 rfl) ((I64_len _).trans (Nat.mul_one _).symm) (I64_one _) (by omega) (by show _ * 8 ≤ _; omega) rfl (fun A55 cc55 => ?_)
     refine L.nm (by kernel_rfl) ?_; refine LM.f 12 rfl (by kernel_rfl) (Hq [0, 3, 2, 1] rfl) ?_; refine L.step (Ev.build rfl rfl rfl rfl rfl rfl rfl) rfl ?_; refine L.norm (H' := [_, _, _, _, _]) [4, 3, 1, 2, 0] ⟨rfl, rfl, rfl, rfl, rfl, trivial⟩ (by decide) ?_; refine L.nm (by kernel_rfl) ?_
     rotate_left
     refine L.lit0S rfl rfl rfl rfl (fun A52 => ?_)
     refine L.nm (by kernel_rfl) ?_; refine LM.a2 3 4 (by kernel_rfl) (Hq [0, 3, 2, 1] rfl) rfl rfl ?_ ?_
     refine L.append (j := 1) rfl rfl rfl rfl (by decide) rfl rfl rfl rfl (Src.r 3 rfl) ((N32_len _).trans (Nat.mul_one _).symm) (N32_one _) (by omega) (by show _ * 4 ≤ _; omega) rfl (fun A47 cc47 => ?_)
     refine L.nm (by kernel_rfl) ?_; refine LM.f 4 rfl (by kernel_rfl) (Hq [0, 3, 2, 1] rfl) ?_
     refine L.lit0S rfl rfl rfl rfl (fun A48 => ?_)
     refine L.nm (by kernel_rfl) ?_; refine LM.f 7 rfl (by kernel_rfl) (Hq [0, 3, 2, 1] rfl) ?_
     refine L.append (j := 4) rfl rfl rfl rfl (by decide) rfl rfl rfl rfl (Src.r 2 rfl) ((Bs_len _).trans (Nat.mul_one _).symm) (Bs_one _) (by omega) (by show _ * 1 ≤ _; omega) rfl (fun A51 cc51 => ?_)
     refine L.nm (by kernel_rfl) ?_; refine LM.f 11 rfl (by kernel_rfl) (Hq [0, 3, 2, 1] rfl) ?_
     refine L.append (j := 3) rfl rfl rfl rfl (by decide) rfl rfl rfl rfl (Src.r 1 rfl) ((I64_len _).trans (Nat.mul_one _).symm) (I64_one _) (by omega) (by show _ * 8 ≤ _; omega) rfl (fun A55 cc55 => ?_)
     refine L.nm (by kernel_rfl) ?_; refine LM.f 12 rfl (by kernel_rfl) (Hq [0, 3, 2, 1] rfl) ?_; refine L.step (Ev.build rfl rfl rfl rfl rfl rfl rfl) rfl ?_; refine L.norm (H' := [_, _, _, _, _]) [3, 4, 1, 2, 0] ⟨rfl, rfl, rfl, rfl, rfl, trivial⟩ (by decide) ?_; refine L.nm (by kernel_rfl) ?_
     rotate_left
     refine L.lit0S rfl rfl rfl rfl (fun A48 => ?_)
     refine L.nm (by kernel_rfl) ?_; refine LM.f 3 rfl (by kernel_rfl) (Hq [0, 3, 2, 1] rfl) ?_
     refine L.append (j := 1) rfl rfl rfl rfl (by decide) rfl rfl rfl rfl (Src.r 3 rfl) ((N32_len _).trans (Nat.mul_one _).symm) (N32_one _) (by omega) (by show _ * 4 ≤ _; omega) rfl (fun A47 cc47 => ?_)
     refine L.nm (by kernel_rfl) ?_; refine LM.f 7 rfl (by kernel_rfl) (Hq [0, 3, 2, 1] rfl) ?_
     refine L.append (j := 4) rfl rfl rfl rfl (by decide) rfl rfl rfl rfl (Src.r 2 rfl) ((Bs_len _).trans (Nat.mul_one _).symm) (Bs_one _) (by omega) (by show _ * 1 ≤ _; omega) rfl (fun A51 cc51 => ?_)
     refine L.nm (by kernel_rfl) ?_; refine LM.f 11 rfl (by kernel_rfl) (Hq [0, 3, 2, 1] rfl) ?_
     refine L.append (j := 3) rfl rfl rfl rfl (by decide) rfl rfl rfl rfl (Src.r 1 rfl) ((I64_len _).trans (Nat.mul_one _).symm) (I64_one _) (by omega) (by show _ * 8 ≤ _; omega) rfl (fun A55 cc55 => ?_)
     refine L.nm (by kernel_rfl) ?_; refine LM.f 12 rfl (by kernel_rfl) (Hq [0, 3, 2, 1] rfl) ?_; refine L.step (Ev.build rfl rfl rfl rfl rfl rfl rfl) rfl ?_; refine L.norm (H' := [_, _, _, _, _]) [3, 4, 1, 2, 0] ⟨rfl, rfl, rfl, rfl, rfl, trivial⟩ (by decide) ?_; refine L.nm (by kernel_rfl) ?_
     rotate_left
     refine L.lit0S rfl rfl rfl rfl (fun A48 => ?_)
     refine L.nm (by kernel_rfl) ?_; refine LM.a3 0 8 13 (by kernel_rfl) (Hq [0, 3, 2, 1] rfl) rfl rfl rfl ?_ ?_ ?_
     refine L.lit0S rfl rfl rfl rfl (fun A44 => ?_)
     refine L.nm (by kernel_rfl) ?_; refine LM.a3 3 8 13 (by kernel_rfl) (Hq [0, 3, 2, 1] rfl) rfl rfl rfl ?_ ?_ ?_
     refine L.append (j := 2) rfl rfl rfl rfl (by decide) rfl rfl rfl rfl (Src.r 3 rfl) ((N32_len _).trans (Nat.mul_one _).symm) (N32_one _) (by omega) (by show _ * 4 ≤ _; omega) rfl (fun A47 cc47 => ?_)
     refine L.nm (by kernel_rfl) ?_; refine LM.a3 7 8 13 (by kernel_rfl) (Hq [0, 3, 2, 1] rfl) rfl rfl rfl ?_ ?_ ?_
     refine L.append (j := 1) rfl rfl rfl rfl (by decide) rfl rfl rfl rfl (Src.r 2 rfl) ((Bs_len _).trans (Nat.mul_one _).symm) (Bs_one _) (by omega) (by show _ * 1 ≤ _; omega) rfl (fun A51 cc51 => ?_)
     refine L.nm (by kernel_rfl) ?_; refine LM.a2 8 13 (by kernel_rfl) (Hq [0, 3, 2, 1] rfl) rfl rfl ?_ ?_
     refine L.lit0S rfl rfl rfl rfl (fun A52 => ?_)
     refine L.nm (by kernel_rfl) ?_; refine LM.a2 11 13 (by kernel_rfl) (Hq [0, 3, 2, 1] rfl) rfl rfl ?_ ?_
     refine L.append (j := 3) rfl rfl rfl rfl (by decide) rfl rfl rfl rfl (Src.r 1 rfl) ((I64_len _).trans (Nat.mul_one _).symm) (I64_one _) (by omega) (by show _ * 8 ≤ _; omega) rfl (fun A55 cc55 => ?_)
     refine L.nm (by kernel_rfl) ?_; refine LM.q 12 rfl (by kernel_rfl) (Ev.build rfl rfl rfl rfl rfl rfl rfl) rfl (Hq [0, 3, 2, 1] rfl) ?_; refine LM.f 13 rfl (by kernel_rfl) (Hq [0, 3, 2, 1] rfl) ?_
     refine L.alloc rfl rfl rfl (fun A10 => ?_)
     refine L.norm (H' := [_, _, _, _, _]) [3, 1, 2, 4, 0] ⟨rfl, rfl, rfl, rfl, rfl, trivial⟩ (by decide) ?_; refine L.nm (by kernel_rfl) ?_
     rotate_left
     refine L.alloc rfl rfl rfl (fun A10 => ?_)
     refine L.nm (by kernel_rfl) ?_; refine LM.f 11 rfl (by kernel_rfl) (Hq [0, 3, 2, 1] rfl) ?_
     refine L.append (j := 3) rfl rfl rfl rfl (by decide) rfl rfl rfl rfl (Src.r 1 rfl) ((I64_len _).trans (Nat.mul_one _).symm) (I64_one _) (by omega) (by show _ * 8 ≤ _; omega) rfl (fun A55 cc55 => ?_)
     refine L.nm (by kernel_rfl) ?_; refine LM.f 12 rfl (by kernel_rfl) (Hq [0, 3, 2, 1] rfl) ?_; refine L.step (Ev.build rfl rfl rfl rfl rfl rfl rfl) rfl ?_; refine L.norm (H' := [_, _, _, _, _]) [3, 1, 2, 4, 0] ⟨rfl, rfl, rfl, rfl, rfl, trivial⟩ (by decide) ?_; refine L.nm (by kernel_rfl) ?_
     rotate_left
     refine L.alloc rfl rfl rfl (fun A10 => ?_)
     refine L.nm (by kernel_rfl) ?_; refine LM.f 8 rfl (by kernel_rfl) (Hq [0, 3, 2, 1] rfl) ?_
     refine L.lit0S rfl rfl rfl rfl (fun A52 => ?_)
     refine L.nm (by kernel_rfl) ?_; refine LM.f 11 rfl (by kernel_rfl) (Hq [0, 3, 2, 1] rfl) ?_
     refine L.append (j := 4) rfl rfl rfl rfl (by decide) rfl rfl rfl rfl (Src.r 1 rfl) ((I64_len _).trans (Nat.mul_one _).symm) (I64_one _) (by omega) (by show _ * 8 ≤ _; omega) rfl (fun A55 cc55 => ?_)
     refine L.nm (by kernel_rfl) ?_; refine LM.f 12 rfl (by kernel_rfl) (Hq [0, 3, 2, 1] rfl) ?_; refine L.step (Ev.build rfl rfl rfl rfl rfl rfl rfl) rfl ?_; refine L.norm (H' := [_, _, _, _, _]) [4, 1, 2, 3, 0] ⟨rfl, rfl, rfl, rfl, rfl, trivial⟩ (by decide) ?_; refine L.nm (by kernel_rfl) ?_
     rotate_left
     refine L.lit0S rfl rfl rfl rfl (fun A52 => ?_)
     refine L.nm (by kernel_rfl) ?_; refine LM.a2 7 13 (by kernel_rfl) (Hq [0, 3, 2, 1] rfl) rfl rfl ?_ ?_
     refine L.append (j := 1) rfl rfl rfl rfl (by decide) rfl rfl rfl rfl (Src.r 2 rfl) ((Bs_len _).trans (Nat.mul_one _).symm) (Bs_one _) (by omega) (by show _ * 1 ≤ _; omega) rfl (fun A51 cc51 => ?_)
     refine L.nm (by kernel_rfl) ?_; refine LM.a2 11 13 (by kernel_rfl) (Hq [0, 3, 2, 1] rfl) rfl rfl ?_ ?_
     refine L.append (j := 3) rfl rfl rfl rfl (by decide) rfl rfl rfl rfl (Src.r 1 rfl) ((I64_len _).trans (Nat.mul_one _).symm) (I64_one _) (by omega) (by show _ * 8 ≤ _; omega) rfl (fun A55 cc55 => ?_)
     refine L.nm (by kernel_rfl) ?_; refine LM.q 12 rfl (by kernel_rfl) (Ev.build rfl rfl rfl rfl rfl rfl rfl) rfl (Hq [0, 3, 2, 1] rfl) ?_; refine LM.f 13 rfl (by kernel_rfl) (Hq [0, 3, 2, 1] rfl) ?_
     refine L.alloc rfl rfl rfl (fun A10 => ?_)
     refine L.norm (H' := [_, _, _, _, _]) [3, 1, 2, 4, 0] ⟨rfl, rfl, rfl, rfl, rfl, trivial⟩ (by decide) ?_; refine L.nm (by kernel_rfl) ?_
     rotate_left
     refine L.alloc rfl rfl rfl (fun A10 => ?_)
     refine L.nm (by kernel_rfl) ?_; refine LM.f 11 rfl (by kernel_rfl) (Hq [0, 3, 2, 1] rfl) ?_
     refine L.append (j := 3) rfl rfl rfl rfl (by decide) rfl rfl rfl rfl (Src.r 1 rfl) ((I64_len _).trans (Nat.mul_one _).symm) (I64_one _) (by omega) (by show _ * 8 ≤ _; omega) rfl (fun A55 cc55 => ?_)
     refine L.nm (by kernel_rfl) ?_; refine LM.f 12 rfl (by kernel_rfl) (Hq [0, 3, 2, 1] rfl) ?_; refine L.step (Ev.build rfl rfl rfl rfl rfl rfl rfl) rfl ?_; refine L.norm (H' := [_, _, _, _, _]) [3, 1, 2, 4, 0] ⟨rfl, rfl, rfl, rfl, rfl, trivial⟩ (by decide) ?_; refine L.nm (by kernel_rfl) ?_
     rotate_left
     refine L.alloc rfl rfl rfl (fun A10 => ?_)
     refine L.nm (by kernel_rfl) ?_; refine LM.f 7 rfl (by kernel_rfl) (Hq [0, 3, 2, 1] rfl) ?_
     refine L.append (j := 1) rfl rfl rfl rfl (by decide) rfl rfl rfl rfl (Src.r 2 rfl) ((Bs_len _).trans (Nat.mul_one _).symm) (Bs_one _) (by omega) (by show _ * 1 ≤ _; omega) rfl (fun A51 cc51 => ?_)
     refine L.nm (by kernel_rfl) ?_; refine LM.f 11 rfl (by kernel_rfl) (Hq [0, 3, 2, 1] rfl) ?_
     refine L.append (j := 3) rfl rfl rfl rfl (by decide) rfl rfl rfl rfl (Src.r 1 rfl) ((I64_len _).trans (Nat.mul_one _).symm) (I64_one _) (by omega) (by show _ * 8 ≤ _; omega) rfl (fun A55 cc55 => ?_)
     refine L.nm (by kernel_rfl) ?_; refine LM.f 12 rfl (by kernel_rfl) (Hq [0, 3, 2, 1] rfl) ?_; refine L.step (Ev.build rfl rfl rfl rfl rfl rfl rfl) rfl ?_; refine L.norm (H' := [_, _, _, _, _]) [3, 1, 2, 4, 0] ⟨rfl, rfl, rfl, rfl, rfl, trivial⟩ (by decide) ?_; refine L.nm (by kernel_rfl) ?_
     rotate_left
     refine L.alloc rfl rfl rfl (fun A10 => ?_)
     refine L.nm (by kernel_rfl) ?_; refine LM.a2 7 8 (by kernel_rfl) (Hq [0, 3, 2, 1] rfl) rfl rfl ?_ ?_
     refine L.append (j := 1) rfl rfl rfl rfl (by decide) rfl rfl rfl rfl (Src.r 2 rfl) ((Bs_len _).trans (Nat.mul_one _).symm) (Bs_one _) (by omega) (by show _ * 1 ≤ _; omega) rfl (fun A51 cc51 => ?_)
     refine L.nm (by kernel_rfl) ?_; refine LM.f 8 rfl (by kernel_rfl) (Hq [0, 3, 2, 1] rfl) ?_
     refine L.lit0S rfl rfl rfl rfl (fun A52 => ?_)
     refine L.nm (by kernel_rfl) ?_; refine LM.f 11 rfl (by kernel_rfl) (Hq [0, 3, 2, 1] rfl) ?_
     refine L.append (j := 4) rfl rfl rfl rfl (by decide) rfl rfl rfl rfl (Src.r 1 rfl) ((I64_len _).trans (Nat.mul_one _).symm) (I64_one _) (by omega) (by show _ * 8 ≤ _; omega) rfl (fun A55 cc55 => ?_)
     refine L.nm (by kernel_rfl) ?_; refine LM.f 12 rfl (by kernel_rfl) (Hq [0, 3, 2, 1] rfl) ?_; refine L.step (Ev.build rfl rfl rfl rfl rfl rfl rfl) rfl ?_; refine L.norm (H' := [_, _, _, _, _]) [4, 1, 2, 3, 0] ⟨rfl, rfl, rfl, rfl, rfl, trivial⟩ (by decide) ?_; refine L.nm (by kernel_rfl) ?_
     rotate_left
     refine L.lit0S rfl rfl rfl rfl (fun A52 => ?_)
     refine L.nm (by kernel_rfl) ?_; refine LM.f 7 rfl (by kernel_rfl) (Hq [0, 3, 2, 1] rfl) ?_
     refine L.append (j := 1) rfl rfl rfl rfl (by decide) rfl rfl rfl rfl (Src.r 2 rfl) ((Bs_len _).trans (Nat.mul_one _).symm) (Bs_one _) (by omega) (by show _ * 1 ≤ _; omega) rfl (fun A51 cc51 => ?_)
     refine L.nm (by kernel_rfl) ?_; refine LM.f 11 rfl (by kernel_rfl) (Hq [0, 3, 2, 1] rfl) ?_
     refine L.append (j := 4) rfl rfl rfl rfl (by decide) rfl rfl rfl rfl (Src.r 1 rfl) ((I64_len _).trans (Nat.mul_one _).symm) (I64_one _) (by omega) (by show _ * 8 ≤ _; omega) rfl (fun A55 cc55 => ?_)
     refine L.nm (by kernel_rfl) ?_; refine LM.f 12 rfl (by kernel_rfl) (Hq [0, 3, 2, 1] rfl) ?_; refine L.step (Ev.build rfl rfl rfl rfl rfl rfl rfl) rfl ?_; refine L.norm (H' := [_, _, _, _, _]) [4, 1, 2, 3, 0] ⟨rfl, rfl, rfl, rfl, rfl, trivial⟩ (by decide) ?_; refine L.nm (by kernel_rfl) ?_
     rotate_left
     refine L.lit0S rfl rfl rfl rfl (fun A52 => ?_)
     refine L.nm (by kernel_rfl) ?_; refine LM.a2 3 13 (by kernel_rfl) (Hq [0, 3, 2, 1] rfl) rfl rfl ?_ ?_
     refine L.append (j := 2) rfl rfl rfl rfl (by decide) rfl rfl rfl rfl (Src.r 3 rfl) ((N32_len _).trans (Nat.mul_one _).symm) (N32_one _) (by omega) (by show _ * 4 ≤ _; omega) rfl (fun A47 cc47 => ?_)
     refine L.nm (by kernel_rfl) ?_; refine LM.a2 7 13 (by kernel_rfl) (Hq [0, 3, 2, 1] rfl) rfl rfl ?_ ?_
     refine L.append (j := 1) rfl rfl rfl rfl (by decide) rfl rfl rfl rfl (Src.r 2 rfl) ((Bs_len _).trans (Nat.mul_one _).symm) (Bs_one _) (by omega) (by show _ * 1 ≤ _; omega) rfl (fun A51 cc51 => ?_)
     refine L.nm (by kernel_rfl) ?_; refine LM.a2 11 13 (by kernel_rfl) (Hq [0, 3, 2, 1] rfl) rfl rfl ?_ ?_
     refine L.append (j := 3) rfl rfl rfl rfl (by decide) rfl rfl rfl rfl (Src.r 1 rfl) ((I64_len _).trans (Nat.mul_one _).symm) (I64_one _) (by omega) (by show _ * 8 ≤ _; omega) rfl (fun A55 cc55 => ?_)
     refine L.nm (by kernel_rfl) ?_; refine LM.q 12 rfl (by kernel_rfl) (Ev.build rfl rfl rfl rfl rfl rfl rfl) rfl (Hq [0, 3, 2, 1] rfl) ?_; refine LM.f 13 rfl (by kernel_rfl) (Hq [0, 3, 2, 1] rfl) ?_
     refine L.alloc rfl rfl rfl (fun A10 => ?_)
     refine L.norm (H' := [_, _, _, _, _]) [3, 1, 2, 4, 0] ⟨rfl, rfl, rfl, rfl, rfl, trivial⟩ (by decide) ?_; refine L.nm (by kernel_rfl) ?_
     rotate_left
     refine L.alloc rfl rfl rfl (fun A10 => ?_)
     refine L.nm (by kernel_rfl) ?_; refine LM.f 11 rfl (by kernel_rfl) (Hq [0, 3, 2, 1] rfl) ?_
     refine L.append (j := 3) rfl rfl rfl rfl (by decide) rfl rfl rfl rfl (Src.r 1 rfl) ((I64_len _).trans (Nat.mul_one _).symm) (I64_one _) (by omega) (by show _ * 8 ≤ _; omega) rfl (fun A55 cc55 => ?_)
     refine L.nm (by kernel_rfl) ?_; refine LM.f 12 rfl (by kernel_rfl) (Hq [0, 3, 2, 1] rfl) ?_; refine L.step (Ev.build rfl rfl rfl rfl rfl rfl rfl) rfl ?_; refine L.norm (H' := [_, _, _, _, _]) [3, 1, 2, 4, 0] ⟨rfl, rfl, rfl, rfl, rfl, trivial⟩ (by decide) ?_; refine L.nm (by kernel_rfl) ?_
     rotate_left
     refine L.alloc rfl rfl rfl (fun A10 => ?_)
     refine L.nm (by kernel_rfl) ?_; refine LM.f 7 rfl (by kernel_rfl) (Hq [0, 3, 2, 1] rfl) ?_
     refine L.append (j := 1) rfl rfl rfl rfl (by decide) rfl rfl rfl rfl (Src.r 2 rfl) ((Bs_len _).trans (Nat.mul_one _).symm) (Bs_one _) (by omega) (by show _ * 1 ≤ _; omega) rfl (fun A51 cc51 => ?_)
     refine L.nm (by kernel_rfl) ?_; refine LM.f 11 rfl (by kernel_rfl) (Hq [0, 3, 2, 1] rfl) ?_
     refine L.append (j := 3) rfl rfl rfl rfl (by decide) rfl rfl rfl rfl (Src.r 1 rfl) ((I64_len _).trans (Nat.mul_one _).symm) (I64_one _) (by omega) (by show _ * 8 ≤ _; omega) rfl (fun A55 cc55 => ?_)
     refine L.nm (by kernel_rfl) ?_; refine LM.f 12 rfl (by kernel_rfl) (Hq [0, 3, 2, 1] rfl) ?_; refine L.step (Ev.build rfl rfl rfl rfl rfl rfl rfl) rfl ?_; refine L.norm (H' := [_, _, _, _, _]) [3, 1, 2, 4, 0] ⟨rfl, rfl, rfl, rfl, rfl, trivial⟩ (by decide) ?_; refine L.nm (by kernel_rfl) ?_
     rotate_left
     refine L.alloc rfl rfl rfl (fun A10 => ?_)
     refine L.nm (by kernel_rfl) ?_; refine LM.f 3 rfl (by kernel_rfl) (Hq [0, 3, 2, 1] rfl) ?_
     refine L.append (j := 2) rfl rfl rfl rfl (by decide) rfl rfl rfl rfl (Src.r 3 rfl) ((N32_len _).trans (Nat.mul_one _).symm) (N32_one _) (by omega) (by show _ * 4 ≤ _; omega) rfl (fun A47 cc47 => ?_)
     refine L.nm (by kernel_rfl) ?_; refine LM.f 7 rfl (by kernel_rfl) (Hq [0, 3, 2, 1] rfl) ?_
     refine L.append (j := 1) rfl rfl rfl rfl (by decide) rfl rfl rfl rfl (Src.r 2 rfl) ((Bs_len _).trans (Nat.mul_one _).symm) (Bs_one _) (by omega) (by show _ * 1 ≤ _; omega) rfl (fun A51 cc51 => ?_)
     refine L.nm (by kernel_rfl) ?_; refine LM.f 11 rfl (by kernel_rfl) (Hq [0, 3, 2, 1] rfl) ?_
     refine L.append (j := 3) rfl rfl rfl rfl (by decide) rfl rfl rfl rfl (Src.r 1 rfl) ((I64_len _).trans (Nat.mul_one _).symm) (I64_one _) (by omega) (by show _ * 8 ≤ _; omega) rfl (fun A55 cc55 => ?_)
     refine L.nm (by kernel_rfl) ?_; refine LM.f 12 rfl (by kernel_rfl) (Hq [0, 3, 2, 1] rfl) ?_; refine L.step (Ev.build rfl rfl rfl rfl rfl rfl rfl) rfl ?_; refine L.norm (H' := [_, _, _, _, _]) [3, 1, 2, 4, 0] ⟨rfl, rfl, rfl, rfl, rfl, trivial⟩ (by decide) ?_; refine L.nm (by kernel_rfl) ?_
     rotate_left
     refine L.alloc rfl rfl rfl (fun A10 => ?_)
     refine L.nm (by kernel_rfl) ?_; refine LM.a2 3 8 (by kernel_rfl) (Hq [0, 3, 2, 1] rfl) rfl rfl ?_ ?_
     refine L.append (j := 2) rfl rfl rfl rfl (by decide) rfl rfl rfl rfl (Src.r 3 rfl) ((N32_len _).trans (Nat.mul_one _).symm) (N32_one _) (by omega) (by show _ * 4 ≤ _; omega) rfl (fun A47 cc47 => ?_)
     refine L.nm (by kernel_rfl) ?_; refine LM.a2 7 8 (by kernel_rfl) (Hq [0, 3, 2, 1] rfl) rfl rfl ?_ ?_
     refine L.append (j := 1) rfl rfl rfl rfl (by decide) rfl rfl rfl rfl (Src.r 2 rfl) ((Bs_len _).trans (Nat.mul_one _).symm) (Bs_one _) (by omega) (by show _ * 1 ≤ _; omega) rfl (fun A51 cc51 => ?_)
     refine L.nm (by kernel_rfl) ?_; refine LM.f 8 rfl (by kernel_rfl) (Hq [0, 3, 2, 1] rfl) ?_
     refine L.lit0S rfl rfl rfl rfl (fun A52 => ?_)
     refine L.nm (by kernel_rfl) ?_; refine LM.f 11 rfl (by kernel_rfl) (Hq [0, 3, 2, 1] rfl) ?_
     refine L.append (j := 4) rfl rfl rfl rfl (by decide) rfl rfl rfl rfl (Src.r 1 rfl) ((I64_len _).trans (Nat.mul_one _).symm) (I64_one _) (by omega) (by show _ * 8 ≤ _; omega) rfl (fun A55 cc55 => ?_)
     refine L.nm (by kernel_rfl) ?_; refine LM.f 12 rfl (by kernel_rfl) (Hq [0, 3, 2, 1] rfl) ?_; refine L.step (Ev.build rfl rfl rfl rfl rfl rfl rfl) rfl ?_; refine L.norm (H' := [_, _, _, _, _]) [4, 1, 2, 3, 0] ⟨rfl, rfl, rfl, rfl, rfl, trivial⟩ (by decide) ?_; refine L.nm (by kernel_rfl) ?_
     rotate_left
     refine L.lit0S rfl rfl rfl rfl (fun A52 => ?_)
     refine L.nm (by kernel_rfl) ?_; refine LM.f 7 rfl (by kernel_rfl) (Hq [0, 3, 2, 1] rfl) ?_
     refine L.append (j := 1) rfl rfl rfl rfl (by decide) rfl rfl rfl rfl (Src.r 2 rfl) ((Bs_len _).trans (Nat.mul_one _).symm) (Bs_one _) (by omega) (by show _ * 1 ≤ _; omega) rfl (fun A51 cc51 => ?_)
     refine L.nm (by kernel_rfl) ?_; refine LM.f 11 rfl (by kernel_rfl) (Hq [0, 3, 2, 1] rfl) ?_
     refine L.append (j := 4) rfl rfl rfl rfl (by decide) rfl rfl rfl rfl (Src.r 1 rfl) ((I64_len _).trans (Nat.mul_one _).symm) (I64_one _) (by omega) (by show _ * 8 ≤ _; omega) rfl (fun A55 cc55 => ?_)
     refine L.nm (by kernel_rfl) ?_; refine LM.f 12 rfl (by kernel_rfl) (Hq [0, 3, 2, 1] rfl) ?_; refine L.step (Ev.build rfl rfl rfl rfl rfl rfl rfl) rfl ?_; refine L.norm (H' := [_, _, _, _, _]) [4, 1, 2, 3, 0] ⟨rfl, rfl, rfl, rfl, rfl, trivial⟩ (by decide) ?_; refine L.nm (by kernel_rfl) ?_
     rotate_left
     refine L.lit0S rfl rfl rfl rfl (fun A52 => ?_)
     refine L.nm (by kernel_rfl) ?_; refine LM.f 3 rfl (by kernel_rfl) (Hq [0, 3, 2, 1] rfl) ?_
     refine L.append (j := 2) rfl rfl rfl rfl (by decide) rfl rfl rfl rfl (Src.r 3 rfl) ((N32_len _).trans (Nat.mul_one _).symm) (N32_one _) (by omega) (by show _ * 4 ≤ _; omega) rfl (fun A47 cc47 => ?_)
     refine L.nm (by kernel_rfl) ?_; refine LM.f 7 rfl (by kernel_rfl) (Hq [0, 3, 2, 1] rfl) ?_
     refine L.append (j := 1) rfl rfl rfl rfl (by decide) rfl rfl rfl rfl (Src.r 2 rfl) ((Bs_len _).trans (Nat.mul_one _).symm) (Bs_one _) (by omega) (by show _ * 1 ≤ _; omega) rfl (fun A51 cc51 => ?_)
     refine L.nm (by kernel_rfl) ?_; refine LM.f 11 rfl (by kernel_rfl) (Hq [0, 3, 2, 1] rfl) ?_
     refine L.append (j := 4) rfl rfl rfl rfl (by decide) rfl rfl rfl rfl (Src.r 1 rfl) ((I64_len _).trans (Nat.mul_one _).symm) (I64_one _) (by omega) (by show _ * 8 ≤ _; omega) rfl (fun A55 cc55 => ?_)
     refine L.nm (by kernel_rfl) ?_; refine LM.f 12 rfl (by kernel_rfl) (Hq [0, 3, 2, 1] rfl) ?_; refine L.step (Ev.build rfl rfl rfl rfl rfl rfl rfl) rfl ?_; refine L.norm (H' := [_, _, _, _, _]) [4, 1, 2, 3, 0] ⟨rfl, rfl, rfl, rfl, rfl, trivial⟩ (by decide) ?_; refine L.nm (by kernel_rfl) ?_
     rotate_left
     refine L.lit0S rfl rfl rfl rfl (fun A52 => ?_)
     refine L.nm (by kernel_rfl) ?_; refine LM.a2 0 13 (by kernel_rfl) (Hq [0, 3, 2, 1] rfl) rfl rfl ?_ ?_
     refine L.lit0S rfl rfl rfl rfl (fun A44 => ?_)
     refine L.nm (by kernel_rfl) ?_; refine LM.a2 3 13 (by kernel_rfl) (Hq [0, 3, 2, 1] rfl) rfl rfl ?_ ?_
     refine L.append (j := 3) rfl rfl rfl rfl (by decide) rfl rfl rfl rfl (Src.r 3 rfl) ((N32_len _).trans (Nat.mul_one _).symm) (N32_one _) (by omega) (by show _ * 4 ≤ _; omega) rfl (fun A47 cc47 => ?_)
     refine L.nm (by kernel_rfl) ?_; refine LM.a2 7 13 (by kernel_rfl) (Hq [0, 3, 2, 1] rfl) rfl rfl ?_ ?_
     refine L.append (j := 1) rfl rfl rfl rfl (by decide) rfl rfl rfl rfl (Src.r 2 rfl) ((Bs_len _).trans (Nat.mul_one _).symm) (Bs_one _) (by omega) (by show _ * 1 ≤ _; omega) rfl (fun A51 cc51 => ?_)
     refine L.nm (by kernel_rfl) ?_; refine LM.a2 11 13 (by kernel_rfl) (Hq [0, 3, 2, 1] rfl) rfl rfl ?_ ?_
     refine L.append (j := 2) rfl rfl rfl rfl (by decide) rfl rfl rfl rfl (Src.r 1 rfl) ((I64_len _).trans (Nat.mul_one _).symm) (I64_one _) (by omega) (by show _ * 8 ≤ _; omega) rfl (fun A55 cc55 => ?_)
     refine L.nm (by kernel_rfl) ?_; refine LM.q 12 rfl (by kernel_rfl) (Ev.build rfl rfl rfl rfl rfl rfl rfl) rfl (Hq [0, 3, 2, 1] rfl) ?_; refine LM.f 13 rfl (by kernel_rfl) (Hq [0, 3, 2, 1] rfl) ?_
     refine L.alloc rfl rfl rfl (fun A10 => ?_)
     refine L.norm (H' := [_, _, _, _, _]) [2, 1, 3, 4, 0] ⟨rfl, rfl, rfl, rfl, rfl, trivial⟩ (by decide) ?_; refine L.nm (by kernel_rfl) ?_
     rotate_left
     refine L.alloc rfl rfl rfl (fun A10 => ?_)
     refine L.nm (by kernel_rfl) ?_; refine LM.f 11 rfl (by kernel_rfl) (Hq [0, 3, 2, 1] rfl) ?_
     refine L.append (j := 2) rfl rfl rfl rfl (by decide) rfl rfl rfl rfl (Src.r 1 rfl) ((I64_len _).trans (Nat.mul_one _).symm) (I64_one _) (by omega) (by show _ * 8 ≤ _; omega) rfl (fun A55 cc55 => ?_)
     refine L.nm (by kernel_rfl) ?_; refine LM.f 12 rfl (by kernel_rfl) (Hq [0, 3, 2, 1] rfl) ?_; refine L.step (Ev.build rfl rfl rfl rfl rfl rfl rfl) rfl ?_; refine L.norm (H' := [_, _, _, _, _]) [2, 1, 3, 4, 0] ⟨rfl, rfl, rfl, rfl, rfl, trivial⟩ (by decide) ?_; refine L.nm (by kernel_rfl) ?_
     rotate_left
     refine L.alloc rfl rfl rfl (fun A10 => ?_)
     refine L.nm (by kernel_rfl) ?_; refine LM.f 7 rfl (by kernel_rfl) (Hq [0, 3, 2, 1] rfl) ?_
     refine L.append (j := 1) rfl rfl rfl rfl (by decide) rfl rfl rfl rfl (Src.r 2 rfl) ((Bs_len _).trans (Nat.mul_one _).symm) (Bs_one _) (by omega) (by show _ * 1 ≤ _; omega) rfl (fun A51 cc51 => ?_)
     refine L.nm (by kernel_rfl) ?_; refine LM.f 11 rfl (by kernel_rfl) (Hq [0, 3, 2, 1] rfl) ?_
     refine L.append (j := 2) rfl rfl rfl rfl (by decide) rfl rfl rfl rfl (Src.r 1 rfl) ((I64_len _).trans (Nat.mul_one _).symm) (I64_one _) (by omega) (by show _ * 8 ≤ _; omega) rfl (fun A55 cc55 => ?_)
     refine L.nm (by kernel_rfl) ?_; refine LM.f 12 rfl (by kernel_rfl) (Hq [0, 3, 2, 1] rfl) ?_; refine L.step (Ev.build rfl rfl rfl rfl rfl rfl rfl) rfl ?_; refine L.norm (H' := [_, _, _, _, _]) [2, 1, 3, 4, 0] ⟨rfl, rfl, rfl, rfl, rfl, trivial⟩ (by decide) ?_; refine L.nm (by kernel_rfl) ?_
     rotate_left
     refine L.alloc rfl rfl rfl (fun A10 => ?_)
     refine L.nm (by kernel_rfl) ?_; refine LM.f 3 rfl (by kernel_rfl) (Hq [0, 3, 2, 1] rfl) ?_
     refine L.append (j := 3) rfl rfl rfl rfl (by decide) rfl rfl rfl rfl (Src.r 3 rfl) ((N32_len _).trans (Nat.mul_one _).symm) (N32_one _) (by omega) (by show _ * 4 ≤ _; omega) rfl (fun A47 cc47 => ?_)
     refine L.nm (by kernel_rfl) ?_; refine LM.f 7 rfl (by kernel_rfl) (Hq [0, 3, 2, 1] rfl) ?_
     refine L.append (j := 1) rfl rfl rfl rfl (by decide) rfl rfl rfl rfl (Src.r 2 rfl) ((Bs_len _).trans (Nat.mul_one _).symm) (Bs_one _) (by omega) (by show _ * 1 ≤ _; omega) rfl (fun A51 cc51 => ?_)
     refine L.nm (by kernel_rfl) ?_; refine LM.f 11 rfl (by kernel_rfl) (Hq [0, 3, 2, 1] rfl) ?_
     refine L.append (j := 2) rfl rfl rfl rfl (by decide) rfl rfl rfl rfl (Src.r 1 rfl) ((I64_len _).trans (Nat.mul_one _).symm) (I64_one _) (by omega) (by show _ * 8 ≤ _; omega) rfl (fun A55 cc55 => ?_)
     refine L.nm (by kernel_rfl) ?_; refine LM.f 12 rfl (by kernel_rfl) (Hq [0, 3, 2, 1] rfl) ?_; refine L.step (Ev.build rfl rfl rfl rfl rfl rfl rfl) rfl ?_; refine L.norm (H' := [_, _, _, _, _]) [2, 1, 3, 4, 0] ⟨rfl, rfl, rfl, rfl, rfl, trivial⟩ (by decide) ?_; refine L.nm (by kernel_rfl) ?_
     rotate_left
     refine L.alloc rfl rfl rfl (fun A10 => ?_)
     refine L.nm (by kernel_rfl) ?_; refine LM.f 0 rfl (by kernel_rfl) (Hq [0, 3, 2, 1] rfl) ?_
     refine L.lit0S rfl rfl rfl rfl (fun A44 => ?_)
     refine L.nm (by kernel_rfl) ?_; refine LM.f 3 rfl (by kernel_rfl) (Hq [0, 3, 2, 1] rfl) ?_
     refine L.append (j := 4) rfl rfl rfl rfl (by decide) rfl rfl rfl rfl (Src.r 3 rfl) ((N32_len _).trans (Nat.mul_one _).symm) (N32_one _) (by omega) (by show _ * 4 ≤ _; omega) rfl (fun A47 cc47 => ?_)
     refine L.nm (by kernel_rfl) ?_; refine LM.f 7 rfl (by kernel_rfl) (Hq [0, 3, 2, 1] rfl) ?_
     refine L.append (j := 1) rfl rfl rfl rfl (by decide) rfl rfl rfl rfl (Src.r 2 rfl) ((Bs_len _).trans (Nat.mul_one _).symm) (Bs_one _) (by omega) (by show _ * 1 ≤ _; omega) rfl (fun A51 cc51 => ?_)
     refine L.nm (by kernel_rfl) ?_; refine LM.f 11 rfl (by kernel_rfl) (Hq [0, 3, 2, 1] rfl) ?_
     refine L.append (j := 2) rfl rfl rfl rfl (by decide) rfl rfl rfl rfl (Src.r 1 rfl) ((I64_len _).trans (Nat.mul_one _).symm) (I64_one _) (by omega) (by show _ * 8 ≤ _; omega) rfl (fun A55 cc55 => ?_)
     refine L.nm (by kernel_rfl) ?_; refine LM.f 12 rfl (by kernel_rfl) (Hq [0, 3, 2, 1] rfl) ?_; refine L.step (Ev.build rfl rfl rfl rfl rfl rfl rfl) rfl ?_; refine L.norm (H' := [_, _, _, _, _]) [2, 1, 4, 3, 0] ⟨rfl, rfl, rfl, rfl, rfl, trivial⟩ (by decide) ?_; refine L.nm (by kernel_rfl) ?_
     rotate_left
     refine L.alloc rfl rfl rfl (fun A10 => ?_)
     refine L.nm (by kernel_rfl) ?_; refine LM.a2 0 8 (by kernel_rfl) (Hq [0, 3, 2, 1] rfl) rfl rfl ?_ ?_
     refine L.lit0S rfl rfl rfl rfl (fun A44 => ?_)
     refine L.nm (by kernel_rfl) ?_; refine LM.a2 3 8 (by kernel_rfl) (Hq [0, 3, 2, 1] rfl) rfl rfl ?_ ?_
     refine L.append (j := 3) rfl rfl rfl rfl (by decide) rfl rfl rfl rfl (Src.r 3 rfl) ((N32_len _).trans (Nat.mul_one _).symm) (N32_one _) (by omega) (by show _ * 4 ≤ _; omega) rfl (fun A47 cc47 => ?_)
     refine L.nm (by kernel_rfl) ?_; refine LM.a2 7 8 (by kernel_rfl) (Hq [0, 3, 2, 1] rfl) rfl rfl ?_ ?_
     refine L.append (j := 1) rfl rfl rfl rfl (by decide) rfl rfl rfl rfl (Src.r 2 rfl) ((Bs_len _).trans (Nat.mul_one _).symm) (Bs_one _) (by omega) (by show _ * 1 ≤ _; omega) rfl (fun A51 cc51 => ?_)
     refine L.nm (by kernel_rfl) ?_; refine LM.f 8 rfl (by kernel_rfl) (Hq [0, 3, 2, 1] rfl) ?_
     refine L.lit0S rfl rfl rfl rfl (fun A52 => ?_)
     refine L.nm (by kernel_rfl) ?_; refine LM.f 11 rfl (by kernel_rfl) (Hq [0, 3, 2, 1] rfl) ?_
     refine L.append (j := 4) rfl rfl rfl rfl (by decide) rfl rfl rfl rfl (Src.r 1 rfl) ((I64_len _).trans (Nat.mul_one _).symm) (I64_one _) (by omega) (by show _ * 8 ≤ _; omega) rfl (fun A55 cc55 => ?_)
     refine L.nm (by kernel_rfl) ?_; refine LM.f 12 rfl (by kernel_rfl) (Hq [0, 3, 2, 1] rfl) ?_; refine L.step (Ev.build rfl rfl rfl rfl rfl rfl rfl) rfl ?_; refine L.norm (H' := [_, _, _, _, _]) [4, 1, 3, 2, 0] ⟨rfl, rfl, rfl, rfl, rfl, trivial⟩ (by decide) ?_; refine L.nm (by kernel_rfl) ?_
     rotate_left
     refine L.lit0S rfl rfl rfl rfl (fun A52 => ?_)
     refine L.nm (by kernel_rfl) ?_; refine LM.f 7 rfl (by kernel_rfl) (Hq [0, 3, 2, 1] rfl) ?_
     refine L.append (j := 1) rfl rfl rfl rfl (by decide) rfl rfl rfl rfl (Src.r 2 rfl) ((Bs_len _).trans (Nat.mul_one _).symm) (Bs_one _) (by omega) (by show _ * 1 ≤ _; omega) rfl (fun A51 cc51 => ?_)
     refine L.nm (by kernel_rfl) ?_; refine LM.f 11 rfl (by kernel_rfl) (Hq [0, 3, 2, 1] rfl) ?_
     refine L.append (j := 4) rfl rfl rfl rfl (by decide) rfl rfl rfl rfl (Src.r 1 rfl) ((I64_len _).trans (Nat.mul_one _).symm) (I64_one _) (by omega) (by show _ * 8 ≤ _; omega) rfl (fun A55 cc55 => ?_)
     refine L.nm (by kernel_rfl) ?_; refine LM.f 12 rfl (by kernel_rfl) (Hq [0, 3, 2, 1] rfl) ?_; refine L.step (Ev.build rfl rfl rfl rfl rfl rfl rfl) rfl ?_; refine L.norm (H' := [_, _, _, _, _]) [4, 1, 3, 2, 0] ⟨rfl, rfl, rfl, rfl, rfl, trivial⟩ (by decide) ?_; refine L.nm (by kernel_rfl) ?_
     rotate_left
     refine L.lit0S rfl rfl rfl rfl (fun A52 => ?_)
     refine L.nm (by kernel_rfl) ?_; refine LM.f 3 rfl (by kernel_rfl) (Hq [0, 3, 2, 1] rfl) ?_
     refine L.append (j := 3) rfl rfl rfl rfl (by decide) rfl rfl rfl rfl (Src.r 3 rfl) ((N32_len _).trans (Nat.mul_one _).symm) (N32_one _) (by omega) (by show _ * 4 ≤ _; omega) rfl (fun A47 cc47 => ?_)
     refine L.nm (by kernel_rfl) ?_; refine LM.f 7 rfl (by kernel_rfl) (Hq [0, 3, 2, 1] rfl) ?_
     refine L.append (j := 1) rfl rfl rfl rfl (by decide) rfl rfl rfl rfl (Src.r 2 rfl) ((Bs_len _).trans (Nat.mul_one _).symm) (Bs_one _) (by omega) (by show _ * 1 ≤ _; omega) rfl (fun A51 cc51 => ?_)
     refine L.nm (by kernel_rfl) ?_; refine LM.f 11 rfl (by kernel_rfl) (Hq [0, 3, 2, 1] rfl) ?_
     refine L.append (j := 4) rfl rfl rfl rfl (by decide) rfl rfl rfl rfl (Src.r 1 rfl) ((I64_len _).trans (Nat.mul_one _).symm) (I64_one _) (by omega) (by show _ * 8 ≤ _; omega) rfl (fun A55 cc55 => ?_)
     refine L.nm (by kernel_rfl) ?_; refine LM.f 12 rfl (by kernel_rfl) (Hq [0, 3, 2, 1] rfl) ?_; refine L.step (Ev.build rfl rfl rfl rfl rfl rfl rfl) rfl ?_; refine L.norm (H' := [_, _, _, _, _]) [4, 1, 3, 2, 0] ⟨rfl, rfl, rfl, rfl, rfl, trivial⟩ (by decide) ?_; refine L.nm (by kernel_rfl) ?_
     rotate_left
     refine L.lit0S rfl rfl rfl rfl (fun A52 => ?_)
     refine L.nm (by kernel_rfl) ?_; refine LM.f 0 rfl (by kernel_rfl) (Hq [0, 3, 2, 1] rfl) ?_
     refine L.lit0S rfl rfl rfl rfl (fun A44 => ?_)
     refine L.nm (by kernel_rfl) ?_; refine LM.f 3 rfl (by kernel_rfl) (Hq [0, 3, 2, 1] rfl) ?_
     refine L.append (j := 4) rfl rfl rfl rfl (by decide) rfl rfl rfl rfl (Src.r 3 rfl) ((N32_len _).trans (Nat.mul_one _).symm) (N32_one _) (by omega) (by show _ * 4 ≤ _; omega) rfl (fun A47 cc47 => ?_)
     refine L.nm (by kernel_rfl) ?_; refine LM.f 7 rfl (by kernel_rfl) (Hq [0, 3, 2, 1] rfl) ?_
     refine L.append (j := 1) rfl rfl rfl rfl (by decide) rfl rfl rfl rfl (Src.r 2 rfl) ((Bs_len _).trans (Nat.mul_one _).symm) (Bs_one _) (by omega) (by show _ * 1 ≤ _; omega) rfl (fun A51 cc51 => ?_)
     refine L.nm (by kernel_rfl) ?_; refine LM.f 11 rfl (by kernel_rfl) (Hq [0, 3, 2, 1] rfl) ?_
     refine L.append (j := 3) rfl rfl rfl rfl (by decide) rfl rfl rfl rfl (Src.r 1 rfl) ((I64_len _).trans (Nat.mul_one _).symm) (I64_one _) (by omega) (by show _ * 8 ≤ _; omega) rfl (fun A55 cc55 => ?_)
     refine L.nm (by kernel_rfl) ?_; refine LM.f 12 rfl (by kernel_rfl) (Hq [0, 3, 2, 1] rfl) ?_; refine L.step (Ev.build rfl rfl rfl rfl rfl rfl rfl) rfl ?_; refine L.norm (H' := [_, _, _, _, _]) [3, 1, 4, 2, 0] ⟨rfl, rfl, rfl, rfl, rfl, trivial⟩ (by decide) ?_; refine L.nm (by kernel_rfl) ?_
     rotate_left
     refine L.lit0S rfl rfl rfl rfl (fun A52 => ?_)
     refine L.nm (by kernel_rfl) ?_; refine LM.a3 0 4 13 (by kernel_rfl) (Hq [0, 3, 2, 1] rfl) rfl rfl rfl ?_ ?_ ?_
     refine L.lit0S rfl rfl rfl rfl (fun A44 => ?_)
     refine L.nm (by kernel_rfl) ?_; refine LM.a3 3 4 13 (by kernel_rfl) (Hq [0, 3, 2, 1] rfl) rfl rfl rfl ?_ ?_ ?_
     refine L.append (j := 2) rfl rfl rfl rfl (by decide) rfl rfl rfl rfl (Src.r 3 rfl) ((N32_len _).trans (Nat.mul_one _).symm) (N32_one _) (by omega) (by show _ * 4 ≤ _; omega) rfl (fun A47 cc47 => ?_)
     refine L.nm (by kernel_rfl) ?_; refine LM.a2 4 13 (by kernel_rfl) (Hq [0, 3, 2, 1] rfl) rfl rfl ?_ ?_
     refine L.lit0S rfl rfl rfl rfl (fun A48 => ?_)
     refine L.nm (by kernel_rfl) ?_; refine LM.a2 7 13 (by kernel_rfl) (Hq [0, 3, 2, 1] rfl) rfl rfl ?_ ?_
     refine L.append (j := 3) rfl rfl rfl rfl (by decide) rfl rfl rfl rfl (Src.r 2 rfl) ((Bs_len _).trans (Nat.mul_one _).symm) (Bs_one _) (by omega) (by show _ * 1 ≤ _; omega) rfl (fun A51 cc51 => ?_)
     refine L.nm (by kernel_rfl) ?_; refine LM.a2 11 13 (by kernel_rfl) (Hq [0, 3, 2, 1] rfl) rfl rfl ?_ ?_
     refine L.append (j := 1) rfl rfl rfl rfl (by decide) rfl rfl rfl rfl (Src.r 1 rfl) ((I64_len _).trans (Nat.mul_one _).symm) (I64_one _) (by omega) (by show _ * 8 ≤ _; omega) rfl (fun A55 cc55 => ?_)
     refine L.nm (by kernel_rfl) ?_; refine LM.q 12 rfl (by kernel_rfl) (Ev.build rfl rfl rfl rfl rfl rfl rfl) rfl (Hq [0, 3, 2, 1] rfl) ?_; refine LM.f 13 rfl (by kernel_rfl) (Hq [0, 3, 2, 1] rfl) ?_
     refine L.alloc rfl rfl rfl (fun A10 => ?_)
     refine L.norm (H' := [_, _, _, _, _]) [1, 3, 2, 4, 0] ⟨rfl, rfl, rfl, rfl, rfl, trivial⟩ (by decide) ?_; refine L.nm (by kernel_rfl) ?_
     rotate_left
     refine L.alloc rfl rfl rfl (fun A10 => ?_)
     refine L.nm (by kernel_rfl) ?_; refine LM.f 11 rfl (by kernel_rfl) (Hq [0, 3, 2, 1] rfl) ?_
     refine L.append (j := 1) rfl rfl rfl rfl (by decide) rfl rfl rfl rfl (Src.r 1 rfl) ((I64_len _).trans (Nat.mul_one _).symm) (I64_one _) (by omega) (by show _ * 8 ≤ _; omega) rfl (fun A55 cc55 => ?_)
     refine L.nm (by kernel_rfl) ?_; refine LM.f 12 rfl (by kernel_rfl) (Hq [0, 3, 2, 1] rfl) ?_; refine L.step (Ev.build rfl rfl rfl rfl rfl rfl rfl) rfl ?_; refine L.norm (H' := [_, _, _, _, _]) [1, 3, 2, 4, 0] ⟨rfl, rfl, rfl, rfl, rfl, trivial⟩ (by decide) ?_; refine L.nm (by kernel_rfl) ?_
     rotate_left
     refine L.alloc rfl rfl rfl (fun A10 => ?_)
     refine L.nm (by kernel_rfl) ?_; refine LM.f 7 rfl (by kernel_rfl) (Hq [0, 3, 2, 1] rfl) ?_
     refine L.append (j := 3) rfl rfl rfl rfl (by decide) rfl rfl rfl rfl (Src.r 2 rfl) ((Bs_len _).trans (Nat.mul_one _).symm) (Bs_one _) (by omega) (by show _ * 1 ≤ _; omega) rfl (fun A51 cc51 => ?_)
     refine L.nm (by kernel_rfl) ?_; refine LM.f 11 rfl (by kernel_rfl) (Hq [0, 3, 2, 1] rfl) ?_
     refine L.append (j := 1) rfl rfl rfl rfl (by decide) rfl rfl rfl rfl (Src.r 1 rfl) ((I64_len _).trans (Nat.mul_one _).symm) (I64_one _) (by omega) (by show _ * 8 ≤ _; omega) rfl (fun A55 cc55 => ?_)
     refine L.nm (by kernel_rfl) ?_; refine LM.f 12 rfl (by kernel_rfl) (Hq [0, 3, 2, 1] rfl) ?_; refine L.step (Ev.build rfl rfl rfl rfl rfl rfl rfl) rfl ?_; refine L.norm (H' := [_, _, _, _, _]) [1, 3, 2, 4, 0] ⟨rfl, rfl, rfl, rfl, rfl, trivial⟩ (by decide) ?_; refine L.nm (by kernel_rfl) ?_
     rotate_left
     refine L.alloc rfl rfl rfl (fun A10 => ?_)
     refine L.nm (by kernel_rfl) ?_; refine LM.f 4 rfl (by kernel_rfl) (Hq [0, 3, 2, 1] rfl) ?_
     refine L.lit0S rfl rfl rfl rfl (fun A48 => ?_)
     refine L.nm (by kernel_rfl) ?_; refine LM.f 7 rfl (by kernel_rfl) (Hq [0, 3, 2, 1] rfl) ?_
     refine L.append (j := 4) rfl rfl rfl rfl (by decide) rfl rfl rfl rfl (Src.r 2 rfl) ((Bs_len _).trans (Nat.mul_one _).symm) (Bs_one _) (by omega) (by show _ * 1 ≤ _; omega) rfl (fun A51 cc51 => ?_)
     refine L.nm (by kernel_rfl) ?_; refine LM.f 11 rfl (by kernel_rfl) (Hq [0, 3, 2, 1] rfl) ?_
     refine L.append (j := 1) rfl rfl rfl rfl (by decide) rfl rfl rfl rfl (Src.r 1 rfl) ((I64_len _).trans (Nat.mul_one _).symm) (I64_one _) (by omega) (by show _ * 8 ≤ _; omega) rfl (fun A55 cc55 => ?_)
     refine L.nm (by kernel_rfl) ?_; refine LM.f 12 rfl (by kernel_rfl) (Hq [0, 3, 2, 1] rfl) ?_; refine L.step (Ev.build rfl rfl rfl rfl rfl rfl rfl) rfl ?_; refine L.norm (H' := [_, _, _, _, _]) [1, 4, 2, 3, 0] ⟨rfl, rfl, rfl, rfl, rfl, trivial⟩ (by decide) ?_; refine L.nm (by kernel_rfl) ?_
     rotate_left
     refine L.lit0S rfl rfl rfl rfl (fun A48 => ?_)
     refine L.nm (by kernel_rfl) ?_; refine LM.a2 3 13 (by kernel_rfl) (Hq [0, 3, 2, 1] rfl) rfl rfl ?_ ?_
     refine L.append (j := 2) rfl rfl rfl rfl (by decide) rfl rfl rfl rfl (Src.r 3 rfl) ((N32_len _).trans (Nat.mul_one _).symm) (N32_one _) (by omega) (by show _ * 4 ≤ _; omega) rfl (fun A47 cc47 => ?_)
     refine L.nm (by kernel_rfl) ?_; refine LM.a2 7 13 (by kernel_rfl) (Hq [0, 3, 2, 1] rfl) rfl rfl ?_ ?_
     refine L.append (j := 3) rfl rfl rfl rfl (by decide) rfl rfl rfl rfl (Src.r 2 rfl) ((Bs_len _).trans (Nat.mul_one _).symm) (Bs_one _) (by omega) (by show _ * 1 ≤ _; omega) rfl (fun A51 cc51 => ?_)
     refine L.nm (by kernel_rfl) ?_; refine LM.a2 11 13 (by kernel_rfl) (Hq [0, 3, 2, 1] rfl) rfl rfl ?_ ?_
     refine L.append (j := 1) rfl rfl rfl rfl (by decide) rfl rfl rfl rfl (Src.r 1 rfl) ((I64_len _).trans (Nat.mul_one _).symm) (I64_one _) (by omega) (by show _ * 8 ≤ _; omega) rfl (fun A55 cc55 => ?_)
     refine L.nm (by kernel_rfl) ?_; refine LM.q 12 rfl (by kernel_rfl) (Ev.build rfl rfl rfl rfl rfl rfl rfl) rfl (Hq [0, 3, 2, 1] rfl) ?_; refine LM.f 13 rfl (by kernel_rfl) (Hq [0, 3, 2, 1] rfl) ?_
     refine L.alloc rfl rfl rfl (fun A10 => ?_)
     refine L.norm (H' := [_, _, _, _, _]) [1, 3, 2, 4, 0] ⟨rfl, rfl, rfl, rfl, rfl, trivial⟩ (by decide) ?_; refine L.nm (by kernel_rfl) ?_
     rotate_left
     refine L.alloc rfl rfl rfl (fun A10 => ?_)
     refine L.nm (by kernel_rfl) ?_; refine LM.f 11 rfl (by kernel_rfl) (Hq [0, 3, 2, 1] rfl) ?_
     refine L.append (j := 1) rfl rfl rfl rfl (by decide) rfl rfl rfl rfl (Src.r 1 rfl) ((I64_len _).trans (Nat.mul_one _).symm) (I64_one _) (by omega) (by show _ * 8 ≤ _; omega) rfl (fun A55 cc55 => ?_)
     refine L.nm (by kernel_rfl) ?_; refine LM.f 12 rfl (by kernel_rfl) (Hq [0, 3, 2, 1] rfl) ?_; refine L.step (Ev.build rfl rfl rfl rfl rfl rfl rfl) rfl ?_; refine L.norm (H' := [_, _, _, _, _]) [1, 3, 2, 4, 0] ⟨rfl, rfl, rfl, rfl, rfl, trivial⟩ (by decide) ?_; refine L.nm (by kernel_rfl) ?_
     rotate_left
     refine L.alloc rfl rfl rfl (fun A10 => ?_)
     refine L.nm (by kernel_rfl) ?_; refine LM.f 7 rfl (by kernel_rfl) (Hq [0, 3, 2, 1] rfl) ?_
     refine L.append (j := 3) rfl rfl rfl rfl (by decide) rfl rfl rfl rfl (Src.r 2 rfl) ((Bs_len _).trans (Nat.mul_one _).symm) (Bs_one _) (by omega) (by show _ * 1 ≤ _; omega) rfl (fun A51 cc51 => ?_)
     refine L.nm (by kernel_rfl) ?_; refine LM.f 11 rfl (by kernel_rfl) (Hq [0, 3, 2, 1] rfl) ?_
     refine L.append (j := 1) rfl rfl rfl rfl (by decide) rfl rfl rfl rfl (Src.r 1 rfl) ((I64_len _).trans (Nat.mul_one _).symm) (I64_one _) (by omega) (by show _ * 8 ≤ _; omega) rfl (fun A55 cc55 => ?_)
     refine L.nm (by kernel_rfl) ?_; refine LM.f 12 rfl (by kernel_rfl) (Hq [0, 3, 2, 1] rfl) ?_; refine L.step (Ev.build rfl rfl rfl rfl rfl rfl rfl) rfl ?_; refine L.norm (H' := [_, _, _, _, _]) [1, 3, 2, 4, 0] ⟨rfl, rfl, rfl, rfl, rfl, trivial⟩ (by decide) ?_; refine L.nm (by kernel_rfl) ?_
     rotate_left
     refine L.alloc rfl rfl rfl (fun A10 => ?_)
     refine L.nm (by kernel_rfl) ?_; refine LM.f 3 rfl (by kernel_rfl) (Hq [0, 3, 2, 1] rfl) ?_
     refine L.append (j := 2) rfl rfl rfl rfl (by decide) rfl rfl rfl rfl (Src.r 3 rfl) ((N32_len _).trans (Nat.mul_one _).symm) (N32_one _) (by omega) (by show _ * 4 ≤ _; omega) rfl (fun A47 cc47 => ?_)
     refine L.nm (by kernel_rfl) ?_; refine LM.f 7 rfl (by kernel_rfl) (Hq [0, 3, 2, 1] rfl) ?_
     refine L.append (j := 3) rfl rfl rfl rfl (by decide) rfl rfl rfl rfl (Src.r 2 rfl) ((Bs_len _).trans (Nat.mul_one _).symm) (Bs_one _) (by omega) (by show _ * 1 ≤ _; omega) rfl (fun A51 cc51 => ?_)
     refine L.nm (by kernel_rfl) ?_; refine LM.f 11 rfl (by kernel_rfl) (Hq [0, 3, 2, 1] rfl) ?_
     refine L.append (j := 1) rfl rfl rfl rfl (by decide) rfl rfl rfl rfl (Src.r 1 rfl) ((I64_len _).trans (Nat.mul_one _).symm) (I64_one _) (by omega) (by show _ * 8 ≤ _; omega) rfl (fun A55 cc55 => ?_)
     refine L.nm (by kernel_rfl) ?_; refine LM.f 12 rfl (by kernel_rfl) (Hq [0, 3, 2, 1] rfl) ?_; refine L.step (Ev.build rfl rfl rfl rfl rfl rfl rfl) rfl ?_; refine L.norm (H' := [_, _, _, _, _]) [1, 3, 2, 4, 0] ⟨rfl, rfl, rfl, rfl, rfl, trivial⟩ (by decide) ?_; refine L.nm (by kernel_rfl) ?_
     rotate_left
     refine L.alloc rfl rfl rfl (fun A10 => ?_)
     refine L.nm (by kernel_rfl) ?_; refine LM.a2 3 4 (by kernel_rfl) (Hq [0, 3, 2, 1] rfl) rfl rfl ?_ ?_
     refine L.append (j := 2) rfl rfl rfl rfl (by decide) rfl rfl rfl rfl (Src.r 3 rfl) ((N32_len _).trans (Nat.mul_one _).symm) (N32_one _) (by omega) (by show _ * 4 ≤ _; omega) rfl (fun A47 cc47 => ?_)
     refine L.nm (by kernel_rfl) ?_; refine LM.f 4 rfl (by kernel_rfl) (Hq [0, 3, 2, 1] rfl) ?_
     refine L.lit0S rfl rfl rfl rfl (fun A48 => ?_)
     refine L.nm (by kernel_rfl) ?_; refine LM.f 7 rfl (by kernel_rfl) (Hq [0, 3, 2, 1] rfl) ?_
     refine L.append (j := 4) rfl rfl rfl rfl (by decide) rfl rfl rfl rfl (Src.r 2 rfl) ((Bs_len _).trans (Nat.mul_one _).symm) (Bs_one _) (by omega) (by show _ * 1 ≤ _; omega) rfl (fun A51 cc51 => ?_)
     refine L.nm (by kernel_rfl) ?_; refine LM.f 11 rfl (by kernel_rfl) (Hq [0, 3, 2, 1] rfl) ?_
     refine L.append (j := 1) rfl rfl rfl rfl (by decide) rfl rfl rfl rfl (Src.r 1 rfl) ((I64_len _).trans (Nat.mul_one _).symm) (I64_one _) (by omega) (by show _ * 8 ≤ _; omega) rfl (fun A55 cc55 => ?_)
     refine L.nm (by kernel_rfl) ?_; refine LM.f 12 rfl (by kernel_rfl) (Hq [0, 3, 2, 1] rfl) ?_; refine L.step (Ev.build rfl rfl rfl rfl rfl rfl rfl) rfl ?_; refine L.norm (H' := [_, _, _, _, _]) [1, 4, 2, 3, 0] ⟨rfl, rfl, rfl, rfl, rfl, trivial⟩ (by decide) ?_; refine L.nm (by kernel_rfl) ?_
     rotate_left
     refine L.lit0S rfl rfl rfl rfl (fun A48 => ?_)
     refine L.nm (by kernel_rfl) ?_; refine LM.f 3 rfl (by kernel_rfl) (Hq [0, 3, 2, 1] rfl) ?_
     refine L.append (j := 2) rfl rfl rfl rfl (by decide) rfl rfl rfl rfl (Src.r 3 rfl) ((N32_len _).trans (Nat.mul_one _).symm) (N32_one _) (by omega) (by show _ * 4 ≤ _; omega) rfl (fun A47 cc47 => ?_)
     refine L.nm (by kernel_rfl) ?_; refine LM.f 7 rfl (by kernel_rfl) (Hq [0, 3, 2, 1] rfl) ?_
     refine L.append (j := 4) rfl rfl rfl rfl (by decide) rfl rfl rfl rfl (Src.r 2 rfl) ((Bs_len _).trans (Nat.mul_one _).symm) (Bs_one _) (by omega) (by show _ * 1 ≤ _; omega) rfl (fun A51 cc51 => ?_)
     refine L.nm (by kernel_rfl) ?_; refine LM.f 11 rfl (by kernel_rfl) (Hq [0, 3, 2, 1] rfl) ?_
     refine L.append (j := 1) rfl rfl rfl rfl (by decide) rfl rfl rfl rfl (Src.r 1 rfl) ((I64_len _).trans (Nat.mul_one _).symm) (I64_one _) (by omega) (by show _ * 8 ≤ _; omega) rfl (fun A55 cc55 => ?_)
     refine L.nm (by kernel_rfl) ?_; refine LM.f 12 rfl (by kernel_rfl) (Hq [0, 3, 2, 1] rfl) ?_; refine L.step (Ev.build rfl rfl rfl rfl rfl rfl rfl) rfl ?_; refine L.norm (H' := [_, _, _, _, _]) [1, 4, 2, 3, 0] ⟨rfl, rfl, rfl, rfl, rfl, trivial⟩ (by decide) ?_; refine L.nm (by kernel_rfl) ?_
     rotate_left
     refine L.lit0S rfl rfl rfl rfl (fun A48 => ?_)
     refine L.nm (by kernel_rfl) ?_; refine LM.a2 0 13 (by kernel_rfl) (Hq [0, 3, 2, 1] rfl) rfl rfl ?_ ?_
     refine L.lit0S rfl rfl rfl rfl (fun A44 => ?_)
     refine L.nm (by kernel_rfl) ?_; refine LM.a2 3 13 (by kernel_rfl) (Hq [0, 3, 2, 1] rfl) rfl rfl ?_ ?_
     refine L.append (j := 3) rfl rfl rfl rfl (by decide) rfl rfl rfl rfl (Src.r 3 rfl) ((N32_len _).trans (Nat.mul_one _).symm) (N32_one _) (by omega) (by show _ * 4 ≤ _; omega) rfl (fun A47 cc47 => ?_)
     refine L.nm (by kernel_rfl) ?_; refine LM.a2 7 13 (by kernel_rfl) (Hq [0, 3, 2, 1] rfl) rfl rfl ?_ ?_
     refine L.append (j := 2) rfl rfl rfl rfl (by decide) rfl rfl rfl rfl (Src.r 2 rfl) ((Bs_len _).trans (Nat.mul_one _).symm) (Bs_one _) (by omega) (by show _ * 1 ≤ _; omega) rfl (fun A51 cc51 => ?_)
     refine L.nm (by kernel_rfl) ?_; refine LM.a2 11 13 (by kernel_rfl) (Hq [0, 3, 2, 1] rfl) rfl rfl ?_ ?_
     refine L.append (j := 1) rfl rfl rfl rfl (by decide) rfl rfl rfl rfl (Src.r 1 rfl) ((I64_len _).trans (Nat.mul_one _).symm) (I64_one _) (by omega) (by show _ * 8 ≤ _; omega) rfl (fun A55 cc55 => ?_)
     refine L.nm (by kernel_rfl) ?_; refine LM.q 12 rfl (by kernel_rfl) (Ev.build rfl rfl rfl rfl rfl rfl rfl) rfl (Hq [0, 3, 2, 1] rfl) ?_; refine LM.f 13 rfl (by kernel_rfl) (Hq [0, 3, 2, 1] rfl) ?_
     refine L.alloc rfl rfl rfl (fun A10 => ?_)
     refine L.norm (H' := [_, _, _, _, _]) [1, 2, 3, 4, 0] ⟨rfl, rfl, rfl, rfl, rfl, trivial⟩ (by decide) ?_; refine L.nm (by kernel_rfl) ?_
     rotate_left
     refine L.alloc rfl rfl rfl (fun A10 => ?_)
     refine L.nm (by kernel_rfl) ?_; refine LM.f 11 rfl (by kernel_rfl) (Hq [0, 3, 2, 1] rfl) ?_
     refine L.append (j := 1) rfl rfl rfl rfl (by decide) rfl rfl rfl rfl (Src.r 1 rfl) ((I64_len _).trans (Nat.mul_one _).symm) (I64_one _) (by omega) (by show _ * 8 ≤ _; omega) rfl (fun A55 cc55 => ?_)
     refine L.nm (by kernel_rfl) ?_; refine LM.f 12 rfl (by kernel_rfl) (Hq [0, 3, 2, 1] rfl) ?_; refine L.step (Ev.build rfl rfl rfl rfl rfl rfl rfl) rfl ?_; refine L.norm (H' := [_, _, _, _, _]) [1, 2, 3, 4, 0] ⟨rfl, rfl, rfl, rfl, rfl, trivial⟩ (by decide) ?_; refine L.nm (by kernel_rfl) ?_
     rotate_left
     refine L.alloc rfl rfl rfl (fun A10 => ?_)
     refine L.nm (by kernel_rfl) ?_; refine LM.f 7 rfl (by kernel_rfl) (Hq [0, 3, 2, 1] rfl) ?_
     refine L.append (j := 2) rfl rfl rfl rfl (by decide) rfl rfl rfl rfl (Src.r 2 rfl) ((Bs_len _).trans (Nat.mul_one _).symm) (Bs_one _) (by omega) (by show _ * 1 ≤ _; omega) rfl (fun A51 cc51 => ?_)
     refine L.nm (by kernel_rfl) ?_; refine LM.f 11 rfl (by kernel_rfl) (Hq [0, 3, 2, 1] rfl) ?_
     refine L.append (j := 1) rfl rfl rfl rfl (by decide) rfl rfl rfl rfl (Src.r 1 rfl) ((I64_len _).trans (Nat.mul_one _).symm) (I64_one _) (by omega) (by show _ * 8 ≤ _; omega) rfl (fun A55 cc55 => ?_)
     refine L.nm (by kernel_rfl) ?_; refine LM.f 12 rfl (by kernel_rfl) (Hq [0, 3, 2, 1] rfl) ?_; refine L.step (Ev.build rfl rfl rfl rfl rfl rfl rfl) rfl ?_; refine L.norm (H' := [_, _, _, _, _]) [1, 2, 3, 4, 0] ⟨rfl, rfl, rfl, rfl, rfl, trivial⟩ (by decide) ?_; refine L.nm (by kernel_rfl) ?_
     rotate_left
     refine L.alloc rfl rfl rfl (fun A10 => ?_)
     refine L.nm (by kernel_rfl) ?_; refine LM.f 3 rfl (by kernel_rfl) (Hq [0, 3, 2, 1] rfl) ?_
     refine L.append (j := 3) rfl rfl rfl rfl (by decide) rfl rfl rfl rfl (Src.r 3 rfl) ((N32_len _).trans (Nat.mul_one _).symm) (N32_one _) (by omega) (by show _ * 4 ≤ _; omega) rfl (fun A47 cc47 => ?_)
     refine L.nm (by kernel_rfl) ?_; refine LM.f 7 rfl (by kernel_rfl) (Hq [0, 3, 2, 1] rfl) ?_
     refine L.append (j := 2) rfl rfl rfl rfl (by decide) rfl rfl rfl rfl (Src.r 2 rfl) ((Bs_len _).trans (Nat.mul_one _).symm) (Bs_one _) (by omega) (by show _ * 1 ≤ _; omega) rfl (fun A51 cc51 => ?_)
     refine L.nm (by kernel_rfl) ?_; refine LM.f 11 rfl (by kernel_rfl) (Hq [0, 3, 2, 1] rfl) ?_
     refine L.append (j := 1) rfl rfl rfl rfl (by decide) rfl rfl rfl rfl (Src.r 1 rfl) ((I64_len _).trans (Nat.mul_one _).symm) (I64_one _) (by omega) (by show _ * 8 ≤ _; omega) rfl (fun A55 cc55 => ?_)
     refine L.nm (by kernel_rfl) ?_; refine LM.f 12 rfl (by kernel_rfl) (Hq [0, 3, 2, 1] rfl) ?_; refine L.step (Ev.build rfl rfl rfl rfl rfl rfl rfl) rfl ?_; refine L.norm (H' := [_, _, _, _, _]) [1, 2, 3, 4, 0] ⟨rfl, rfl, rfl, rfl, rfl, trivial⟩ (by decide) ?_; refine L.nm (by kernel_rfl) ?_
     rotate_left
     refine L.alloc rfl rfl rfl (fun A10 => ?_)
     refine L.nm (by kernel_rfl) ?_; refine LM.f 0 rfl (by kernel_rfl) (Hq [0, 3, 2, 1] rfl) ?_
     refine L.lit0S rfl rfl rfl rfl (fun A44 => ?_)
     refine L.nm (by kernel_rfl) ?_; refine LM.f 3 rfl (by kernel_rfl) (Hq [0, 3, 2, 1] rfl) ?_
     refine L.append (j := 4) rfl rfl rfl rfl (by decide) rfl rfl rfl rfl (Src.r 3 rfl) ((N32_len _).trans (Nat.mul_one _).symm) (N32_one _) (by omega) (by show _ * 4 ≤ _; omega) rfl (fun A47 cc47 => ?_)
     refine L.nm (by kernel_rfl) ?_; refine LM.f 7 rfl (by kernel_rfl) (Hq [0, 3, 2, 1] rfl) ?_
     refine L.append (j := 2) rfl rfl rfl rfl (by decide) rfl rfl rfl rfl (Src.r 2 rfl) ((Bs_len _).trans (Nat.mul_one _).symm) (Bs_one _) (by omega) (by show _ * 1 ≤ _; omega) rfl (fun A51 cc51 => ?_)
     refine L.nm (by kernel_rfl) ?_; refine LM.f 11 rfl (by kernel_rfl) (Hq [0, 3, 2, 1] rfl) ?_
     refine L.append (j := 1) rfl rfl rfl rfl (by decide) rfl rfl rfl rfl (Src.r 1 rfl) ((I64_len _).trans (Nat.mul_one _).symm) (I64_one _) (by omega) (by show _ * 8 ≤ _; omega) rfl (fun A55 cc55 => ?_)
     refine L.nm (by kernel_rfl) ?_; refine LM.f 12 rfl (by kernel_rfl) (Hq [0, 3, 2, 1] rfl) ?_; refine L.step (Ev.build rfl rfl rfl rfl rfl rfl rfl) rfl ?_; refine L.norm (H' := [_, _, _, _, _]) [1, 2, 4, 3, 0] ⟨rfl, rfl, rfl, rfl, rfl, trivial⟩ (by decide) ?_; refine L.nm (by kernel_rfl) ?_
     rotate_left
     refine L.alloc rfl rfl rfl (fun A10 => ?_)
     refine L.nm (by kernel_rfl) ?_; refine LM.a2 0 4 (by kernel_rfl) (Hq [0, 3, 2, 1] rfl) rfl rfl ?_ ?_
     refine L.lit0S rfl rfl rfl rfl (fun A44 => ?_)
     refine L.nm (by kernel_rfl) ?_; refine LM.a2 3 4 (by kernel_rfl) (Hq [0, 3, 2, 1] rfl) rfl rfl ?_ ?_
     refine L.append (j := 3) rfl rfl rfl rfl (by decide) rfl rfl rfl rfl (Src.r 3 rfl) ((N32_len _).trans (Nat.mul_one _).symm) (N32_one _) (by omega) (by show _ * 4 ≤ _; omega) rfl (fun A47 cc47 => ?_)
     refine L.nm (by kernel_rfl) ?_; refine LM.f 4 rfl (by kernel_rfl) (Hq [0, 3, 2, 1] rfl) ?_
     refine L.lit0S rfl rfl rfl rfl (fun A48 => ?_)
     refine L.nm (by kernel_rfl) ?_; refine LM.f 7 rfl (by kernel_rfl) (Hq [0, 3, 2, 1] rfl) ?_
     refine L.append (j := 4) rfl rfl rfl rfl (by decide) rfl rfl rfl rfl (Src.r 2 rfl) ((Bs_len _).trans (Nat.mul_one _).symm) (Bs_one _) (by omega) (by show _ * 1 ≤ _; omega) rfl (fun A51 cc51 => ?_)
     refine L.nm (by kernel_rfl) ?_; refine LM.f 11 rfl (by kernel_rfl) (Hq [0, 3, 2, 1] rfl) ?_
     refine L.append (j := 1) rfl rfl rfl rfl (by decide) rfl rfl rfl rfl (Src.r 1 rfl) ((I64_len _).trans (Nat.mul_one _).symm) (I64_one _) (by omega) (by show _ * 8 ≤ _; omega) rfl (fun A55 cc55 => ?_)
     refine L.nm (by kernel_rfl) ?_; refine LM.f 12 rfl (by kernel_rfl) (Hq [0, 3, 2, 1] rfl) ?_; refine L.step (Ev.build rfl rfl rfl rfl rfl rfl rfl) rfl ?_; refine L.norm (H' := [_, _, _, _, _]) [1, 4, 3, 2, 0] ⟨rfl, rfl, rfl, rfl, rfl, trivial⟩ (by decide) ?_; refine L.nm (by kernel_rfl) ?_
     rotate_left
     refine L.lit0S rfl rfl rfl rfl (fun A48 => ?_)
     refine L.nm (by kernel_rfl) ?_; refine LM.f 3 rfl (by kernel_rfl) (Hq [0, 3, 2, 1] rfl) ?_
     refine L.append (j := 3) rfl rfl rfl rfl (by decide) rfl rfl rfl rfl (Src.r 3 rfl) ((N32_len _).trans (Nat.mul_one _).symm) (N32_one _) (by omega) (by show _ * 4 ≤ _; omega) rfl (fun A47 cc47 => ?_)
     refine L.nm (by kernel_rfl) ?_; refine LM.f 7 rfl (by kernel_rfl) (Hq [0, 3, 2, 1] rfl) ?_
     refine L.append (j := 4) rfl rfl rfl rfl (by decide) rfl rfl rfl rfl (Src.r 2 rfl) ((Bs_len _).trans (Nat.mul_one _).symm) (Bs_one _) (by omega) (by show _ * 1 ≤ _; omega) rfl (fun A51 cc51 => ?_)
     refine L.nm (by kernel_rfl) ?_; refine LM.f 11 rfl (by kernel_rfl) (Hq [0, 3, 2, 1] rfl) ?_
     refine L.append (j := 1) rfl rfl rfl rfl (by decide) rfl rfl rfl rfl (Src.r 1 rfl) ((I64_len _).trans (Nat.mul_one _).symm) (I64_one _) (by omega) (by show _ * 8 ≤ _; omega) rfl (fun A55 cc55 => ?_)
     refine L.nm (by kernel_rfl) ?_; refine LM.f 12 rfl (by kernel_rfl) (Hq [0, 3, 2, 1] rfl) ?_; refine L.step (Ev.build rfl rfl rfl rfl rfl rfl rfl) rfl ?_; refine L.norm (H' := [_, _, _, _, _]) [1, 4, 3, 2, 0] ⟨rfl, rfl, rfl, rfl, rfl, trivial⟩ (by decide) ?_; refine L.nm (by kernel_rfl) ?_
     rotate_left
     refine L.lit0S rfl rfl rfl rfl (fun A48 => ?_)
     refine L.nm (by kernel_rfl) ?_; refine LM.f 0 rfl (by kernel_rfl) (Hq [0, 3, 2, 1] rfl) ?_
     refine L.lit0S rfl rfl rfl rfl (fun A44 => ?_)
     refine L.nm (by kernel_rfl) ?_; refine LM.f 3 rfl (by kernel_rfl) (Hq [0, 3, 2, 1] rfl) ?_
     refine L.append (j := 4) rfl rfl rfl rfl (by decide) rfl rfl rfl rfl (Src.r 3 rfl) ((N32_len _).trans (Nat.mul_one _).symm) (N32_one _) (by omega) (by show _ * 4 ≤ _; omega) rfl (fun A47 cc47 => ?_)
     refine L.nm (by kernel_rfl) ?_; refine LM.f 7 rfl (by kernel_rfl) (Hq [0, 3, 2, 1] rfl) ?_
     refine L.append (j := 3) rfl rfl rfl rfl (by decide) rfl rfl rfl rfl (Src.r 2 rfl) ((Bs_len _).trans (Nat.mul_one _).symm) (Bs_one _) (by omega) (by show _ * 1 ≤ _; omega) rfl (fun A51 cc51 => ?_)
     refine L.nm (by kernel_rfl) ?_; refine LM.f 11 rfl (by kernel_rfl) (Hq [0, 3, 2, 1] rfl) ?_
     refine L.append (j := 1) rfl rfl rfl rfl (by decide) rfl rfl rfl rfl (Src.r 1 rfl) ((I64_len _).trans (Nat.mul_one _).symm) (I64_one _) (by omega) (by show _ * 8 ≤ _; omega) rfl (fun A55 cc55 => ?_)
     refine L.nm (by kernel_rfl) ?_; refine LM.f 12 rfl (by kernel_rfl) (Hq [0, 3, 2, 1] rfl) ?_; refine L.step (Ev.build rfl rfl rfl rfl rfl rfl rfl) rfl ?_; refine L.norm (H' := [_, _, _, _, _]) [1, 3, 4, 2, 0] ⟨rfl, rfl, rfl, rfl, rfl, trivial⟩ (by decide) ?_; refine L.nm (by kernel_rfl) ?_
     rotate_left
     refine L.alloc rfl rfl rfl (fun A10 => ?_)
     refine L.nm (by kernel_rfl) ?_; refine LM.a3 0 4 8 (by kernel_rfl) (Hq [0, 3, 2, 1] rfl) rfl rfl rfl ?_ ?_ ?_
     refine L.lit0S rfl rfl rfl rfl (fun A44 => ?_)
     refine L.nm (by kernel_rfl) ?_; refine LM.a3 3 4 8 (by kernel_rfl) (Hq [0, 3, 2, 1] rfl) rfl rfl rfl ?_ ?_ ?_
     refine L.append (j := 2) rfl rfl rfl rfl (by decide) rfl rfl rfl rfl (Src.r 3 rfl) ((N32_len _).trans (Nat.mul_one _).symm) (N32_one _) (by omega) (by show _ * 4 ≤ _; omega) rfl (fun A47 cc47 => ?_)
     refine L.nm (by kernel_rfl) ?_; refine LM.a2 4 8 (by kernel_rfl) (Hq [0, 3, 2, 1] rfl) rfl rfl ?_ ?_
     refine L.lit0S rfl rfl rfl rfl (fun A48 => ?_)
     refine L.nm (by kernel_rfl) ?_; refine LM.a2 7 8 (by kernel_rfl) (Hq [0, 3, 2, 1] rfl) rfl rfl ?_ ?_
     refine L.append (j := 3) rfl rfl rfl rfl (by decide) rfl rfl rfl rfl (Src.r 2 rfl) ((Bs_len _).trans (Nat.mul_one _).symm) (Bs_one _) (by omega) (by show _ * 1 ≤ _; omega) rfl (fun A51 cc51 => ?_)
     refine L.nm (by kernel_rfl) ?_; refine LM.f 8 rfl (by kernel_rfl) (Hq [0, 3, 2, 1] rfl) ?_
     refine L.lit0S rfl rfl rfl rfl (fun A52 => ?_)
     refine L.nm (by kernel_rfl) ?_; refine LM.f 11 rfl (by kernel_rfl) (Hq [0, 3, 2, 1] rfl) ?_
     refine L.append (j := 4) rfl rfl rfl rfl (by decide) rfl rfl rfl rfl (Src.r 1 rfl) ((I64_len _).trans (Nat.mul_one _).symm) (I64_one _) (by omega) (by show _ * 8 ≤ _; omega) rfl (fun A55 cc55 => ?_)
     refine L.nm (by kernel_rfl) ?_; refine LM.f 12 rfl (by kernel_rfl) (Hq [0, 3, 2, 1] rfl) ?_; refine L.step (Ev.build rfl rfl rfl rfl rfl rfl rfl) rfl ?_; refine L.norm (H' := [_, _, _, _, _]) [4, 3, 2, 1, 0] ⟨rfl, rfl, rfl, rfl, rfl, trivial⟩ (by decide) ?_; refine L.nm (by kernel_rfl) ?_
     rotate_left
     refine L.lit0S rfl rfl rfl rfl (fun A52 => ?_)
     refine L.nm (by kernel_rfl) ?_; refine LM.f 7 rfl (by kernel_rfl) (Hq [0, 3, 2, 1] rfl) ?_
     refine L.append (j := 3) rfl rfl rfl rfl (by decide) rfl rfl rfl rfl (Src.r 2 rfl) ((Bs_len _).trans (Nat.mul_one _).symm) (Bs_one _) (by omega) (by show _ * 1 ≤ _; omega) rfl (fun A51 cc51 => ?_)
     refine L.nm (by kernel_rfl) ?_; refine LM.f 11 rfl (by kernel_rfl) (Hq [0, 3, 2, 1] rfl) ?_
     refine L.append (j := 4) rfl rfl rfl rfl (by decide) rfl rfl rfl rfl (Src.r 1 rfl) ((I64_len _).trans (Nat.mul_one _).symm) (I64_one _) (by omega) (by show _ * 8 ≤ _; omega) rfl (fun A55 cc55 => ?_)
     refine L.nm (by kernel_rfl) ?_; refine LM.f 12 rfl (by kernel_rfl) (Hq [0, 3, 2, 1] rfl) ?_; refine L.step (Ev.build rfl rfl rfl rfl rfl rfl rfl) rfl ?_; refine L.norm (H' := [_, _, _, _, _]) [4, 3, 2, 1, 0] ⟨rfl, rfl, rfl, rfl, rfl, trivial⟩ (by decide) ?_; refine L.nm (by kernel_rfl) ?_
     rotate_left
     refine L.lit0S rfl rfl rfl rfl (fun A52 => ?_)
     refine L.nm (by kernel_rfl) ?_; refine LM.f 4 rfl (by kernel_rfl) (Hq [0, 3, 2, 1] rfl) ?_
     refine L.lit0S rfl rfl rfl rfl (fun A48 => ?_)
     refine L.nm (by kernel_rfl) ?_; refine LM.f 7 rfl (by kernel_rfl) (Hq [0, 3, 2, 1] rfl) ?_
     refine L.append (j := 4) rfl rfl rfl rfl (by decide) rfl rfl rfl rfl (Src.r 2 rfl) ((Bs_len _).trans (Nat.mul_one _).symm) (Bs_one _) (by omega) (by show _ * 1 ≤ _; omega) rfl (fun A51 cc51 => ?_)
     refine L.nm (by kernel_rfl) ?_; refine LM.f 11 rfl (by kernel_rfl) (Hq [0, 3, 2, 1] rfl) ?_
     refine L.append (j := 3) rfl rfl rfl rfl (by decide) rfl rfl rfl rfl (Src.r 1 rfl) ((I64_len _).trans (Nat.mul_one _).symm) (I64_one _) (by omega) (by show _ * 8 ≤ _; omega) rfl (fun A55 cc55 => ?_)
     refine L.nm (by kernel_rfl) ?_; refine LM.f 12 rfl (by kernel_rfl) (Hq [0, 3, 2, 1] rfl) ?_; refine L.step (Ev.build rfl rfl rfl rfl rfl rfl rfl) rfl ?_; refine L.norm (H' := [_, _, _, _, _]) [3, 4, 2, 1, 0] ⟨rfl, rfl, rfl, rfl, rfl, trivial⟩ (by decide) ?_; refine L.nm (by kernel_rfl) ?_
     rotate_left
     refine L.lit0S rfl rfl rfl rfl (fun A48 => ?_)
     refine L.nm (by kernel_rfl) ?_; refine LM.a2 3 8 (by kernel_rfl) (Hq [0, 3, 2, 1] rfl) rfl rfl ?_ ?_
     refine L.append (j := 2) rfl rfl rfl rfl (by decide) rfl rfl rfl rfl (Src.r 3 rfl) ((N32_len _).trans (Nat.mul_one _).symm) (N32_one _) (by omega) (by show _ * 4 ≤ _; omega) rfl (fun A47 cc47 => ?_)
     refine L.nm (by kernel_rfl) ?_; refine LM.a2 7 8 (by kernel_rfl) (Hq [0, 3, 2, 1] rfl) rfl rfl ?_ ?_
     refine L.append (j := 3) rfl rfl rfl rfl (by decide) rfl rfl rfl rfl (Src.r 2 rfl) ((Bs_len _).trans (Nat.mul_one _).symm) (Bs_one _) (by omega) (by show _ * 1 ≤ _; omega) rfl (fun A51 cc51 => ?_)
     refine L.nm (by kernel_rfl) ?_; refine LM.f 8 rfl (by kernel_rfl) (Hq [0, 3, 2, 1] rfl) ?_
     refine L.lit0S rfl rfl rfl rfl (fun A52 => ?_)
     refine L.nm (by kernel_rfl) ?_; refine LM.f 11 rfl (by kernel_rfl) (Hq [0, 3, 2, 1] rfl) ?_
     refine L.append (j := 4) rfl rfl rfl rfl (by decide) rfl rfl rfl rfl (Src.r 1 rfl) ((I64_len _).trans (Nat.mul_one _).symm) (I64_one _) (by omega) (by show _ * 8 ≤ _; omega) rfl (fun A55 cc55 => ?_)
     refine L.nm (by kernel_rfl) ?_; refine LM.f 12 rfl (by kernel_rfl) (Hq [0, 3, 2, 1] rfl) ?_; refine L.step (Ev.build rfl rfl rfl rfl rfl rfl rfl) rfl ?_; refine L.norm (H' := [_, _, _, _, _]) [4, 3, 2, 1, 0] ⟨rfl, rfl, rfl, rfl, rfl, trivial⟩ (by decide) ?_; refine L.nm (by kernel_rfl) ?_
     rotate_left
     refine L.lit0S rfl rfl rfl rfl (fun A52 => ?_)
     refine L.nm (by kernel_rfl) ?_; refine LM.f 7 rfl (by kernel_rfl) (Hq [0, 3, 2, 1] rfl) ?_
     refine L.append (j := 3) rfl rfl rfl rfl (by decide) rfl rfl rfl rfl (Src.r 2 rfl) ((Bs_len _).trans (Nat.mul_one _).symm) (Bs_one _) (by omega) (by show _ * 1 ≤ _; omega) rfl (fun A51 cc51 => ?_)
     refine L.nm (by kernel_rfl) ?_; refine LM.f 11 rfl (by kernel_rfl) (Hq [0, 3, 2, 1] rfl) ?_
     refine L.append (j := 4) rfl rfl rfl rfl (by decide) rfl rfl rfl rfl (Src.r 1 rfl) ((I64_len _).trans (Nat.mul_one _).symm) (I64_one _) (by omega) (by show _ * 8 ≤ _; omega) rfl (fun A55 cc55 => ?_)
     refine L.nm (by kernel_rfl) ?_; refine LM.f 12 rfl (by kernel_rfl) (Hq [0, 3, 2, 1] rfl) ?_; refine L.step (Ev.build rfl rfl rfl rfl rfl rfl rfl) rfl ?_; refine L.norm (H' := [_, _, _, _, _]) [4, 3, 2, 1, 0] ⟨rfl, rfl, rfl, rfl, rfl, trivial⟩ (by decide) ?_; refine L.nm (by kernel_rfl) ?_
     rotate_left
     refine L.lit0S rfl rfl rfl rfl (fun A52 => ?_)
     refine L.nm (by kernel_rfl) ?_; refine LM.f 3 rfl (by kernel_rfl) (Hq [0, 3, 2, 1] rfl) ?_
     refine L.append (j := 2) rfl rfl rfl rfl (by decide) rfl rfl rfl rfl (Src.r 3 rfl) ((N32_len _).trans (Nat.mul_one _).symm) (N32_one _) (by omega) (by show _ * 4 ≤ _; omega) rfl (fun A47 cc47 => ?_)
     refine L.nm (by kernel_rfl) ?_; refine LM.f 7 rfl (by kernel_rfl) (Hq [0, 3, 2, 1] rfl) ?_
     refine L.append (j := 3) rfl rfl rfl rfl (by decide) rfl rfl rfl rfl (Src.r 2 rfl) ((Bs_len _).trans (Nat.mul_one _).symm) (Bs_one _) (by omega) (by show _ * 1 ≤ _; omega) rfl (fun A51 cc51 => ?_)
     refine L.nm (by kernel_rfl) ?_; refine LM.f 11 rfl (by kernel_rfl) (Hq [0, 3, 2, 1] rfl) ?_
     refine L.append (j := 4) rfl rfl rfl rfl (by decide) rfl rfl rfl rfl (Src.r 1 rfl) ((I64_len _).trans (Nat.mul_one _).symm) (I64_one _) (by omega) (by show _ * 8 ≤ _; omega) rfl (fun A55 cc55 => ?_)
     refine L.nm (by kernel_rfl) ?_; refine LM.f 12 rfl (by kernel_rfl) (Hq [0, 3, 2, 1] rfl) ?_; refine L.step (Ev.build rfl rfl rfl rfl rfl rfl rfl) rfl ?_; refine L.norm (H' := [_, _, _, _, _]) [4, 3, 2, 1, 0] ⟨rfl, rfl, rfl, rfl, rfl, trivial⟩ (by decide) ?_; refine L.nm (by kernel_rfl) ?_
     rotate_left
     refine L.lit0S rfl rfl rfl rfl (fun A52 => ?_)
     refine L.nm (by kernel_rfl) ?_; refine LM.a2 3 4 (by kernel_rfl) (Hq [0, 3, 2, 1] rfl) rfl rfl ?_ ?_
     refine L.append (j := 2) rfl rfl rfl rfl (by decide) rfl rfl rfl rfl (Src.r 3 rfl) ((N32_len _).trans (Nat.mul_one _).symm) (N32_one _) (by omega) (by show _ * 4 ≤ _; omega) rfl (fun A47 cc47 => ?_)
     refine L.nm (by kernel_rfl) ?_; refine LM.f 4 rfl (by kernel_rfl) (Hq [0, 3, 2, 1] rfl) ?_
     refine L.lit0S rfl rfl rfl rfl (fun A48 => ?_)
     refine L.nm (by kernel_rfl) ?_; refine LM.f 7 rfl (by kernel_rfl) (Hq [0, 3, 2, 1] rfl) ?_
     refine L.append (j := 4) rfl rfl rfl rfl (by decide) rfl rfl rfl rfl (Src.r 2 rfl) ((Bs_len _).trans (Nat.mul_one _).symm) (Bs_one _) (by omega) (by show _ * 1 ≤ _; omega) rfl (fun A51 cc51 => ?_)
     refine L.nm (by kernel_rfl) ?_; refine LM.f 11 rfl (by kernel_rfl) (Hq [0, 3, 2, 1] rfl) ?_
     refine L.append (j := 3) rfl rfl rfl rfl (by decide) rfl rfl rfl rfl (Src.r 1 rfl) ((I64_len _).trans (Nat.mul_one _).symm) (I64_one _) (by omega) (by show _ * 8 ≤ _; omega) rfl (fun A55 cc55 => ?_)
     refine L.nm (by kernel_rfl) ?_; refine LM.f 12 rfl (by kernel_rfl) (Hq [0, 3, 2, 1] rfl) ?_; refine L.step (Ev.build rfl rfl rfl rfl rfl rfl rfl) rfl ?_; refine L.norm (H' := [_, _, _, _, _]) [3, 4, 2, 1, 0] ⟨rfl, rfl, rfl, rfl, rfl, trivial⟩ (by decide) ?_; refine L.nm (by kernel_rfl) ?_
     rotate_left
     refine L.lit0S rfl rfl rfl rfl (fun A48 => ?_)
     refine L.nm (by kernel_rfl) ?_; refine LM.f 3 rfl (by kernel_rfl) (Hq [0, 3, 2, 1] rfl) ?_
     refine L.append (j := 2) rfl rfl rfl rfl (by decide) rfl rfl rfl rfl (Src.r 3 rfl) ((N32_len _).trans (Nat.mul_one _).symm) (N32_one _) (by omega) (by show _ * 4 ≤ _; omega) rfl (fun A47 cc47 => ?_)
     refine L.nm (by kernel_rfl) ?_; refine LM.f 7 rfl (by kernel_rfl) (Hq [0, 3, 2, 1] rfl) ?_
     refine L.append (j := 4) rfl rfl rfl rfl (by decide) rfl rfl rfl rfl (Src.r 2 rfl) ((Bs_len _).trans (Nat.mul_one _).symm) (Bs_one _) (by omega) (by show _ * 1 ≤ _; omega) rfl (fun A51 cc51 => ?_)
     refine L.nm (by kernel_rfl) ?_; refine LM.f 11 rfl (by kernel_rfl) (Hq [0, 3, 2, 1] rfl) ?_
     refine L.append (j := 3) rfl rfl rfl rfl (by decide) rfl rfl rfl rfl (Src.r 1 rfl) ((I64_len _).trans (Nat.mul_one _).symm) (I64_one _) (by omega) (by show _ * 8 ≤ _; omega) rfl (fun A55 cc55 => ?_)
     refine L.nm (by kernel_rfl) ?_; refine LM.f 12 rfl (by kernel_rfl) (Hq [0, 3, 2, 1] rfl) ?_; refine L.step (Ev.build rfl rfl rfl rfl rfl rfl rfl) rfl ?_; refine L.norm (H' := [_, _, _, _, _]) [3, 4, 2, 1, 0] ⟨rfl, rfl, rfl, rfl, rfl, trivial⟩ (by decide) ?_; refine L.nm (by kernel_rfl) ?_
     rotate_left
     refine L.lit0S rfl rfl rfl rfl (fun A48 => ?_)
     refine L.nm (by kernel_rfl) ?_; refine LM.a2 0 8 (by kernel_rfl) (Hq [0, 3, 2, 1] rfl) rfl rfl ?_ ?_
     refine L.lit0S rfl rfl rfl rfl (fun A44 => ?_)
     refine L.nm (by kernel_rfl) ?_; refine LM.a2 3 8 (by kernel_rfl) (Hq [0, 3, 2, 1] rfl) rfl rfl ?_ ?_
     refine L.append (j := 3) rfl rfl rfl rfl (by decide) rfl rfl rfl rfl (Src.r 3 rfl) ((N32_len _).trans (Nat.mul_one _).symm) (N32_one _) (by omega) (by show _ * 4 ≤ _; omega) rfl (fun A47 cc47 => ?_)
     refine L.nm (by kernel_rfl) ?_; refine LM.a2 7 8 (by kernel_rfl) (Hq [0, 3, 2, 1] rfl) rfl rfl ?_ ?_
     refine L.append (j := 2) rfl rfl rfl rfl (by decide) rfl rfl rfl rfl (Src.r 2 rfl) ((Bs_len _).trans (Nat.mul_one _).symm) (Bs_one _) (by omega) (by show _ * 1 ≤ _; omega) rfl (fun A51 cc51 => ?_)
     refine L.nm (by kernel_rfl) ?_; refine LM.f 8 rfl (by kernel_rfl) (Hq [0, 3, 2, 1] rfl) ?_
     refine L.lit0S rfl rfl rfl rfl (fun A52 => ?_)
     refine L.nm (by kernel_rfl) ?_; refine LM.f 11 rfl (by kernel_rfl) (Hq [0, 3, 2, 1] rfl) ?_
     refine L.append (j := 4) rfl rfl rfl rfl (by decide) rfl rfl rfl rfl (Src.r 1 rfl) ((I64_len _).trans (Nat.mul_one _).symm) (I64_one _) (by omega) (by show _ * 8 ≤ _; omega) rfl (fun A55 cc55 => ?_)
     refine L.nm (by kernel_rfl) ?_; refine LM.f 12 rfl (by kernel_rfl) (Hq [0, 3, 2, 1] rfl) ?_; refine L.step (Ev.build rfl rfl rfl rfl rfl rfl rfl) rfl ?_; refine L.norm (H' := [_, _, _, _, _]) [4, 2, 3, 1, 0] ⟨rfl, rfl, rfl, rfl, rfl, trivial⟩ (by decide) ?_; refine L.nm (by kernel_rfl) ?_
     rotate_left
     refine L.lit0S rfl rfl rfl rfl (fun A52 => ?_)
     refine L.nm (by kernel_rfl) ?_; refine LM.f 7 rfl (by kernel_rfl) (Hq [0, 3, 2, 1] rfl) ?_
     refine L.append (j := 2) rfl rfl rfl rfl (by decide) rfl rfl rfl rfl (Src.r 2 rfl) ((Bs_len _).trans (Nat.mul_one _).symm) (Bs_one _) (by omega) (by show _ * 1 ≤ _; omega) rfl (fun A51 cc51 => ?_)
     refine L.nm (by kernel_rfl) ?_; refine LM.f 11 rfl (by kernel_rfl) (Hq [0, 3, 2, 1] rfl) ?_
     refine L.append (j := 4) rfl rfl rfl rfl (by decide) rfl rfl rfl rfl (Src.r 1 rfl) ((I64_len _).trans (Nat.mul_one _).symm) (I64_one _) (by omega) (by show _ * 8 ≤ _; omega) rfl (fun A55 cc55 => ?_)
     refine L.nm (by kernel_rfl) ?_; refine LM.f 12 rfl (by kernel_rfl) (Hq [0, 3, 2, 1] rfl) ?_; refine L.step (Ev.build rfl rfl rfl rfl rfl rfl rfl) rfl ?_; refine L.norm (H' := [_, _, _, _, _]) [4, 2, 3, 1, 0] ⟨rfl, rfl, rfl, rfl, rfl, trivial⟩ (by decide) ?_; refine L.nm (by kernel_rfl) ?_
     rotate_left
     refine L.lit0S rfl rfl rfl rfl (fun A52 => ?_)
     refine L.nm (by kernel_rfl) ?_; refine LM.f 3 rfl (by kernel_rfl) (Hq [0, 3, 2, 1] rfl) ?_
     refine L.append (j := 3) rfl rfl rfl rfl (by decide) rfl rfl rfl rfl (Src.r 3 rfl) ((N32_len _).trans (Nat.mul_one _).symm) (N32_one _) (by omega) (by show _ * 4 ≤ _; omega) rfl (fun A47 cc47 => ?_)
     refine L.nm (by kernel_rfl) ?_; refine LM.f 7 rfl (by kernel_rfl) (Hq [0, 3, 2, 1] rfl) ?_
     refine L.append (j := 2) rfl rfl rfl rfl (by decide) rfl rfl rfl rfl (Src.r 2 rfl) ((Bs_len _).trans (Nat.mul_one _).symm) (Bs_one _) (by omega) (by show _ * 1 ≤ _; omega) rfl (fun A51 cc51 => ?_)
     refine L.nm (by kernel_rfl) ?_; refine LM.f 11 rfl (by kernel_rfl) (Hq [0, 3, 2, 1] rfl) ?_
     refine L.append (j := 4) rfl rfl rfl rfl (by decide) rfl rfl rfl rfl (Src.r 1 rfl) ((I64_len _).trans (Nat.mul_one _).symm) (I64_one _) (by omega) (by show _ * 8 ≤ _; omega) rfl (fun A55 cc55 => ?_)
     refine L.nm (by kernel_rfl) ?_; refine LM.f 12 rfl (by kernel_rfl) (Hq [0, 3, 2, 1] rfl) ?_; refine L.step (Ev.build rfl rfl rfl rfl rfl rfl rfl) rfl ?_; refine L.norm (H' := [_, _, _, _, _]) [4, 2, 3, 1, 0] ⟨rfl, rfl, rfl, rfl, rfl, trivial⟩ (by decide) ?_; refine L.nm (by kernel_rfl) ?_
     rotate_left
     refine L.lit0S rfl rfl rfl rfl (fun A52 => ?_)
     refine L.nm (by kernel_rfl) ?_; refine LM.f 0 rfl (by kernel_rfl) (Hq [0, 3, 2, 1] rfl) ?_
     refine L.lit0S rfl rfl rfl rfl (fun A44 => ?_)
     refine L.nm (by kernel_rfl) ?_; refine LM.f 3 rfl (by kernel_rfl) (Hq [0, 3, 2, 1] rfl) ?_
     refine L.append (j := 4) rfl rfl rfl rfl (by decide) rfl rfl rfl rfl (Src.r 3 rfl) ((N32_len _).trans (Nat.mul_one _).symm) (N32_one _) (by omega) (by show _ * 4 ≤ _; omega) rfl (fun A47 cc47 => ?_)
     refine L.nm (by kernel_rfl) ?_; refine LM.f 7 rfl (by kernel_rfl) (Hq [0, 3, 2, 1] rfl) ?_
     refine L.append (j := 2) rfl rfl rfl rfl (by decide) rfl rfl rfl rfl (Src.r 2 rfl) ((Bs_len _).trans (Nat.mul_one _).symm) (Bs_one _) (by omega) (by show _ * 1 ≤ _; omega) rfl (fun A51 cc51 => ?_)
     refine L.nm (by kernel_rfl) ?_; refine LM.f 11 rfl (by kernel_rfl) (Hq [0, 3, 2, 1] rfl) ?_
     refine L.append (j := 3) rfl rfl rfl rfl (by decide) rfl rfl rfl rfl (Src.r 1 rfl) ((I64_len _).trans (Nat.mul_one _).symm) (I64_one _) (by omega) (by show _ * 8 ≤ _; omega) rfl (fun A55 cc55 => ?_)
     refine L.nm (by kernel_rfl) ?_; refine LM.f 12 rfl (by kernel_rfl) (Hq [0, 3, 2, 1] rfl) ?_; refine L.step (Ev.build rfl rfl rfl rfl rfl rfl rfl) rfl ?_; refine L.norm (H' := [_, _, _, _, _]) [3, 2, 4, 1, 0] ⟨rfl, rfl, rfl, rfl, rfl, trivial⟩ (by decide) ?_; refine L.nm (by kernel_rfl) ?_
     rotate_left
     refine L.lit0S rfl rfl rfl rfl (fun A52 => ?_)
     refine L.nm (by kernel_rfl) ?_; refine LM.a2 0 4 (by kernel_rfl) (Hq [0, 3, 2, 1] rfl) rfl rfl ?_ ?_
     refine L.lit0S rfl rfl rfl rfl (fun A44 => ?_)
     refine L.nm (by kernel_rfl) ?_; refine LM.a2 3 4 (by kernel_rfl) (Hq [0, 3, 2, 1] rfl) rfl rfl ?_ ?_
     refine L.append (j := 3) rfl rfl rfl rfl (by decide) rfl rfl rfl rfl (Src.r 3 rfl) ((N32_len _).trans (Nat.mul_one _).symm) (N32_one _) (by omega) (by show _ * 4 ≤ _; omega) rfl (fun A47 cc47 => ?_)
     refine L.nm (by kernel_rfl) ?_; refine LM.f 4 rfl (by kernel_rfl) (Hq [0, 3, 2, 1] rfl) ?_
     refine L.lit0S rfl rfl rfl rfl (fun A48 => ?_)
     refine L.nm (by kernel_rfl) ?_; refine LM.f 7 rfl (by kernel_rfl) (Hq [0, 3, 2, 1] rfl) ?_
     refine L.append (j := 4) rfl rfl rfl rfl (by decide) rfl rfl rfl rfl (Src.r 2 rfl) ((Bs_len _).trans (Nat.mul_one _).symm) (Bs_one _) (by omega) (by show _ * 1 ≤ _; omega) rfl (fun A51 cc51 => ?_)
     refine L.nm (by kernel_rfl) ?_; refine LM.f 11 rfl (by kernel_rfl) (Hq [0, 3, 2, 1] rfl) ?_
     refine L.append (j := 2) rfl rfl rfl rfl (by decide) rfl rfl rfl rfl (Src.r 1 rfl) ((I64_len _).trans (Nat.mul_one _).symm) (I64_one _) (by omega) (by show _ * 8 ≤ _; omega) rfl (fun A55 cc55 => ?_)
     refine L.nm (by kernel_rfl) ?_; refine LM.f 12 rfl (by kernel_rfl) (Hq [0, 3, 2, 1] rfl) ?_; refine L.step (Ev.build rfl rfl rfl rfl rfl rfl rfl) rfl ?_; refine L.norm (H' := [_, _, _, _, _]) [2, 4, 3, 1, 0] ⟨rfl, rfl, rfl, rfl, rfl, trivial⟩ (by decide) ?_; refine L.nm (by kernel_rfl) ?_
     rotate_left
     refine L.lit0S rfl rfl rfl rfl (fun A48 => ?_)
     refine L.nm (by kernel_rfl) ?_; refine LM.f 3 rfl (by kernel_rfl) (Hq [0, 3, 2, 1] rfl) ?_
     refine L.append (j := 3) rfl rfl rfl rfl (by decide) rfl rfl rfl rfl (Src.r 3 rfl) ((N32_len _).trans (Nat.mul_one _).symm) (N32_one _) (by omega) (by show _ * 4 ≤ _; omega) rfl (fun A47 cc47 => ?_)
     refine L.nm (by kernel_rfl) ?_; refine LM.f 7 rfl (by kernel_rfl) (Hq [0, 3, 2, 1] rfl) ?_
     refine L.append (j := 4) rfl rfl rfl rfl (by decide) rfl rfl rfl rfl (Src.r 2 rfl) ((Bs_len _).trans (Nat.mul_one _).symm) (Bs_one _) (by omega) (by show _ * 1 ≤ _; omega) rfl (fun A51 cc51 => ?_)
     refine L.nm (by kernel_rfl) ?_; refine LM.f 11 rfl (by kernel_rfl) (Hq [0, 3, 2, 1] rfl) ?_
     refine L.append (j := 2) rfl rfl rfl rfl (by decide) rfl rfl rfl rfl (Src.r 1 rfl) ((I64_len _).trans (Nat.mul_one _).symm) (I64_one _) (by omega) (by show _ * 8 ≤ _; omega) rfl (fun A55 cc55 => ?_)
     refine L.nm (by kernel_rfl) ?_; refine LM.f 12 rfl (by kernel_rfl) (Hq [0, 3, 2, 1] rfl) ?_; refine L.step (Ev.build rfl rfl rfl rfl rfl rfl rfl) rfl ?_; refine L.norm (H' := [_, _, _, _, _]) [2, 4, 3, 1, 0] ⟨rfl, rfl, rfl, rfl, rfl, trivial⟩ (by decide) ?_; refine L.nm (by kernel_rfl) ?_
     rotate_left
     refine L.lit0S rfl rfl rfl rfl (fun A48 => ?_)
     refine L.nm (by kernel_rfl) ?_; refine LM.f 0 rfl (by kernel_rfl) (Hq [0, 3, 2, 1] rfl) ?_
     refine L.lit0S rfl rfl rfl rfl (fun A44 => ?_)
     refine L.nm (by kernel_rfl) ?_; refine LM.f 3 rfl (by kernel_rfl) (Hq [0, 3, 2, 1] rfl) ?_
     refine L.append (j := 4) rfl rfl rfl rfl (by decide) rfl rfl rfl rfl (Src.r 3 rfl) ((N32_len _).trans (Nat.mul_one _).symm) (N32_one _) (by omega) (by show _ * 4 ≤ _; omega) rfl (fun A47 cc47 => ?_)
     refine L.nm (by kernel_rfl) ?_; refine LM.f 7 rfl (by kernel_rfl) (Hq [0, 3, 2, 1] rfl) ?_
     refine L.append (j := 3) rfl rfl rfl rfl (by decide) rfl rfl rfl rfl (Src.r 2 rfl) ((Bs_len _).trans (Nat.mul_one _).symm) (Bs_one _) (by omega) (by show _ * 1 ≤ _; omega) rfl (fun A51 cc51 => ?_)
     refine L.nm (by kernel_rfl) ?_; refine LM.f 11 rfl (by kernel_rfl) (Hq [0, 3, 2, 1] rfl) ?_
     refine L.append (j := 2) rfl rfl rfl rfl (by decide) rfl rfl rfl rfl (Src.r 1 rfl) ((I64_len _).trans (Nat.mul_one _).symm) (I64_one _) (by omega) (by show _ * 8 ≤ _; omega) rfl (fun A55 cc55 => ?_)
     refine L.nm (by kernel_rfl) ?_; refine LM.f 12 rfl (by kernel_rfl) (Hq [0, 3, 2, 1] rfl) ?_; refine L.step (Ev.build rfl rfl rfl rfl rfl rfl rfl) rfl ?_; refine L.norm (H' := [_, _, _, _, _]) [2, 3, 4, 1, 0] ⟨rfl, rfl, rfl, rfl, rfl, trivial⟩ (by decide) ?_; refine L.nm (by kernel_rfl) ?_
     rotate_left
     all_goals (
       refine LM.cut [] (by kernel_rfl) (Hq [0, 3, 2, 1] rfl) ?_; refine LM.f 14 rfl (by kernel_rfl) trivial ?_; refine L.storeA (j := 3) rfl rfl rfl rfl rfl (Nat.zero_lt_succ _) rfl rfl ?_
       refine L.nil (QE.m (by kernel_rfl) ?_)
       refine LM.nil (by kernel_rfl) trivial ?_
       refine QE.joined ((⟨A47, A51, A55, cc47, cc51, cc55, ()⟩, A10)) (by exact trivial) (by exact Le.mk' (rs := [4, 5, 7, 8, 9]) (hs := [3, 2, 1, 0]) ⟨rfl, rfl, rfl, rfl, trivial⟩ ⟨rfl, rfl, rfl, rfl, rfl, trivial⟩ ⟨(congrArg some (own_eq2 rfl (by dsimp only; simp only [Nat.zero_add]; rfl))), (congrArg some (own_eq2 (Nat.zero_add _) rfl)), (congrArg some (own_eq2 (Nat.zero_add _) rfl)), (congrArg some (own_eq2 (Nat.zero_add _) rfl)), trivial⟩ (by decide)))
    ·
     rintro ⟨a, A10⟩ _
     dsimp only
     refine QE.seq ?_; refine C.seqJ (fun q : At (Lf × Nat) × Option Addr => [(4, ptrOf A4 0), (5, ptrOf A5 0), (7, .bool true), (10, ptrOf q.2 0)]) (fun q : At (Lf × Nat) × Option Addr => [Rd A4 [.slice YW y.ws.length ywc, .slice YM y.ms.length ymc, .slice YL y.ls.length ylc], Rd A5 [.int .u16 (u0 : Int), .int .u16 (u1 : Int), .int .u16 (u2 : Int), .int .u16 (u3 : Int)], Rd YW (N32 y.ws), Rd YM (Bs y.ms), Rd YL (I64 y.ls)]) (fun q : At (Lf × Nat) × Option Addr => [Own 32 3 q.2 1 1 [.slice q.1.W q.1.x.1.ws.length q.1.wc, .slice q.1.M q.1.x.2 q.1.mc, .slice q.1.L q.1.x.1.ls.length q.1.lc], Own 53 1 q.1.W q.1.x.1.ws.length q.1.wc (N32 q.1.x.1.ws), Own 4 1 q.1.M q.1.x.1.ms.length q.1.mc (Bs q.1.x.1.ms), Own 3 1 q.1.L q.1.x.1.ls.length q.1.lc (I64 q.1.x.1.ls)]) (fun q : At (Lf × Nat) × Option Addr => W32 q.1.x.1.ws ∧ q.1.x.2 ≤ q.1.x.1.ms.length ∧ q.1.x.1.ws.length ≤ 100 ∧ q.1.x.1.ms.length ≤ 100 ∧ q.1.x.1.ls.length ≤ 100) ?_ ?_
     ·
      refine C.seq (C.region ?_); refine L.step (Ev.fieldAddr rfl rfl rfl rfl rfl rfl (Src.o 0 rfl) (Nat.zero_lt_succ _) rfl) rfl ?_; refine L.step (Ev.load rfl rfl rfl (Src.o 0 rfl) rfl) rfl ?_; refine Lpu rfl rfl ?_; refine Lpu rfl rfl ?_; refine L.nil (QE.seq ?_)
      refine C.condB 60 rfl (fun hc60 => ?_) (fun hc60 => ?_)
      ·
       replace hc60 := of_decide_eq_true hc60
       have hil : (u0 % (liftR (codB l 12)).ws.length) < (liftR (codB l 12)).ws.length := Nat.mod_lt _ (by omega)
       refine C.seq ?_
       refine C.cap 2 rfl (fun hmc => ?_)
       refine C.region ?_; refine L.step (Ev.idxArr (k := 0) (m := 0) rfl rfl rfl rfl rfl rfl (by decide) (Src.r 1 rfl) (by exact Nat.zero_lt_succ _) rfl) rfl ?_; refine L.step (Ev.load rfl rfl rfl (Src.r 1 rfl) rfl) rfl ?_
       first | refine L.step (Ev.byteInt rfl rfl rfl rfl) rfl ?_ | refine L.step (Ev.toInt rfl rfl rfl rfl (by omega) (by omega)) rfl ?_
       refine L.step (Ev.fieldAddr rfl rfl rfl rfl rfl rfl (Src.o 0 rfl) (Nat.zero_lt_succ _) rfl) rfl ?_; refine L.step (Ev.load rfl rfl rfl (Src.o 0 rfl) rfl) rfl ?_; refine Lpu rfl rfl ?_; refine L.step (Ev.cast (u := .int .i64 (((u0 % (liftR (codB l 12)).ws.length) : Nat) : Int)) (Ev.rem rfl rfl (by omega) (by omega)) (congrArg (Value.int .i64) (by omega))) rfl ?_; refine Lpu rfl rfl ?_; refine L.nil (QE.seq (C.seq (C.region ?_))); refine L.step (Ev.idxArr (k := 1) (m := 1) rfl rfl rfl rfl rfl rfl (by decide) (Src.r 1 rfl) (by exact Nat.zero_lt_succ _) rfl) rfl ?_; refine L.step (Ev.load rfl rfl rfl (Src.r 1 rfl) rfl) rfl ?_; refine L.step (Ev.cast (u := .int .u16 ((u1 % 5 : Nat) : Int)) (Ev.rem rfl rfl (by omega) (by decide)) (congrArg (Value.int .u16) (by omega))) rfl ?_; refine L.nil (QE.seq (C.block (C.seq (C.region ?_)))); refine Lpu rfl rfl ?_; refine Lpu rfl rfl ?_; refine L.nil (QE.seq ?_)
       refine C.condB 90 rfl (fun hc90 => ?_) (fun hc90 => ?_)
       ·
        replace hc90 := i_eq hc90
        refine C.regionM [Rd A10 [.slice a.W (liftR (codB l 12)).ws.length a.wc, .slice a.M (liftR (codB l 12)).ms.length a.mc, .slice a.L (liftR (codB l 12)).ls.length a.lc], Rd A5 [.int .u16 (u0 : Int), .int .u16 (u1 : Int), .int .u16 (u2 : Int), .int .u16 (u3 : Int)], Rd a.W (N32 (liftR (codB l 12)).ws)] ⟨Has.o 0 rfl, Has.r 1 rfl, Has.o 1 rfl, trivial⟩ ?_; refine LM.q 0 rfl (by kernel_rfl) (Ev.fieldAddr rfl rfl rfl rfl rfl rfl (Src.r 0 rfl) (Nat.zero_lt_succ _) rfl) rfl ⟨Has.o 0 rfl, Has.r 1 rfl, Has.o 1 rfl, trivial⟩ ?_; refine LM.q 1 rfl (by kernel_rfl) (Ev.load rfl rfl rfl (Src.r 0 rfl) rfl) rfl ⟨Has.o 0 rfl, Has.r 1 rfl, Has.o 1 rfl, trivial⟩ ?_; refine LM.q 2 rfl (by kernel_rfl) (Ev.pure rfl) rfl ⟨Has.o 0 rfl, Has.r 1 rfl, Has.o 1 rfl, trivial⟩ ?_; refine LM.q 3 rfl (by kernel_rfl) (Ev.fieldAddr rfl rfl rfl rfl rfl rfl (Src.r 0 rfl) (Nat.zero_lt_succ _) rfl) rfl ⟨Has.o 0 rfl, Has.r 1 rfl, Has.o 1 rfl, trivial⟩ ?_; refine LM.q 4 rfl (by kernel_rfl) (Ev.load rfl rfl rfl (Src.r 0 rfl) rfl) rfl ⟨Has.o 0 rfl, Has.r 1 rfl, Has.o 1 rfl, trivial⟩ ?_; refine LM.q 5 rfl (by kernel_rfl) (Ev.pure rfl) rfl ⟨Has.o 0 rfl, Has.r 1 rfl, Has.o 1 rfl, trivial⟩ ?_; refine LM.q 6 rfl (by kernel_rfl) (Ev.idx1 (k := (u0 % (liftR (codB l 12)).ws.length)) rfl rfl rfl rfl rfl rfl rfl (by omega) (Src.r 2 rfl) (by rw [N32_len]; omega)) rfl ⟨Has.o 0 rfl, Has.r 1 rfl, Has.o 1 rfl, trivial⟩ ?_; refine LM.q 7 rfl (by kernel_rfl) (Ev.load rfl rfl rfl (Src.r 2 rfl) (N32_get (by omega))) rfl ⟨Has.o 0 rfl, Has.r 1 rfl, Has.o 1 rfl, trivial⟩ ?_; refine LM.f 8 rfl (by kernel_rfl) ⟨Has.o 0 rfl, Has.r 1 rfl, Has.o 1 rfl, trivial⟩ ?_; refine L.step (Ev.idxArr (k := 2) (m := 2) rfl rfl rfl rfl rfl rfl (by decide) (Src.r 1 rfl) (by exact Nat.zero_lt_succ _) rfl) rfl ?_
        refine L.nil (QE.m (by kernel_rfl) ?_)
        refine LM.f 9 rfl (by kernel_rfl) ⟨Has.o 0 rfl, Has.r 1 rfl, Has.o 1 rfl, trivial⟩ ?_; refine L.step (Ev.load rfl rfl rfl (Src.r 1 rfl) rfl) rfl ?_
        refine L.nil (QE.m (by kernel_rfl) ?_)
        refine LM.f 10 rfl (by kernel_rfl) ⟨Has.o 0 rfl, Has.r 1 rfl, Has.o 1 rfl, trivial⟩ ?_; refine L.step (Ev.toU32 (q := u2) rfl rfl rfl rfl (by omega)) rfl ?_
        refine L.nil (QE.m (by kernel_rfl) ?_)
        refine LM.f 11 rfl (by kernel_rfl) ⟨Has.o 0 rfl, Has.r 1 rfl, Has.o 1 rfl, trivial⟩ ?_; refine L.step (Ev.xor32 (a := ((liftR (codB l 12)).ws.getD (u0 % (liftR (codB l 12)).ws.length) 0)) (b := u2) rfl rfl (hx32 _) (by omega) rfl) rfl ?_
        refine L.nil (QE.m (by kernel_rfl) ?_)
        refine LM.cut [] (by kernel_rfl) ⟨Has.o 0 rfl, Has.r 1 rfl, Has.o 1 rfl, trivial⟩ ?_; refine LM.f 12 rfl (by kernel_rfl) trivial ?_; refine L.step (Ev.idx1 (k := (u0 % (liftR (codB l 12)).ws.length)) rfl rfl rfl rfl rfl rfl rfl (by omega) (Src.o 1 rfl) (by rw [N32_len]; omega)) rfl ?_
        refine L.nil (QE.m (by kernel_rfl) ?_)
        refine LM.f 13 rfl (by kernel_rfl) trivial ?_; refine L.store (j := 1) rfl rfl rfl rfl rfl rfl rfl (N32_get (by omega)) ?_
        refine L.nil (QE.m (by kernel_rfl) ?_)
        refine LM.nil (by kernel_rfl) trivial ?_; refine QE.blkN ?_
        refine QE.join ((⟨a.W, a.M, a.L, a.wc, a.mc, a.lc, (⟨(liftR (codB l 12)).ws.set (u0 % (liftR (codB l 12)).ws.length) (((liftR (codB l 12)).ws.getD (u0 % (liftR (codB l 12)).ws.length) 0) ^^^ u2), (liftR (codB l 12)).ms, (liftR (codB l 12)).ls⟩, (liftR (codB l 12)).ms.length)⟩, A10)) (by dsimp only; exact ⟨W32.set hx32 _ (Nat.xor_lt_two_pow (n := 32) (hx32 _) (by omega)), Nat.le_refl _, by rw [List.length_set]; omega, by omega, by omega⟩) (by exact Le.mk' (rs := [0, 1, 2, 3, 4]) (hs := [0, 1, 2, 3]) ⟨rfl, rfl, rfl, rfl, trivial⟩ ⟨rfl, rfl, rfl, rfl, rfl, trivial⟩ ⟨(congrArg some (own_eq2 rfl (by dsimp only; rw [List.length_set]))), (congrArg some (own_eq2 (List.length_set ..).symm (by dsimp only; first | rw [N32_set] | rw [← N32_set]))), rfl, rfl, trivial⟩ (by decide))
       ·
        replace hc90 := i_ne hc90
        refine C.seq (C.region ?_); refine Lpu rfl rfl ?_; refine Lpu rfl rfl ?_; refine L.nil (QE.seq ?_)
        refine C.condB 105 rfl (fun hc105 => ?_) (fun hc105 => ?_)
        ·
         replace hc105 := i_eq hc105
         refine C.regionM [Rd A10 [.slice a.W (liftR (codB l 12)).ws.length a.wc, .slice a.M (liftR (codB l 12)).ms.length a.mc, .slice a.L (liftR (codB l 12)).ls.length a.lc], Rd A5 [.int .u16 (u0 : Int), .int .u16 (u1 : Int), .int .u16 (u2 : Int), .int .u16 (u3 : Int)], Rd a.M (Bs (liftR (codB l 12)).ms)] ⟨Has.o 0 rfl, Has.r 1 rfl, Has.o 2 rfl, trivial⟩ ?_; refine LM.q 0 rfl (by kernel_rfl) (Ev.fieldAddr rfl rfl rfl rfl rfl rfl (Src.r 0 rfl) (Nat.zero_lt_succ _) rfl) rfl ⟨Has.o 0 rfl, Has.r 1 rfl, Has.o 2 rfl, trivial⟩ ?_; refine LM.q 1 rfl (by kernel_rfl) (Ev.load rfl rfl rfl (Src.r 0 rfl) rfl) rfl ⟨Has.o 0 rfl, Has.r 1 rfl, Has.o 2 rfl, trivial⟩ ?_; refine LM.q 2 rfl (by kernel_rfl) (Ev.pure rfl) rfl ⟨Has.o 0 rfl, Has.r 1 rfl, Has.o 2 rfl, trivial⟩ ?_; refine LM.q 3 rfl (by kernel_rfl) (Ev.fieldAddr rfl rfl rfl rfl rfl rfl (Src.r 0 rfl) (Nat.zero_lt_succ _) rfl) rfl ⟨Has.o 0 rfl, Has.r 1 rfl, Has.o 2 rfl, trivial⟩ ?_; refine LM.q 4 rfl (by kernel_rfl) (Ev.load rfl rfl rfl (Src.r 0 rfl) rfl) rfl ⟨Has.o 0 rfl, Has.r 1 rfl, Has.o 2 rfl, trivial⟩ ?_; refine LM.f 5 rfl (by kernel_rfl) ⟨Has.o 0 rfl, Has.r 1 rfl, Has.o 2 rfl, trivial⟩ ?_; refine Lpu rfl rfl ?_
         refine L.nil (QE.m (by kernel_rfl) ?_)
         refine LM.f 6 rfl (by kernel_rfl) ⟨Has.o 0 rfl, Has.r 1 rfl, Has.o 2 rfl, trivial⟩ ?_; refine L.step (Ev.idx1 (k := (u0 % (liftR (codB l 12)).ws.length)) rfl rfl rfl rfl rfl rfl rfl (by omega) (Src.o 2 rfl) (by rw [Bs_len]; omega)) rfl ?_
         refine L.nil (QE.m (by kernel_rfl) ?_)
         refine LM.f 7 rfl (by kernel_rfl) ⟨Has.o 0 rfl, Has.r 1 rfl, Has.o 2 rfl, trivial⟩ ?_; refine L.step (Ev.load rfl rfl rfl (Src.o 2 rfl) (Bs_get (by omega))) rfl ?_
         refine L.nil (QE.m (by kernel_rfl) ?_)
         refine LM.f 8 rfl (by kernel_rfl) ⟨Has.o 0 rfl, Has.r 1 rfl, Has.o 2 rfl, trivial⟩ ?_; refine Lpu rfl rfl ?_
         refine L.nil (QE.m (by kernel_rfl) ?_)
         refine LM.cut [] (by kernel_rfl) ⟨Has.o 0 rfl, Has.r 1 rfl, Has.o 2 rfl, trivial⟩ ?_; refine LM.f 9 rfl (by kernel_rfl) trivial ?_; refine L.step (Ev.idx1 (k := (u0 % (liftR (codB l 12)).ws.length)) rfl rfl rfl rfl rfl rfl rfl (by omega) (Src.o 2 rfl) (by rw [Bs_len]; omega)) rfl ?_
         refine L.nil (QE.m (by kernel_rfl) ?_)
         refine LM.f 10 rfl (by kernel_rfl) trivial ?_; refine L.store (j := 2) rfl rfl rfl rfl rfl rfl rfl (Bs_get (by omega)) ?_
         refine L.nil (QE.m (by kernel_rfl) ?_)
         refine LM.nil (by kernel_rfl) trivial ?_; refine QE.blkN ?_
         refine QE.join ((⟨a.W, a.M, a.L, a.wc, a.mc, a.lc, (⟨(liftR (codB l 12)).ws, (liftR (codB l 12)).ms.set (u0 % (liftR (codB l 12)).ws.length) (!((liftR (codB l 12)).ms.getD (u0 % (liftR (codB l 12)).ws.length) false)), (liftR (codB l 12)).ls⟩, (liftR (codB l 12)).ms.length)⟩, A10)) (by dsimp only; exact ⟨hx32, by rw [List.length_set]; exact Nat.le_refl _, by omega, by rw [List.length_set]; omega, by omega⟩) (by exact Le.mk' (rs := [0, 1, 2, 3, 4]) (hs := [0, 1, 2, 3]) ⟨rfl, rfl, rfl, rfl, trivial⟩ ⟨rfl, rfl, rfl, rfl, rfl, trivial⟩ ⟨rfl, rfl, (congrArg some (own_eq2 (List.length_set ..).symm (by dsimp only; first | rw [Bs_set] | rw [← Bs_set]))), rfl, trivial⟩ (by decide))
        ·
         replace hc105 := i_ne hc105
         refine C.seq (C.region ?_); refine Lpu rfl rfl ?_; refine Lpu rfl rfl ?_; refine L.nil (QE.seq ?_)
         refine C.condB 117 rfl (fun hc117 => ?_) (fun hc117 => ?_)
         ·
          replace hc117 := i_eq hc117
          refine C.region ?_; refine L.step (Ev.fieldAddr rfl rfl rfl rfl rfl rfl (Src.o 0 rfl) (Nat.zero_lt_succ _) rfl) rfl ?_; refine L.step (Ev.load rfl rfl rfl (Src.o 0 rfl) rfl) rfl ?_; refine L.step (Ev.idxArr (k := 2) (m := 2) rfl rfl rfl rfl rfl rfl (by decide) (Src.r 1 rfl) (by exact Nat.zero_lt_succ _) rfl) rfl ?_; refine L.step (Ev.load rfl rfl rfl (Src.r 1 rfl) rfl) rfl ?_
          first | refine L.step (Ev.byteInt rfl rfl rfl rfl) rfl ?_ | refine L.step (Ev.toInt rfl rfl rfl rfl (by omega) (by omega)) rfl ?_
          refine L.step (Ev.mul rfl rfl (by omega) (by omega)) rfl ?_
          refine L.lit rfl rfl rfl rfl rfl (by rfl) (by rfl) (by rfl) rfl rfl (fun A125 => ?_)
          refine L.append (j := 3) rfl rfl rfl rfl (by decide) rfl rfl rfl rfl (Src.o 4 rfl) rfl (I64_one [4 * (u2 : Int)]) (by omega) (by show _ * 8 ≤ _; omega) rfl (fun A126 cc126 => ?_)
          refine L.step (Ev.fieldAddr rfl rfl rfl rfl rfl rfl (Src.o 0 rfl) (Nat.zero_lt_succ _) rfl) rfl ?_
          first | refine L.store (j := 0) rfl rfl rfl rfl rfl rfl rfl rfl ?_ | refine L.store (j := 1) rfl rfl rfl rfl rfl rfl rfl rfl ?_ | refine L.store (j := 2) rfl rfl rfl rfl rfl rfl rfl rfl ?_ | refine L.store (j := 3) rfl rfl rfl rfl rfl rfl rfl rfl ?_ | refine L.store (j := 4) rfl rfl rfl rfl rfl rfl rfl rfl ?_
          refine L.nil ?_; refine QE.blkN ?_
          refine QE.join ((⟨a.W, a.M, A126, a.wc, a.mc, cc126, (⟨(liftR (codB l 12)).ws, (liftR (codB l 12)).ms, (liftR (codB l 12)).ls ++ [4 * (u2 : Int)]⟩, (liftR (codB l 12)).ms.length)⟩, A10)) (by dsimp only; exact ⟨hx32, Nat.le_refl _, by omega, by omega, by rw [List.length_append]; show _ + 1 ≤ _; omega⟩) (by exact Le.mk' (rs := [0, 1, 2, 3, 4]) (hs := [0, 1, 2, 3]) ⟨rfl, rfl, rfl, rfl, trivial⟩ ⟨rfl, rfl, rfl, rfl, rfl, trivial⟩ ⟨(congrArg some (own_eq2 rfl (by dsimp only; rw [List.length_append]; rfl))), rfl, rfl, (congrArg some (own_eq2 (by dsimp only; rw [List.length_append]; rfl) (by dsimp only; rw [← I64_app]; rfl))), trivial⟩ (by decide))
         ·
          replace hc117 := i_ne hc117
          refine C.seq (C.region ?_); refine Lpu rfl rfl ?_; refine Lpu rfl rfl ?_; refine L.nil (QE.seq ?_)
          refine C.condB 128 rfl (fun hc128 => ?_) (fun hc128 => ?_)
          ·
           replace hc128 := i_eq hc128
           refine C.region ?_; refine L.step (Ev.fieldAddr rfl rfl rfl rfl rfl rfl (Src.o 0 rfl) (Nat.zero_lt_succ _) rfl) rfl ?_; refine L.step (Ev.load rfl rfl rfl (Src.o 0 rfl) rfl) rfl ?_; refine Lpu rfl rfl ?_; refine L.step (Ev.sliceH (h := (u0 % (liftR (codB l 12)).ws.length)) rfl rfl rfl rfl rfl rfl (by omega)) rfl ?_; refine L.step (Ev.fieldAddr rfl rfl rfl rfl rfl rfl (Src.o 0 rfl) (Nat.zero_lt_succ _) rfl) rfl ?_
           first | refine L.store (j := 0) rfl rfl rfl rfl rfl rfl rfl rfl ?_ | refine L.store (j := 1) rfl rfl rfl rfl rfl rfl rfl rfl ?_ | refine L.store (j := 2) rfl rfl rfl rfl rfl rfl rfl rfl ?_ | refine L.store (j := 3) rfl rfl rfl rfl rfl rfl rfl rfl ?_ | refine L.store (j := 4) rfl rfl rfl rfl rfl rfl rfl rfl ?_
           refine L.nil ?_; refine QE.blkN ?_
           refine QE.join ((⟨a.W, a.M, a.L, a.wc, a.mc, a.lc, ((liftR (codB l 12)), (u0 % (liftR (codB l 12)).ws.length))⟩, A10)) (by dsimp only; exact ⟨hx32, by omega, by omega, by omega, by omega⟩) (by exact Le.mk' (rs := [0, 1, 2, 3, 4]) (hs := [0, 1, 2, 3]) ⟨rfl, rfl, rfl, rfl, trivial⟩ ⟨rfl, rfl, rfl, rfl, rfl, trivial⟩ ⟨rfl, rfl, rfl, rfl, trivial⟩ (by decide))
          ·
           replace hc128 := i_ne hc128
           refine C.seq (C.region ?_); refine L.step (Ev.fieldAddr rfl rfl rfl rfl rfl rfl (Src.o 0 rfl) (Nat.zero_lt_succ _) rfl) rfl ?_; refine L.step (Ev.load rfl rfl rfl (Src.o 0 rfl) rfl) rfl ?_; refine Lpu rfl rfl ?_; refine Lpu rfl rfl ?_; refine L.nil (QE.seq ?_)
           refine C.condB 74 rfl (fun hc74 => ?_) (fun hc74 => ?_)
           ·
            replace hc74 := of_decide_eq_true hc74
            have hjl : ((u0 % (liftR (codB l 12)).ws.length) % (liftR (codB l 12)).ls.length) < (liftR (codB l 12)).ls.length := Nat.mod_lt _ (by omega)
            refine C.regionM [Rd A10 [.slice a.W (liftR (codB l 12)).ws.length a.wc, .slice a.M (liftR (codB l 12)).ms.length a.mc, .slice a.L (liftR (codB l 12)).ls.length a.lc], Rd A5 [.int .u16 (u0 : Int), .int .u16 (u1 : Int), .int .u16 (u2 : Int), .int .u16 (u3 : Int)], Rd a.L (I64 (liftR (codB l 12)).ls)] ⟨Has.o 0 rfl, Has.r 1 rfl, Has.o 3 rfl, trivial⟩ ?_; refine LM.q 0 rfl (by kernel_rfl) (Ev.fieldAddr rfl rfl rfl rfl rfl rfl (Src.r 0 rfl) (Nat.zero_lt_succ _) rfl) rfl ⟨Has.o 0 rfl, Has.r 1 rfl, Has.o 3 rfl, trivial⟩ ?_; refine LM.q 1 rfl (by kernel_rfl) (Ev.load rfl rfl rfl (Src.r 0 rfl) rfl) rfl ⟨Has.o 0 rfl, Has.r 1 rfl, Has.o 3 rfl, trivial⟩ ?_; refine LM.q 2 rfl (by kernel_rfl) (Ev.pure rfl) rfl ⟨Has.o 0 rfl, Has.r 1 rfl, Has.o 3 rfl, trivial⟩ ?_; refine LM.q 3 rfl (by kernel_rfl) (Ev.fieldAddr rfl rfl rfl rfl rfl rfl (Src.r 0 rfl) (Nat.zero_lt_succ _) rfl) rfl ⟨Has.o 0 rfl, Has.r 1 rfl, Has.o 3 rfl, trivial⟩ ?_; refine LM.q 4 rfl (by kernel_rfl) (Ev.load rfl rfl rfl (Src.r 0 rfl) rfl) rfl ⟨Has.o 0 rfl, Has.r 1 rfl, Has.o 3 rfl, trivial⟩ ?_; refine LM.q 5 rfl (by kernel_rfl) (Ev.pure rfl) rfl ⟨Has.o 0 rfl, Has.r 1 rfl, Has.o 3 rfl, trivial⟩ ?_; refine LM.q 6 rfl (by kernel_rfl) (Ev.cast (u := .int .i64 ((((u0 % (liftR (codB l 12)).ws.length) % (liftR (codB l 12)).ls.length) : Nat) : Int)) (Ev.rem rfl rfl (by omega) (by omega)) (congrArg (Value.int .i64) (by omega))) rfl ⟨Has.o 0 rfl, Has.r 1 rfl, Has.o 3 rfl, trivial⟩ ?_; refine LM.q 7 rfl (by kernel_rfl) (Ev.idx1 (k := ((u0 % (liftR (codB l 12)).ws.length) % (liftR (codB l 12)).ls.length)) rfl rfl rfl rfl rfl rfl rfl (by omega) (Src.r 2 rfl) (by rw [I64_len]; omega)) rfl ⟨Has.o 0 rfl, Has.r 1 rfl, Has.o 3 rfl, trivial⟩ ?_; refine LM.q 8 rfl (by kernel_rfl) (Ev.load rfl rfl rfl (Src.r 2 rfl) (I64_get (by omega))) rfl ⟨Has.o 0 rfl, Has.r 1 rfl, Has.o 3 rfl, trivial⟩ ?_; refine LM.f 9 rfl (by kernel_rfl) ⟨Has.o 0 rfl, Has.r 1 rfl, Has.o 3 rfl, trivial⟩ ?_; refine L.step (Ev.idxArr (k := 2) (m := 2) rfl rfl rfl rfl rfl rfl (by decide) (Src.r 1 rfl) (by exact Nat.zero_lt_succ _) rfl) rfl ?_
            refine L.nil (QE.m (by kernel_rfl) ?_)
            refine LM.f 10 rfl (by kernel_rfl) ⟨Has.o 0 rfl, Has.r 1 rfl, Has.o 3 rfl, trivial⟩ ?_; refine L.step (Ev.load rfl rfl rfl (Src.r 1 rfl) rfl) rfl ?_
            refine L.nil (QE.m (by kernel_rfl) ?_)
            refine LM.f 11 rfl (by kernel_rfl) ⟨Has.o 0 rfl, Has.r 1 rfl, Has.o 3 rfl, trivial⟩ ?_
            first | refine L.step (Ev.byteInt rfl rfl rfl rfl) rfl ?_ | refine L.step (Ev.toInt rfl rfl rfl rfl (by omega) (by omega)) rfl ?_
            refine L.nil (QE.m (by kernel_rfl) ?_)
            refine LM.f 12 rfl (by kernel_rfl) ⟨Has.o 0 rfl, Has.r 1 rfl, Has.o 3 rfl, trivial⟩ ?_; refine L.step (Ev.cast (u := .int .i64 ((u2 % 9 : Nat) : Int)) (Ev.rem rfl rfl (by omega) (by decide)) (congrArg (Value.int .i64) (by omega))) rfl ?_
            refine L.nil (QE.m (by kernel_rfl) ?_)
            refine LM.cut [] (by kernel_rfl) ⟨Has.o 0 rfl, Has.r 1 rfl, Has.o 3 rfl, trivial⟩ ?_; refine LM.f 13 rfl (by kernel_rfl) trivial ?_; refine L.step (Ev.add rfl rfl (by have := hxa _ hjl; omega) (by have := hxa _ hjl; omega)) rfl ?_
            refine L.nil (QE.m (by kernel_rfl) ?_)
            refine LM.f 14 rfl (by kernel_rfl) trivial ?_; refine L.step (Ev.idx1 (k := ((u0 % (liftR (codB l 12)).ws.length) % (liftR (codB l 12)).ls.length)) rfl rfl rfl rfl rfl rfl rfl (by omega) (Src.o 3 rfl) (by rw [I64_len]; omega)) rfl ?_
            refine L.nil (QE.m (by kernel_rfl) ?_)
            refine LM.f 15 rfl (by kernel_rfl) trivial ?_; refine L.store (j := 3) rfl rfl rfl rfl rfl rfl rfl (I64_get (by omega)) ?_
            refine L.nil (QE.m (by kernel_rfl) ?_)
            refine LM.nil (by kernel_rfl) trivial ?_; refine QE.blkN ?_
            refine QE.join ((⟨a.W, a.M, a.L, a.wc, a.mc, a.lc, (⟨(liftR (codB l 12)).ws, (liftR (codB l 12)).ms, (liftR (codB l 12)).ls.set ((u0 % (liftR (codB l 12)).ws.length) % (liftR (codB l 12)).ls.length) (((liftR (codB l 12)).ls.getD ((u0 % (liftR (codB l 12)).ws.length) % (liftR (codB l 12)).ls.length) 0) + ((u2 % 9 : Nat) : Int))⟩, (liftR (codB l 12)).ms.length)⟩, A10)) (by dsimp only; exact ⟨hx32, Nat.le_refl _, by omega, by omega, by rw [List.length_set]; omega⟩) (by exact Le.mk' (rs := [0, 1, 2, 3, 4]) (hs := [0, 1, 2, 3]) ⟨rfl, rfl, rfl, rfl, trivial⟩ ⟨rfl, rfl, rfl, rfl, rfl, trivial⟩ ⟨(congrArg some (own_eq2 rfl (by dsimp only; rw [List.length_set]))), rfl, rfl, (congrArg some (own_eq2 (List.length_set ..).symm (by dsimp only; first | rw [I64_set] | rw [← I64_set]))), trivial⟩ (by decide))
           ·
            replace hc74 := of_decide_eq_false hc74
            refine C.skip ?_; refine QE.blkN ?_
            refine QE.join ((⟨a.W, a.M, a.L, a.wc, a.mc, a.lc, ((liftR (codB l 12)), (liftR (codB l 12)).ms.length)⟩, A10)) (by dsimp only; exact ⟨hx32, Nat.le_refl _, by omega, by omega, by omega⟩) (by exact Le.mk' (rs := [0, 1, 2, 3, 4]) (hs := [0, 1, 2, 3]) ⟨rfl, rfl, rfl, rfl, trivial⟩ ⟨rfl, rfl, rfl, rfl, rfl, trivial⟩ ⟨rfl, rfl, rfl, rfl, trivial⟩ (by decide))
      ·
       replace hc60 := of_decide_eq_false hc60
       refine C.skip ?_
       refine QE.join ((⟨a.W, a.M, a.L, a.wc, a.mc, a.lc, ((liftR (codB l 12)), (liftR (codB l 12)).ms.length)⟩, A10)) (by dsimp only; exact ⟨hx32, Nat.le_refl _, by omega, by omega, by omega⟩) (by exact Le.mk' (rs := [0, 1, 2, 3, 4]) (hs := [0, 1, 2, 3]) ⟨rfl, rfl, rfl, rfl, trivial⟩ ⟨rfl, rfl, rfl, rfl, rfl, trivial⟩ ⟨rfl, rfl, rfl, rfl, trivial⟩ (by decide))
     ·
      rintro ⟨a, A10⟩ ⟨hz32, hkz, hz1, hz2, hz3⟩
      obtain ⟨aW, aM, aL, awc, amc, alc, z, k⟩ := a
      dsimp only at hz32 hkz hz1 hz2 hz3 ⊢
      have hkl : (z.ms.take k).length = k := by rw [List.length_take]; omega
      refine C.seq (C.region ?_); refine L.step (Ev.cast (u := .agg (List.toArray [.slice aW z.ws.length awc, .slice aM (z.ms.take k).length amc, .slice aL z.ls.length alc])) (Ev.loadA (vs := [.slice aW z.ws.length awc, .slice aM k amc, .slice aL z.ls.length alc]) rfl rfl rfl (Src.o 0 rfl) rfl rfl (by decide)) (by rw [hkl])) rfl ?_; refine L.step (Ev.loadA (vs := [.slice YW y.ws.length ywc, .slice YM y.ms.length ymc, .slice YL y.ls.length ylc]) rfl rfl rfl (Src.r 0 rfl) rfl rfl (by decide)) rfl ?_; refine L.step (Ev.buildArr rfl rfl rfl rfl rfl rfl rfl) rfl ?_
      refine L.alloc rfl rfl rfl (fun A12 => ?_)
      refine L.storeA (j := 4) rfl rfl rfl rfl rfl (Nat.zero_lt_succ _) rfl rfl ?_; refine L.nil (QE.seq (C.seq (C.seq ?_))); refine C.freeze 4 rfl [0, 1, 2, 3] (by decide) (by decide) ?_; refine C.norm (H' := [_, _, _, _]) [0, 1, 2, 3] ⟨rfl, rfl, rfl, rfl, trivial⟩ (by decide) ?_; refine C.freeze 1 rfl [0, 2, 3] (by decide) (by decide) ?_; refine C.norm (H' := [_, _, _]) [0, 1, 2] ⟨rfl, rfl, rfl, trivial⟩ (by decide) ?_; refine C.freeze 1 rfl [0, 2] (by decide) (by decide) ?_; refine C.norm (H' := [_, _]) [0, 1] ⟨rfl, rfl, trivial⟩ (by decide) ?_; refine C.freeze 1 rfl [0] (by decide) (by decide) ?_; refine C.norm (H' := [_]) [0] ⟨rfl, trivial⟩ (by decide) ?_; refine C.more (r := Rd aM (Bs (z.ms.take k))) ((Has.takeL (Has.r 1 rfl) k).cast (Bs_take2 z.ms k)) ?_; refine C.region ?_; refine Lpu rfl rfl ?_; refine L.nil (QE.seq (C.block ?_)); refine C.loop (fun c : Nat => [(7, .bool true), (12, ptrOf A12 0), (13, .int .i64 (c : Int))]) (fun c : Nat => [Rd A12 (lfC aW aM aL awc amc alc ⟨z.ws, z.ms.take k, z.ls⟩ ++ lfC YW YM YL ywc ymc ylc y), Rd aW (N32 z.ws), Rd aM (Bs (z.ms.take k)), Rd aL (I64 z.ls), Rd YW (N32 y.ws), Rd YM (Bs y.ms), Rd YL (I64 y.ls)]) (fun c : Nat => []) (fun c : Nat => c ≤ 2) (fun c : Nat => 2 - c) 0 (Nat.zero_le _) (by exact Le.mk' (rs := [4, 3, 0, 1, 7, 8, 9]) (hs := []) ⟨rfl, rfl, rfl, trivial⟩ ⟨rfl, rfl, rfl, rfl, rfl, rfl, rfl, trivial⟩ trivial (by decide)) ?_
      intro c hc
      refine C.seq (C.seq (C.region ?_)); refine Lpu rfl rfl ?_; refine Lpu rfl rfl ?_; refine L.nil (QE.seq ?_)
      refine C.condB 139 rfl (fun hc139 => ?_) (fun hc139 => ?_)
      ·
       replace hc139 := of_decide_eq_true hc139
       have hc2 : c < 2 := by omega
       refine C.skip (QE.seq (C.seq (C.block (C.seq ?_))))
       obtain ⟨t, hget, hpk⟩ := lf_pick ⟨aW, aM, aL, awc, amc, alc, ⟨z.ws, z.ms.take k, z.ls⟩⟩ ⟨YW, YM, YL, ywc, ymc, ylc, y⟩ (k := c) (by omega)
       have htb : t.x.ws.length ≤ 1000 ∧ t.x.ms.length ≤ 1000 ∧ t.x.ls.length ≤ 1000 ∧ W32 t.x.ws := by
         rcases hpk with rfl | rfl
         · exact ⟨by dsimp only; omega, by dsimp only; omega, by dsimp only; omega, hz32⟩
         · exact ⟨by dsimp only; omega, by dsimp only; omega, by dsimp only; omega, hy32⟩
       have hlc := low_cases t.x
       have hlb : (lowB t.x).length ≤ 65536 := by
         rcases hlc with h | h
         · exact h.2.2.2
         · rw [h.2]; exact Nat.zero_le _
       have hl2 := liftR_lens (lowB t.x)
       refine C.more (r := Rd t.W (N32 t.x.ws)) (Has.pickW (a := ⟨aW, aM, aL, awc, amc, alc, ⟨z.ws, z.ms.take k, z.ls⟩⟩) (b := ⟨YW, YM, YL, ywc, ymc, ylc, y⟩) hpk (Has.r 1 rfl) (Has.r 4 rfl)) ?_; refine C.more (r := Rd t.M (Bs t.x.ms)) (Has.pickM (a := ⟨aW, aM, aL, awc, amc, alc, ⟨z.ws, z.ms.take k, z.ls⟩⟩) (b := ⟨YW, YM, YL, ywc, ymc, ylc, y⟩) hpk (Has.r 3 rfl) (Has.r 6 rfl)) ?_; refine C.more (r := Rd t.L (I64 t.x.ls)) (Has.pickL (a := ⟨aW, aM, aL, awc, amc, alc, ⟨z.ws, z.ms.take k, z.ls⟩⟩) (b := ⟨YW, YM, YL, ywc, ymc, ylc, y⟩) hpk (Has.r 5 rfl) (Has.r 8 rfl)) ?_; refine C.region ?_; refine Lpu rfl rfl ?_; refine L.step (Ev.idxArr (k := c) (m := c * 3) rfl rfl rfl rfl rfl rfl hc2 (Src.r 3 rfl) (by exact Nat.zero_lt_succ _) (by show 0 + c * 3 = c * 3; omega)) rfl ?_; refine L.step (Ev.loadA (k := c * 3) rfl rfl rfl (Src.r 3 rfl) hget rfl (by decide)) rfl ?_; refine L.call (js := []) (js' := []) (lower_c t.W t.M t.L t.wc t.mc t.lc t.x (by omega) (by omega) (by omega) htb.2.2.2) rfl rfl rfl (by decide) (Hq [2, 1, 0] rfl) rfl ?_
       rintro _ _ _ ⟨Y1, y1, rfl, rfl, rfl⟩
       refine L.norm (H' := [_]) [0] ⟨rfl, trivial⟩ (by decide) ?_; refine Lpu rfl rfl ?_; refine Lpu rfl rfl ?_; refine Lpu rfl rfl ?_; refine Lpu rfl rfl ?_; refine Lpu rfl rfl ?_; refine L.nil (QE.seq (C.seq ?_))
       refine C.cap 0 rfl (fun hy1 => ?_)
       refine C.freeze 0 rfl [] (by decide) (by decide) ?_; refine C.region ?_; refine Lpu rfl rfl ?_; refine L.step (Ev.idxArr (k := c) (m := c * 3) rfl rfl rfl rfl rfl rfl hc2 (Src.r 4 rfl) (by exact Nat.zero_lt_succ _) (by show 0 + c * 3 = c * 3; omega)) rfl ?_; refine L.step (Ev.loadA (k := c * 3) rfl rfl rfl (Src.r 4 rfl) hget rfl (by decide)) rfl ?_; refine L.call (js := []) (js' := []) (lower3_c t.W t.M t.L t.wc t.mc t.lc t.x (by omega) (by omega) (by omega) htb.2.2.2) rfl rfl rfl (by decide) (Hq [3, 2, 1] rfl) rfl ?_
       rintro _ _ _ ⟨Y2, y2, rfl, rfl, rfl⟩
       refine L.norm (H' := [_]) [0] ⟨rfl, trivial⟩ (by decide) ?_; refine Lpu rfl rfl ?_; refine Lpu rfl rfl ?_; refine Lpu rfl rfl ?_; refine Lpu rfl rfl ?_; refine Lpu rfl rfl ?_; refine L.nil (QE.seq (C.seq (C.seq ?_))); refine C.freeze 0 rfl [] (by decide) (by decide) ?_; refine C.region ?_; refine Lpu rfl rfl ?_; refine Lpu rfl rfl ?_; refine L.call (js := []) (js' := []) (Ctr.tbL true (same_c Y1 Y2 y1 y2 (lowB t.x) (lowB t.x) (by omega) (by omega)) (beq_self_eq_true _)) rfl rfl rfl (by decide) (Hq [1, 0] rfl) rfl ?_
       rintro _ _ _ ⟨rfl, rfl, rfl⟩
       refine Lpu rfl rfl ?_; refine Lpu rfl rfl ?_; refine L.yes rfl ?_; refine Lpu rfl rfl ?_; refine L.yes rfl ?_; refine Lpu rfl rfl ?_; refine L.yes rfl ?_; refine Lpu rfl rfl ?_; refine Lpu rfl rfl ?_; refine Lpu rfl rfl ?_
       refine L.bool 165 rfl (fun hg165 => ?_) (fun hg165 => ?_)
       ·
        replace hg165 := b_ne hg165
        first | exact absurd rfl hg165 | omega | exact absurd rfl hc165
       ·
        replace hg165 := b_eq hg165
        refine L.yes rfl ?_; refine Lpu rfl rfl ?_; refine L.yes rfl ?_; refine Lpu rfl rfl ?_; refine L.yes rfl ?_; refine Lpu rfl rfl ?_
        refine L.bool 168 rfl (fun hg168 => ?_) (fun hg168 => ?_)
        ·
         replace hg168 := b_ne hg168
         refine L.yes rfl ?_; refine Lpu rfl rfl ?_; refine L.yes rfl ?_; refine Lpu rfl rfl ?_; refine L.yes rfl ?_; refine Lpu rfl rfl ?_; refine Lpu rfl rfl ?_; refine L.nil (QE.seq ?_)
         refine C.condB 172 rfl (fun hc172 => ?_) (fun hc172 => ?_)
         ·
          replace hc172 := b_ne hc172
          rcases hlc with ⟨h0, _⟩ | ⟨h3, _⟩ <;> omega
         ·
          replace hc172 := b_eq hc172
          refine C.skip (QE.seq (C.seq (C.region ?_))); refine Lpu rfl rfl ?_; refine L.call (js := []) (js' := []) (lift_c Y1 (lowB t.x) y1 hy1 (by omega)) rfl rfl rfl (by decide) (Hq [1] rfl) rfl ?_
          rintro _ _ _ ⟨W175, M175, L175, l175, rfl, rfl, rfl⟩
          refine L.norm (H' := [_, _, _]) [0, 1, 2] ⟨rfl, rfl, rfl, trivial⟩ (by decide) ?_; refine Lpu rfl rfl ?_; refine Lpu rfl rfl ?_; refine Lpu rfl rfl ?_
          refine L.alloc rfl rfl rfl (fun A18 => ?_)
          refine L.storeA (j := 3) rfl rfl rfl rfl rfl (Nat.zero_lt_succ _) rfl rfl ?_; refine Lpu rfl rfl ?_; refine L.nil (QE.seq (C.seq ?_)); refine C.freeze 0 rfl [1, 2, 3] (by decide) (by decide) ?_; refine C.norm (H' := [_, _, _]) [0, 1, 2] ⟨rfl, rfl, rfl, trivial⟩ (by decide) ?_; refine C.freeze 0 rfl [1, 2] (by decide) (by decide) ?_; refine C.norm (H' := [_, _]) [0, 1] ⟨rfl, rfl, trivial⟩ (by decide) ?_; refine C.freeze 0 rfl [1] (by decide) (by decide) ?_; refine C.norm (H' := [_]) [0] ⟨rfl, trivial⟩ (by decide) ?_; refine C.freeze 0 rfl [] (by decide) (by decide) ?_; refine C.regionM [Rd A18 [.slice W175 (liftR (lowB t.x)).ws.length (liftR (lowB t.x)).ws.length, .slice M175 (liftR (lowB t.x)).ms.length (liftR (lowB t.x)).ms.length, .slice L175 (liftR (lowB t.x)).ls.length l175], Rd A12 (lfC aW aM aL awc amc alc ⟨z.ws, z.ms.take k, z.ls⟩ ++ lfC YW YM YL ywc ymc ylc y), Rd t.W (N32 t.x.ws), Rd t.M (Bs t.x.ms), Rd t.L (I64 t.x.ls), Rd W175 (N32 (liftR (lowB t.x)).ws), Rd M175 (Bs (liftR (lowB t.x)).ms), Rd L175 (I64 (liftR (lowB t.x)).ls)] (Hq [0, 9, 8, 7, 6, 3, 2, 1] rfl) ?_; refine LM.q 0 rfl (by kernel_rfl) (Ev.pure rfl) rfl (Hq [0, 9, 8, 7, 6, 3, 2, 1] rfl) ?_; refine LM.q 1 rfl (by kernel_rfl) (Ev.pure rfl) rfl (Hq [0, 9, 8, 7, 6, 3, 2, 1] rfl) ?_; refine LM.q 2 rfl (by kernel_rfl) (Ev.pure rfl) rfl (Hq [0, 9, 8, 7, 6, 3, 2, 1] rfl) ?_
          refine LM.bool 180 rfl (fun hg180 => ?_) (fun hg180 => ?_)
          ·
           replace hg180 := i_eq hg180
           refine LM.qy 3 rfl (by kernel_rfl) rfl (Ev.pure rfl) rfl (Hq [0, 9, 8, 7, 6, 3, 2, 1] rfl) ?_; refine LM.qy 4 rfl (by kernel_rfl) rfl (Ev.pure rfl) rfl (Hq [0, 9, 8, 7, 6, 3, 2, 1] rfl) ?_; refine LM.qy 5 rfl (by kernel_rfl) rfl (Ev.pure rfl) rfl (Hq [0, 9, 8, 7, 6, 3, 2, 1] rfl) ?_
           refine LM.bool 183 rfl (fun hg183 => ?_) (fun hg183 => ?_)
           ·
            replace hg183 := b_ne hg183
            rcases hlc with ⟨_, _, h0, _⟩ | ⟨h3, _⟩ <;> omega
           ·
            replace hg183 := b_eq hg183
            refine LM.qy 6 rfl (by kernel_rfl) rfl (Ev.loadA (vs := [.slice W175 (liftR (lowB t.x)).ws.length (liftR (lowB t.x)).ws.length, .slice M175 (liftR (lowB t.x)).ms.length (liftR (lowB t.x)).ms.length, .slice L175 (liftR (lowB t.x)).ls.length l175]) rfl rfl rfl (Src.r 0 rfl) rfl rfl (by decide)) rfl (Hq [0, 9, 8, 7, 6, 3, 2, 1] rfl) ?_; refine LM.f 7 rfl (by kernel_rfl) (Hq [0, 9, 8, 7, 6, 3, 2, 1] rfl) ?_; refine L.yes rfl ?_; refine Lpu rfl rfl ?_
            refine L.nil (QE.m (by kernel_rfl) ?_)
            refine LM.f 8 rfl (by kernel_rfl) (Hq [0, 9, 8, 7, 6, 3, 2, 1] rfl) ?_; refine L.yes rfl ?_; refine L.step (Ev.idxArr (k := c) (m := c * 3) rfl rfl rfl rfl rfl rfl hc2 (Src.r 9 rfl) (by exact Nat.zero_lt_succ _) (by show 0 + c * 3 = c * 3; omega)) rfl ?_
            refine L.nil (QE.m (by kernel_rfl) ?_)
            refine LM.f 9 rfl (by kernel_rfl) (Hq [0, 9, 8, 7, 6, 3, 2, 1] rfl) ?_; refine L.yes rfl ?_; refine L.step (Ev.loadA (k := c * 3) rfl rfl rfl (Src.r 9 rfl) hget rfl (by decide)) rfl ?_
            refine L.nil (QE.m (by kernel_rfl) ?_)
            refine LM.cut [] (by kernel_rfl) (Hq [0, 9, 8, 7, 6, 3, 2, 1] rfl) ?_; refine LM.f 10 rfl (by kernel_rfl) trivial ?_; refine L.yes rfl ?_; refine L.call (js := []) (js' := []) (Ctr.tbL true (same3_c W175 M175 L175 (liftR (lowB t.x)).ws.length (liftR (lowB t.x)).ms.length l175 (liftR (lowB t.x)) ⟨by omega, by omega, by omega⟩ t.W t.M t.L t.wc t.mc t.lc t.x ⟨by omega, by omega, by omega⟩) (decide_eq_true (hlc.resolve_right (fun h => by have := h.1; omega)).2.1)) rfl rfl rfl (by decide) (Hq [3, 2, 1, 8, 7, 6] rfl) rfl ?_
            rintro _ _ _ ⟨rfl, rfl, rfl⟩
            refine L.nil (QE.m (by kernel_rfl) ?_)
            refine LM.f 11 rfl (by kernel_rfl) trivial ?_; refine L.yes rfl ?_; refine Lpu rfl rfl ?_
            refine L.nil (QE.m (by kernel_rfl) ?_)
            refine LM.f 12 rfl (by kernel_rfl) trivial ?_; refine L.yes rfl ?_; refine Lpu rfl rfl ?_
            refine L.nil (QE.m (by kernel_rfl) ?_)
            refine LM.f 13 rfl (by kernel_rfl) trivial ?_; refine Lpu rfl rfl ?_
            refine L.nil (QE.m (by kernel_rfl) ?_)
            refine LM.nil (by kernel_rfl) trivial ?_; refine QE.seq ?_
            refine C.cond rfl (fun h => by cases h) (fun _ => ?_)
            refine C.skip ?_; refine QE.blkN ?_; refine QE.seq (C.region ?_); refine Lpu rfl rfl ?_; refine L.step (Ev.add rfl rfl (by omega) (by omega)) rfl ?_; refine Lpu rfl rfl ?_; refine L.nil ?_
            refine QE.round (c + 1) (by omega) (by omega) (by exact Le.mk' (rs := [9, 10, 11, 12, 13, 14, 15]) (hs := []) ⟨rfl, rfl, rfl, trivial⟩ ⟨rfl, rfl, rfl, rfl, rfl, rfl, rfl, trivial⟩ trivial (by decide))
          ·
           replace hg180 := i_ne hg180
           refine LM.no 3 rfl (by kernel_rfl) rfl rfl rfl (Hq [0, 9, 8, 7, 6, 3, 2, 1] rfl) ?_; refine LM.no 4 rfl (by kernel_rfl) rfl rfl rfl (Hq [0, 9, 8, 7, 6, 3, 2, 1] rfl) ?_; refine LM.no 5 rfl (by kernel_rfl) rfl rfl rfl (Hq [0, 9, 8, 7, 6, 3, 2, 1] rfl) ?_; refine LM.no 6 rfl (by kernel_rfl) rfl rfl rfl (Hq [0, 9, 8, 7, 6, 3, 2, 1] rfl) ?_; refine LM.f 7 rfl (by kernel_rfl) (Hq [0, 9, 8, 7, 6, 3, 2, 1] rfl) ?_; refine L.no rfl rfl rfl ?_
           refine L.nil (QE.m (by kernel_rfl) ?_)
           refine LM.f 8 rfl (by kernel_rfl) (Hq [0, 9, 8, 7, 6, 3, 2, 1] rfl) ?_; refine L.no rfl rfl rfl ?_
           refine L.nil (QE.m (by kernel_rfl) ?_)
           refine LM.f 9 rfl (by kernel_rfl) (Hq [0, 9, 8, 7, 6, 3, 2, 1] rfl) ?_; refine L.no rfl rfl rfl ?_
           refine L.nil (QE.m (by kernel_rfl) ?_)
           refine LM.cut [] (by kernel_rfl) (Hq [0, 9, 8, 7, 6, 3, 2, 1] rfl) ?_; refine LM.f 10 rfl (by kernel_rfl) trivial ?_; refine L.no rfl rfl rfl ?_
           refine L.nil (QE.m (by kernel_rfl) ?_)
           refine LM.f 11 rfl (by kernel_rfl) trivial ?_; refine L.no rfl rfl rfl ?_
           refine L.nil (QE.m (by kernel_rfl) ?_)
           refine LM.f 12 rfl (by kernel_rfl) trivial ?_; refine L.no rfl rfl rfl ?_
           refine L.nil (QE.m (by kernel_rfl) ?_)
           refine LM.f 13 rfl (by kernel_rfl) trivial ?_; refine Lpu rfl rfl ?_
           refine L.nil (QE.m (by kernel_rfl) ?_)
           refine LM.nil (by kernel_rfl) trivial ?_; refine QE.seq ?_
           refine C.cond rfl (fun h => by cases h) (fun _ => ?_)
           refine C.skip ?_; refine QE.blkN ?_; refine QE.seq (C.region ?_); refine Lpu rfl rfl ?_; refine L.step (Ev.add rfl rfl (by omega) (by omega)) rfl ?_; refine Lpu rfl rfl ?_; refine L.nil ?_
           refine QE.round (c + 1) (by omega) (by omega) (by exact Le.mk' (rs := [9, 10, 11, 12, 13, 14, 15]) (hs := []) ⟨rfl, rfl, rfl, trivial⟩ ⟨rfl, rfl, rfl, rfl, rfl, rfl, rfl, trivial⟩ trivial (by decide))
        ·
         replace hg168 := b_eq hg168
         refine L.no rfl rfl rfl ?_; refine L.no rfl rfl rfl ?_; refine L.yes rfl ?_; refine Lpu rfl rfl ?_; refine Lpu rfl rfl ?_; refine L.nil (QE.seq ?_)
         refine C.cond rfl (fun h => by cases h) (fun _ => ?_)
         refine C.skip (QE.seq (C.seq (C.region ?_))); refine Lpu rfl rfl ?_; refine L.call (js := []) (js' := []) (lift_c Y1 (lowB t.x) y1 hy1 (by omega)) rfl rfl rfl (by decide) (Hq [1] rfl) rfl ?_
         rintro _ _ _ ⟨W175, M175, L175, l175, rfl, rfl, rfl⟩
         refine L.norm (H' := [_, _, _]) [0, 1, 2] ⟨rfl, rfl, rfl, trivial⟩ (by decide) ?_; refine Lpu rfl rfl ?_; refine Lpu rfl rfl ?_; refine Lpu rfl rfl ?_
         refine L.alloc rfl rfl rfl (fun A18 => ?_)
         refine L.storeA (j := 3) rfl rfl rfl rfl rfl (Nat.zero_lt_succ _) rfl rfl ?_; refine Lpu rfl rfl ?_; refine L.nil (QE.seq (C.seq ?_)); refine C.freeze 0 rfl [1, 2, 3] (by decide) (by decide) ?_; refine C.norm (H' := [_, _, _]) [0, 1, 2] ⟨rfl, rfl, rfl, trivial⟩ (by decide) ?_; refine C.freeze 0 rfl [1, 2] (by decide) (by decide) ?_; refine C.norm (H' := [_, _]) [0, 1] ⟨rfl, rfl, trivial⟩ (by decide) ?_; refine C.freeze 0 rfl [1] (by decide) (by decide) ?_; refine C.norm (H' := [_]) [0] ⟨rfl, trivial⟩ (by decide) ?_; refine C.freeze 0 rfl [] (by decide) (by decide) ?_; refine C.regionM [Rd A18 [.slice W175 (liftR (lowB t.x)).ws.length (liftR (lowB t.x)).ws.length, .slice M175 (liftR (lowB t.x)).ms.length (liftR (lowB t.x)).ms.length, .slice L175 (liftR (lowB t.x)).ls.length l175], Rd A12 (lfC aW aM aL awc amc alc ⟨z.ws, z.ms.take k, z.ls⟩ ++ lfC YW YM YL ywc ymc ylc y), Rd t.W (N32 t.x.ws), Rd t.M (Bs t.x.ms), Rd t.L (I64 t.x.ls), Rd W175 (N32 (liftR (lowB t.x)).ws), Rd M175 (Bs (liftR (lowB t.x)).ms), Rd L175 (I64 (liftR (lowB t.x)).ls)] (Hq [0, 9, 8, 7, 6, 3, 2, 1] rfl) ?_; refine LM.q 0 rfl (by kernel_rfl) (Ev.pure rfl) rfl (Hq [0, 9, 8, 7, 6, 3, 2, 1] rfl) ?_; refine LM.q 1 rfl (by kernel_rfl) (Ev.pure rfl) rfl (Hq [0, 9, 8, 7, 6, 3, 2, 1] rfl) ?_; refine LM.q 2 rfl (by kernel_rfl) (Ev.pure rfl) rfl (Hq [0, 9, 8, 7, 6, 3, 2, 1] rfl) ?_
         refine LM.bool 180 rfl (fun hg180 => ?_) (fun hg180 => ?_)
         ·
          replace hg180 := i_eq hg180
          refine LM.qy 3 rfl (by kernel_rfl) rfl (Ev.pure rfl) rfl (Hq [0, 9, 8, 7, 6, 3, 2, 1] rfl) ?_; refine LM.qy 4 rfl (by kernel_rfl) rfl (Ev.pure rfl) rfl (Hq [0, 9, 8, 7, 6, 3, 2, 1] rfl) ?_; refine LM.qy 5 rfl (by kernel_rfl) rfl (Ev.pure rfl) rfl (Hq [0, 9, 8, 7, 6, 3, 2, 1] rfl) ?_
          refine LM.bool 183 rfl (fun hg183 => ?_) (fun hg183 => ?_)
          ·
           replace hg183 := b_ne hg183
           rcases hlc with ⟨_, _, h0, _⟩ | ⟨h3, _⟩ <;> omega
          ·
           replace hg183 := b_eq hg183
           refine LM.qy 6 rfl (by kernel_rfl) rfl (Ev.loadA (vs := [.slice W175 (liftR (lowB t.x)).ws.length (liftR (lowB t.x)).ws.length, .slice M175 (liftR (lowB t.x)).ms.length (liftR (lowB t.x)).ms.length, .slice L175 (liftR (lowB t.x)).ls.length l175]) rfl rfl rfl (Src.r 0 rfl) rfl rfl (by decide)) rfl (Hq [0, 9, 8, 7, 6, 3, 2, 1] rfl) ?_; refine LM.f 7 rfl (by kernel_rfl) (Hq [0, 9, 8, 7, 6, 3, 2, 1] rfl) ?_; refine L.yes rfl ?_; refine Lpu rfl rfl ?_
           refine L.nil (QE.m (by kernel_rfl) ?_)
           refine LM.f 8 rfl (by kernel_rfl) (Hq [0, 9, 8, 7, 6, 3, 2, 1] rfl) ?_; refine L.yes rfl ?_; refine L.step (Ev.idxArr (k := c) (m := c * 3) rfl rfl rfl rfl rfl rfl hc2 (Src.r 9 rfl) (by exact Nat.zero_lt_succ _) (by show 0 + c * 3 = c * 3; omega)) rfl ?_
           refine L.nil (QE.m (by kernel_rfl) ?_)
           refine LM.f 9 rfl (by kernel_rfl) (Hq [0, 9, 8, 7, 6, 3, 2, 1] rfl) ?_; refine L.yes rfl ?_; refine L.step (Ev.loadA (k := c * 3) rfl rfl rfl (Src.r 9 rfl) hget rfl (by decide)) rfl ?_
           refine L.nil (QE.m (by kernel_rfl) ?_)
           refine LM.cut [] (by kernel_rfl) (Hq [0, 9, 8, 7, 6, 3, 2, 1] rfl) ?_; refine LM.f 10 rfl (by kernel_rfl) trivial ?_; refine L.yes rfl ?_; refine L.call (js := []) (js' := []) (Ctr.tbL true (same3_c W175 M175 L175 (liftR (lowB t.x)).ws.length (liftR (lowB t.x)).ms.length l175 (liftR (lowB t.x)) ⟨by omega, by omega, by omega⟩ t.W t.M t.L t.wc t.mc t.lc t.x ⟨by omega, by omega, by omega⟩) (decide_eq_true (hlc.resolve_right (fun h => by have := h.1; omega)).2.1)) rfl rfl rfl (by decide) (Hq [3, 2, 1, 8, 7, 6] rfl) rfl ?_
           rintro _ _ _ ⟨rfl, rfl, rfl⟩
           refine L.nil (QE.m (by kernel_rfl) ?_)
           refine LM.f 11 rfl (by kernel_rfl) trivial ?_; refine L.yes rfl ?_; refine Lpu rfl rfl ?_
           refine L.nil (QE.m (by kernel_rfl) ?_)
           refine LM.f 12 rfl (by kernel_rfl) trivial ?_; refine L.yes rfl ?_; refine Lpu rfl rfl ?_
           refine L.nil (QE.m (by kernel_rfl) ?_)
           refine LM.f 13 rfl (by kernel_rfl) trivial ?_; refine Lpu rfl rfl ?_
           refine L.nil (QE.m (by kernel_rfl) ?_)
           refine LM.nil (by kernel_rfl) trivial ?_; refine QE.seq ?_
           refine C.cond rfl (fun h => by cases h) (fun _ => ?_)
           refine C.skip ?_; refine QE.blkN ?_; refine QE.seq (C.region ?_); refine Lpu rfl rfl ?_; refine L.step (Ev.add rfl rfl (by omega) (by omega)) rfl ?_; refine Lpu rfl rfl ?_; refine L.nil ?_
           refine QE.round (c + 1) (by omega) (by omega) (by exact Le.mk' (rs := [9, 10, 11, 12, 13, 14, 15]) (hs := []) ⟨rfl, rfl, rfl, trivial⟩ ⟨rfl, rfl, rfl, rfl, rfl, rfl, rfl, trivial⟩ trivial (by decide))
         ·
          replace hg180 := i_ne hg180
          refine LM.no 3 rfl (by kernel_rfl) rfl rfl rfl (Hq [0, 9, 8, 7, 6, 3, 2, 1] rfl) ?_; refine LM.no 4 rfl (by kernel_rfl) rfl rfl rfl (Hq [0, 9, 8, 7, 6, 3, 2, 1] rfl) ?_; refine LM.no 5 rfl (by kernel_rfl) rfl rfl rfl (Hq [0, 9, 8, 7, 6, 3, 2, 1] rfl) ?_; refine LM.no 6 rfl (by kernel_rfl) rfl rfl rfl (Hq [0, 9, 8, 7, 6, 3, 2, 1] rfl) ?_; refine LM.f 7 rfl (by kernel_rfl) (Hq [0, 9, 8, 7, 6, 3, 2, 1] rfl) ?_; refine L.no rfl rfl rfl ?_
          refine L.nil (QE.m (by kernel_rfl) ?_)
          refine LM.f 8 rfl (by kernel_rfl) (Hq [0, 9, 8, 7, 6, 3, 2, 1] rfl) ?_; refine L.no rfl rfl rfl ?_
          refine L.nil (QE.m (by kernel_rfl) ?_)
          refine LM.f 9 rfl (by kernel_rfl) (Hq [0, 9, 8, 7, 6, 3, 2, 1] rfl) ?_; refine L.no rfl rfl rfl ?_
          refine L.nil (QE.m (by kernel_rfl) ?_)
          refine LM.cut [] (by kernel_rfl) (Hq [0, 9, 8, 7, 6, 3, 2, 1] rfl) ?_; refine LM.f 10 rfl (by kernel_rfl) trivial ?_; refine L.no rfl rfl rfl ?_
          refine L.nil (QE.m (by kernel_rfl) ?_)
          refine LM.f 11 rfl (by kernel_rfl) trivial ?_; refine L.no rfl rfl rfl ?_
          refine L.nil (QE.m (by kernel_rfl) ?_)
          refine LM.f 12 rfl (by kernel_rfl) trivial ?_; refine L.no rfl rfl rfl ?_
          refine L.nil (QE.m (by kernel_rfl) ?_)
          refine LM.f 13 rfl (by kernel_rfl) trivial ?_; refine Lpu rfl rfl ?_
          refine L.nil (QE.m (by kernel_rfl) ?_)
          refine LM.nil (by kernel_rfl) trivial ?_; refine QE.seq ?_
          refine C.cond rfl (fun h => by cases h) (fun _ => ?_)
          refine C.skip ?_; refine QE.blkN ?_; refine QE.seq (C.region ?_); refine Lpu rfl rfl ?_; refine L.step (Ev.add rfl rfl (by omega) (by omega)) rfl ?_; refine Lpu rfl rfl ?_; refine L.nil ?_
          refine QE.round (c + 1) (by omega) (by omega) (by exact Le.mk' (rs := [9, 10, 11, 12, 13, 14, 15]) (hs := []) ⟨rfl, rfl, rfl, trivial⟩ ⟨rfl, rfl, rfl, rfl, rfl, rfl, rfl, trivial⟩ trivial (by decide))
      ·
       replace hc139 := of_decide_eq_false hc139
       refine C.exit ?_; refine QE.tX ?_; refine QE.tX ?_; refine QE.blk ?_; refine QE.seq (C.seq (C.region ?_)); refine Lpu rfl rfl ?_; refine Lpu rfl rfl ?_; refine L.nil (QE.seq (C.ret ?_)); refine QE.ret (js := []) (hs := []) (vs := [_]) rfl ⟨rfl, trivial⟩ (by decide) ?_
       exact ⟨rfl, rfl, rfl⟩

end Go.Proofs.Ytkjhcjhfegakoaa
