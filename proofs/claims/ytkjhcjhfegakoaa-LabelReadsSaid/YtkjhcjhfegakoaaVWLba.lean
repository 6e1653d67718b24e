/-
  The law LabelSizes.
-/
import Derived.Test.YtkjhcjhfegakoaaVWLaZ
namespace Go.Proofs.Ytkjhcjhfegakoaa
open Go.Sl

theorem U8_takeL (l : List UInt8) (m : Nat) : (U8 l).take m = U8 (l.take m) := by simp [U8, List.map_take]
theorem U8_repL (n : Nat) : U8 (List.replicate n 0) = List.replicate n (.int .u8 0) := by simp [U8]
theorem liftE_cut (b : List UInt8) : (b.length ≤ 65536 → ((liftE b : Int) = 0 ↔ (((b.length % 4 : Nat) : Int)) = 0)) ∧ (liftE b = 0 ∨ liftE b = 30) := by
 by_cases h : codeB b
 · have e : liftE b = 0 := if_pos h
   have := h.1
   exact ⟨fun _ => by omega, .inl e⟩
 · have e : liftE b = 30 := if_neg h
   exact ⟨fun hl => ⟨fun g => by omega, fun g => absurd ⟨by omega, hl⟩ h⟩, .inr e⟩
theorem bne_iff {p q : Prop} [Decidable p] [Decidable q] (h : p ↔ q) : (decide p != decide q) = false := by
 rw [bne_eq_false_iff_eq, decide_eq_decide]
 exact h
theorem lift_big (B : Option Addr) (n : Nat) (h : 65536 < n) (hn : n ≤ 1000000) :
   Ctr X 13 [.slice B n n] [Rd B (List.replicate n (.int .u8 0))] [] (fun v R' H' => ∃ (WA MA LA : Option Addr) (lc : Nat), v = .tuple #[.agg (List.toArray [.slice WA Lf.zero.ws.length Lf.zero.ws.length, .slice MA Lf.zero.ms.length Lf.zero.ms.length, .slice LA Lf.zero.ls.length lc]), .int .i64 30] ∧ R' = [] ∧ H' = [Own 53 1 WA Lf.zero.ws.length Lf.zero.ws.length (N32 Lf.zero.ws), Own 4 1 MA Lf.zero.ms.length Lf.zero.ms.length (Bs Lf.zero.ms), Own 3 1 LA Lf.zero.ls.length lc (I64 Lf.zero.ls)]) := by
 have hno : ¬ codeB (List.replicate n (0 : UInt8)) := fun hc => by
   have := hc.2
   rw [List.length_replicate] at this
   omega
 have h := lift_k B (List.replicate n 0) n (by rw [List.length_replicate]; exact Nat.le_refl _) (by rw [List.length_replicate]; exact hn) Lf.zero 30 (if_neg hno) (if_neg hno)
 rw [List.length_replicate, U8_repL] at h
 exact h
theorem moved_big (B : Option Addr) (n : Nat) (h : 65536 ≤ n) (hn : n ≤ 1000000) :
   Ctr X 15 [.slice B n n, .int .i64 0, .int .i64 1] [Rd B (List.replicate n (.int .u8 0))] [] (fun v R' H' => ∃ (A : Option Addr) (c : Nat), v = .tuple #[.slice A ([] : List UInt8).length c, .int .i64 30] ∧ R' = [] ∧ H' = [Own 5 1 A ([] : List UInt8).length c (U8 [])]) := by
 have hno : ¬ movOk (List.replicate n (0 : UInt8)) 0 1 := fun hc => by
   have h1 := (lift_len hc.1).1
   have h2 := hc.1.2
   have h3 := hc.2.2.2.2
   rw [List.length_replicate] at h1 h2
   omega
 have h := moved_k B (List.replicate n 0) n (by rw [List.length_replicate]; exact Nat.le_refl _) (by rw [List.length_replicate]; exact hn) 0 1 [] 30 (if_neg hno) (if_neg hno)
 rw [List.length_replicate, U8_repL] at h
 exact h

set_option maxHeartbeats 4000000 in
theorem lSizes_c (WA : Option Addr) (ws : List Nat) (wc : Nat) (hwl : ws.length ≤ 9223372036854775807) (hwc : ws.length ≤ wc) (h32 : W32 ws) (u : UInt8) (long : Bool) :
   Ctr X 10 [.slice WA ws.length wc, .int .u8 (u.toNat : Int), .bool long] [Rd WA (N32 ws)] [] (fun v R' H' => v = .bool true ∧ R' = [] ∧ H' = []) := by
 refine Ctr.of (X := X) (fn := Try.f10) Try.func10 rfl (by kernel_rfl) rfl ?_
 intro β
 have htl : (ws.take (min ws.length 20)).length = (min ws.length 20) := by rw [List.length_take]; omega
 have hbt := bytesF_len (ws.take (min ws.length 20))
 have hco : codeB (bytesF (ws.take (min ws.length 20))) := code_bytes (by omega)
 have hxl := lift_len hco
 have hx32 := liftR_w32 (bytesF (ws.take (min ws.length 20)))
 have hfl := formF_len (liftR (bytesF (ws.take (min ws.length 20))))
 have hu := UInt8.toNat_lt u
 have hml : (u.toNat % ((bytesF (ws.take (min ws.length 20))).length + 1)) < (bytesF (ws.take (min ws.length 20))).length + 1 := Nat.mod_lt _ (Nat.succ_pos _)
 have hcl : ((bytesF (ws.take (min ws.length 20))).take ((bytesF (ws.take (min ws.length 20))).length - (u.toNat % ((bytesF (ws.take (min ws.length 20))).length + 1)))).length = ((bytesF (ws.take (min ws.length 20))).length - (u.toNat % ((bytesF (ws.take (min ws.length 20))).length + 1))) := by rw [List.length_take]; omega
 have hce := liftE_cut ((bytesF (ws.take (min ws.length 20))).take ((bytesF (ws.take (min ws.length 20))).length - (u.toNat % ((bytesF (ws.take (min ws.length 20))).length + 1))))
 refine C.seq (C.region ?_); refine Lpu rfl rfl ?_; refine L.nil (QE.seq (C.seq (C.region ?_))); refine L.call (js := []) (js' := []) (sanity03_c) rfl rfl rfl (by decide) trivial rfl ?_
 rintro _ _ _ ⟨rfl, rfl, rfl⟩
 refine Lpu rfl rfl ?_; refine L.nil (QE.seq (C.seq (C.region ?_))); refine Lpu rfl rfl ?_; refine Lpu rfl rfl ?_; refine Lpu rfl rfl ?_; refine L.step (Ev.cast (u := .int .i64 (((min ws.length 20) : Nat) : Int)) (Ev.pure rfl) (congrArg (Value.int .i64) (by show (if _ < _ then _ else _) = _; split <;> omega))) rfl ?_; refine L.step (Ev.cast (u := .slice WA (ws.take (min ws.length 20)).length wc) (Ev.sliceH (h := (min ws.length 20)) rfl rfl rfl rfl rfl rfl (by omega)) (by rw [htl])) rfl ?_; refine L.more (r := Rd WA (N32 (ws.take (min ws.length 20)))) ((Has.takeL (Has.r 0 rfl) (min ws.length 20)).cast (N32_take ws (min ws.length 20))) ?_; refine L.call (js := []) (js' := []) (bytes2_c WA (ws.take (min ws.length 20)) wc (by omega) (h32.take _)) rfl rfl rfl (by decide) (Hq [0] rfl) rfl ?_
 rintro _ _ _ ⟨B, bc, rfl, rfl, rfl⟩
 refine L.norm (H' := [_]) [0] ⟨rfl, trivial⟩ (by decide) ?_; refine Lpu rfl rfl ?_; refine L.nil (QE.seq (C.seq ?_))
 refine C.cap 0 rfl (fun hbc => ?_)
 refine C.freeze 0 rfl [] (by decide) (by decide) ?_; refine C.region ?_; refine Lpu rfl rfl ?_; refine L.call (js := []) (js' := []) (lift_k B (bytesF (ws.take (min ws.length 20))) bc hbc (by omega) (liftR (bytesF (ws.take (min ws.length 20)))) 0 rfl (liftE_code hco)) rfl rfl rfl (by decide) (Hq [0] rfl) rfl ?_
 rintro _ _ _ ⟨W27, M27, L27, l27, rfl, rfl, rfl⟩
 refine L.norm (H' := [_, _, _]) [0, 1, 2] ⟨rfl, rfl, rfl, trivial⟩ (by decide) ?_; refine Lpu rfl rfl ?_; refine Lpu rfl rfl ?_; refine Lpu rfl rfl ?_
 refine L.alloc rfl rfl rfl (fun A9 => ?_)
 refine L.storeA (j := 3) rfl rfl rfl rfl rfl (Nat.zero_lt_succ _) rfl rfl ?_; refine Lpu rfl rfl ?_; refine L.nil (QE.seq (C.seq (C.seq ?_))); refine C.freeze 0 rfl [1, 2, 3] (by decide) (by decide) ?_; refine C.norm (H' := [_, _, _]) [0, 1, 2] ⟨rfl, rfl, rfl, trivial⟩ (by decide) ?_; refine C.freeze 0 rfl [1, 2] (by decide) (by decide) ?_; refine C.norm (H' := [_, _]) [0, 1] ⟨rfl, rfl, trivial⟩ (by decide) ?_; refine C.freeze 0 rfl [1] (by decide) (by decide) ?_; refine C.norm (H' := [_]) [0] ⟨rfl, trivial⟩ (by decide) ?_; refine C.freeze 0 rfl [] (by decide) (by decide) ?_; refine C.region ?_; refine Lpu rfl rfl ?_; refine Lpu rfl rfl ?_; refine Lpu rfl rfl ?_
 refine L.bool 32 rfl (fun hg32 => ?_) (fun hg32 => ?_)
 ·
  replace hg32 := b_ne hg32
  first | exact absurd rfl hg32 | omega | exact absurd rfl hc32
 ·
  replace hg32 := b_eq hg32
  refine L.yes rfl ?_; refine L.step (Ev.fieldAddr rfl rfl rfl rfl rfl rfl (Src.r 0 rfl) (Nat.zero_lt_succ _) rfl) rfl ?_; refine L.yes rfl ?_; refine L.step (Ev.load rfl rfl rfl (Src.r 0 rfl) rfl) rfl ?_; refine L.yes rfl ?_; refine Lpu rfl rfl ?_; refine L.yes rfl ?_; refine Lpu rfl rfl ?_; refine L.yes rfl ?_; refine Lpu rfl rfl ?_; refine L.yes rfl ?_; refine L.step (Ev.cast (u := .int .i64 (((bytesF (ws.take (min ws.length 20))).length / 4 : Nat) : Int)) (Ev.quo rfl rfl (by omega) (by decide) (by omega)) (congrArg (Value.int .i64) (by omega))) rfl ?_; refine L.yes rfl ?_; refine Lpu rfl rfl ?_; refine Lpu rfl rfl ?_; refine Lpu rfl rfl ?_
  refine L.bool 41 rfl (fun hg41 => ?_) (fun hg41 => ?_)
  ·
   replace hg41 := b_ne hg41
   first | exact absurd rfl hg41 | omega | exact absurd rfl hc41
  ·
   replace hg41 := b_eq hg41
   refine L.yes rfl ?_; refine L.step (Ev.fieldAddr rfl rfl rfl rfl rfl rfl (Src.r 0 rfl) (Nat.zero_lt_succ _) rfl) rfl ?_; refine L.yes rfl ?_; refine L.step (Ev.load rfl rfl rfl (Src.r 0 rfl) rfl) rfl ?_; refine L.yes rfl ?_; refine Lpu rfl rfl ?_; refine L.yes rfl ?_; refine L.step (Ev.fieldAddr rfl rfl rfl rfl rfl rfl (Src.r 0 rfl) (Nat.zero_lt_succ _) rfl) rfl ?_; refine L.yes rfl ?_; refine L.step (Ev.load rfl rfl rfl (Src.r 0 rfl) rfl) rfl ?_; refine L.yes rfl ?_; refine Lpu rfl rfl ?_; refine L.yes rfl ?_; refine Lpu rfl rfl ?_; refine Lpu rfl rfl ?_; refine L.nil (QE.seq ?_)
   refine C.condB 49 rfl (fun hc49 => ?_) (fun hc49 => ?_)
   ·
    replace hc49 := of_decide_eq_true hc49
    first | exact absurd rfl hg49 | omega | exact absurd rfl hc49
   ·
    replace hc49 := of_decide_eq_false hc49
    refine C.skip (QE.seq (C.seq (C.seq ?_))); refine C.regionM [Rd A9 [.slice W27 (liftR (bytesF (ws.take (min ws.length 20)))).ws.length (liftR (bytesF (ws.take (min ws.length 20)))).ws.length, .slice M27 (liftR (bytesF (ws.take (min ws.length 20)))).ms.length (liftR (bytesF (ws.take (min ws.length 20)))).ms.length, .slice L27 (liftR (bytesF (ws.take (min ws.length 20)))).ls.length l27], Rd W27 (N32 (liftR (bytesF (ws.take (min ws.length 20)))).ws), Rd M27 (Bs (liftR (bytesF (ws.take (min ws.length 20)))).ms), Rd L27 (I64 (liftR (bytesF (ws.take (min ws.length 20)))).ls)] (Hq [0, 3, 2, 1] rfl) ?_; refine LM.q 0 rfl (by kernel_rfl) (Ev.loadA (vs := [.slice W27 (liftR (bytesF (ws.take (min ws.length 20)))).ws.length (liftR (bytesF (ws.take (min ws.length 20)))).ws.length, .slice M27 (liftR (bytesF (ws.take (min ws.length 20)))).ms.length (liftR (bytesF (ws.take (min ws.length 20)))).ms.length, .slice L27 (liftR (bytesF (ws.take (min ws.length 20)))).ls.length l27]) rfl rfl rfl (Src.r 0 rfl) rfl rfl (by decide)) rfl (Hq [0, 3, 2, 1] rfl) ?_; refine LM.q 3 rfl (by kernel_rfl) (Ev.fieldAddr rfl rfl rfl rfl rfl rfl (Src.r 0 rfl) (Nat.zero_lt_succ _) rfl) rfl (Hq [0, 3, 2, 1] rfl) ?_; refine LM.q 4 rfl (by kernel_rfl) (Ev.load rfl rfl rfl (Src.r 0 rfl) rfl) rfl (Hq [0, 3, 2, 1] rfl) ?_; refine LM.q 5 rfl (by kernel_rfl) (Ev.pure rfl) rfl (Hq [0, 3, 2, 1] rfl) ?_; refine LM.q 6 rfl (by kernel_rfl) (Ev.mul rfl rfl (by omega) (by omega)) rfl (Hq [0, 3, 2, 1] rfl) ?_; refine LM.q 7 rfl (by kernel_rfl) (Ev.add rfl rfl (by omega) (by omega)) rfl (Hq [0, 3, 2, 1] rfl) ?_; refine LM.q 8 rfl (by kernel_rfl) (Ev.fieldAddr rfl rfl rfl rfl rfl rfl (Src.r 0 rfl) (Nat.zero_lt_succ _) rfl) rfl (Hq [0, 3, 2, 1] rfl) ?_; refine LM.q 9 rfl (by kernel_rfl) (Ev.load rfl rfl rfl (Src.r 0 rfl) rfl) rfl (Hq [0, 3, 2, 1] rfl) ?_; refine LM.q 10 rfl (by kernel_rfl) (Ev.pure rfl) rfl (Hq [0, 3, 2, 1] rfl) ?_; refine LM.q 11 rfl (by kernel_rfl) (Ev.mul rfl rfl (by omega) (by omega)) rfl (Hq [0, 3, 2, 1] rfl) ?_; refine LM.q 12 rfl (by kernel_rfl) (Ev.add rfl rfl (by omega) (by omega)) rfl (Hq [0, 3, 2, 1] rfl) ?_; refine LM.q 13 rfl (by kernel_rfl) (Ev.fieldAddr rfl rfl rfl rfl rfl rfl (Src.r 0 rfl) (Nat.zero_lt_succ _) rfl) rfl (Hq [0, 3, 2, 1] rfl) ?_; refine LM.q 14 rfl (by kernel_rfl) (Ev.load rfl rfl rfl (Src.r 0 rfl) rfl) rfl (Hq [0, 3, 2, 1] rfl) ?_; refine LM.q 15 rfl (by kernel_rfl) (Ev.pure rfl) rfl (Hq [0, 3, 2, 1] rfl) ?_; refine LM.q 16 rfl (by kernel_rfl) (Ev.cast (u := .int .i64 (((liftR (bytesF (ws.take (min ws.length 20)))).ws.length + 7 : Nat) : Int)) (Ev.add rfl rfl (by omega) (by omega)) (congrArg (Value.int .i64) (by omega))) rfl (Hq [0, 3, 2, 1] rfl) ?_; refine LM.q 17 rfl (by kernel_rfl) (Ev.cast (u := .int .i64 ((((liftR (bytesF (ws.take (min ws.length 20)))).ws.length + 7) / 8 : Nat) : Int)) (Ev.quo rfl rfl (by omega) (by decide) (by omega)) (congrArg (Value.int .i64) (by omega))) rfl (Hq [0, 3, 2, 1] rfl) ?_; refine LM.q 18 rfl (by kernel_rfl) (Ev.add rfl rfl (by omega) (by omega)) rfl (Hq [0, 3, 2, 1] rfl) ?_; refine LM.f 1 rfl (by kernel_rfl) (Hq [0, 3, 2, 1] rfl) ?_; refine L.call (js := []) (js' := []) (form_c W27 M27 L27 (liftR (bytesF (ws.take (min ws.length 20)))).ws.length (liftR (bytesF (ws.take (min ws.length 20)))).ms.length l27 (liftR (bytesF (ws.take (min ws.length 20)))) (by omega) (by omega) (by omega) hx32 (Nat.le_refl _) liftR_asc) rfl rfl rfl (by decide) (Hq [3, 2, 1] rfl) rfl ?_
    rintro _ _ _ ⟨F, fc, rfl, rfl, rfl⟩
    refine L.norm (H' := [_]) [0] ⟨rfl, trivial⟩ (by decide) ?_
    refine L.nil (QE.m (by kernel_rfl) ?_)
    refine LM.f 2 rfl (by kernel_rfl) (Hq [0, 3, 2, 1] rfl) ?_; refine Lpu rfl rfl ?_
    refine L.nil (QE.m (by kernel_rfl) ?_)
    refine LM.cut [] (by kernel_rfl) (Hq [0, 3, 2, 1] rfl) ?_; refine LM.f 19 rfl (by kernel_rfl) trivial ?_; refine Lpu rfl rfl ?_
    refine L.nil (QE.m (by kernel_rfl) ?_)
    refine LM.nil (by kernel_rfl) trivial ?_; refine QE.seq ?_
    refine C.condB 69 rfl (fun hc69 => ?_) (fun hc69 => ?_)
    ·
     replace hc69 := b_ne hc69
     omega
    ·
     replace hc69 := b_eq hc69
     refine C.skip (QE.seq (C.seq (C.region ?_))); refine Lpu rfl rfl ?_; refine Lpu rfl rfl ?_; refine Lpu rfl rfl ?_; refine Lpu rfl rfl ?_
     first | refine L.step (Ev.byteInt rfl rfl rfl rfl) rfl ?_ | refine L.step (Ev.toInt rfl rfl rfl rfl (by omega) (by omega)) rfl ?_
     refine Lpu rfl rfl ?_; refine Lpu rfl rfl ?_; refine L.step (Ev.cast (u := .int .i64 (((bytesF (ws.take (min ws.length 20))).length + 1 : Nat) : Int)) (Ev.add rfl rfl (by omega) (by omega)) (congrArg (Value.int .i64) (by omega))) rfl ?_; refine L.step (Ev.cast (u := .int .i64 (((u.toNat % ((bytesF (ws.take (min ws.length 20))).length + 1)) : Nat) : Int)) (Ev.rem rfl rfl (by omega) (by omega)) (congrArg (Value.int .i64) (by omega))) rfl ?_; refine L.step (Ev.cast (u := .int .i64 ((((bytesF (ws.take (min ws.length 20))).length - (u.toNat % ((bytesF (ws.take (min ws.length 20))).length + 1))) : Nat) : Int)) (Ev.sub rfl rfl (by omega) (by omega)) (congrArg (Value.int .i64) (by omega))) rfl ?_; refine L.step (Ev.cast (u := .slice B ((bytesF (ws.take (min ws.length 20))).take ((bytesF (ws.take (min ws.length 20))).length - (u.toNat % ((bytesF (ws.take (min ws.length 20))).length + 1)))).length bc) (Ev.sliceH (h := ((bytesF (ws.take (min ws.length 20))).length - (u.toNat % ((bytesF (ws.take (min ws.length 20))).length + 1)))) rfl rfl rfl rfl rfl rfl (by omega)) (by rw [hcl])) rfl ?_; refine Lpu rfl rfl ?_; refine L.nil (QE.seq (C.seq (C.region ?_))); refine Lpu rfl rfl ?_; refine L.more (r := Rd B (U8 ((bytesF (ws.take (min ws.length 20))).take ((bytesF (ws.take (min ws.length 20))).length - (u.toNat % ((bytesF (ws.take (min ws.length 20))).length + 1)))))) ((Has.takeL (Has.r 4 rfl) ((bytesF (ws.take (min ws.length 20))).length - (u.toNat % ((bytesF (ws.take (min ws.length 20))).length + 1)))).cast (U8_takeL (bytesF (ws.take (min ws.length 20))) ((bytesF (ws.take (min ws.length 20))).length - (u.toNat % ((bytesF (ws.take (min ws.length 20))).length + 1))))) ?_; refine L.call (js := []) (js' := [0]) (lift_c B ((bytesF (ws.take (min ws.length 20))).take ((bytesF (ws.take (min ws.length 20))).length - (u.toNat % ((bytesF (ws.take (min ws.length 20))).length + 1)))) bc (by omega) (by omega)) rfl rfl rfl (by decide) (Hq [0] rfl) rfl ?_
     rintro _ _ _ ⟨W83, M83, L83, l83, rfl, rfl, rfl⟩
     refine L.norm (H' := [_, _, _, _]) [0, 1, 2, 3] ⟨rfl, rfl, rfl, rfl, trivial⟩ (by decide) ?_; refine Lpu rfl rfl ?_; refine Lpu rfl rfl ?_; refine Lpu rfl rfl ?_
     refine L.alloc rfl rfl rfl (fun A12 => ?_)
     refine L.storeA (j := 4) rfl rfl rfl rfl rfl (Nat.zero_lt_succ _) rfl rfl ?_; refine Lpu rfl rfl ?_; refine L.nil (QE.seq (C.seq (C.seq (C.region ?_)))); refine Lpu rfl rfl ?_; refine Lpu rfl rfl ?_; refine Lpu rfl rfl ?_; refine Lpu rfl rfl ?_; refine L.step (Ev.cast (u := .int .i64 ((((bytesF (ws.take (min ws.length 20))).take ((bytesF (ws.take (min ws.length 20))).length - (u.toNat % ((bytesF (ws.take (min ws.length 20))).length + 1)))).length % 4 : Nat) : Int)) (Ev.rem rfl rfl (by omega) (by decide)) (congrArg (Value.int .i64) (by omega))) rfl ?_; refine Lpu rfl rfl ?_; refine L.step (Ev.cast (u := .bool false) (Ev.neBool rfl rfl rfl rfl) (congrArg Value.bool (bne_iff (hce.1 (by omega))))) rfl ?_; refine Lpu rfl rfl ?_
     refine L.bool 93 rfl (fun hg93 => ?_) (fun hg93 => ?_)
     ·
      exact absurd hg93 (by decide)
     ·
      refine L.yes rfl ?_; refine Lpu rfl rfl ?_; refine L.yes rfl ?_; refine Lpu rfl rfl ?_; refine L.yes rfl ?_; refine Lpu rfl rfl ?_
      refine L.bool 96 rfl (fun hg96 => ?_) (fun hg96 => ?_)
      ·
       replace hg96 := b_ne hg96
       refine L.yes rfl ?_; refine Lpu rfl rfl ?_; refine L.yes rfl ?_; refine Lpu rfl rfl ?_; refine L.yes rfl ?_; refine Lpu rfl rfl ?_; refine Lpu rfl rfl ?_; refine L.nil (QE.seq ?_)
       refine C.condB 100 rfl (fun hc100 => ?_) (fun hc100 => ?_)
       ·
        replace hc100 := b_ne hc100
        first | (have := hce.2; omega) | omega
       ·
        replace hc100 := b_eq hc100
        refine C.skip (QE.seq (C.seq (C.seq (C.region ?_)))); refine Lpu rfl rfl ?_; refine Lpu rfl rfl ?_; refine L.nil (QE.seq ?_)
        refine C.condB 102 rfl (fun hc102 => ?_) (fun hc102 => ?_)
        ·
         refine C.seq (C.region ?_); refine Lpu rfl rfl ?_; refine Lpu rfl rfl ?_; refine L.nil (QE.seq (C.ret (QE.tR ?_))); refine QE.ret (js := []) (hs := []) (vs := [_]) rfl ⟨rfl, trivial⟩ (by decide) ?_
         exact ⟨rfl, rfl, rfl⟩
        ·
         refine C.skip (QE.seq (C.seq (C.region ?_)))
         refine L.make (m := 65540) rfl rfl rfl rfl rfl rfl rfl rfl rfl (by decide) (by decide) rfl (fun A105 => ?_)
         refine L.freeze 5 rfl [0, 1, 2, 3, 4] (by decide) (by decide) ?_; refine L.norm (H' := [_, _, _, _, _]) [0, 1, 2, 3, 4] ⟨rfl, rfl, rfl, rfl, rfl, trivial⟩ (by decide) ?_; refine L.call (js := []) (js' := [0, 1, 2, 3, 4]) (lift_big A105 65540 (by decide) (by decide)) rfl rfl rfl (by decide) (Hq [0] rfl) rfl ?_
         rintro _ _ _ ⟨W106, M106, L106, l106, rfl, rfl, rfl⟩
         refine L.norm (H' := [_, _, _, _, _, _, _, _]) [0, 1, 2, 3, 4, 5, 6, 7] ⟨rfl, rfl, rfl, rfl, rfl, rfl, rfl, rfl, trivial⟩ (by decide) ?_; refine Lpu rfl rfl ?_; refine Lpu rfl rfl ?_; refine Lpu rfl rfl ?_
         refine L.alloc rfl rfl rfl (fun A14 => ?_)
         refine L.storeA (j := 8) rfl rfl rfl rfl rfl (Nat.zero_lt_succ _) rfl rfl ?_; refine Lpu rfl rfl ?_; refine L.nil (QE.seq (C.seq (C.region ?_)))
         refine L.make (m := 65536) rfl rfl rfl rfl rfl rfl rfl rfl rfl (by decide) (by decide) rfl (fun A110 => ?_)
         refine L.freeze 9 rfl [0, 1, 2, 3, 4, 5, 6, 7, 8] (by decide) (by decide) ?_; refine L.norm (H' := [_, _, _, _, _, _, _, _, _]) [0, 1, 2, 3, 4, 5, 6, 7, 8] ⟨rfl, rfl, rfl, rfl, rfl, rfl, rfl, rfl, rfl, trivial⟩ (by decide) ?_; refine L.call (js := []) (js' := [0, 1, 2, 3, 4, 5, 6, 7, 8]) (moved_big A110 65536 (by decide) (by decide)) rfl rfl rfl (by decide) (Hq [0] rfl) rfl ?_
         rintro _ _ _ ⟨Y, yc, rfl, rfl, rfl⟩
         refine L.norm (H' := [_, _, _, _, _, _, _, _, _, _]) [0, 1, 2, 3, 4, 5, 6, 7, 8, 9] ⟨rfl, rfl, rfl, rfl, rfl, rfl, rfl, rfl, rfl, rfl, trivial⟩ (by decide) ?_; refine Lpu rfl rfl ?_; refine Lpu rfl rfl ?_; refine Lpu rfl rfl ?_; refine Lpu rfl rfl ?_; refine Lpu rfl rfl ?_; refine L.nil (QE.seq (C.seq (C.region ?_))); refine Lpu rfl rfl ?_; refine Lpu rfl rfl ?_; refine Lpu rfl rfl ?_
         refine L.bool 116 rfl (fun hg116 => ?_) (fun hg116 => ?_)
         ·
          replace hg116 := i_eq hg116
          refine L.yes rfl ?_; refine Lpu rfl rfl ?_; refine L.yes rfl ?_; refine Lpu rfl rfl ?_; refine Lpu rfl rfl ?_; refine Lpu rfl rfl ?_
          refine L.bool 120 rfl (fun hg120 => ?_) (fun hg120 => ?_)
          ·
           replace hg120 := i_eq hg120
           refine L.yes rfl ?_; refine Lpu rfl rfl ?_; refine Lpu rfl rfl ?_; refine Lpu rfl rfl ?_; refine L.nil (QE.seq (C.ret ?_)); refine QE.ret (js := []) (hs := []) (vs := [_]) rfl ⟨rfl, trivial⟩ (by decide) ?_
           exact ⟨rfl, rfl, rfl⟩
          ·
           replace hg120 := i_ne hg120
           first | exact absurd rfl hg120 | omega | exact absurd rfl hc120
         ·
          replace hg116 := i_ne hg116
          first | exact absurd rfl hg116 | omega | exact absurd rfl hc116
      ·
       replace hg96 := b_eq hg96
       refine L.no rfl rfl rfl ?_; refine L.no rfl rfl rfl ?_; refine L.yes rfl ?_; refine Lpu rfl rfl ?_; refine Lpu rfl rfl ?_; refine L.nil (QE.seq ?_)
       refine C.cond rfl (fun h => by cases h) (fun _ => ?_)
       refine C.skip (QE.seq (C.seq (C.seq (C.region ?_)))); refine Lpu rfl rfl ?_; refine Lpu rfl rfl ?_; refine L.nil (QE.seq ?_)
       refine C.condB 102 rfl (fun hc102 => ?_) (fun hc102 => ?_)
       ·
        refine C.seq (C.region ?_); refine Lpu rfl rfl ?_; refine Lpu rfl rfl ?_; refine L.nil (QE.seq (C.ret (QE.tR ?_))); refine QE.ret (js := []) (hs := []) (vs := [_]) rfl ⟨rfl, trivial⟩ (by decide) ?_
        exact ⟨rfl, rfl, rfl⟩
       ·
        refine C.skip (QE.seq (C.seq (C.region ?_)))
        refine L.make (m := 65540) rfl rfl rfl rfl rfl rfl rfl rfl rfl (by decide) (by decide) rfl (fun A105 => ?_)
        refine L.freeze 5 rfl [0, 1, 2, 3, 4] (by decide) (by decide) ?_; refine L.norm (H' := [_, _, _, _, _]) [0, 1, 2, 3, 4] ⟨rfl, rfl, rfl, rfl, rfl, trivial⟩ (by decide) ?_; refine L.call (js := []) (js' := [0, 1, 2, 3, 4]) (lift_big A105 65540 (by decide) (by decide)) rfl rfl rfl (by decide) (Hq [0] rfl) rfl ?_
        rintro _ _ _ ⟨W106, M106, L106, l106, rfl, rfl, rfl⟩
        refine L.norm (H' := [_, _, _, _, _, _, _, _]) [0, 1, 2, 3, 4, 5, 6, 7] ⟨rfl, rfl, rfl, rfl, rfl, rfl, rfl, rfl, trivial⟩ (by decide) ?_; refine Lpu rfl rfl ?_; refine Lpu rfl rfl ?_; refine Lpu rfl rfl ?_
        refine L.alloc rfl rfl rfl (fun A14 => ?_)
        refine L.storeA (j := 8) rfl rfl rfl rfl rfl (Nat.zero_lt_succ _) rfl rfl ?_; refine Lpu rfl rfl ?_; refine L.nil (QE.seq (C.seq (C.region ?_)))
        refine L.make (m := 65536) rfl rfl rfl rfl rfl rfl rfl rfl rfl (by decide) (by decide) rfl (fun A110 => ?_)
        refine L.freeze 9 rfl [0, 1, 2, 3, 4, 5, 6, 7, 8] (by decide) (by decide) ?_; refine L.norm (H' := [_, _, _, _, _, _, _, _, _]) [0, 1, 2, 3, 4, 5, 6, 7, 8] ⟨rfl, rfl, rfl, rfl, rfl, rfl, rfl, rfl, rfl, trivial⟩ (by decide) ?_; refine L.call (js := []) (js' := [0, 1, 2, 3, 4, 5, 6, 7, 8]) (moved_big A110 65536 (by decide) (by decide)) rfl rfl rfl (by decide) (Hq [0] rfl) rfl ?_
        rintro _ _ _ ⟨Y, yc, rfl, rfl, rfl⟩
        refine L.norm (H' := [_, _, _, _, _, _, _, _, _, _]) [0, 1, 2, 3, 4, 5, 6, 7, 8, 9] ⟨rfl, rfl, rfl, rfl, rfl, rfl, rfl, rfl, rfl, rfl, trivial⟩ (by decide) ?_; refine Lpu rfl rfl ?_; refine Lpu rfl rfl ?_; refine Lpu rfl rfl ?_; refine Lpu rfl rfl ?_; refine Lpu rfl rfl ?_; refine L.nil (QE.seq (C.seq (C.region ?_))); refine Lpu rfl rfl ?_; refine Lpu rfl rfl ?_; refine Lpu rfl rfl ?_
        refine L.bool 116 rfl (fun hg116 => ?_) (fun hg116 => ?_)
        ·
         replace hg116 := i_eq hg116
         refine L.yes rfl ?_; refine Lpu rfl rfl ?_; refine L.yes rfl ?_; refine Lpu rfl rfl ?_; refine Lpu rfl rfl ?_; refine Lpu rfl rfl ?_
         refine L.bool 120 rfl (fun hg120 => ?_) (fun hg120 => ?_)
         ·
          replace hg120 := i_eq hg120
          refine L.yes rfl ?_; refine Lpu rfl rfl ?_; refine Lpu rfl rfl ?_; refine Lpu rfl rfl ?_; refine L.nil (QE.seq (C.ret ?_)); refine QE.ret (js := []) (hs := []) (vs := [_]) rfl ⟨rfl, trivial⟩ (by decide) ?_
          exact ⟨rfl, rfl, rfl⟩
         ·
          replace hg120 := i_ne hg120
          first | exact absurd rfl hg120 | omega | exact absurd rfl hc120
        ·
         replace hg116 := i_ne hg116
         first | exact absurd rfl hg116 | omega | exact absurd rfl hc116

end Go.Proofs.Ytkjhcjhfegakoaa
