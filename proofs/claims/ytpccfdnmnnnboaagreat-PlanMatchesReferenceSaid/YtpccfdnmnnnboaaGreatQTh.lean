/-
  The plans that the laws speak of, as plain data.
-/
import Derived.Lib.BytesEntry
import Derived.Laws.StructEq
import Derived.Test.YtpccfdnmnnnboaaGreatQTg
import Derived.Test.YtpccfdnmnnnboaaGreatQSlV
import Derived.Test.YtpccfdnmnnnboaaGreatQWOyB
import Derived.Test.YtpccfdnmnnnboaaGreatQSlN
section
namespace Go.Sl

def mdI (a : UInt8) : Nat := 1 + a.toNat % 24
def mdK (a : UInt8) (l : List T3) : List Po × Nat := bkS (mdI a) l (min l.length 8)
def mdS (z : UInt8) : Nat := 2 + z.toNat % 4
def mdV (a z : UInt8) (l : List T3) : Nat := (max (mdI a) (mdK a l).2 + mdS z - 1) / mdS z
def mdW (a z : UInt8) (l : List T3) : Nat := mdV a z l + z.toNat / 4 % 2
section
variable (a z : UInt8) (l : List T3)
theorem mdI_le : 1 ≤ mdI a ∧ mdI a ≤ 24 := by unfold mdI; omega
theorem mdK_out : (mdK a l).2 ≤ 32 := by
 have := bkS_out (mdI a) l (min l.length 8)
 unfold mdK
 omega
theorem mdK_ops : (mdK a l).1.length ≤ 8 := by
 unfold mdK
 rw [bkS_len]
 omega
theorem mdS_le : 2 ≤ mdS z ∧ mdS z ≤ 5 := by unfold mdS; omega
theorem mdW_le : 1 ≤ mdW a z l ∧ mdW a z l ≤ 18 := by
 have h1 := mdI_le a
 have h2 := mdK_out a l
 have h3 := mdS_le z
 unfold mdW mdV
 have h4 : (max (mdI a) (mdK a l).2 + mdS z - 1) / mdS z ≤ 16 := by
   refine Nat.le_of_lt_succ ((Nat.div_lt_iff_lt_mul (by omega)).2 ?_)
   omega
 have h5 : 1 ≤ (max (mdI a) (mdK a l).2 + mdS z - 1) / mdS z := by
   rw [Nat.le_div_iff_mul_le (by omega)]
   omega
 omega
end
end Go.Sl
end
/-
  The plans that the laws speak of.
-/
section
namespace Go.Proofs.YtpccfdnmnnnboaaGreat
open Go.Sl

theorem md_q (a z : UInt8) (l : List T3) : mdV a z l ≤ 18 := by
 have := (mdW_le a z l).2
 unfold mdW at this
 omega

set_option maxHeartbeats 1000000 in
theorem made19_c (LA : Option Addr) (l : List T3) (lc : Nat) (hl : l.length ≤ 9223372036854775807) (a z : UInt8) (BA : Option Addr) (b : List UInt8) (bc : Nat) (hbl : b.length ≤ 9223372036854775807) :
   Ctr X 11 [.agg (List.toArray [.slice LA l.length lc, .int .u8 (a.toNat : Int), .int .u8 (z.toNat : Int), .slice BA b.length bc])] [Rd LA (triV l), Rd BA (U8 b)] [] (fun v R' H' => ∃ (Y O : Option Addr) (yc oc : Nat), v = .agg (List.toArray [.slice Y (inpF b (mdI a)).length yc, .bool false, .int .i64 ((mdI a : Nat) : Int), .int .i64 (((mdK a l).2 : Nat) : Int), .slice O (mdK a l).1.length oc, .int .i64 ((mdS z : Nat) : Int), .int .i64 ((mdW a z l : Nat) : Int)]) ∧ R' = [Rd O (opsV (mdK a l).1)] ∧ H' = [Own 5 1 Y (inpF b (mdI a)).length yc (U8 (inpF b (mdI a)))]) := by
 refine Ctr.of (X := X) (fn := Tryz.f11) Tryz.func11 rfl (by kernel_rfl) rfl ?_
 intro β
 have hI := mdI_le a
 have hO := mdK_out a l
 have hS := mdS_le z
 have hW := mdW_le a z l
 refine C.seq (C.region ?_)
 refine L.boxA rfl rfl (fun A1 => ?_)
 refine L.alloc rfl rfl rfl (fun A2 => ?_)
 refine L.nil (QE.seq (C.seq ?_)); refine C.freeze 0 rfl [1] (by decide) (by decide) ?_; refine C.norm (H' := [_]) [0] ⟨rfl, trivial⟩ (by decide) ?_; refine C.region ?_; refine L.step (Ev.fieldAddr rfl rfl rfl rfl rfl rfl (Src.r 0 rfl) (Nat.zero_lt_succ _) rfl) rfl ?_; refine L.step (Ev.load rfl rfl rfl (Src.r 0 rfl) rfl) rfl ?_; refine L.step (Ev.fieldAddr rfl rfl rfl rfl rfl rfl (Src.r 0 rfl) (Nat.zero_lt_succ _) rfl) rfl ?_; refine L.step (Ev.load rfl rfl rfl (Src.r 0 rfl) rfl) rfl ?_; refine L.callR (js := []) (js' := [0]) (blocks_c LA l lc a hl) rfl rfl rfl (by decide) (Hq [1] rfl) rfl ?_
 rintro _ _ _ ⟨OA, oc, rfl, rfl, rfl⟩
 refine L.norm (H' := [_]) [0] ⟨rfl, trivial⟩ (by decide) ?_
 refine L.alloc rfl rfl rfl (fun A3 => ?_)
 refine L.storeA (vs := [.bool false, .int .i64 ((mdI a : Nat) : Int), .int .i64 (((mdK a l).2 : Nat) : Int), .slice OA (mdK a l).1.length oc]) (j := 1) rfl rfl rfl rfl rfl (Nat.zero_lt_succ _) rfl rfl ?_; refine L.nil (QE.seq (C.seq (C.region ?_))); refine L.step (Ev.fieldAddr rfl rfl rfl rfl rfl rfl (Src.r 1 rfl) (Nat.zero_lt_succ _) rfl) rfl ?_; refine L.step (Ev.load rfl rfl rfl (Src.r 1 rfl) rfl) rfl ?_; refine L.step (Ev.cast (u := .int .u8 (((z.toNat % 4) : Nat) : Int)) (Ev.rem rfl rfl (by omega) (by decide)) (congrArg (Value.int .u8) (by rw [Int.natCast_emod]; rfl))) rfl ?_; refine L.step (Ev.cast (u := .int .i64 (((z.toNat % 4) : Nat) : Int)) (Ev.toInt rfl rfl rfl rfl (by omega) (by omega)) (congrArg (Value.int .i64) (by omega))) rfl ?_; refine L.step (Ev.cast (u := .int .i64 (((mdS z) : Nat) : Int)) (Ev.add rfl rfl (by omega) (by omega)) (congrArg (Value.int .i64) (by unfold mdS; omega))) rfl ?_; refine Lpu rfl rfl ?_; refine L.nil (QE.seq (C.seq ?_)); refine C.freeze 1 rfl [0] (by decide) (by decide) ?_; refine C.norm (H' := [_]) [0] ⟨rfl, trivial⟩ (by decide) ?_; refine C.regionM [Rd A3 [.bool false, .int .i64 ((mdI a : Nat) : Int), .int .i64 (((mdK a l).2 : Nat) : Int), .slice OA (mdK a l).1.length oc], Rd OA (opsV (mdK a l).1), Rd A1 [.slice LA l.length lc, .int .u8 (a.toNat : Int), .int .u8 (z.toNat : Int), .slice BA b.length bc], Rd LA (triV l), Rd BA (U8 b)] (Hq [0, 1, 2, 3, 4] rfl) ?_; refine LM.q 0 rfl (by kernel_rfl) (Ev.fieldAddr rfl rfl rfl rfl rfl rfl (Src.r 2 rfl) (Nat.zero_lt_succ _) rfl) rfl (Hq [0, 1, 2, 3, 4] rfl) ?_; refine LM.q 1 rfl (by kernel_rfl) (Ev.load rfl rfl rfl (Src.r 2 rfl) rfl) rfl (Hq [0, 1, 2, 3, 4] rfl) ?_; refine LM.q 2 rfl (by kernel_rfl) (Ev.fieldAddr rfl rfl rfl rfl rfl rfl (Src.r 0 rfl) (Nat.zero_lt_succ _) rfl) rfl (Hq [0, 1, 2, 3, 4] rfl) ?_; refine LM.q 3 rfl (by kernel_rfl) (Ev.load rfl rfl rfl (Src.r 0 rfl) rfl) rfl (Hq [0, 1, 2, 3, 4] rfl) ?_; refine LM.q 5 rfl (by kernel_rfl) (Ev.loadA (vs := [.bool false, .int .i64 ((mdI a : Nat) : Int), .int .i64 (((mdK a l).2 : Nat) : Int), .slice OA (mdK a l).1.length oc]) rfl rfl rfl (Src.r 0 rfl) rfl rfl (by decide)) rfl (Hq [0, 1, 2, 3, 4] rfl) ?_; refine LM.q 6 rfl (by kernel_rfl) (Ev.pure rfl) rfl (Hq [0, 1, 2, 3, 4] rfl) ?_; refine LM.q 7 rfl (by kernel_rfl) (Ev.fieldAddr rfl rfl rfl rfl rfl rfl (Src.r 0 rfl) (Nat.zero_lt_succ _) rfl) rfl (Hq [0, 1, 2, 3, 4] rfl) ?_; refine LM.q 8 rfl (by kernel_rfl) (Ev.load rfl rfl rfl (Src.r 0 rfl) rfl) rfl (Hq [0, 1, 2, 3, 4] rfl) ?_; refine LM.q 9 rfl (by kernel_rfl) (Ev.fieldAddr rfl rfl rfl rfl rfl rfl (Src.r 0 rfl) (Nat.zero_lt_succ _) rfl) rfl (Hq [0, 1, 2, 3, 4] rfl) ?_; refine LM.q 10 rfl (by kernel_rfl) (Ev.load rfl rfl rfl (Src.r 0 rfl) rfl) rfl (Hq [0, 1, 2, 3, 4] rfl) ?_; refine LM.q 11 rfl (by kernel_rfl) (Ev.cast (u := .int .i64 (max ((mdI a : Nat) : Int) (((mdK a l).2 : Nat) : Int))) (Ev.pure rfl) (congrArg (Value.int .i64) (by simp only [if_true]; split <;> omega))) rfl (Hq [0, 1, 2, 3, 4] rfl) ?_; refine LM.q 12 rfl (by kernel_rfl) (Ev.pure rfl) rfl (Hq [0, 1, 2, 3, 4] rfl) ?_; refine LM.q 13 rfl (by kernel_rfl) (Ev.add rfl rfl (by omega) (by omega)) rfl (Hq [0, 1, 2, 3, 4] rfl) ?_; refine LM.q 14 rfl (by kernel_rfl) (Ev.sub rfl rfl (by omega) (by omega)) rfl (Hq [0, 1, 2, 3, 4] rfl) ?_; refine LM.q 15 rfl (by kernel_rfl) (Ev.pure rfl) rfl (Hq [0, 1, 2, 3, 4] rfl) ?_; refine LM.q 16 rfl (by kernel_rfl) (Ev.cast (u := .int .i64 (((mdV a z l) : Nat) : Int)) (Ev.quo rfl rfl (by omega) (by omega) (by omega)) (congrArg (Value.int .i64) (by unfold mdV; rw [show max ((mdI a : Nat) : Int) (((mdK a l).2 : Nat) : Int) + ((mdS z : Nat) : Int) - 1 = ((max (mdI a) (mdK a l).2 + mdS z - 1 : Nat) : Int) by omega]; exact (Int.natCast_ediv _ _).symm))) rfl (Hq [0, 1, 2, 3, 4] rfl) ?_; refine LM.q 17 rfl (by kernel_rfl) (Ev.fieldAddr rfl rfl rfl rfl rfl rfl (Src.r 2 rfl) (Nat.zero_lt_succ _) rfl) rfl (Hq [0, 1, 2, 3, 4] rfl) ?_; refine LM.q 18 rfl (by kernel_rfl) (Ev.load rfl rfl rfl (Src.r 2 rfl) rfl) rfl (Hq [0, 1, 2, 3, 4] rfl) ?_; refine LM.q 19 rfl (by kernel_rfl) (Ev.cast (u := .int .u8 (((z.toNat / 4) : Nat) : Int)) (Ev.quo8 (b := 4) rfl rfl (by have := z.toNat_lt; omega) (by decide)) (congrArg (Value.int .u8) rfl)) rfl (Hq [0, 1, 2, 3, 4] rfl) ?_; refine LM.q 20 rfl (by kernel_rfl) (Ev.cast (u := .int .u8 (((z.toNat / 4 % 2) : Nat) : Int)) (Ev.rem rfl rfl (by omega) (by decide)) (congrArg (Value.int .u8) (by rw [Int.natCast_emod]; rfl))) rfl (Hq [0, 1, 2, 3, 4] rfl) ?_; refine LM.q 21 rfl (by kernel_rfl) (Ev.cast (u := .int .i64 (((z.toNat / 4 % 2) : Nat) : Int)) (Ev.toInt rfl rfl rfl rfl (by omega) (by omega)) (congrArg (Value.int .i64) (by omega))) rfl (Hq [0, 1, 2, 3, 4] rfl) ?_; refine LM.q 22 rfl (by kernel_rfl) (Ev.cast (u := .int .i64 (((mdW a z l) : Nat) : Int)) (Ev.add rfl rfl (by have h := md_q a z l; omega) (by have h := md_q a z l; omega)) (congrArg (Value.int .i64) (by unfold mdW; omega))) rfl (Hq [0, 1, 2, 3, 4] rfl) ?_; refine LM.f 4 rfl (by kernel_rfl) (Hq [0, 1, 2, 3, 4] rfl) ?_; refine L.call (js := []) (js' := [0]) (input_c BA b bc (mdI a) hbl (by omega)) rfl rfl rfl (by decide) (Hq [4] rfl) rfl ?_
 rintro _ _ _ ⟨YA, yc, rfl, rfl, rfl⟩
 refine L.norm (H' := [_, _]) [0, 1] ⟨rfl, rfl, trivial⟩ (by decide) ?_
 refine L.nil (QE.m (by kernel_rfl) ?_)
 refine LM.cut [] (by kernel_rfl) (Hq [0, 1, 2, 3, 4] rfl) ?_; refine LM.f 23 rfl (by kernel_rfl) trivial ?_; refine L.step (Ev.build rfl rfl rfl rfl rfl rfl rfl) rfl ?_
 refine L.nil (QE.m (by kernel_rfl) ?_)
 refine LM.f 24 rfl (by kernel_rfl) trivial ?_; refine L.storeA (j := 1) rfl rfl rfl rfl rfl (Nat.zero_lt_succ _) rfl rfl ?_
 refine L.nil (QE.m (by kernel_rfl) ?_)
 refine LM.nil (by kernel_rfl) trivial ?_; refine QE.seq (C.ret ?_); refine QE.ret (js := [1]) (hs := [0]) (vs := [_]) rfl ⟨⟨_, _, 0, _, rfl, rfl, Src.o 1 rfl, .inl ⟨rfl, by decide, _, rfl, rfl, rfl⟩⟩, trivial⟩ (by decide) ?_
 exact ⟨YA, OA, yc, oc, rfl, rfl, rfl⟩

theorem halves_c  :
   Ctr X 38 [] [] [] (fun v R' H' => ∃ (O : Option Addr), v = .agg (List.toArray [.bool false, .int .i64 4, .int .i64 4, .slice O 2 2]) ∧ R' = [Rd O (opsV [⟨1, 2, 2, 0⟩, ⟨1, 0, 2, 0⟩])] ∧ H' = []) := by
 refine Ctr.of (X := X) (fn := Tryz.f38) Tryz.func38 rfl (by kernel_rfl) rfl ?_
 intro β
 refine C.seq (C.region ?_)
 refine L.alloc rfl rfl rfl (fun A0 => ?_)
 refine L.nil (QE.seq (C.seq (C.region ?_))); refine L.step (Ev.build rfl rfl rfl rfl rfl rfl rfl) rfl ?_; refine L.step (Ev.build rfl rfl rfl rfl rfl rfl rfl) rfl ?_
 refine L.lit2S (sz := 5) (cs := Po.cells ⟨1, 2, 2, 0⟩) (cs' := Po.cells ⟨1, 0, 2, 0⟩) rfl rfl rfl rfl rfl rfl (Nat.zero_lt_succ _) rfl rfl rfl rfl (fun A3 => ?_)
 refine L.step (Ev.build rfl rfl rfl rfl rfl rfl rfl) rfl ?_; refine L.storeA (j := 0) rfl rfl rfl rfl rfl (Nat.zero_lt_succ _) rfl rfl ?_; refine L.nil (QE.seq (C.ret ?_)); refine QE.freeze 1 rfl [0] (by decide) (by decide) ?_; refine QE.norm (H' := [_]) [0] ⟨rfl, trivial⟩ (by decide) ?_; refine QE.ret (js := [0]) (hs := []) (vs := [_]) rfl ⟨⟨_, _, 0, _, rfl, rfl, Src.o 0 rfl, .inl ⟨rfl, by decide, _, rfl, rfl, rfl⟩⟩, trivial⟩ (by decide) ?_
 exact ⟨A3, rfl, rfl, rfl⟩

set_option maxHeartbeats 1000000 in
theorem lawFlash_c (S n k : Nat) (s : Int) (v1 v2 v3 v4 v5 v6 : Value) (BA : Option Addr) (b : List UInt8) (bc : Nat) (hbl : b.length ≤ 1000000) (hS1 : 1 ≤ S) (hS2 : S ≤ 4096) (hn2 : n ≤ 64) (hk : (k : Int) = 6 + s) (hk2 : k ≤ 100) :
   Ctr X 17 [.agg (List.toArray [.int .i64 (S : Int), .int .i64 (n : Int), v1, v2, v3, v4, v5, v6]), .slice BA b.length bc, .int .i64 s] [Rd BA (U8 b)] [] (fun v R' H' => ∃ (f : Fa) (GA UA LA : Option Addr) (gc uc lc : Nat), v = .tuple #[.agg (List.toArray [.int .i64 (S : Int), .slice f.D (n + k) f.cD, .slice f.W (n + k) f.cW, .int .i64 1000, .slice f.E (n + k) f.cE]), .agg (List.toArray [.int .i64 (n : Int), .int .i64 (n : Int), .int .i64 ((n : Int) + 1), .int .i64 ((n : Int) + 2), .int .i64 ((n : Int) + 3), .slice GA 1 gc, .slice UA 1 uc, .slice LA s.toNat lc])] ∧ R' = [] ∧ H' = [Own 23 1 f.D (n + k) f.cD (rowsV f.hs (B8 (flD b S n (n + k)))), OwnKids 5 f.hs (B8 (flD b S n (n + k))), Own 3 1 f.W (n + k) f.cW (I64 (List.replicate (n + k) 0)), Own 4 1 f.E (n + k) f.cE (Bs (List.replicate (n + k) false)), Own 3 1 GA 1 gc (I64 (upI (n + 4) 1)), Own 3 1 UA 1 uc (I64 (upI (n + 4 + 1) 1)), Own 3 1 LA s.toNat lc (I64 (upI (n + 4 + 1 + 1) s.toNat))] ∧ f.hs.length = n + k) := by
 refine Ctr.of (X := X) (fn := Tryz.f17) Tryz.func17 rfl (by kernel_rfl) rfl ?_
 intro β
 refine C.seq (C.region ?_)
 refine L.boxA rfl rfl (fun A3 => ?_)
 refine L.alloc rfl rfl rfl (fun A6 => ?_)
 refine L.alloc rfl rfl rfl (fun A7 => ?_)
 refine L.nil (QE.seq (C.seq ?_)); refine C.freeze 0 rfl [1, 2] (by decide) (by decide) ?_; refine C.norm (H' := [_, _]) [0, 1] ⟨rfl, rfl, trivial⟩ (by decide) ?_; refine C.region ?_; refine L.step (Ev.fieldAddr rfl rfl rfl rfl rfl rfl (Src.r 0 rfl) (Nat.zero_lt_succ _) rfl) rfl ?_; refine L.step (Ev.load rfl rfl rfl (Src.r 0 rfl) rfl) rfl ?_; refine Lpu rfl rfl ?_; refine L.step (Ev.buildArr rfl rfl rfl rfl rfl rfl rfl) rfl ?_; refine L.call (js := []) (js' := [0, 1]) (layout19_c n 1 1 s (by omega) (by decide) (by decide) (by omega)) rfl rfl rfl (by decide) trivial rfl ?_
 rintro _ _ _ ⟨GA, UA, LA, gc, uc, lc, rfl, rfl, rfl⟩
 refine L.norm (H' := [_, _, _, _, _]) [0, 1, 2, 3, 4] ⟨rfl, rfl, rfl, rfl, rfl, trivial⟩ (by decide) ?_
 refine L.alloc rfl rfl rfl (fun A8 => ?_)
 refine L.storeA (vs := [.int .i64 (n : Int), .int .i64 (n : Int), .int .i64 ((n : Int) + 1), .int .i64 ((n : Int) + 2), .int .i64 ((n : Int) + 3), .slice GA 1 gc, .slice UA 1 uc, .slice LA s.toNat lc]) (j := 5) rfl rfl rfl rfl rfl (Nat.zero_lt_succ _) rfl rfl ?_; refine L.nil (QE.seq (C.seq ?_)); refine C.regionM [Rd A3 [.int .i64 (S : Int), .int .i64 (n : Int), v1, v2, v3, v4, v5, v6], Rd BA (U8 b), Rd A8 [.int .i64 (n : Int), .int .i64 (n : Int), .int .i64 ((n : Int) + 1), .int .i64 ((n : Int) + 2), .int .i64 ((n : Int) + 3), .slice GA 1 gc, .slice UA 1 uc, .slice LA s.toNat lc]] ⟨Has.r 0 rfl, Has.r 1 rfl, Has.o 5 rfl, trivial⟩ ?_; refine LM.q 0 rfl (by kernel_rfl) (Ev.pure rfl) rfl ⟨Has.r 0 rfl, Has.r 1 rfl, Has.o 5 rfl, trivial⟩ ?_; refine LM.q 1 rfl (by kernel_rfl) (Ev.fieldAddr rfl rfl rfl rfl rfl rfl (Src.r 0 rfl) (Nat.zero_lt_succ _) rfl) rfl ⟨Has.r 0 rfl, Has.r 1 rfl, Has.o 5 rfl, trivial⟩ ?_; refine LM.q 2 rfl (by kernel_rfl) (Ev.load rfl rfl rfl (Src.r 0 rfl) rfl) rfl ⟨Has.r 0 rfl, Has.r 1 rfl, Has.o 5 rfl, trivial⟩ ?_; refine LM.q 3 rfl (by kernel_rfl) (Ev.fieldAddr rfl rfl rfl rfl rfl rfl (Src.r 0 rfl) (Nat.zero_lt_succ _) rfl) rfl ⟨Has.r 0 rfl, Has.r 1 rfl, Has.o 5 rfl, trivial⟩ ?_; refine LM.q 4 rfl (by kernel_rfl) (Ev.load rfl rfl rfl (Src.r 0 rfl) rfl) rfl ⟨Has.r 0 rfl, Has.r 1 rfl, Has.o 5 rfl, trivial⟩ ?_; refine LM.q 5 rfl (by kernel_rfl) (Ev.pure rfl) rfl ⟨Has.r 0 rfl, Has.r 1 rfl, Has.o 5 rfl, trivial⟩ ?_; refine LM.q 6 rfl (by kernel_rfl) (Ev.cast (u := .int .i64 ((k : Nat) : Int)) (Ev.add rfl rfl (by omega) (by omega)) (congrArg (Value.int .i64) (by omega))) rfl ⟨Has.r 0 rfl, Has.r 1 rfl, Has.o 5 rfl, trivial⟩ ?_; refine LM.q 8 rfl (by kernel_rfl) (Ev.loadA (vs := [.int .i64 (n : Int), .int .i64 (n : Int), .int .i64 ((n : Int) + 1), .int .i64 ((n : Int) + 2), .int .i64 ((n : Int) + 3), .slice GA 1 gc, .slice UA 1 uc, .slice LA s.toNat lc]) rfl rfl rfl (Src.r 2 rfl) rfl rfl (by decide)) rfl ⟨Has.r 0 rfl, Has.r 1 rfl, Has.o 5 rfl, trivial⟩ ?_; refine LM.f 7 rfl (by kernel_rfl) ⟨Has.r 0 rfl, Has.r 1 rfl, Has.o 5 rfl, trivial⟩ ?_; refine L.call (js := []) (js' := [0, 1, 2, 3, 4, 5]) (flash19_c BA b bc S n k hbl hS1 hS2 hn2 hk2) rfl rfl rfl (by decide) (Hq [1] rfl) rfl ?_
 rintro _ _ _ ⟨f, rfl, rfl, rfl, hfh⟩
 refine L.norm (H' := [_, _, _, _, _, _, _, _, _, _]) [0, 1, 2, 3, 4, 5, 6, 7, 8, 9] ⟨rfl, rfl, rfl, rfl, rfl, rfl, rfl, rfl, rfl, rfl, trivial⟩ (by decide) ?_
 refine L.nil (QE.m (by kernel_rfl) ?_)
 refine LM.f 9 rfl (by kernel_rfl) ⟨Has.r 0 rfl, Has.r 1 rfl, Has.o 9 rfl, trivial⟩ ?_; refine L.storeA (j := 7) rfl rfl rfl rfl rfl (Nat.zero_lt_succ _) rfl rfl ?_
 refine L.nil (QE.m (by kernel_rfl) ?_)
 refine LM.cut [] (by kernel_rfl) ⟨Has.r 0 rfl, Has.r 1 rfl, Has.o 9 rfl, trivial⟩ ?_; refine LM.f 10 rfl (by kernel_rfl) trivial ?_; refine L.storeA (j := 8) rfl rfl rfl rfl rfl (Nat.zero_lt_succ _) rfl rfl ?_
 refine L.nil (QE.m (by kernel_rfl) ?_)
 refine LM.nil (by kernel_rfl) trivial ?_; refine QE.seq (C.ret ?_); refine QE.ret (js := []) (hs := [0, 1, 2, 3, 4, 5, 6]) (vs := [_, _]) rfl ⟨⟨_, _, 0, _, rfl, rfl, Src.o 7 rfl, .inl ⟨rfl, by decide, _, rfl, rfl, rfl⟩⟩, ⟨_, _, 0, _, rfl, rfl, Src.o 8 rfl, .inl ⟨rfl, by decide, _, rfl, rfl, rfl⟩⟩, trivial⟩ (by decide) ?_
 exact ⟨f, GA, UA, LA, gc, uc, lc, rfl, rfl, rfl, hfh⟩

end Go.Proofs.YtpccfdnmnnnboaaGreat
end
/-
  The small separation logic: shifts and or of whole numbers, structs of numbers that are compared, one byte that is counted, rows of structs, closures that may panic, a deferred closure over one cell.
-/
section
namespace Go.Sl

section
variable {X : Cx} {β : Base} {n : Nat} {ds : List Deferred} {ops : Array Oper} {Q : Exit → Act → World → Prop} {rest : List Oper} {Γ : Env} {R H : List Pr}

/-! ### Structs of numbers, compared -/
def intFs (T : List (Nat × Ti)) : Nat → List Field → Bool
 | _, [] => true
 | k, f :: fs => f.offset == k && f.name != "_" && (match tlook f.type T with | some i => (match i.desc with | .int .i64 => true | _ => false) | none => false) && intFs T (k + 1) fs
theorem run_eqInts {w : World} {xs ys : List Int} (d : Nat) : ∀ (fs : List Field) (k : Nat), intFs X.tab k fs = true → xs.length = k + fs.length → ys.length = k + fs.length →
   (Op.eqFields (d + 1) (List.toArray (I64 xs)) (List.toArray (I64 ys)) fs).run X.P w = .ok (xs.drop k == ys.drop k) w
 | [], k, _, h1, h2 => by
   rw [List.drop_eq_nil_of_le (by simp at h1; omega), List.drop_eq_nil_of_le (by simp at h2; omega)]
   rfl
 | f :: fs, k, h, h1, h2 => by
   simp only [intFs, Bool.and_eq_true, beq_iff_eq, bne_iff_ne, ne_eq] at h
   obtain ⟨⟨⟨hk, hn⟩, ht⟩, hfs⟩ := h
   simp only [List.length_cons] at h1 h2
   split at ht
   · rename_i i hi
     split at ht
     · rename_i hdesc
       have hx := run_part (P := X.P) w (X.ok _ _ hi) (List.toArray (I64 xs)) f.offset (.int .i64 (xs.getD k 0)) (by rw [hdesc, hk, if_neg (by simp [aggD])]; exact I64_get (by omega))
       have hy := run_part (P := X.P) w (X.ok _ _ hi) (List.toArray (I64 ys)) f.offset (.int .i64 (ys.getD k 0)) (by rw [hdesc, hk, if_neg (by simp [aggD])]; exact I64_get (by omega))
       have hu := (X.ok _ _ hi).und
       rw [hdesc] at hu
       have ih := run_eqInts d fs (k + 1) hfs (by omega) (by omega) (w := w) (xs := xs) (ys := ys)
       have e1 : xs.drop k = xs.getD k 0 :: xs.drop (k + 1) := by rw [List.drop_eq_getElem_cons (by omega)]; simp [List.getD_eq_getElem?_getD, List.getElem?_eq_getElem (show k < xs.length by omega)]
       have e2 : ys.drop k = ys.getD k 0 :: ys.drop (k + 1) := by rw [List.drop_eq_getElem_cons (by omega)]; simp [List.getD_eq_getElem?_getD, List.getElem?_eq_getElem (show k < ys.length by omega)]
       rw [e1, e2]
       simp only [Op.eqFields, ne_eq, hn, not_false_eq_true, if_true, Sem.run_bind, hx, hy, Result.andThen_ok, run_equalIn_int w d f.type .i64 .i64 _ _ hu]
       cases hb : (xs.getD k 0 == ys.getD k 0)
       · simp only [Bool.not_false, if_true, Sem.run_pure, List.cons_beq_cons, hb, Bool.false_and]
       · simp only [Bool.not_true, Bool.false_eq_true, if_false, ih, List.cons_beq_cons, hb, Bool.true_and]
     · cases ht
   · cases ht
theorem Ev.eqS {t ty : Nat} {x y : Operand} {xs ys : List Int} {i : Ti} {fs : List Field} (ht : tlook t X.tab = some i) (hd : i.desc = .struct (List.toArray fs)) (hp : X.P.stoodInHeld t = false) (hm : X.P.eqGuardType X.P.depth t = false) (hf : intFs X.tab 0 fs = true)
   (hx : ev Γ x = some (.agg (List.toArray (I64 xs)))) (hy : ev Γ y = some (.agg (List.toArray (I64 ys)))) (h1 : xs.length = fs.length) (h2 : ys.length = fs.length) : Ev X β Γ R H (.binOp .eql t x y ty) (.bool (xs == ys)) := by
 intro ρ w hρ hw o ho
 have hu := (X.ok _ _ ht).und
 rw [hd] at hu
 have hF : X.P.fieldsOf t = List.toArray fs := by unfold Program.fieldsOf; rw [hu]
 have hq : (Op.equalIn 10000 t (.agg (List.toArray (I64 xs))) (.agg (List.toArray (I64 ys)))).run X.P w = .ok (xs == ys) w := by
   rw [run_equalIn_struct w 9999 t _ _ (by rw [hF]; exact hu) hp, hF]
   simpa using run_eqInts (X := X) (w := w) (xs := xs) (ys := ys) 9998 fs 0 hf (by omega) (by omega)
 have hg := run_eqGuard_agg (P := X.P) w .eql t x y (List.toArray (I64 xs)) (List.toArray (I64 ys)) hm
 have hb := run_eql_struct (P := X.P) w t (List.toArray (I64 xs)) (List.toArray (I64 ys))
 rw [hq] at hb
 simp [execOp, ho, hρ _ _ hx, hρ _ _ hy, hg, hb]
/-! ### One byte, counted -/
/-! ### Rows of structs -/
/-! ### Closures that may panic -/
/-! ### A deferred closure over one cell, which lays false there if it recovers -/
structure RecC (P : Program) (f : FuncId) (e : TypeId) (v : Value) : Prop where
 fn : ∀ p w, (invoke (.fn (.func f) #[p]) #[]).run P w = .ok (.enter f #[p]) w
 idle : ∀ p w, CallsD P f #[p] .returning w fun e u' w' => e = .returned (.tuple #[]) ∧ u' = .returning ∧ Stp w w' (fun _ => False)
 caught : ∀ A w, (Own e 1 A 1 1 [.bool false]).p w → CallsD P f #[ptrOf A 0] (.panicking [{ v := v, recovered := false }]) w fun e u' w' => e = .returned (.tuple #[]) ∧ u' = .panicking [{ v := v, recovered := true }] ∧ Stp w w' (fun _ => False)
theorem QE.someI {x : Exit} (j : Nat) {e sz m cc : Nat} {A : Option Addr} {xs : List Value} (hj : H[j]? = some (Own e sz A m cc xs)) (h : (0 < xs.length → A.isSome = true) → QE β n ds Q x Γ R H) : QE β n ds Q x Γ R H := by
 intro a w hf hs
 refine h (fun hp => ?_) a w hf hs
 obtain ⟨g, _, rfl, _⟩ := Own.form (hs.own j _ hj) hp
 rfl
end
end Go.Sl
end
/-
  The small separation logic: structs of numbers that are compared, equal or not.
-/
section
namespace Go.Sl

section
variable {X : Cx} {β : Base} {Γ : Env} {R H : List Pr}
theorem Ev.neSt {t ty : Nat} {x y : Operand} {xs ys : List Int} {i : Ti} {fs : List Field} (ht : tlook t X.tab = some i) (hd : i.desc = .struct (List.toArray fs)) (hp : X.P.stoodInHeld t = false) (hm : X.P.eqGuardType X.P.depth t = false) (hf : intFs X.tab 0 fs = true)
   (hx : ev Γ x = some (.agg (List.toArray (I64 xs)))) (hy : ev Γ y = some (.agg (List.toArray (I64 ys)))) (h1 : xs.length = fs.length) (h2 : ys.length = fs.length) : Ev X β Γ R H (.binOp .neq t x y ty) (.bool (xs != ys)) := by
 intro ρ w hρ hw o ho
 have hu := (X.ok _ _ ht).und
 rw [hd] at hu
 have hF : X.P.fieldsOf t = List.toArray fs := by unfold Program.fieldsOf; rw [hu]
 have hq : (Op.equalIn 10000 t (.agg (List.toArray (I64 xs))) (.agg (List.toArray (I64 ys)))).run X.P w = .ok (xs == ys) w := by
   rw [run_equalIn_struct w 9999 t _ _ (by rw [hF]; exact hu) hp, hF]
   simpa using run_eqInts (X := X) (w := w) (xs := xs) (ys := ys) 9998 fs 0 hf (by omega) (by omega)
 have hg := run_eqGuard_agg (P := X.P) w .neq t x y (List.toArray (I64 xs)) (List.toArray (I64 ys)) hm
 have hb := run_neq_struct (P := X.P) w t (List.toArray (I64 xs)) (List.toArray (I64 ys))
 rw [hq] at hb
 simp [execOp, ho, hρ _ _ hx, hρ _ _ hy, hg, hb, bne]
end

/-! ### Choices of a drawn region, told shortly -/
section
variable {X : Cx} {β : Base} {n : Nat} {ds : List Deferred} {Q : Exit → Act → World → Prop} {Γ : Env} {R H Rc : List Pr} {ops o : Array Oper} {fuel : Nat} {listed : Array Bool}
theorem LM.a2 (i j : Nat) {a b : Oper} (hr : Region.ready .any ops listed = [i, j]) (hc : Hass R H Rc) (h1 : ops[i]? = some a) (h2 : ops[j]? = some b)
   (k1 : L X β n ds ops (QM X β ops Rc Q fuel (listed.setIfInBounds i true)) [a] Γ R H) (k2 : L X β n ds ops (QM X β ops Rc Q fuel (listed.setIfInBounds j true)) [b] Γ R H) : LM X β n ds ops Rc Q (fuel + 1) listed Γ R H :=
 LM.alt [i, j] hr (by simp) hc ⟨⟨a, h1, k1⟩, ⟨b, h2, k2⟩, trivial⟩
theorem LM.a3 (i j k : Nat) {a b c : Oper} (hr : Region.ready .any ops listed = [i, j, k]) (hc : Hass R H Rc) (h1 : ops[i]? = some a) (h2 : ops[j]? = some b) (h3 : ops[k]? = some c)
   (k1 : L X β n ds ops (QM X β ops Rc Q fuel (listed.setIfInBounds i true)) [a] Γ R H) (k2 : L X β n ds ops (QM X β ops Rc Q fuel (listed.setIfInBounds j true)) [b] Γ R H) (k3 : L X β n ds ops (QM X β ops Rc Q fuel (listed.setIfInBounds k true)) [c] Γ R H) : LM X β n ds ops Rc Q (fuel + 1) listed Γ R H :=
 LM.alt [i, j, k] hr (by simp) hc ⟨⟨a, h1, k1⟩, ⟨b, h2, k2⟩, ⟨c, h3, k3⟩, trivial⟩
theorem LM.a4 (i j k l : Nat) {a b c d : Oper} (hr : Region.ready .any ops listed = [i, j, k, l]) (hc : Hass R H Rc) (h1 : ops[i]? = some a) (h2 : ops[j]? = some b) (h3 : ops[k]? = some c) (h4 : ops[l]? = some d)
   (k1 : L X β n ds ops (QM X β ops Rc Q fuel (listed.setIfInBounds i true)) [a] Γ R H) (k2 : L X β n ds ops (QM X β ops Rc Q fuel (listed.setIfInBounds j true)) [b] Γ R H) (k3 : L X β n ds ops (QM X β ops Rc Q fuel (listed.setIfInBounds k true)) [c] Γ R H) (k4 : L X β n ds ops (QM X β ops Rc Q fuel (listed.setIfInBounds l true)) [d] Γ R H) : LM X β n ds ops Rc Q (fuel + 1) listed Γ R H :=
 LM.alt [i, j, k, l] hr (by simp) hc ⟨⟨a, h1, k1⟩, ⟨b, h2, k2⟩, ⟨c, h3, k3⟩, ⟨d, h4, k4⟩, trivial⟩
end
end Go.Sl
end
/-
  The plan that exchanges two halves, as plain data.
-/
section
namespace Go.Sl

def hOps : List Po := [⟨1, 2, 2, 0⟩, ⟨1, 0, 2, 0⟩]
def hOld : List UInt8 := [1, 2, 3, 4]
def hP : Pp := ⟨2, 2, false, 4, 4, hOps, [0, 1], [0]⟩
theorem h_chg : chgL (symL hOps) 4 2 2 = [0, 1] := by kernel_rfl
theorem h_mkE : mkE false 4 4 2 2 hOps 4 = 0 := by kernel_rfl
theorem h_mkP : mkP false 4 4 2 2 hOps 4 = hP := by kernel_rfl
theorem h_chk : chkE 4 4 hOps = 0 := by kernel_rfl
theorem h_mk1 : mkE true 4 4 2 2 hOps 4 = 62 := by kernel_rfl
theorem h_mk2 : mkE false 4 4 2 1 hOps 4 = 190 := by kernel_rfl
theorem h_mk3 : mkE false 4 4 2 2 hOps 3 = 61 := by kernel_rfl
theorem h_mk4 : mkE false 4 1 2 2 [] 4 = 60 := by kernel_rfl
theorem mkP_z {lf : Bool} {inn out sz n : Int} {ops : List Po} {ol : Nat} {e : Int} (h : mkE lf inn out sz n ops ol = e) (h0 : e ≠ 0) : mkP lf inn out sz n ops ol = Pp.zero := by
 unfold mkP
 rw [if_neg (by rw [h]; exact h0)]
theorem h_val : vldB false 2 2 4 4 hOps [0, 1] [0] = true := by
 refine val_iff.2 ⟨h_chk, rfl, by kernel_rfl, ?_, by kernel_rfl, by kernel_rfl⟩
 rw [show chgL (symL hOps) 4 (2 : Int).toNat (2 : Int).toNat = [0, 1] from h_chg]
 refine (srt_iff (by decide)).2 ⟨rfl, by decide⟩
theorem h_valz : vldB false 0 0 0 0 [] [] [] = false := val_no (fun h => absurd h.2.2.1 (by decide))
theorem h_needE : needE false 2 2 4 4 hOps [0, 1] [0] hOld = 0 := needE_0 h_val (by decide) (of_decide_eq_true (by kernel_rfl))
theorem h_needV : needV false 2 2 4 4 hOps [0, 1] [0] hOld = ⟨1, 11, 15, 56, 148⟩ := by
 rw [needV_ok h_needE]
 kernel_rfl
theorem h_needz : needE false 0 0 0 0 [] [] [] hOld = 190 := needE_1 h_valz
theorem h_cnt1 : cntE false 2 2 4 4 hOps [0, 1] [0] [] 0 0 [] 2 = 1 := cntE_2 h_val (by decide)
theorem h_cnt2 : cntE false 2 2 4 4 hOps [0, 1] [0] [] 0 0 [] 0 = 220 := cntE_3 h_val (by decide) (by kernel_rfl)
end Go.Sl
end
