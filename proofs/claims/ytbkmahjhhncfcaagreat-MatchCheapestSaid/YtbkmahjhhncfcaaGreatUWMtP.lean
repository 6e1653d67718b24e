/-
  The reference: op, Sized; the law MatchCheapest.
-/
import Derived.Test.YtbkmahjhhncfcaaGreatUWMtO
namespace Go.Proofs.YtbkmahjhhncfcaaGreat
open Go.Sl

set_option maxHeartbeats 1000000 in
theorem op6_c (r : List UInt8) (size : Nat) (hs : size ≤ 65536) :
   Ctr X 40 [.agg (List.toArray (u4 r)), .int .i64 (size : Int)] [] [] (fun v R' H' => ∃ x : Pq, v = .agg (List.toArray x.cells) ∧ R' = [] ∧ H' = [Own 5 1 x.A x.d.length x.c (U8 x.d)] ∧ GoodQ x (size : Int) ∧ x.ln ≤ 5) := by
 refine Ctr.of (X := X) (fn := Tryz.f40) Tryz.func40 rfl (by kernel_rfl) rfl ?_
 intro β
 have hr0 := u8_lt (r.getD 0 0)
 refine C.seq (C.region ?_)
 refine L.boxA rfl rfl (fun A2 => ?_)
 refine L.alloc rfl rfl rfl (fun A4 => ?_)
 refine L.nil (QE.seq (C.seq ?_)); refine C.freeze 0 rfl [1] (by decide) (by decide) ?_; refine C.norm (H' := [_]) [0] ⟨rfl, trivial⟩ (by decide) ?_; refine C.region ?_; refine L.step (Ev.idxArr (k := 0) (m := 0) rfl rfl rfl rfl rfl rfl (by decide) (Src.r 0 rfl) (by rw [u4_len]; decide) rfl) rfl ?_; refine L.step (Ev.load rfl rfl rfl (Src.r 0 rfl) (u4_get r (by decide))) rfl ?_
 first | refine L.step (Ev.byteInt rfl rfl rfl rfl) rfl ?_ | refine L.step (Ev.toInt rfl rfl rfl rfl (by omega) (by omega)) rfl ?_
 refine L.step (Ev.cast (u := .int .i64 ((((r.getD 0 0).toNat % 4) : Nat) : Int)) (Ev.rem rfl rfl (by omega) (by decide)) (congrArg (Value.int .i64) (by rw [Int.natCast_emod]; rfl))) rfl ?_; refine L.step (Ev.cast (u := .int .i64 (((1 + (r.getD 0 0).toNat % 4) : Nat) : Int)) (Ev.add rfl rfl (by omega) (by omega)) (congrArg (Value.int .i64) (by omega))) rfl ?_; refine L.step (Ev.idxArr (k := 2) (m := 2) rfl rfl rfl rfl rfl rfl (by decide) (Src.r 0 rfl) (by rw [u4_len]; decide) rfl) rfl ?_; refine L.step (Ev.load rfl rfl rfl (Src.r 0 rfl) (u4_get r (by decide))) rfl ?_
 first | refine L.step (Ev.byteInt rfl rfl rfl rfl) rfl ?_ | refine L.step (Ev.toInt rfl rfl rfl rfl (by omega) (by omega)) rfl ?_
 refine L.step (Ev.cast (u := .int .i64 ((((r.getD 2 0).toNat % 5) : Nat) : Int)) (Ev.rem rfl rfl (by omega) (by decide)) (congrArg (Value.int .i64) (by rw [Int.natCast_emod]; rfl))) rfl ?_; refine L.step (Ev.cast (u := .int .i64 (((1 + (r.getD 2 0).toNat % 5) : Nat) : Int)) (Ev.add rfl rfl (by omega) (by omega)) (congrArg (Value.int .i64) (by omega))) rfl ?_; refine L.step (Ev.build rfl rfl rfl rfl rfl rfl rfl) rfl ?_
 refine L.alloc rfl rfl rfl (fun A5 => ?_)
 refine L.storeA (j := 1) rfl rfl rfl rfl rfl (Nat.zero_lt_succ _) rfl rfl ?_; refine L.nil (QE.seq ?_); refine C.seqJ (fun s : Nat × Nat × Nat => [(1, .int .i64 (size : Int)), (2, ptrOf A2 0), (4, ptrOf A4 0), (5, ptrOf A5 0)]) (fun s : Nat × Nat × Nat => [Rd A2 (u4 r)]) (fun s : Nat × Nat × Nat => [Own 88 5 A4 1 1 [.int .i64 0, .int .i64 0, .int .i64 0, .int .u8 0, .slice none 0 0], Own 88 5 A5 1 1 [.int .i64 ((s.1 : Nat) : Int), .int .i64 ((s.2.1 : Nat) : Int), .int .i64 ((s.2.2 : Nat) : Int), .int .u8 0, .slice none 0 0]]) (fun s : Nat × Nat × Nat => ((s.1 = 1 ∨ s.1 = 2) ∧ s.2.1 + s.2.2 ≤ size ∨ (s.1 = 3 ∨ s.1 = 4) ∧ s.2.1 = 0) ∧ 1 ≤ s.2.2 ∧ s.2.2 ≤ 5) ?_ ?_
 ·
  refine C.seq (C.region ?_); refine L.step (Ev.fieldAddr rfl rfl rfl rfl rfl rfl (Src.o 1 rfl) (Nat.zero_lt_succ _) rfl) rfl ?_; refine L.step (Ev.load rfl rfl rfl (Src.o 1 rfl) rfl) rfl ?_; refine Lpu rfl rfl ?_; refine L.nil (QE.seq ?_)
  refine C.condB 20 rfl (fun hc20 => ?_) (fun hc20 => ?_)
  ·
   replace hc20 := of_decide_eq_true hc20
   refine C.seq (C.region ?_); refine Lpu rfl rfl ?_; refine Lpu rfl rfl ?_; refine L.nil (QE.seq ?_)
   refine C.condB 22 rfl (fun hc22 => ?_) (fun hc22 => ?_)
   ·
    replace hc22 := i_eq hc22
    refine C.region ?_; refine L.step (Ev.fieldAddr rfl rfl rfl rfl rfl rfl (Src.o 1 rfl) (Nat.zero_lt_succ _) rfl) rfl ?_; refine L.store (j := 1) rfl rfl rfl rfl rfl rfl rfl rfl ?_; refine L.nil ?_
    refine QE.join ((4, 0, (1 + (r.getD 2 0).toNat % 5))) (by exact ⟨.inr ⟨.inr rfl, rfl⟩, by dsimp only; omega, by dsimp only; omega⟩) (by exact Le.mk' (rs := [0]) (hs := [0, 1]) ⟨rfl, rfl, rfl, rfl, trivial⟩ ⟨rfl, trivial⟩ ⟨rfl, rfl, trivial⟩ (by decide))
   ·
    replace hc22 := i_ne hc22
    refine C.seq ?_
    have hfl : ((r.getD 1 0).toNat % size) < size := Nat.mod_lt _ (by omega)
    refine C.region ?_; refine L.step (Ev.idxArr (k := 1) (m := 1) rfl rfl rfl rfl rfl rfl (by decide) (Src.r 0 rfl) (by rw [u4_len]; decide) rfl) rfl ?_; refine L.step (Ev.load rfl rfl rfl (Src.r 0 rfl) (u4_get r (by decide))) rfl ?_
    first | refine L.step (Ev.byteInt rfl rfl rfl rfl) rfl ?_ | refine L.step (Ev.toInt rfl rfl rfl rfl (by omega) (by omega)) rfl ?_
    refine Lpu rfl rfl ?_; refine L.step (Ev.cast (u := .int .i64 ((((r.getD 1 0).toNat % size) : Nat) : Int)) (Ev.rem rfl rfl (by omega) (by omega)) (congrArg (Value.int .i64) (by rw [Int.natCast_emod]))) rfl ?_; refine L.step (Ev.fieldAddr rfl rfl rfl rfl rfl rfl (Src.o 1 rfl) (Nat.zero_lt_succ _) rfl) rfl ?_; refine L.store (j := 1) rfl rfl rfl rfl rfl rfl rfl rfl ?_; refine L.nil (QE.seq (C.region ?_)); refine L.step (Ev.idxArr (k := 2) (m := 2) rfl rfl rfl rfl rfl rfl (by decide) (Src.r 0 rfl) (by rw [u4_len]; decide) rfl) rfl ?_; refine L.step (Ev.load rfl rfl rfl (Src.r 0 rfl) (u4_get r (by decide))) rfl ?_
    first | refine L.step (Ev.byteInt rfl rfl rfl rfl) rfl ?_ | refine L.step (Ev.toInt rfl rfl rfl rfl (by omega) (by omega)) rfl ?_
    refine Lpu rfl rfl ?_; refine L.step (Ev.fieldAddr rfl rfl rfl rfl rfl rfl (Src.o 1 rfl) (Nat.zero_lt_succ _) rfl) rfl ?_; refine L.step (Ev.load rfl rfl rfl (Src.o 1 rfl) rfl) rfl ?_; refine L.step (Ev.cast (u := .int .i64 (((size - (r.getD 1 0).toNat % size) : Nat) : Int)) (Ev.sub rfl rfl (by omega) (by omega)) (congrArg (Value.int .i64) (by omega))) rfl ?_; refine L.step (Ev.cast (u := .int .i64 ((((r.getD 2 0).toNat % (size - (r.getD 1 0).toNat % size)) : Nat) : Int)) (Ev.rem rfl rfl (by omega) (by omega)) (congrArg (Value.int .i64) (by rw [Int.natCast_emod]))) rfl ?_; refine L.step (Ev.cast (u := .int .i64 ((((r.getD 2 0).toNat % (size - (r.getD 1 0).toNat % size) % 5) : Nat) : Int)) (Ev.rem rfl rfl (by omega) (by decide)) (congrArg (Value.int .i64) (by rw [Int.natCast_emod]; rfl))) rfl ?_; refine L.step (Ev.cast (u := .int .i64 (((1 + (r.getD 2 0).toNat % (size - (r.getD 1 0).toNat % size) % 5) : Nat) : Int)) (Ev.add rfl rfl (by omega) (by omega)) (congrArg (Value.int .i64) (by omega))) rfl ?_; refine L.step (Ev.fieldAddr rfl rfl rfl rfl rfl rfl (Src.o 1 rfl) (Nat.zero_lt_succ _) rfl) rfl ?_; refine L.store (j := 1) rfl rfl rfl rfl rfl rfl rfl rfl ?_; refine L.nil ?_
    have hml : (r.getD 2 0).toNat % (size - ((r.getD 1 0).toNat % size)) < size - ((r.getD 1 0).toNat % size) := Nat.mod_lt _ (by omega)
    have hm5 : (r.getD 2 0).toNat % (size - ((r.getD 1 0).toNat % size)) % 5 ≤ (r.getD 2 0).toNat % (size - ((r.getD 1 0).toNat % size)) := Nat.mod_le _ _
    refine QE.join (((1 + (r.getD 0 0).toNat % 4), ((r.getD 1 0).toNat % size), (1 + (r.getD 2 0).toNat % (size - (r.getD 1 0).toNat % size) % 5))) (by exact ⟨.inl ⟨by dsimp only; omega, by dsimp only; omega⟩, by dsimp only; omega, by dsimp only; omega⟩) (by exact Le.mk' (rs := [0]) (hs := [0, 1]) ⟨rfl, rfl, rfl, rfl, trivial⟩ ⟨rfl, trivial⟩ ⟨rfl, rfl, trivial⟩ (by decide))
  ·
   replace hc20 := of_decide_eq_false hc20
   refine C.skip ?_
   refine QE.join (((1 + (r.getD 0 0).toNat % 4), 0, (1 + (r.getD 2 0).toNat % 5))) (by exact ⟨.inr ⟨by dsimp only; omega, rfl⟩, by dsimp only; omega, by dsimp only; omega⟩) (by exact Le.mk' (rs := [0]) (hs := [0, 1]) ⟨rfl, rfl, rfl, rfl, trivial⟩ ⟨rfl, trivial⟩ ⟨rfl, rfl, trivial⟩ (by decide))
 ·
  rintro ⟨k, fr, ln⟩ ⟨hk, hl1, hl5⟩
  dsimp only at hk hl1 hl5 ⊢
  refine C.seqJ (fun b : UInt8 => [(1, .int .i64 (size : Int)), (2, ptrOf A2 0), (4, ptrOf A4 0), (5, ptrOf A5 0)]) (fun b : UInt8 => [Rd A2 (u4 r)]) (fun b : UInt8 => [Own 88 5 A4 1 1 [.int .i64 0, .int .i64 0, .int .i64 0, .int .u8 0, .slice none 0 0], Own 88 5 A5 1 1 [.int .i64 ((k : Nat) : Int), .int .i64 ((fr : Nat) : Int), .int .i64 ((ln : Nat) : Int), .int .u8 ((b.toNat : Nat) : Int), .slice none 0 0]]) (fun b : UInt8 => OpF k fr ln b size) ?_ ?_
  ·
   refine C.seq (C.region ?_); refine L.step (Ev.fieldAddr rfl rfl rfl rfl rfl rfl (Src.o 1 rfl) (Nat.zero_lt_succ _) rfl) rfl ?_; refine L.step (Ev.load rfl rfl rfl (Src.o 1 rfl) rfl) rfl ?_; refine Lpu rfl rfl ?_; refine L.nil (QE.seq ?_)
   refine C.condB 43 rfl (fun hc43 => ?_) (fun hc43 => ?_)
   ·
    replace hc43 := i_eq hc43
    refine C.region ?_; refine L.step (Ev.idxArr (k := 3) (m := 3) rfl rfl rfl rfl rfl rfl (by decide) (Src.r 0 rfl) (by rw [u4_len]; decide) rfl) rfl ?_; refine L.step (Ev.load rfl rfl rfl (Src.r 0 rfl) (u4_get r (by decide))) rfl ?_; refine L.step (Ev.fieldAddr rfl rfl rfl rfl rfl rfl (Src.o 1 rfl) (Nat.zero_lt_succ _) rfl) rfl ?_; refine L.store (j := 1) rfl rfl rfl rfl rfl rfl rfl rfl ?_; refine L.nil ?_
    refine QE.join ((r.getD 3 0)) (by exact ⟨hk, ⟨hl1, hl5⟩, fun h => absurd (show k = 3 by omega) h⟩) (by exact Le.mk' (rs := [0]) (hs := [0, 1]) ⟨rfl, rfl, rfl, rfl, trivial⟩ ⟨rfl, trivial⟩ ⟨rfl, rfl, trivial⟩ (by decide))
   ·
    replace hc43 := i_ne hc43
    refine C.skip ?_
    refine QE.join (0) (by exact ⟨hk, ⟨hl1, hl5⟩, fun _ => rfl⟩) (by exact Le.mk' (rs := [0]) (hs := [0, 1]) ⟨rfl, rfl, rfl, rfl, trivial⟩ ⟨rfl, trivial⟩ ⟨rfl, rfl, trivial⟩ (by decide))
  ·
   intro b hop
   refine C.seqJ (fun s : Option Addr × Nat × List UInt8 => [(1, .int .i64 (size : Int)), (2, ptrOf A2 0), (4, ptrOf A4 0), (5, ptrOf A5 0)]) (fun s : Option Addr × Nat × List UInt8 => [Rd A2 (u4 r)]) (fun s : Option Addr × Nat × List UInt8 => [Own 88 5 A4 1 1 [.int .i64 0, .int .i64 0, .int .i64 0, .int .u8 0, .slice none 0 0], Own 88 5 A5 1 1 [.int .i64 ((k : Nat) : Int), .int .i64 ((fr : Nat) : Int), .int .i64 ((ln : Nat) : Int), .int .u8 ((b.toNat : Nat) : Int), .slice s.1 s.2.2.length s.2.1], Own 5 1 s.1 s.2.2.length s.2.1 (U8 s.2.2)]) (fun s : Option Addr × Nat × List UInt8 => (k = 2 ∨ k = 4) ∧ s.2.2.length = ln ∨ ¬ (k = 2 ∨ k = 4) ∧ s.2.2.length = 0) ?_ ?_
   ·
    refine C.seq ?_; refine C.own0 5 1 ?_; refine C.region ?_; refine Lpu rfl rfl ?_; refine L.nil (QE.seq (C.block ?_)); refine C.loop (fun s : Option Addr × Nat × List UInt8 => [(1, .int .i64 (size : Int)), (2, ptrOf A2 0), (4, ptrOf A4 0), (5, ptrOf A5 0), (6, .int .i64 ((s.2.2.length : Nat) : Int))]) (fun s : Option Addr × Nat × List UInt8 => [Rd A2 (u4 r)]) (fun s : Option Addr × Nat × List UInt8 => [Own 88 5 A4 1 1 [.int .i64 0, .int .i64 0, .int .i64 0, .int .u8 0, .slice none 0 0], Own 88 5 A5 1 1 [.int .i64 ((k : Nat) : Int), .int .i64 ((fr : Nat) : Int), .int .i64 ((ln : Nat) : Int), .int .u8 ((b.toNat : Nat) : Int), .slice s.1 s.2.2.length s.2.1], Own 5 1 s.1 s.2.2.length s.2.1 (U8 s.2.2)]) (fun s : Option Addr × Nat × List UInt8 => s.2.2.length ≤ ln ∧ (0 < s.2.2.length → k = 2 ∨ k = 4)) (fun s : Option Addr × Nat × List UInt8 => ln - s.2.2.length) (none, 0, []) ⟨Nat.zero_le _, fun h => absurd h (by decide)⟩ (by exact Le.mk' (rs := [0]) (hs := [0, 1, 2]) ⟨rfl, rfl, rfl, rfl, rfl, trivial⟩ ⟨rfl, trivial⟩ ⟨rfl, rfl, rfl, trivial⟩ (by decide)) ?_
    rintro ⟨A, c, d⟩ ⟨hd, hdk⟩
    dsimp only at hd hdk ⊢
    have hl5 := hop.len.2
    refine C.seqJ (fun m : Nat => [(1, .int .i64 (size : Int)), (2, ptrOf A2 0), (4, ptrOf A4 0), (5, ptrOf A5 0), (6, .int .i64 ((d.length : Nat) : Int))]) (fun m : Nat => [Rd A2 (u4 r)]) (fun m : Nat => [Own 88 5 A4 1 1 [.int .i64 0, .int .i64 0, .int .i64 0, .int .u8 0, .slice none 0 0], Own 88 5 A5 1 1 [.int .i64 ((k : Nat) : Int), .int .i64 ((fr : Nat) : Int), .int .i64 ((ln : Nat) : Int), .int .u8 ((b.toNat : Nat) : Int), .slice A d.length c], Own 5 1 A d.length c (U8 d)]) (fun m : Nat => m = d.length ∧ (k = 2 ∨ k = 4) ∧ d.length < ln) ?_ ?_
    ·
     refine C.seq (C.region ?_); refine Lpu rfl rfl ?_; refine L.step (Ev.fieldAddr rfl rfl rfl rfl rfl rfl (Src.o 1 rfl) (Nat.zero_lt_succ _) rfl) rfl ?_; refine L.step (Ev.load rfl rfl rfl (Src.o 1 rfl) rfl) rfl ?_; refine Lpu rfl rfl ?_; refine Lpu rfl rfl ?_
     refine L.bool 51 rfl (fun hg51 => ?_) (fun hg51 => ?_)
     ·
      replace hg51 := of_decide_eq_true hg51
      refine L.yes rfl ?_; refine L.step (Ev.fieldAddr rfl rfl rfl rfl rfl rfl (Src.o 1 rfl) (Nat.zero_lt_succ _) rfl) rfl ?_; refine L.yes rfl ?_; refine L.step (Ev.load rfl rfl rfl (Src.o 1 rfl) rfl) rfl ?_; refine L.yes rfl ?_; refine Lpu rfl rfl ?_; refine L.yes rfl ?_; refine Lpu rfl rfl ?_
      refine L.bool 55 rfl (fun hg55 => ?_) (fun hg55 => ?_)
      ·
       replace hg55 := i_eq hg55
       refine L.no rfl rfl rfl ?_; refine L.no rfl rfl rfl ?_; refine L.no rfl rfl rfl ?_; refine L.yes rfl ?_; refine Lpu rfl rfl ?_; refine Lpu rfl rfl ?_; refine L.nil (QE.seq ?_)
       refine C.cond rfl (fun _ => ?_) (fun h => by cases h)
       refine C.skip ?_
       refine QE.join (d.length) (by exact ⟨rfl, by omega, by omega⟩) (by exact Le.mk' (rs := [0]) (hs := [0, 1, 2]) ⟨rfl, rfl, rfl, rfl, rfl, trivial⟩ ⟨rfl, trivial⟩ ⟨rfl, rfl, rfl, trivial⟩ (by decide))
      ·
       replace hg55 := i_ne hg55
       refine L.yes rfl ?_; refine L.step (Ev.fieldAddr rfl rfl rfl rfl rfl rfl (Src.o 1 rfl) (Nat.zero_lt_succ _) rfl) rfl ?_; refine L.yes rfl ?_; refine L.step (Ev.load rfl rfl rfl (Src.o 1 rfl) rfl) rfl ?_; refine L.yes rfl ?_; refine Lpu rfl rfl ?_; refine L.yes rfl ?_; refine Lpu rfl rfl ?_; refine Lpu rfl rfl ?_; refine L.nil (QE.seq ?_)
       refine C.condB 60 rfl (fun hc60 => ?_) (fun hc60 => ?_)
       ·
        replace hc60 := i_eq hc60
        refine C.skip ?_
        refine QE.join (d.length) (by exact ⟨rfl, by omega, by omega⟩) (by exact Le.mk' (rs := [0]) (hs := [0, 1, 2]) ⟨rfl, rfl, rfl, rfl, rfl, trivial⟩ ⟨rfl, trivial⟩ ⟨rfl, rfl, rfl, trivial⟩ (by decide))
       ·
        replace hc60 := i_ne hc60
        refine C.exit ?_; refine QE.tX ?_; refine QE.tX ?_; refine QE.blk ?_
        refine QE.join ((A, c, d)) (by exact (.inr ⟨by omega, by dsimp only; omega⟩)) (by exact Le.mk' (rs := [0]) (hs := [0, 1, 2]) ⟨rfl, rfl, rfl, rfl, trivial⟩ ⟨rfl, trivial⟩ ⟨rfl, rfl, rfl, trivial⟩ (by decide))
     ·
      replace hg51 := of_decide_eq_false hg51
      refine L.no rfl rfl rfl ?_; refine L.no rfl rfl rfl ?_; refine L.no rfl rfl rfl ?_; refine L.no rfl rfl rfl ?_; refine L.no rfl rfl rfl ?_; refine L.no rfl rfl rfl ?_; refine L.no rfl rfl rfl ?_; refine L.no rfl rfl rfl ?_; refine Lpu rfl rfl ?_; refine L.nil (QE.seq ?_)
      refine C.cond rfl (fun h => by cases h) (fun _ => ?_)
      refine C.exit ?_; refine QE.tX ?_; refine QE.tX ?_; refine QE.blk ?_
      refine QE.join ((A, c, d)) (by exact (.inl ⟨by have := hop.len.1; omega, by dsimp only; omega⟩)) (by exact Le.mk' (rs := [0]) (hs := [0, 1, 2]) ⟨rfl, rfl, rfl, rfl, trivial⟩ ⟨rfl, trivial⟩ ⟨rfl, rfl, rfl, trivial⟩ (by decide))
    ·
     rintro m ⟨-, hk2, hlt⟩
     refine C.seq (C.block (C.region ?_)); refine L.step (Ev.fieldAddr rfl rfl rfl rfl rfl rfl (Src.o 1 rfl) (Nat.zero_lt_succ _) rfl) rfl ?_; refine L.step (Ev.load rfl rfl rfl (Src.o 1 rfl) rfl) rfl ?_; refine L.step (Ev.idxArr (k := 3) (m := 3) rfl rfl rfl rfl rfl rfl (by decide) (Src.r 0 rfl) (by rw [u4_len]; decide) rfl) rfl ?_; refine L.step (Ev.load rfl rfl rfl (Src.r 0 rfl) (u4_get r (by decide))) rfl ?_; refine Lpu rfl rfl ?_; refine L.step (Ev.idxArr (k := 0) (m := 0) rfl rfl rfl rfl rfl rfl (by decide) (Src.r 0 rfl) (by rw [u4_len]; decide) rfl) rfl ?_; refine L.step (Ev.load rfl rfl rfl (Src.r 0 rfl) (u4_get r (by decide))) rfl ?_
     first | refine L.step (Ev.byteInt rfl rfl rfl rfl) rfl ?_ | refine L.step (Ev.toInt rfl rfl rfl rfl (by omega) (by omega)) rfl ?_
     refine L.step (Ev.cast (u := .int .i64 ((((r.getD 0 0).toNat / 4) : Nat) : Int)) (Ev.quo rfl rfl (by omega) (by decide) (by omega)) (congrArg (Value.int .i64) (by rw [Int.natCast_ediv]; rfl))) rfl ?_; refine L.step (Ev.cast (u := .int .i64 (((d.length + (r.getD 0 0).toNat / 4) : Nat) : Int)) (Ev.add rfl rfl (by omega) (by omega)) (congrArg (Value.int .i64) (by omega))) rfl ?_; refine L.step (Ev.toByteN rfl rfl rfl rfl) rfl ?_; refine L.step (Ev.mul8 rfl rfl) rfl ?_
     refine L.lit rfl rfl rfl rfl rfl (by rfl) (by rfl) (by rfl) rfl rfl (fun A75 => ?_)
     refine L.append (j := 2) rfl rfl rfl rfl (by decide) rfl rfl rfl rfl (Src.o 3 rfl) rfl (allOne rfl) (by omega) (by show _ * 1 ≤ _; omega) rfl (fun A76 cc76 => ?_)
     refine L.step (Ev.fieldAddr rfl rfl rfl rfl rfl rfl (Src.o 1 rfl) (Nat.zero_lt_succ _) rfl) rfl ?_; refine L.store (j := 1) rfl rfl rfl rfl rfl rfl rfl rfl ?_; refine L.nil ?_; refine QE.blkN ?_; refine QE.seq (C.region ?_); refine Lpu rfl rfl ?_; refine L.step (Ev.add rfl rfl (by omega) (by omega)) rfl ?_; refine Lpu rfl rfl ?_; refine L.nil ?_
     have hal : ∀ w : UInt8, (d ++ [w]).length = d.length + 1 := fun w => by rw [List.length_append]; rfl
     refine QE.round (i := (A, c, d)) ((A76, cc76, d ++ [UInt8.ofInt (((r.getD 3 0).toNat : Int) * ((UInt8.ofNat (d.length + (r.getD 0 0).toNat / 4)).toNat : Int))])) (by exact ⟨by dsimp only; rw [hal]; omega, fun _ => hk2⟩) (by dsimp only; rw [hal]; omega) (by exact Le.mk' (rs := [0]) (hs := [0, 1, 2]) ⟨rfl, rfl, rfl, rfl, (by dsimp only; rw [hal]; rfl), trivial⟩ ⟨rfl, trivial⟩ ⟨rfl, (by dsimp only; rw [hal]; rfl), (by dsimp only; rw [hal, ← U8_app]; rfl), trivial⟩ (by decide))
   ·
    rintro ⟨A, c, d⟩ hdl
    dsimp only at hdl ⊢
    refine C.seq (C.region ?_); refine L.step (Ev.loadA rfl rfl rfl (Src.o 1 rfl) rfl rfl (by decide)) rfl ?_; refine L.storeA (j := 0) rfl rfl rfl rfl rfl (Nat.zero_lt_succ _) rfl rfl ?_; refine L.nil (QE.seq (C.ret ?_))
    have hl5 := hop.len.2
    refine QE.ret (js := []) (hs := [2]) (vs := [_]) rfl ⟨⟨_, _, 0, _, rfl, rfl, Src.o 0 rfl, .inl ⟨rfl, by decide, _, rfl, rfl, rfl⟩⟩, trivial⟩ (by decide) ?_
    exact ⟨⟨(k : Int), (fr : Int), (ln : Int), b, d, A, c⟩, rfl, rfl, rfl, hop.good hdl, by show (ln : Int) ≤ 5; omega⟩

set_option maxHeartbeats 2000000 in
theorem sized_c (LA : Option Addr) (l : List (List UInt8)) (lc : Nat) (k : UInt8) (size : Nat) (hs : size ≤ 65536) (hll : l.length ≤ 9223372036854775807) :
   Ctr X 17 [.agg (List.toArray [.int .u8 (k.toNat : Int), .slice LA l.length lc]), .int .i64 (size : Int)] [Rd LA (frV l)] [] (fun v R' H' => ∃ (A : Option Addr) (c : Nat) (os : List Pq), v = .agg (List.toArray [.bool false, .int .i64 (size : Int), .int .i64 (lnsQ os), .slice A os.length c]) ∧ R' = [Rd A (pqV os), KidsR (pqH os) (B8 (pqD os))] ∧ H' = [] ∧ SzOk size os.length os ∧ os.length ≤ 6) := by
 refine Ctr.of (X := X) (fn := Tryz.f17) Tryz.func17 rfl (by kernel_rfl) rfl ?_
 intro β
 refine C.seq (C.region ?_)
 refine L.boxA rfl rfl (fun A2 => ?_)
 refine L.alloc rfl rfl rfl (fun A4 => ?_)
 refine L.nil (QE.seq (C.seq ?_)); refine C.freeze 0 rfl [1] (by decide) (by decide) ?_; refine C.norm (H' := [_]) [0] ⟨rfl, trivial⟩ (by decide) ?_; refine C.region ?_; refine Lpu rfl rfl ?_; refine L.step (Ev.build rfl rfl rfl rfl rfl rfl rfl) rfl ?_
 refine L.alloc rfl rfl rfl (fun A5 => ?_)
 refine L.storeA (j := 1) rfl rfl rfl rfl rfl (Nat.zero_lt_succ _) rfl rfl ?_; refine L.nil (QE.seq (C.seq (C.seq ?_))); refine C.own0 88 5 ?_; refine C.region ?_; refine Lpu rfl rfl ?_; refine L.nil (QE.seq (C.block ?_)); refine C.kids0 5 ?_; refine C.loop (fun s : Nat × List Pq × Option Addr × Nat => [(1, .int .i64 (size : Int)), (2, ptrOf A2 0), (4, ptrOf A4 0), (5, ptrOf A5 0), (6, .int .i64 (s.1 : Int))]) (fun s : Nat × List Pq × Option Addr × Nat => [Rd A2 [.int .u8 (k.toNat : Int), .slice LA l.length lc], Rd LA (frV l)]) (fun s : Nat × List Pq × Option Addr × Nat => [Own 35 4 A4 1 1 [.bool false, .int .i64 0, .int .i64 0, .slice none 0 0], Own 35 4 A5 1 1 [.bool false, .int .i64 (size : Int), .int .i64 (lnsQ s.2.1), .slice s.2.2.1 s.2.1.length s.2.2.2], Own 88 5 s.2.2.1 s.2.1.length s.2.2.2 (pqV s.2.1), OwnKids 5 (pqH s.2.1) (B8 (pqD s.2.1))]) (fun s : Nat × List Pq × Option Addr × Nat => s.1 ≤ min l.length 6 ∧ SzOk size s.1 s.2.1) (fun s : Nat × List Pq × Option Addr × Nat => min l.length 6 - s.1) (0, [], none, 0) ⟨Nat.zero_le _, SzOk.nil size⟩ (by exact Le.mk' (rs := [0, 1]) (hs := [0, 1, 2, 3]) ⟨rfl, rfl, rfl, rfl, rfl, trivial⟩ ⟨rfl, rfl, trivial⟩ ⟨rfl, rfl, rfl, rfl, trivial⟩ (by decide)) ?_
 rintro ⟨i, os, A, c⟩ ⟨hi, hsz⟩
 dsimp only at hi hsz ⊢
 have hol := hsz.len
 have hlns := hsz.lns
 refine C.seq (C.seq (C.region ?_)); refine Lpu rfl rfl ?_; refine L.step (Ev.fieldAddr rfl rfl rfl rfl rfl rfl (Src.r 0 rfl) (Nat.zero_lt_succ _) rfl) rfl ?_; refine L.step (Ev.load rfl rfl rfl (Src.r 0 rfl) rfl) rfl ?_; refine Lpu rfl rfl ?_; refine Lpu rfl rfl ?_; refine Lpu rfl rfl ?_
 refine L.bool 15 rfl (fun hg15 => ?_) (fun hg15 => ?_)
 ·
  replace hg15 := of_decide_eq_true hg15
  refine L.yes rfl ?_; refine Lpu rfl rfl ?_; refine L.yes rfl ?_; refine Lpu rfl rfl ?_; refine Lpu rfl rfl ?_; refine L.nil (QE.seq ?_)
  refine C.condB 18 rfl (fun hc18 => ?_) (fun hc18 => ?_)
  ·
   replace hc18 := of_decide_eq_true hc18
   refine C.skip (QE.seq (C.seq (C.block (C.seq (C.region ?_))))); refine L.step (Ev.fieldAddr rfl rfl rfl rfl rfl rfl (Src.r 0 rfl) (Nat.zero_lt_succ _) rfl) rfl ?_; refine L.step (Ev.load rfl rfl rfl (Src.r 0 rfl) rfl) rfl ?_; refine Lpu rfl rfl ?_; refine L.step (Ev.idx (k := i) (m := i * 4) rfl rfl rfl rfl rfl rfl (by omega) (Src.r 1 rfl) (by rw [frV_len]; omega) rfl) rfl ?_; refine L.step (Ev.loadA (k := i * 4) rfl rfl rfl (Src.r 1 rfl) (frV_at l i (by omega)) rfl (by decide)) rfl ?_; refine Lpu rfl rfl ?_; refine L.call (js := []) (js' := [0, 1, 2, 3]) (op6_c (l.getD i []) size hs) rfl rfl rfl (by decide) trivial rfl ?_
   rintro _ _ _ ⟨x, rfl, rfl, rfl, hxg, hx5⟩
   refine L.norm (H' := [_, _, _, _, _]) [0, 1, 2, 3, 4] ⟨rfl, rfl, rfl, rfl, rfl, trivial⟩ (by decide) ?_
   refine L.alloc rfl rfl rfl (fun A7 => ?_)
   refine L.storeA (j := 5) (k := 0) (vs := x.cells) rfl rfl rfl x.cells_one rfl (Nat.zero_lt_succ _) rfl rfl ?_; refine L.nil (QE.seq (C.seq (C.region ?_))); refine L.step (Ev.fieldAddr rfl rfl rfl rfl rfl rfl (Src.o 2 rfl) (Nat.zero_lt_succ _) rfl) rfl ?_; refine L.step (Ev.load rfl rfl rfl (Src.o 2 rfl) rfl) rfl ?_; refine L.step (Ev.loadA (vs := x.cells) rfl rfl rfl (Src.o 5 rfl) rfl rfl (by decide)) rfl ?_
   refine L.lit1S (cs := x.cells) rfl rfl rfl rfl (Nat.zero_lt_succ _) rfl rfl rfl (fun A31 => ?_)
   refine L.append (j := 3) rfl rfl rfl rfl (by decide) rfl rfl rfl rfl (Src.o 6 rfl) rfl (allOne rfl) (by omega) (by show _ * 56 ≤ _; omega) rfl (fun A32 cc32 => ?_)
   refine L.step (Ev.fieldAddr rfl rfl rfl rfl rfl rfl (Src.o 2 rfl) (Nat.zero_lt_succ _) rfl) rfl ?_
   first | refine L.store (j := 0) rfl rfl rfl rfl rfl rfl rfl rfl ?_ | refine L.store (j := 1) rfl rfl rfl rfl rfl rfl rfl rfl ?_ | refine L.store (j := 2) rfl rfl rfl rfl rfl rfl rfl rfl ?_ | refine L.store (j := 3) rfl rfl rfl rfl rfl rfl rfl rfl ?_ | refine L.store (j := 4) rfl rfl rfl rfl rfl rfl rfl rfl ?_ | refine L.store (j := 5) rfl rfl rfl rfl rfl rfl rfl rfl ?_
   refine L.nil (QE.seq ?_)
   have hx1 := hxg.1
   refine C.region ?_; refine L.step (Ev.fieldAddr rfl rfl rfl rfl rfl rfl (Src.o 2 rfl) (Nat.zero_lt_succ _) rfl) rfl ?_; refine L.step (Ev.load rfl rfl rfl (Src.o 2 rfl) rfl) rfl ?_; refine L.step (Ev.fieldAddr rfl rfl rfl rfl rfl rfl (Src.o 5 rfl) (Nat.zero_lt_succ _) rfl) rfl ?_; refine L.step (Ev.load rfl rfl rfl (Src.o 5 rfl) rfl) rfl ?_; refine L.step (Ev.add rfl rfl (by omega) (by omega)) rfl ?_; refine L.step (Ev.fieldAddr rfl rfl rfl rfl rfl rfl (Src.o 2 rfl) (Nat.zero_lt_succ _) rfl) rfl ?_
   first | refine L.store (j := 0) rfl rfl rfl rfl rfl rfl rfl rfl ?_ | refine L.store (j := 1) rfl rfl rfl rfl rfl rfl rfl rfl ?_ | refine L.store (j := 2) rfl rfl rfl rfl rfl rfl rfl rfl ?_ | refine L.store (j := 3) rfl rfl rfl rfl rfl rfl rfl rfl ?_ | refine L.store (j := 4) rfl rfl rfl rfl rfl rfl rfl rfl ?_ | refine L.store (j := 5) rfl rfl rfl rfl rfl rfl rfl rfl ?_
   refine L.nil ?_; refine QE.blkN ?_; refine QE.seq (C.region ?_); refine Lpu rfl rfl ?_; refine L.step (Ev.add rfl rfl (by omega) (by omega)) rfl ?_; refine Lpu rfl rfl ?_; refine L.nil ?_; refine QE.absorb 4 0 rfl rfl [1, 2, 3, 5, 6] (by decide) ?_
   have hlen1 : (os ++ [x]).length = os.length + 1 := by rw [List.length_append]; rfl
   refine QE.round (i := (i, os, A, c)) ((i + 1, os ++ [x], A32, cc32)) (by exact ⟨by dsimp only; omega, hsz.snoc hxg hx5⟩) (by dsimp only; omega) (by exact Le.mk' (rs := [0, 1]) (hs := [1, 2, 3, 0]) ⟨rfl, rfl, rfl, rfl, rfl, trivial⟩ ⟨rfl, rfl, trivial⟩ ⟨rfl, (by dsimp only; rw [hlen1, lnsQ_snoc]; rfl), (by dsimp only; rw [hlen1, pqV_app]; rfl), (by dsimp only; rw [pqH_snoc, pqD_snoc]; rfl), trivial⟩ (by decide))
  ·
   replace hc18 := of_decide_eq_false hc18
   refine C.exit ?_; refine QE.tX ?_; refine QE.tX ?_; refine QE.blk ?_; refine QE.seq (C.seq (C.region ?_)); refine L.step (Ev.loadA rfl rfl rfl (Src.o 1 rfl) rfl rfl (by decide)) rfl ?_; refine L.storeA (j := 0) rfl rfl rfl rfl rfl (Nat.zero_lt_succ _) rfl rfl ?_; refine L.nil (QE.seq (C.ret ?_)); refine QE.freeze 2 rfl [0, 1, 3] (by decide) (by decide) ?_; refine QE.norm (H' := [_, _, _]) [0, 1, 2] ⟨rfl, rfl, rfl, trivial⟩ (by decide) ?_; refine QE.freezeKids 2 rfl [0, 1] (by decide) (by decide) ?_; refine QE.norm (H' := [_, _]) [0, 1] ⟨rfl, rfl, trivial⟩ (by decide) ?_; refine QE.ret (js := [1, 0]) (hs := []) (vs := [_]) rfl ⟨⟨_, _, 0, _, rfl, rfl, Src.o 0 rfl, .inl ⟨rfl, by decide, _, rfl, rfl, rfl⟩⟩, trivial⟩ (by decide) ?_
   exact ⟨A, c, os, rfl, rfl, rfl, by rw [hol]; exact hsz, by omega⟩
 ·
  replace hg15 := of_decide_eq_false hg15
  refine L.no rfl rfl rfl ?_; refine L.no rfl rfl rfl ?_; refine Lpu rfl rfl ?_; refine L.nil (QE.seq ?_)
  refine C.cond rfl (fun h => by cases h) (fun _ => ?_)
  refine C.exit ?_; refine QE.tX ?_; refine QE.tX ?_; refine QE.blk ?_; refine QE.seq (C.seq (C.region ?_)); refine L.step (Ev.loadA rfl rfl rfl (Src.o 1 rfl) rfl rfl (by decide)) rfl ?_; refine L.storeA (j := 0) rfl rfl rfl rfl rfl (Nat.zero_lt_succ _) rfl rfl ?_; refine L.nil (QE.seq (C.ret ?_)); refine QE.freeze 2 rfl [0, 1, 3] (by decide) (by decide) ?_; refine QE.norm (H' := [_, _, _]) [0, 1, 2] ⟨rfl, rfl, rfl, trivial⟩ (by decide) ?_; refine QE.freezeKids 2 rfl [0, 1] (by decide) (by decide) ?_; refine QE.norm (H' := [_, _]) [0, 1] ⟨rfl, rfl, trivial⟩ (by decide) ?_; refine QE.ret (js := [1, 0]) (hs := []) (vs := [_]) rfl ⟨⟨_, _, 0, _, rfl, rfl, Src.o 0 rfl, .inl ⟨rfl, by decide, _, rfl, rfl, rfl⟩⟩, trivial⟩ (by decide) ?_
  exact ⟨A, c, os, rfl, rfl, rfl, by rw [hol]; exact hsz, by omega⟩

set_option maxHeartbeats 1000000 in
theorem cheap07_c (QA LA : Option Addr) (ql : List UInt8) (l : List (List UInt8)) (qc lc : Nat) (k : UInt8) (hqc : ql.length ≤ qc) (hll : l.length ≤ 9223372036854775807) :
   Ctr X 4 [.agg (List.toArray [.int .u8 (k.toNat : Int), .slice LA l.length lc]), .slice QA ql.length qc] [Rd LA (frV l), Rd QA (U8 ql)] [] (fun v R' H' => v = .bool true ∧ R' = [] ∧ H' = []) := by
 refine Ctr.of (X := X) (fn := Tryz.f4) Tryz.func4 rfl (by kernel_rfl) rfl ?_
 intro β
 have hol : (ql.take 40).length ≤ 40 := by rw [List.length_take]; omega
 have hoq : (ql.take 40).length ≤ qc := by rw [List.length_take]; omega
 refine C.seq (C.region ?_)
 refine L.boxA rfl rfl (fun A2 => ?_)
 refine Lpu rfl rfl ?_; refine L.nil (QE.seq (C.seq ?_)); refine C.freeze 0 rfl [] (by decide) (by decide) ?_; refine C.region ?_; refine L.call (js := []) (js' := []) (sanity07_c) rfl rfl rfl (by decide) trivial rfl ?_
 rintro _ _ _ ⟨rfl, rfl, rfl⟩
 refine Lpu rfl rfl ?_; refine L.nil (QE.seq (C.seq (C.region ?_))); refine L.step (Ev.loadA (vs := [.int .u8 (k.toNat : Int), .slice LA l.length lc]) rfl rfl rfl (Src.r 0 rfl) rfl rfl (by decide)) rfl ?_; refine Lpu rfl rfl ?_; refine Lpu rfl rfl ?_; refine L.step (Ev.cast (u := .int .i64 (((ql.take 40).length : Nat) : Int)) (Ev.pure rfl) (congrArg (Value.int .i64) (by rw [List.length_take]; simp only [Bool.false_eq_true, if_false]; split <;> omega))) rfl ?_; refine L.callR (js := []) (js' := []) (sized_c LA l lc k (ql.take 40).length (by omega) hll) rfl rfl rfl (by decide) (Hq [1] rfl) rfl ?_
 rintro _ _ _ ⟨PA, pc, pl, rfl, rfl, rfl, hsz, hp6⟩
 have hchk := hsz.chk hp6 (show (ql.take 40).length ≤ 65536 by omega)
 have hnl := outsQ_len (old := (ql.take 40)) (l := pl) (fun x hx => (hsz.good x hx).1)
 have hlns := hsz.lns
 have hle := ref_least (old := (ql.take 40)) (l := pl) hsz.good rfl
 have hlit := ref_lit (ql.take 40) (outsQ (ql.take 40) pl)
 refine L.alloc rfl rfl rfl (fun A6 => ?_)
 refine L.storeA (j := 0) rfl rfl rfl rfl rfl (Nat.zero_lt_succ _) rfl rfl ?_; refine L.nil (QE.seq (C.seq (C.region ?_))); refine Lpu rfl rfl ?_; refine L.call (js := []) (js' := [0]) (limited_c QA ql qc 40 hqc) rfl rfl rfl (by decide) trivial rfl ?_
 rintro _ _ _ ⟨rfl, rfl, rfl⟩
 refine L.norm (H' := [_]) [0] ⟨rfl, trivial⟩ (by decide) ?_; refine Lpu rfl rfl ?_; refine L.nil (QE.seq (C.seq ?_)); refine C.more (r := Rd QA (U8 (ql.take 40))) (Has.takeU (Has.r 4 rfl) 40) ?_; refine C.region ?_; refine Lpu rfl rfl ?_; refine L.step (Ev.loadA (vs := [.bool false, .int .i64 ((ql.take 40).length : Int), .int .i64 (lnsQ pl), .slice PA pl.length pc]) rfl rfl rfl (Src.o 0 rfl) rfl rfl (by decide)) rfl ?_; refine L.call (js := []) (js' := [0]) (apply06Q_c QA (ql.take 40) qc false ((ql.take 40).length : Int) (lnsQ pl) pl PA pc (by omega) (by omega) rfl hchk rfl) rfl rfl rfl (by decide) (Hq [0, 1, 2] rfl) rfl ?_
 rintro _ _ _ ⟨YA, yc, rfl, rfl, rfl⟩
 refine L.norm (H' := [_, _]) [0, 1] ⟨rfl, rfl, trivial⟩ (by decide) ?_; refine Lpu rfl rfl ?_; refine Lpu rfl rfl ?_; refine Lpu rfl rfl ?_; refine Lpu rfl rfl ?_; refine Lpu rfl rfl ?_; refine L.nil (QE.seq (C.seq (C.seq (C.region ?_)))); refine Lpu rfl rfl ?_; refine Lpu rfl rfl ?_; refine L.nil (QE.seq ?_)
 refine C.condB 26 rfl (fun hc26 => ?_) (fun hc26 => ?_)
 ·
  replace hc26 := b_ne hc26
  exact absurd rfl hc26
 ·
  replace hc26 := b_eq hc26
  refine C.skip (QE.seq (C.seq ?_))
  refine C.capO 0 rfl (fun hyc => ?_)
  refine C.freeze 0 rfl [1] (by decide) (by decide) ?_; refine C.norm (H' := [_]) [0] ⟨rfl, trivial⟩ (by decide) ?_; refine C.region ?_; refine Lpu rfl rfl ?_; refine Lpu rfl rfl ?_; refine L.call (js := []) (js' := [0]) (costL_c QA YA (ql.take 40) (outsQ (ql.take 40) pl) qc yc (by omega) (by omega) hyc) rfl rfl rfl (by decide) (Hq [1, 0] rfl) rfl ?_
  rintro _ _ _ ⟨rfl, rfl, rfl⟩
  refine L.norm (H' := [_]) [0] ⟨rfl, trivial⟩ (by decide) ?_; refine Lpu rfl rfl ?_; refine L.nil (QE.seq (C.seq (C.region ?_))); refine Lpu rfl rfl ?_; refine Lpu rfl rfl ?_; refine L.yes rfl ?_; refine Lpu rfl rfl ?_; refine L.yes rfl ?_; refine L.step (Ev.cast (u := .bool true) (Ev.pure rfl) (congrArg Value.bool (decide_eq_true (by omega)))) rfl ?_; refine Lpu rfl rfl ?_; refine Lpu rfl rfl ?_; refine L.yes rfl ?_; refine Lpu rfl rfl ?_; refine L.yes rfl ?_; refine L.step (Ev.loadA (vs := [.bool false, .int .i64 ((ql.take 40).length : Int), .int .i64 (lnsQ pl), .slice PA pl.length pc]) rfl rfl rfl (Src.o 0 rfl) rfl rfl (by decide)) rfl ?_; refine L.yes rfl ?_; refine L.call (js := []) (js' := [0]) (costQ_c false ((ql.take 40).length : Int) (lnsQ pl) pl PA pc (by omega) hchk) rfl rfl rfl (by decide) (Hq [2] rfl) rfl ?_
  rintro _ _ _ ⟨rfl, rfl, rfl⟩
  refine L.norm (H' := [_]) [0] ⟨rfl, trivial⟩ (by decide) ?_; refine L.yes rfl ?_; refine L.step (Ev.cast (u := .bool true) (Ev.pure rfl) (congrArg Value.bool (decide_eq_true (by omega)))) rfl ?_; refine Lpu rfl rfl ?_; refine Lpu rfl rfl ?_; refine L.yes rfl ?_; refine Lpu rfl rfl ?_; refine L.yes rfl ?_; refine Lpu rfl rfl ?_; refine L.yes rfl ?_; refine Lpu rfl rfl ?_; refine L.yes rfl ?_; refine L.step (Ev.add rfl rfl (by omega) (by omega)) rfl ?_; refine L.yes rfl ?_; refine L.step (Ev.cast (u := .bool true) (Ev.pure rfl) (congrArg Value.bool (decide_eq_true (by omega)))) rfl ?_; refine Lpu rfl rfl ?_; refine Lpu rfl rfl ?_; refine L.yes rfl ?_; refine Lpu rfl rfl ?_; refine L.yes rfl ?_; refine Lpu rfl rfl ?_; refine L.yes rfl ?_; refine Lpu rfl rfl ?_; refine L.yes rfl ?_; refine Lpu rfl rfl ?_
  refine L.bool 53 rfl (fun hg53 => ?_) (fun hg53 => ?_)
  ·
   replace hg53 := of_decide_eq_true hg53
   refine L.no rfl rfl rfl ?_; refine L.no rfl rfl rfl ?_; refine L.yes rfl ?_; refine Lpu rfl rfl ?_; refine Lpu rfl rfl ?_; refine Lpu rfl rfl ?_; refine L.nil (QE.seq (C.ret ?_)); refine QE.ret (js := []) (hs := []) (vs := [_]) rfl ⟨rfl, trivial⟩ (by decide) ?_
   exact ⟨rfl, rfl, rfl⟩
  ·
   replace hg53 := of_decide_eq_false hg53
   refine L.yes rfl ?_; refine Lpu rfl rfl ?_; refine L.yes rfl ?_; refine L.step (Ev.cast (u := .bool true) (Ev.pure rfl) (congrArg Value.bool (by have := hlit.2 (by omega); rw [this]; rfl))) rfl ?_; refine L.yes rfl ?_; refine Lpu rfl rfl ?_; refine Lpu rfl rfl ?_; refine Lpu rfl rfl ?_; refine L.nil (QE.seq (C.ret ?_)); refine QE.ret (js := []) (hs := []) (vs := [_]) rfl ⟨rfl, trivial⟩ (by decide) ?_
   exact ⟨rfl, rfl, rfl⟩

end Go.Proofs.YtbkmahjhhncfcaaGreat
