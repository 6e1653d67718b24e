/-
  Patches of blocks, as plain data.
-/
import Derived.Test.YtpccfdnmnnnboaaGreatQOm
import Derived.Test.YtpccfdnmnnnboaaGreatQWOrV
section
namespace Go.Sl

abbrev T3 := UInt8 × UInt8 × UInt8
def triC (x : T3) : List Value := [.int .u8 (x.1.toNat : Int), .int .u8 (x.2.1.toNat : Int), .int .u8 (x.2.2.toNat : Int)]
def triV (l : List T3) : List Value := l.flatMap triC
theorem triV_len (l : List T3) : (triV l).length = l.length * 3 := by
 induction l with
 | nil => rfl
 | cons r l ih => rw [show triV (r :: l) = triC r ++ triV l from rfl, List.length_append, ih]; simp [triC]; omega
theorem triV_at : ∀ (l : List T3) (k : Nat), k < l.length → ((triV l).drop (k * 3)).take 3 = triC (l.getD k (0, 0, 0))
 | [], _, h => absurd h (Nat.not_lt_zero _)
 | _ :: _, 0, _ => rfl
 | _ :: l, k + 1, h => by
   rw [show (k + 1) * 3 = k * 3 + 3 from by omega]
   exact triV_at l k (by simpa using h)
theorem tri_pos {l : List T3} {k : Nat} (hk : k < l.length) : 0 < (triV l).length := by rw [triV_len]; omega
theorem triV_get {l : List T3} {i j : Nat} (hi : i < l.length) (hj : j < 3) : (triV l)[i * 3 + j]? = (triC (l.getD i (0, 0, 0)))[j]? := by
 rw [← triV_at l i hi, List.getElem?_take, if_pos hj, List.getElem?_drop]
def bkL (x : T3) : Nat := 1 + x.2.1.toNat % 4
/-- The operation of a block. -/
def bkO (n out : Nat) (x : T3) : Po :=
 if 0 < x.1.toNat % 8 then
   if 4 < x.1.toNat % 8 ∧ out < n then ⟨1, (out : Int), ((min (bkL x) (n - out) : Nat) : Int), 0⟩ else ⟨1, ((x.2.2.toNat % n : Nat) : Int), ((min (bkL x) (n - x.2.2.toNat % n) : Nat) : Int), 0⟩
 else ⟨3, 0, (bkL x : Int), x.2.2⟩
def bkS (n : Nat) (l : List T3) : Nat → List Po × Nat
 | 0 => ([], 0)
 | k + 1 => ((bkS n l k).1 ++ [bkO n (bkS n l k).2 (l.getD k (0, 0, 0))], (bkS n l k).2 + (bkO n (bkS n l k).2 (l.getD k (0, 0, 0))).ln.toNat)
theorem bkO_ln (n out : Nat) (x : T3) : 0 ≤ (bkO n out x).ln ∧ (bkO n out x).ln ≤ 4 := by
 unfold bkO bkL
 split
 · split
   · dsimp only; omega
   · dsimp only; omega
 · dsimp only; omega
theorem bkS_len (n : Nat) (l : List T3) : ∀ k, (bkS n l k).1.length = k
 | 0 => rfl
 | k + 1 => by
   rw [bkS, List.length_append, bkS_len n l k]
   rfl
theorem bkS_out (n : Nat) (l : List T3) : ∀ k, (bkS n l k).2 ≤ 4 * k
 | 0 => Nat.le_refl _
 | k + 1 => by
   have ih := bkS_out n l k
   have := bkO_ln n (bkS n l k).2 (l.getD k (0, 0, 0))
   rw [bkS]
   dsimp only
   omega
end Go.Sl
end
/-
  Blocks.
-/
section
namespace Go.Proofs.YtpccfdnmnnnboaaGreat
open Go.Sl

theorem po_one (x : Po) : ∀ v ∈ Po.cells x, v.oneCell' = true := by
 intro v hv
 simp only [Po.cells, List.mem_cons, List.not_mem_nil, or_false] at hv
 rcases hv with rfl | rfl | rfl | rfl | rfl <;> rfl
set_option maxHeartbeats 1000000 in
theorem blocks_c (LA : Option Addr) (l : List T3) (lc : Nat) (s : UInt8) (hl : l.length ≤ 9223372036854775807) :
   Ctr X 40 [.slice LA l.length lc, .int .u8 (s.toNat : Int)] [Rd LA (triV l)] [] (fun v R' H' => ∃ (OA : Option Addr) (oc : Nat), v = .agg (List.toArray [.bool false, .int .i64 ((1 + s.toNat % 24) : Nat), .int .i64 ((bkS (1 + s.toNat % 24) l (min l.length 8)).2 : Nat), .slice OA (bkS (1 + s.toNat % 24) l (min l.length 8)).1.length oc]) ∧ R' = [Rd OA (opsV (bkS (1 + s.toNat % 24) l (min l.length 8)).1)] ∧ H' = []) := by
 refine Ctr.of (X := X) (fn := Tryz.f40) Tryz.func40 rfl (by kernel_rfl) rfl ?_
 intro β
 refine C.seq (C.region ?_)
 refine L.alloc rfl rfl rfl (fun A4 => ?_)
 refine L.nil (QE.seq (C.seq (C.region ?_))); refine Lpu rfl rfl ?_
 first | refine L.step (Ev.byteInt rfl rfl rfl rfl) rfl ?_ | refine L.step (Ev.toInt rfl rfl rfl rfl (by omega) (by omega)) rfl ?_
 refine L.step (Ev.cast (u := .int .i64 (((s.toNat % 24) : Nat) : Int)) (Ev.rem rfl rfl (by omega) (by decide)) (congrArg (Value.int .i64) (by rw [Int.natCast_emod]; rfl))) rfl ?_; refine L.step (Ev.cast (u := .int .i64 (((1 + s.toNat % 24) : Nat) : Int)) (Ev.add rfl rfl (by omega) (by omega)) (congrArg (Value.int .i64) (by omega))) rfl ?_; refine Lpu rfl rfl ?_; refine L.nil (QE.seq (C.seq (C.region ?_))); refine Lpu rfl rfl ?_; refine L.step (Ev.build rfl rfl rfl rfl rfl rfl rfl) rfl ?_
 refine L.alloc rfl rfl rfl (fun A6 => ?_)
 refine L.storeA (j := 1) rfl rfl rfl rfl rfl (Nat.zero_lt_succ _) rfl rfl ?_; refine L.nil (QE.seq (C.seq (C.seq (C.region ?_)))); refine Lpu rfl rfl ?_; refine L.nil (QE.seq (C.block ?_)); refine C.nil_own 123 5 ?_; refine C.loop (fun q : Nat × Option Addr × Nat => [(0, .slice LA l.length lc), (4, ptrOf A4 0), (5, .int .i64 ((1 + s.toNat % 24) : Nat)), (6, ptrOf A6 0), (7, .int .i64 (q.1 : Int))]) (fun q : Nat × Option Addr × Nat => [Rd LA (triV l)]) (fun q : Nat × Option Addr × Nat => [Own 30 4 A4 1 1 [.bool false, .int .i64 0, .int .i64 0, .slice none 0 0], Own 30 4 A6 1 1 [.bool false, .int .i64 ((1 + s.toNat % 24) : Nat), .int .i64 ((bkS (1 + s.toNat % 24) l q.1).2 : Nat), .slice q.2.1 (bkS (1 + s.toNat % 24) l q.1).1.length q.2.2], Own 123 5 q.2.1 (bkS (1 + s.toNat % 24) l q.1).1.length q.2.2 (opsV (bkS (1 + s.toNat % 24) l q.1).1)]) (fun q : Nat × Option Addr × Nat => q.1 ≤ min l.length 8) (fun q : Nat × Option Addr × Nat => min l.length 8 - q.1) (0, none, 0) (Nat.zero_le _) (by exact Le.mk' (rs := [0]) (hs := [0, 1, 2]) ⟨rfl, rfl, rfl, rfl, rfl, trivial⟩ ⟨rfl, trivial⟩ ⟨rfl, rfl, rfl, trivial⟩ (by decide)) ?_
 rintro ⟨i, A, c⟩ hi
 dsimp only at hi ⊢
 refine C.seq (C.seq (C.region ?_)); refine Lpu rfl rfl ?_; refine Lpu rfl rfl ?_; refine Lpu rfl rfl ?_; refine Lpu rfl rfl ?_; refine Lpu rfl rfl ?_
 refine L.bool 21 rfl (fun hg21 => ?_) (fun hg21 => ?_)
 ·
  replace hg21 := of_decide_eq_true hg21
  refine L.yes rfl ?_; refine Lpu rfl rfl ?_; refine L.yes rfl ?_; refine Lpu rfl rfl ?_; refine Lpu rfl rfl ?_; refine L.nil (QE.seq ?_)
  refine C.condB 24 rfl (fun hc24 => ?_) (fun hc24 => ?_)
  ·
   replace hc24 := of_decide_eq_true hc24
   refine C.skip (QE.seq (C.seq (C.block (C.seq ?_))))
   have hmod : ((l.getD i (0, 0, 0)).2.2.toNat % (1 + s.toNat % 24)) < (1 + s.toNat % 24) := Nat.mod_lt _ (by omega)
   have hlen := bkS_len (1 + s.toNat % 24) l i
   have hout := bkS_out (1 + s.toNat % 24) l i
   have hln := bkO_ln (1 + s.toNat % 24) (bkS (1 + s.toNat % 24) l i).2 (l.getD i (0, 0, 0))
   have hL : bkL (l.getD i (0, 0, 0)) ≤ 4 := by unfold bkL; omega
   refine C.region ?_; refine Lpu rfl rfl ?_; refine Lpu rfl rfl ?_; refine L.step (Ev.idx (k := i) (m := i * 3) rfl rfl rfl rfl rfl rfl (by omega) (Src.r 0 rfl) (tri_pos (k := i) (by omega)) rfl) rfl ?_; refine L.step (Ev.idxArr (k := 1) (m := i * 3 + 1) rfl rfl rfl rfl rfl rfl (by decide) (Src.r 0 rfl) (tri_pos (k := i) (by omega)) rfl) rfl ?_; refine L.step (Ev.load rfl rfl rfl (Src.r 0 rfl) ((triV_get (i := i) (j := 1) (by omega) (by decide)).trans rfl)) rfl ?_
   first | refine L.step (Ev.byteInt rfl rfl rfl rfl) rfl ?_ | refine L.step (Ev.toInt rfl rfl rfl rfl (by omega) (by omega)) rfl ?_
   refine L.step (Ev.cast (u := .int .i64 ((((l.getD i (0, 0, 0)).2.1.toNat % 4) : Nat) : Int)) (Ev.rem rfl rfl (by omega) (by decide)) (congrArg (Value.int .i64) (by rw [Int.natCast_emod]; rfl))) rfl ?_; refine L.step (Ev.cast (u := .int .i64 (((bkL (l.getD i (0, 0, 0))) : Nat) : Int)) (Ev.add rfl rfl (by omega) (by omega)) (congrArg (Value.int .i64) (by unfold bkL; omega))) rfl ?_; refine Lpu rfl rfl ?_; refine L.nil (QE.seq (C.seq (C.region ?_))); refine Lpu rfl rfl ?_; refine Lpu rfl rfl ?_; refine Lpu rfl rfl ?_; refine L.step (Ev.idx (k := i) (m := i * 3) rfl rfl rfl rfl rfl rfl (by omega) (Src.r 0 rfl) (tri_pos (k := i) (by omega)) rfl) rfl ?_; refine L.step (Ev.idxArr (k := 2) (m := i * 3 + 2) rfl rfl rfl rfl rfl rfl (by decide) (Src.r 0 rfl) (tri_pos (k := i) (by omega)) rfl) rfl ?_; refine L.step (Ev.load rfl rfl rfl (Src.r 0 rfl) ((triV_get (i := i) (j := 2) (by omega) (by decide)).trans rfl)) rfl ?_; refine L.step (Ev.build rfl rfl rfl rfl rfl rfl rfl) rfl ?_
   refine L.alloc rfl rfl rfl (fun A9 => ?_)
   refine L.storeA (j := 3) rfl rfl rfl rfl rfl (Nat.zero_lt_succ _) rfl rfl ?_; refine L.nil (QE.seq (C.seq (C.seq (C.region ?_)))); refine Lpu rfl rfl ?_; refine Lpu rfl rfl ?_; refine L.step (Ev.idx (k := i) (m := i * 3) rfl rfl rfl rfl rfl rfl (by omega) (Src.r 0 rfl) (tri_pos (k := i) (by omega)) rfl) rfl ?_; refine L.step (Ev.idxArr (k := 0) (m := i * 3 + 0) rfl rfl rfl rfl rfl rfl (by decide) (Src.r 0 rfl) (tri_pos (k := i) (by omega)) rfl) rfl ?_; refine L.step (Ev.load rfl rfl rfl (Src.r 0 rfl) ((triV_get (i := i) (j := 0) (by omega) (by decide)).trans rfl)) rfl ?_; refine L.step (Ev.cast (u := .int .u8 ((((l.getD i (0, 0, 0)).1.toNat % 8) : Nat) : Int)) (Ev.rem rfl rfl (by omega) (by decide)) (congrArg (Value.int .u8) (by rw [Int.natCast_emod]; rfl))) rfl ?_; refine Lpu rfl rfl ?_; refine L.nil (QE.seq ?_)
   refine C.condB 48 rfl (fun hc48 => ?_) (fun hc48 => ?_)
   ·
    replace hc48 := of_decide_eq_true hc48
    refine C.seq (C.region ?_); refine Lpu rfl rfl ?_; refine Lpu rfl rfl ?_; refine L.step (Ev.idx (k := i) (m := i * 3) rfl rfl rfl rfl rfl rfl (by omega) (Src.r 0 rfl) (tri_pos (k := i) (by omega)) rfl) rfl ?_; refine L.step (Ev.idxArr (k := 2) (m := i * 3 + 2) rfl rfl rfl rfl rfl rfl (by decide) (Src.r 0 rfl) (tri_pos (k := i) (by omega)) rfl) rfl ?_; refine L.step (Ev.load rfl rfl rfl (Src.r 0 rfl) ((triV_get (i := i) (j := 2) (by omega) (by decide)).trans rfl)) rfl ?_
    first | refine L.step (Ev.byteInt rfl rfl rfl rfl) rfl ?_ | refine L.step (Ev.toInt rfl rfl rfl rfl (by omega) (by omega)) rfl ?_
    refine Lpu rfl rfl ?_; refine L.step (Ev.cast (u := .int .i64 ((((l.getD i (0, 0, 0)).2.2.toNat % (1 + s.toNat % 24)) : Nat) : Int)) (Ev.rem rfl rfl (by omega) (by omega)) (congrArg (Value.int .i64) (Int.natCast_emod _ _).symm)) rfl ?_; refine Lpu rfl rfl ?_; refine L.nil (QE.seq (C.seq (C.region ?_))); refine Lpu rfl rfl ?_; refine Lpu rfl rfl ?_; refine Lpu rfl rfl ?_; refine Lpu rfl rfl ?_; refine L.step (Ev.cast (u := .int .i64 ((((1 + s.toNat % 24) - ((l.getD i (0, 0, 0)).2.2.toNat % (1 + s.toNat % 24))) : Nat) : Int)) (Ev.sub rfl rfl (by omega) (by omega)) (congrArg (Value.int .i64) (by omega))) rfl ?_; refine L.step (Ev.cast (u := .int .i64 (((min (bkL (l.getD i (0, 0, 0))) ((1 + s.toNat % 24) - ((l.getD i (0, 0, 0)).2.2.toNat % (1 + s.toNat % 24)))) : Nat) : Int)) (Ev.pure rfl) (congrArg (Value.int .i64) (by simp only [Bool.false_eq_true, if_false]; split <;> omega))) rfl ?_; refine L.step (Ev.build rfl rfl rfl rfl rfl rfl rfl) rfl ?_; refine L.storeA (j := 3) rfl rfl rfl rfl rfl (Nat.zero_lt_succ _) rfl rfl ?_; refine L.nil (QE.seq (C.seq (C.region ?_))); refine Lpu rfl rfl ?_; refine Lpu rfl rfl ?_; refine L.step (Ev.idx (k := i) (m := i * 3) rfl rfl rfl rfl rfl rfl (by omega) (Src.r 0 rfl) (tri_pos (k := i) (by omega)) rfl) rfl ?_; refine L.step (Ev.idxArr (k := 0) (m := i * 3 + 0) rfl rfl rfl rfl rfl rfl (by decide) (Src.r 0 rfl) (tri_pos (k := i) (by omega)) rfl) rfl ?_; refine L.step (Ev.load rfl rfl rfl (Src.r 0 rfl) ((triV_get (i := i) (j := 0) (by omega) (by decide)).trans rfl)) rfl ?_; refine L.step (Ev.cast (u := .int .u8 ((((l.getD i (0, 0, 0)).1.toNat % 8) : Nat) : Int)) (Ev.rem rfl rfl (by omega) (by decide)) (congrArg (Value.int .u8) (by rw [Int.natCast_emod]; rfl))) rfl ?_; refine Lpu rfl rfl ?_; refine Lpu rfl rfl ?_
    refine L.bool 71 rfl (fun hg71 => ?_) (fun hg71 => ?_)
    ·
     replace hg71 := of_decide_eq_true hg71
     refine L.yes rfl ?_; refine L.step (Ev.fieldAddr rfl rfl rfl rfl rfl rfl (Src.o 1 rfl) (Nat.zero_lt_succ _) rfl) rfl ?_; refine L.yes rfl ?_; refine L.step (Ev.load rfl rfl rfl (Src.o 1 rfl) rfl) rfl ?_; refine L.yes rfl ?_; refine Lpu rfl rfl ?_; refine L.yes rfl ?_; refine Lpu rfl rfl ?_; refine Lpu rfl rfl ?_; refine L.nil (QE.seq ?_)
     refine C.condB 76 rfl (fun hc76 => ?_) (fun hc76 => ?_)
     ·
      replace hc76 := of_decide_eq_true hc76
      have hbk : (bkO (1 + s.toNat % 24) (bkS (1 + s.toNat % 24) l i).2 (l.getD i (0, 0, 0))) = ⟨1, ((bkS (1 + s.toNat % 24) l i).2 : Int), ((min (bkL (l.getD i (0, 0, 0))) ((1 + s.toNat % 24) - (bkS (1 + s.toNat % 24) l i).2) : Nat) : Int), 0⟩ := by unfold bkO; rw [if_pos (by omega), if_pos ⟨by omega, by omega⟩]
      refine C.regionM [Rd LA (triV l), Rd A6 [.bool false, .int .i64 ((1 + s.toNat % 24) : Nat), .int .i64 ((bkS (1 + s.toNat % 24) l i).2 : Nat), .slice A (bkS (1 + s.toNat % 24) l i).1.length c]] ⟨Has.r 0 rfl, Has.o 1 rfl, trivial⟩ ?_; refine LM.q 0 rfl (by kernel_rfl) (Ev.fieldAddr rfl rfl rfl rfl rfl rfl (Src.r 1 rfl) (Nat.zero_lt_succ _) rfl) rfl ⟨Has.r 0 rfl, Has.o 1 rfl, trivial⟩ ?_; refine LM.q 1 rfl (by kernel_rfl) (Ev.load rfl rfl rfl (Src.r 1 rfl) rfl) rfl ⟨Has.r 0 rfl, Has.o 1 rfl, trivial⟩ ?_; refine LM.q 2 rfl (by kernel_rfl) (Ev.pure rfl) rfl ⟨Has.r 0 rfl, Has.o 1 rfl, trivial⟩ ?_; refine LM.q 3 rfl (by kernel_rfl) (Ev.pure rfl) rfl ⟨Has.r 0 rfl, Has.o 1 rfl, trivial⟩ ?_; refine LM.q 4 rfl (by kernel_rfl) (Ev.fieldAddr rfl rfl rfl rfl rfl rfl (Src.r 1 rfl) (Nat.zero_lt_succ _) rfl) rfl ⟨Has.r 0 rfl, Has.o 1 rfl, trivial⟩ ?_; refine LM.q 5 rfl (by kernel_rfl) (Ev.load rfl rfl rfl (Src.r 1 rfl) rfl) rfl ⟨Has.r 0 rfl, Has.o 1 rfl, trivial⟩ ?_; refine LM.q 6 rfl (by kernel_rfl) (Ev.cast (u := .int .i64 ((((1 + s.toNat % 24) - (bkS (1 + s.toNat % 24) l i).2) : Nat) : Int)) (Ev.sub rfl rfl (by omega) (by omega)) (congrArg (Value.int .i64) (by omega))) rfl ⟨Has.r 0 rfl, Has.o 1 rfl, trivial⟩ ?_; refine LM.q 7 rfl (by kernel_rfl) (Ev.cast (u := .int .i64 (((min (bkL (l.getD i (0, 0, 0))) ((1 + s.toNat % 24) - (bkS (1 + s.toNat % 24) l i).2)) : Nat) : Int)) (Ev.pure rfl) (congrArg (Value.int .i64) (by simp only [Bool.false_eq_true, if_false]; split <;> omega))) rfl ⟨Has.r 0 rfl, Has.o 1 rfl, trivial⟩ ?_; refine LM.f 8 rfl (by kernel_rfl) ⟨Has.r 0 rfl, Has.o 1 rfl, trivial⟩ ?_; refine L.step (Ev.fieldAddr rfl rfl rfl rfl rfl rfl (Src.o 3 rfl) (Nat.zero_lt_succ _) rfl) rfl ?_
      refine L.nil (QE.m (by kernel_rfl) ?_)
      refine LM.f 9 rfl (by kernel_rfl) ⟨Has.r 0 rfl, Has.o 1 rfl, trivial⟩ ?_; refine L.store (j := 3) rfl rfl rfl rfl rfl rfl rfl rfl ?_
      refine L.nil (QE.m (by kernel_rfl) ?_)
      refine LM.cut [] (by kernel_rfl) ⟨Has.r 0 rfl, Has.o 1 rfl, trivial⟩ ?_; refine LM.f 10 rfl (by kernel_rfl) trivial ?_; refine L.step (Ev.fieldAddr rfl rfl rfl rfl rfl rfl (Src.o 3 rfl) (Nat.zero_lt_succ _) rfl) rfl ?_
      refine L.nil (QE.m (by kernel_rfl) ?_)
      refine LM.f 11 rfl (by kernel_rfl) trivial ?_; refine L.store (j := 3) rfl rfl rfl rfl rfl rfl rfl rfl ?_
      refine L.nil (QE.m (by kernel_rfl) ?_)
      refine LM.nil (by kernel_rfl) trivial ?_; refine QE.seq (C.seq ?_); refine C.le (Γ' := [(0, .slice LA l.length lc), (4, ptrOf A4 0), (5, .int .i64 ((1 + s.toNat % 24) : Nat)), (6, ptrOf A6 0), (7, .int .i64 (i : Int)), (9, ptrOf A9 0)]) (R' := [Rd LA (triV l)]) (H' := [Own 30 4 A4 1 1 [.bool false, .int .i64 0, .int .i64 0, .slice none 0 0], Own 30 4 A6 1 1 [.bool false, .int .i64 ((1 + s.toNat % 24) : Nat), .int .i64 ((bkS (1 + s.toNat % 24) l i).2 : Nat), .slice A (bkS (1 + s.toNat % 24) l i).1.length c], Own 123 5 A (bkS (1 + s.toNat % 24) l i).1.length c (opsV (bkS (1 + s.toNat % 24) l i).1), Own 123 5 A9 1 1 (Po.cells (bkO (1 + s.toNat % 24) (bkS (1 + s.toNat % 24) l i).2 (l.getD i (0, 0, 0))))]) (by exact Le.mk' (rs := [0]) (hs := [0, 1, 2, 3]) ⟨rfl, rfl, rfl, rfl, rfl, rfl, trivial⟩ ⟨rfl, trivial⟩ ⟨rfl, rfl, rfl, (congrArg some (own_eq rfl (by rw [hbk]; rfl))), trivial⟩ (by decide)) ?_; refine C.region ?_; refine L.step (Ev.fieldAddr rfl rfl rfl rfl rfl rfl (Src.o 1 rfl) (Nat.zero_lt_succ _) rfl) rfl ?_; refine L.step (Ev.load rfl rfl rfl (Src.o 1 rfl) rfl) rfl ?_; refine L.step (Ev.loadA (vs := Po.cells (bkO (1 + s.toNat % 24) (bkS (1 + s.toNat % 24) l i).2 (l.getD i (0, 0, 0)))) rfl rfl rfl (Src.o 3 rfl) rfl rfl (by decide)) rfl ?_
      refine L.lit1S (cs := Po.cells (bkO (1 + s.toNat % 24) (bkS (1 + s.toNat % 24) l i).2 (l.getD i (0, 0, 0)))) rfl rfl rfl rfl (Nat.zero_lt_succ _) rfl rfl rfl (fun A90 => ?_)
      refine L.append (j := 2) rfl rfl rfl rfl (by decide) rfl rfl rfl rfl (Src.o 4 rfl) rfl (po_one _) (by omega) (by show _ * 56 ≤ _; omega) rfl (fun A91 cc91 => ?_)
      refine L.step (Ev.fieldAddr rfl rfl rfl rfl rfl rfl (Src.o 1 rfl) (Nat.zero_lt_succ _) rfl) rfl ?_; refine L.store (j := 1) rfl rfl rfl rfl rfl rfl rfl rfl ?_; refine L.nil (QE.seq (C.region ?_)); refine L.step (Ev.fieldAddr rfl rfl rfl rfl rfl rfl (Src.o 1 rfl) (Nat.zero_lt_succ _) rfl) rfl ?_; refine L.step (Ev.load rfl rfl rfl (Src.o 1 rfl) rfl) rfl ?_; refine L.step (Ev.fieldAddr rfl rfl rfl rfl rfl rfl (Src.o 3 rfl) (Nat.zero_lt_succ _) rfl) rfl ?_; refine L.step (Ev.load rfl rfl rfl (Src.o 3 rfl) rfl) rfl ?_; refine L.step (Ev.cast (u := .int .i64 ((((bkS (1 + s.toNat % 24) l i).2 + (bkO (1 + s.toNat % 24) (bkS (1 + s.toNat % 24) l i).2 (l.getD i (0, 0, 0))).ln.toNat) : Nat) : Int)) (Ev.add rfl rfl (by omega) (by omega)) (congrArg (Value.int .i64) (by omega))) rfl ?_; refine L.step (Ev.fieldAddr rfl rfl rfl rfl rfl rfl (Src.o 1 rfl) (Nat.zero_lt_succ _) rfl) rfl ?_; refine L.store (j := 1) rfl rfl rfl rfl rfl rfl rfl rfl ?_; refine L.nil ?_; refine QE.blkN ?_; refine QE.seq (C.region ?_); refine Lpu rfl rfl ?_; refine L.step (Ev.add rfl rfl (by omega) (by omega)) rfl ?_; refine Lpu rfl rfl ?_; refine L.nil ?_
      refine QE.round (i := (i, A, c)) ((i + 1, A91, cc91)) (by dsimp only; omega) (by dsimp only; omega) (by exact Le.mk' (rs := [0]) (hs := [0, 1, 2]) ⟨rfl, rfl, rfl, rfl, rfl, trivial⟩ ⟨rfl, trivial⟩ ⟨rfl, (congrArg some (own_eq rfl (by dsimp only; rw [show (bkS (1 + s.toNat % 24) l (i + 1)).1.length = (bkS (1 + s.toNat % 24) l i).1.length + 1 by rw [bkS, List.length_append]; rfl]; rfl))), (congrArg some (own_eq (by dsimp only; rw [bkS, List.length_append]; rfl) (by dsimp only; rw [bkS, opsV_app]; rfl))), trivial⟩ (by decide))
     ·
      replace hc76 := of_decide_eq_false hc76
      have hbk : (bkO (1 + s.toNat % 24) (bkS (1 + s.toNat % 24) l i).2 (l.getD i (0, 0, 0))) = ⟨1, ((((l.getD i (0, 0, 0)).2.2.toNat % (1 + s.toNat % 24)) : Nat) : Int), ((min (bkL (l.getD i (0, 0, 0))) ((1 + s.toNat % 24) - ((l.getD i (0, 0, 0)).2.2.toNat % (1 + s.toNat % 24))) : Nat) : Int), 0⟩ := by unfold bkO; rw [if_pos (by omega), if_neg (by omega)]
      refine C.skip (QE.seq (C.seq ?_)); refine C.le (Γ' := [(0, .slice LA l.length lc), (4, ptrOf A4 0), (5, .int .i64 ((1 + s.toNat % 24) : Nat)), (6, ptrOf A6 0), (7, .int .i64 (i : Int)), (9, ptrOf A9 0)]) (R' := [Rd LA (triV l)]) (H' := [Own 30 4 A4 1 1 [.bool false, .int .i64 0, .int .i64 0, .slice none 0 0], Own 30 4 A6 1 1 [.bool false, .int .i64 ((1 + s.toNat % 24) : Nat), .int .i64 ((bkS (1 + s.toNat % 24) l i).2 : Nat), .slice A (bkS (1 + s.toNat % 24) l i).1.length c], Own 123 5 A (bkS (1 + s.toNat % 24) l i).1.length c (opsV (bkS (1 + s.toNat % 24) l i).1), Own 123 5 A9 1 1 (Po.cells (bkO (1 + s.toNat % 24) (bkS (1 + s.toNat % 24) l i).2 (l.getD i (0, 0, 0))))]) (by exact Le.mk' (rs := [0]) (hs := [0, 1, 2, 3]) ⟨rfl, rfl, rfl, rfl, rfl, rfl, trivial⟩ ⟨rfl, trivial⟩ ⟨rfl, rfl, rfl, (congrArg some (own_eq rfl (by rw [hbk]; rfl))), trivial⟩ (by decide)) ?_; refine C.region ?_; refine L.step (Ev.fieldAddr rfl rfl rfl rfl rfl rfl (Src.o 1 rfl) (Nat.zero_lt_succ _) rfl) rfl ?_; refine L.step (Ev.load rfl rfl rfl (Src.o 1 rfl) rfl) rfl ?_; refine L.step (Ev.loadA (vs := Po.cells (bkO (1 + s.toNat % 24) (bkS (1 + s.toNat % 24) l i).2 (l.getD i (0, 0, 0)))) rfl rfl rfl (Src.o 3 rfl) rfl rfl (by decide)) rfl ?_
      refine L.lit1S (cs := Po.cells (bkO (1 + s.toNat % 24) (bkS (1 + s.toNat % 24) l i).2 (l.getD i (0, 0, 0)))) rfl rfl rfl rfl (Nat.zero_lt_succ _) rfl rfl rfl (fun A90 => ?_)
      refine L.append (j := 2) rfl rfl rfl rfl (by decide) rfl rfl rfl rfl (Src.o 4 rfl) rfl (po_one _) (by omega) (by show _ * 56 ≤ _; omega) rfl (fun A91 cc91 => ?_)
      refine L.step (Ev.fieldAddr rfl rfl rfl rfl rfl rfl (Src.o 1 rfl) (Nat.zero_lt_succ _) rfl) rfl ?_; refine L.store (j := 1) rfl rfl rfl rfl rfl rfl rfl rfl ?_; refine L.nil (QE.seq (C.region ?_)); refine L.step (Ev.fieldAddr rfl rfl rfl rfl rfl rfl (Src.o 1 rfl) (Nat.zero_lt_succ _) rfl) rfl ?_; refine L.step (Ev.load rfl rfl rfl (Src.o 1 rfl) rfl) rfl ?_; refine L.step (Ev.fieldAddr rfl rfl rfl rfl rfl rfl (Src.o 3 rfl) (Nat.zero_lt_succ _) rfl) rfl ?_; refine L.step (Ev.load rfl rfl rfl (Src.o 3 rfl) rfl) rfl ?_; refine L.step (Ev.cast (u := .int .i64 ((((bkS (1 + s.toNat % 24) l i).2 + (bkO (1 + s.toNat % 24) (bkS (1 + s.toNat % 24) l i).2 (l.getD i (0, 0, 0))).ln.toNat) : Nat) : Int)) (Ev.add rfl rfl (by omega) (by omega)) (congrArg (Value.int .i64) (by omega))) rfl ?_; refine L.step (Ev.fieldAddr rfl rfl rfl rfl rfl rfl (Src.o 1 rfl) (Nat.zero_lt_succ _) rfl) rfl ?_; refine L.store (j := 1) rfl rfl rfl rfl rfl rfl rfl rfl ?_; refine L.nil ?_; refine QE.blkN ?_; refine QE.seq (C.region ?_); refine Lpu rfl rfl ?_; refine L.step (Ev.add rfl rfl (by omega) (by omega)) rfl ?_; refine Lpu rfl rfl ?_; refine L.nil ?_
      refine QE.round (i := (i, A, c)) ((i + 1, A91, cc91)) (by dsimp only; omega) (by dsimp only; omega) (by exact Le.mk' (rs := [0]) (hs := [0, 1, 2]) ⟨rfl, rfl, rfl, rfl, rfl, trivial⟩ ⟨rfl, trivial⟩ ⟨rfl, (congrArg some (own_eq rfl (by dsimp only; rw [show (bkS (1 + s.toNat % 24) l (i + 1)).1.length = (bkS (1 + s.toNat % 24) l i).1.length + 1 by rw [bkS, List.length_append]; rfl]; rfl))), (congrArg some (own_eq (by dsimp only; rw [bkS, List.length_append]; rfl) (by dsimp only; rw [bkS, opsV_app]; rfl))), trivial⟩ (by decide))
    ·
     replace hg71 := of_decide_eq_false hg71
     have hbk : (bkO (1 + s.toNat % 24) (bkS (1 + s.toNat % 24) l i).2 (l.getD i (0, 0, 0))) = ⟨1, ((((l.getD i (0, 0, 0)).2.2.toNat % (1 + s.toNat % 24)) : Nat) : Int), ((min (bkL (l.getD i (0, 0, 0))) ((1 + s.toNat % 24) - ((l.getD i (0, 0, 0)).2.2.toNat % (1 + s.toNat % 24))) : Nat) : Int), 0⟩ := by unfold bkO; rw [if_pos (by omega), if_neg (by omega)]
     refine L.no rfl rfl rfl ?_; refine L.no rfl rfl rfl ?_; refine L.no rfl rfl rfl ?_; refine L.no rfl rfl rfl ?_; refine Lpu rfl rfl ?_; refine L.nil (QE.seq ?_)
     refine C.cond rfl (fun h => by cases h) (fun _ => ?_)
     refine C.skip (QE.seq (C.seq ?_)); refine C.le (Γ' := [(0, .slice LA l.length lc), (4, ptrOf A4 0), (5, .int .i64 ((1 + s.toNat % 24) : Nat)), (6, ptrOf A6 0), (7, .int .i64 (i : Int)), (9, ptrOf A9 0)]) (R' := [Rd LA (triV l)]) (H' := [Own 30 4 A4 1 1 [.bool false, .int .i64 0, .int .i64 0, .slice none 0 0], Own 30 4 A6 1 1 [.bool false, .int .i64 ((1 + s.toNat % 24) : Nat), .int .i64 ((bkS (1 + s.toNat % 24) l i).2 : Nat), .slice A (bkS (1 + s.toNat % 24) l i).1.length c], Own 123 5 A (bkS (1 + s.toNat % 24) l i).1.length c (opsV (bkS (1 + s.toNat % 24) l i).1), Own 123 5 A9 1 1 (Po.cells (bkO (1 + s.toNat % 24) (bkS (1 + s.toNat % 24) l i).2 (l.getD i (0, 0, 0))))]) (by exact Le.mk' (rs := [0]) (hs := [0, 1, 2, 3]) ⟨rfl, rfl, rfl, rfl, rfl, rfl, trivial⟩ ⟨rfl, trivial⟩ ⟨rfl, rfl, rfl, (congrArg some (own_eq rfl (by rw [hbk]; rfl))), trivial⟩ (by decide)) ?_; refine C.region ?_; refine L.step (Ev.fieldAddr rfl rfl rfl rfl rfl rfl (Src.o 1 rfl) (Nat.zero_lt_succ _) rfl) rfl ?_; refine L.step (Ev.load rfl rfl rfl (Src.o 1 rfl) rfl) rfl ?_; refine L.step (Ev.loadA (vs := Po.cells (bkO (1 + s.toNat % 24) (bkS (1 + s.toNat % 24) l i).2 (l.getD i (0, 0, 0)))) rfl rfl rfl (Src.o 3 rfl) rfl rfl (by decide)) rfl ?_
     refine L.lit1S (cs := Po.cells (bkO (1 + s.toNat % 24) (bkS (1 + s.toNat % 24) l i).2 (l.getD i (0, 0, 0)))) rfl rfl rfl rfl (Nat.zero_lt_succ _) rfl rfl rfl (fun A90 => ?_)
     refine L.append (j := 2) rfl rfl rfl rfl (by decide) rfl rfl rfl rfl (Src.o 4 rfl) rfl (po_one _) (by omega) (by show _ * 56 ≤ _; omega) rfl (fun A91 cc91 => ?_)
     refine L.step (Ev.fieldAddr rfl rfl rfl rfl rfl rfl (Src.o 1 rfl) (Nat.zero_lt_succ _) rfl) rfl ?_; refine L.store (j := 1) rfl rfl rfl rfl rfl rfl rfl rfl ?_; refine L.nil (QE.seq (C.region ?_)); refine L.step (Ev.fieldAddr rfl rfl rfl rfl rfl rfl (Src.o 1 rfl) (Nat.zero_lt_succ _) rfl) rfl ?_; refine L.step (Ev.load rfl rfl rfl (Src.o 1 rfl) rfl) rfl ?_; refine L.step (Ev.fieldAddr rfl rfl rfl rfl rfl rfl (Src.o 3 rfl) (Nat.zero_lt_succ _) rfl) rfl ?_; refine L.step (Ev.load rfl rfl rfl (Src.o 3 rfl) rfl) rfl ?_; refine L.step (Ev.cast (u := .int .i64 ((((bkS (1 + s.toNat % 24) l i).2 + (bkO (1 + s.toNat % 24) (bkS (1 + s.toNat % 24) l i).2 (l.getD i (0, 0, 0))).ln.toNat) : Nat) : Int)) (Ev.add rfl rfl (by omega) (by omega)) (congrArg (Value.int .i64) (by omega))) rfl ?_; refine L.step (Ev.fieldAddr rfl rfl rfl rfl rfl rfl (Src.o 1 rfl) (Nat.zero_lt_succ _) rfl) rfl ?_; refine L.store (j := 1) rfl rfl rfl rfl rfl rfl rfl rfl ?_; refine L.nil ?_; refine QE.blkN ?_; refine QE.seq (C.region ?_); refine Lpu rfl rfl ?_; refine L.step (Ev.add rfl rfl (by omega) (by omega)) rfl ?_; refine Lpu rfl rfl ?_; refine L.nil ?_
     refine QE.round (i := (i, A, c)) ((i + 1, A91, cc91)) (by dsimp only; omega) (by dsimp only; omega) (by exact Le.mk' (rs := [0]) (hs := [0, 1, 2]) ⟨rfl, rfl, rfl, rfl, rfl, trivial⟩ ⟨rfl, trivial⟩ ⟨rfl, (congrArg some (own_eq rfl (by dsimp only; rw [show (bkS (1 + s.toNat % 24) l (i + 1)).1.length = (bkS (1 + s.toNat % 24) l i).1.length + 1 by rw [bkS, List.length_append]; rfl]; rfl))), (congrArg some (own_eq (by dsimp only; rw [bkS, List.length_append]; rfl) (by dsimp only; rw [bkS, opsV_app]; rfl))), trivial⟩ (by decide))
   ·
    replace hc48 := of_decide_eq_false hc48
    have hbk : (bkO (1 + s.toNat % 24) (bkS (1 + s.toNat % 24) l i).2 (l.getD i (0, 0, 0))) = ⟨3, 0, (bkL (l.getD i (0, 0, 0)) : Int), (l.getD i (0, 0, 0)).2.2⟩ := by unfold bkO; rw [if_neg (by omega)]
    refine C.skip (QE.seq (C.seq ?_)); refine C.le (Γ' := [(0, .slice LA l.length lc), (4, ptrOf A4 0), (5, .int .i64 ((1 + s.toNat % 24) : Nat)), (6, ptrOf A6 0), (7, .int .i64 (i : Int)), (9, ptrOf A9 0)]) (R' := [Rd LA (triV l)]) (H' := [Own 30 4 A4 1 1 [.bool false, .int .i64 0, .int .i64 0, .slice none 0 0], Own 30 4 A6 1 1 [.bool false, .int .i64 ((1 + s.toNat % 24) : Nat), .int .i64 ((bkS (1 + s.toNat % 24) l i).2 : Nat), .slice A (bkS (1 + s.toNat % 24) l i).1.length c], Own 123 5 A (bkS (1 + s.toNat % 24) l i).1.length c (opsV (bkS (1 + s.toNat % 24) l i).1), Own 123 5 A9 1 1 (Po.cells (bkO (1 + s.toNat % 24) (bkS (1 + s.toNat % 24) l i).2 (l.getD i (0, 0, 0))))]) (by exact Le.mk' (rs := [0]) (hs := [0, 1, 2, 3]) ⟨rfl, rfl, rfl, rfl, rfl, rfl, trivial⟩ ⟨rfl, trivial⟩ ⟨rfl, rfl, rfl, (congrArg some (own_eq rfl (by rw [hbk]; rfl))), trivial⟩ (by decide)) ?_; refine C.region ?_; refine L.step (Ev.fieldAddr rfl rfl rfl rfl rfl rfl (Src.o 1 rfl) (Nat.zero_lt_succ _) rfl) rfl ?_; refine L.step (Ev.load rfl rfl rfl (Src.o 1 rfl) rfl) rfl ?_; refine L.step (Ev.loadA (vs := Po.cells (bkO (1 + s.toNat % 24) (bkS (1 + s.toNat % 24) l i).2 (l.getD i (0, 0, 0)))) rfl rfl rfl (Src.o 3 rfl) rfl rfl (by decide)) rfl ?_
    refine L.lit1S (cs := Po.cells (bkO (1 + s.toNat % 24) (bkS (1 + s.toNat % 24) l i).2 (l.getD i (0, 0, 0)))) rfl rfl rfl rfl (Nat.zero_lt_succ _) rfl rfl rfl (fun A90 => ?_)
    refine L.append (j := 2) rfl rfl rfl rfl (by decide) rfl rfl rfl rfl (Src.o 4 rfl) rfl (po_one _) (by omega) (by show _ * 56 ≤ _; omega) rfl (fun A91 cc91 => ?_)
    refine L.step (Ev.fieldAddr rfl rfl rfl rfl rfl rfl (Src.o 1 rfl) (Nat.zero_lt_succ _) rfl) rfl ?_; refine L.store (j := 1) rfl rfl rfl rfl rfl rfl rfl rfl ?_; refine L.nil (QE.seq (C.region ?_)); refine L.step (Ev.fieldAddr rfl rfl rfl rfl rfl rfl (Src.o 1 rfl) (Nat.zero_lt_succ _) rfl) rfl ?_; refine L.step (Ev.load rfl rfl rfl (Src.o 1 rfl) rfl) rfl ?_; refine L.step (Ev.fieldAddr rfl rfl rfl rfl rfl rfl (Src.o 3 rfl) (Nat.zero_lt_succ _) rfl) rfl ?_; refine L.step (Ev.load rfl rfl rfl (Src.o 3 rfl) rfl) rfl ?_; refine L.step (Ev.cast (u := .int .i64 ((((bkS (1 + s.toNat % 24) l i).2 + (bkO (1 + s.toNat % 24) (bkS (1 + s.toNat % 24) l i).2 (l.getD i (0, 0, 0))).ln.toNat) : Nat) : Int)) (Ev.add rfl rfl (by omega) (by omega)) (congrArg (Value.int .i64) (by omega))) rfl ?_; refine L.step (Ev.fieldAddr rfl rfl rfl rfl rfl rfl (Src.o 1 rfl) (Nat.zero_lt_succ _) rfl) rfl ?_; refine L.store (j := 1) rfl rfl rfl rfl rfl rfl rfl rfl ?_; refine L.nil ?_; refine QE.blkN ?_; refine QE.seq (C.region ?_); refine Lpu rfl rfl ?_; refine L.step (Ev.add rfl rfl (by omega) (by omega)) rfl ?_; refine Lpu rfl rfl ?_; refine L.nil ?_
    refine QE.round (i := (i, A, c)) ((i + 1, A91, cc91)) (by dsimp only; omega) (by dsimp only; omega) (by exact Le.mk' (rs := [0]) (hs := [0, 1, 2]) ⟨rfl, rfl, rfl, rfl, rfl, trivial⟩ ⟨rfl, trivial⟩ ⟨rfl, (congrArg some (own_eq rfl (by dsimp only; rw [show (bkS (1 + s.toNat % 24) l (i + 1)).1.length = (bkS (1 + s.toNat % 24) l i).1.length + 1 by rw [bkS, List.length_append]; rfl]; rfl))), (congrArg some (own_eq (by dsimp only; rw [bkS, List.length_append]; rfl) (by dsimp only; rw [bkS, opsV_app]; rfl))), trivial⟩ (by decide))
  ·
   replace hc24 := of_decide_eq_false hc24
   refine C.exit ?_; refine QE.tX ?_; refine QE.tX ?_; refine QE.blk ?_; refine QE.seq (C.seq (C.region ?_)); refine L.step (Ev.loadA rfl rfl rfl (Src.o 1 rfl) rfl rfl (by decide)) rfl ?_; refine L.storeA (j := 0) rfl rfl rfl rfl rfl (Nat.zero_lt_succ _) rfl rfl ?_; refine L.nil (QE.seq (C.ret ?_)); refine QE.freeze 2 rfl [0, 1] (by decide) (by decide) ?_; refine QE.norm (H' := [_, _]) [0, 1] ⟨rfl, rfl, trivial⟩ (by decide) ?_; refine QE.ret (js := [0]) (hs := []) (vs := [_]) rfl ⟨⟨_, _, 0, _, rfl, rfl, Src.o 0 rfl, .inl ⟨rfl, by decide, _, rfl, rfl, rfl⟩⟩, trivial⟩ (by decide) ?_
   obtain rfl : i = min l.length 8 := by omega
   exact ⟨A, c, rfl, rfl, rfl⟩
 ·
  replace hg21 := of_decide_eq_false hg21
  refine L.no rfl rfl rfl ?_; refine L.no rfl rfl rfl ?_; refine Lpu rfl rfl ?_; refine L.nil (QE.seq ?_)
  refine C.cond rfl (fun h => by cases h) (fun _ => ?_)
  refine C.exit ?_; refine QE.tX ?_; refine QE.tX ?_; refine QE.blk ?_; refine QE.seq (C.seq (C.region ?_)); refine L.step (Ev.loadA rfl rfl rfl (Src.o 1 rfl) rfl rfl (by decide)) rfl ?_; refine L.storeA (j := 0) rfl rfl rfl rfl rfl (Nat.zero_lt_succ _) rfl rfl ?_; refine L.nil (QE.seq (C.ret ?_)); refine QE.freeze 2 rfl [0, 1] (by decide) (by decide) ?_; refine QE.norm (H' := [_, _]) [0, 1] ⟨rfl, rfl, trivial⟩ (by decide) ?_; refine QE.ret (js := [0]) (hs := []) (vs := [_]) rfl ⟨⟨_, _, 0, _, rfl, rfl, Src.o 0 rfl, .inl ⟨rfl, by decide, _, rfl, rfl, rfl⟩⟩, trivial⟩ (by decide) ?_
  obtain rfl : i = min l.length 8 := by omega
  exact ⟨A, c, rfl, rfl, rfl⟩

end Go.Proofs.YtpccfdnmnnnboaaGreat
end
