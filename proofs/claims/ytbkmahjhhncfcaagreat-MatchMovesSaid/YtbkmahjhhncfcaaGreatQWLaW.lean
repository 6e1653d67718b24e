/-
  The contracts of the reference's Moved, and of Code.
-/
import Derived.Test.YtbkmahjhhncfcaaGreatQWLaQ
import Derived.Test.YtbkmahjhhncfcaaGreatQWLaK
import Derived.Test.YtbkmahjhhncfcaaGreatQWLaL
import Derived.Test.YtbkmahjhhncfcaaGreatQWLaN
namespace Go.Proofs.YtbkmahjhhncfcaaGreat
open Go.Sl

set_option maxHeartbeats 2000000 in
theorem code_c (LA : Option Addr) (l : List (List UInt8)) (lc n : Nat) (hll : l.length ≤ 9223372036854775807) (hn : n ≤ 1000) :
   Ctr X 12 [.slice LA l.length lc, .int .i64 (n : Int)] [Rd LA (frV l)] [] (fun v R' H' => ∃ (A : Option Addr) (c : Nat), v = .slice A (codB l n).length c ∧ R' = [] ∧ H' = [Own 5 1 A (codB l n).length c (U8 (codB l n))]) := by
 refine Ctr.of (X := X) (fn := Tryz.f12) Tryz.func12 rfl (by kernel_rfl) rfl ?_
 intro β
 have hz1 : (codZ l n) ≤ l.length := Nat.min_le_left _ _
 have hz2 : (codZ l n) ≤ n := Nat.min_le_right _ _
 refine C.seq (C.region ?_); refine Lpu rfl rfl ?_; refine L.nil (QE.seq (C.seq (C.region ?_)))
 refine L.lit0S rfl rfl rfl rfl (fun A13 => ?_)
 refine Lpu rfl rfl ?_; refine Lpu rfl rfl ?_; refine Lpu rfl rfl ?_; refine L.step (Ev.cast (u := .int .i64 (((codZ l n) : Nat) : Int)) (Ev.pure rfl) (congrArg (Value.int .i64) (by show (if _ < _ then _ else _) = _; unfold codZ; split <;> omega))) rfl ?_; refine Lpu rfl rfl ?_; refine Lpu rfl rfl ?_; refine L.nil (QE.seq (C.seq (C.seq (C.region ?_)))); refine Lpu rfl rfl ?_; refine L.nil (QE.seq (C.block ?_)); refine C.loop (fun q : Nat × Option Addr × Nat => [(0, .slice LA l.length lc), (6, .int .i64 ((codZ l n) : Int)), (5, .slice q.2.1 (codN l (codZ l n) q.1).length q.2.2), (7, .int .i64 (q.1 : Int))]) (fun q : Nat × Option Addr × Nat => [Rd LA (frV l)]) (fun q : Nat × Option Addr × Nat => [Own 73 1 q.2.1 (codN l (codZ l n) q.1).length q.2.2 (N32 (codN l (codZ l n) q.1))]) (fun q : Nat × Option Addr × Nat => q.1 ≤ (codZ l n)) (fun q : Nat × Option Addr × Nat => (codZ l n) - q.1) (0, A13, 0) (Nat.zero_le _) (by exact Le.mk' (rs := [0]) (hs := [0]) ⟨rfl, rfl, rfl, rfl, trivial⟩ ⟨rfl, trivial⟩ ⟨rfl, trivial⟩ (by decide)) ?_
 rintro ⟨i, A2, c2⟩ hi
 dsimp only at hi ⊢
 refine C.seq (C.seq (C.region ?_)); refine Lpu rfl rfl ?_; refine Lpu rfl rfl ?_; refine Lpu rfl rfl ?_; refine L.nil (QE.seq ?_)
 refine C.condB 20 rfl (fun hc20 => ?_) (fun hc20 => ?_)
 ·
  replace hc20 := of_decide_eq_true hc20
  have hcl := codN_len l (codZ l n) i
  have hx0 := UInt8.toNat_lt ((l.getD i []).getD 0 0)
  have hx1 := UInt8.toNat_lt ((l.getD i []).getD 1 0)
  have hx2 := UInt8.toNat_lt ((l.getD i []).getD 2 0)
  have hco : (cdO (l.getD i [])) = ((l.getD i []).getD 0 0).toNat % 16 := rfl
  have hmod : ((l.getD i []).getD 2 0).toNat % ((codZ l n) + 2) < (codZ l n) + 2 := Nat.mod_lt _ (by omega)
  have hca : (cdA (l.getD i [])) < 256 := by unfold cdA; split <;> omega
  refine C.skip (QE.seq (C.seq (C.block (C.seq (C.region ?_))))); refine Lpu rfl rfl ?_; refine Lpu rfl rfl ?_; refine L.step (Ev.idx (k := i) (m := i * 4) rfl rfl rfl rfl rfl rfl (by omega) (Src.r 0 rfl) (by rw [frV_len]; omega) rfl) rfl ?_; refine L.step (Ev.loadA (k := i * 4) rfl rfl rfl (Src.r 0 rfl) (frV_at l i (by omega)) rfl (by decide)) rfl ?_; refine L.call (js := []) (js' := [0]) (made2_c (r4 (l.getD i [])) rfl) rfl rfl rfl (by decide) trivial rfl ?_
  rintro _ _ _ ⟨rfl, rfl, rfl⟩
  refine L.norm (H' := [_]) [0] ⟨rfl, trivial⟩ (by decide) ?_; refine Lpu rfl rfl ?_; refine L.nil (QE.seq (C.seq (C.region ?_))); refine Lpu rfl rfl ?_; refine Lpu rfl rfl ?_; refine L.step (Ev.idx (k := i) (m := i * 4) rfl rfl rfl rfl rfl rfl (by omega) (Src.r 0 rfl) (by rw [frV_len]; omega) rfl) rfl ?_; refine L.step (Ev.idxArr (k := 0) (m := i * 4 + 0) (b := i * 4) rfl rfl rfl rfl rfl rfl (by decide) (Src.r 0 rfl) (by rw [frV_len]; omega) rfl) rfl ?_; refine L.step (Ev.load rfl rfl rfl (Src.r 0 rfl) (frV_get l (k := i) (q := 0) (by omega) (by decide))) rfl ?_; refine L.step (Ev.toInt rfl rfl rfl rfl (by have := UInt8.toNat_lt ((l.getD i []).getD 0 0); omega) (by have := UInt8.toNat_lt ((l.getD i []).getD 0 0); omega)) rfl ?_; refine L.step (Ev.cast (u := .int .i64 (((cdO (l.getD i [])) : Nat) : Int)) (Ev.rem rfl rfl (by omega) (by decide)) (congrArg (Value.int .i64) (by show _ = ((_ % 16 : Nat) : Int); omega))) rfl ?_; refine Lpu rfl rfl ?_; refine L.nil (QE.seq ?_); refine C.seqJ (fun w : Nat => [(0, .slice LA l.length lc), (6, .int .i64 ((codZ l n) : Int)), (7, .int .i64 (i : Int)), (5, .slice A2 (codN l (codZ l n) i).length c2), (8, .int .u32 (w : Int))]) (fun w : Nat => [Rd LA (frV l)]) (fun w : Nat => [Own 73 1 A2 (codN l (codZ l n) i).length c2 (N32 (codN l (codZ l n) i))]) (fun w : Nat => w = codW (codZ l n) i (l.getD i [])) ?_ ?_
  ·
   refine C.seq (C.region ?_); refine Lpu rfl rfl ?_; refine Lpu rfl rfl ?_; refine Lpu rfl rfl ?_
   refine L.bool 37 rfl (fun hg37 => ?_) (fun hg37 => ?_)
   ·
    replace hg37 := of_decide_eq_true hg37
    refine L.yes rfl ?_; refine Lpu rfl rfl ?_; refine L.yes rfl ?_; refine Lpu rfl rfl ?_; refine Lpu rfl rfl ?_; refine L.nil (QE.seq ?_)
    refine C.condB 40 rfl (fun hc40 => ?_) (fun hc40 => ?_)
    ·
     replace hc40 := of_decide_eq_true hc40
     refine C.seq (C.region ?_); refine Lpu rfl rfl ?_; refine Lpu rfl rfl ?_; refine Lpu rfl rfl ?_; refine L.step (Ev.idx (k := i) (m := i * 4) rfl rfl rfl rfl rfl rfl (by omega) (Src.r 0 rfl) (by rw [frV_len]; omega) rfl) rfl ?_; refine L.step (Ev.idxArr (k := 2) (m := i * 4 + 2) (b := i * 4) rfl rfl rfl rfl rfl rfl (by decide) (Src.r 0 rfl) (by rw [frV_len]; omega) rfl) rfl ?_; refine L.step (Ev.load rfl rfl rfl (Src.r 0 rfl) (frV_get l (k := i) (q := 2) (by omega) (by decide))) rfl ?_; refine L.step (Ev.toInt rfl rfl rfl rfl (by have := UInt8.toNat_lt ((l.getD i []).getD 2 0); omega) (by have := UInt8.toNat_lt ((l.getD i []).getD 2 0); omega)) rfl ?_; refine Lpu rfl rfl ?_; refine L.step (Ev.cast (u := .int .i64 (((codZ l n) + 2 : Nat) : Int)) (Ev.add rfl rfl (by omega) (by omega)) (congrArg (Value.int .i64) (by omega))) rfl ?_; refine L.step (Ev.cast (u := .int .i64 ((((l.getD i []).getD 2 0).toNat % ((codZ l n) + 2) : Nat) : Int)) (Ev.rem rfl rfl (by omega) (by omega)) (congrArg (Value.int .i64) (by omega))) rfl ?_; refine L.step (Ev.sub rfl rfl (by omega) (by omega)) rfl ?_; refine L.step (Ev.cast (u := .int .i64 (cdN (l.getD i []) (codZ l n))) (Ev.mul rfl rfl (by omega) (by omega)) rfl) rfl ?_; refine L.step (Ev.build rfl rfl rfl rfl rfl rfl rfl) rfl ?_
     refine L.alloc rfl rfl rfl (fun A10 => ?_)
     refine L.storeA (j := 1) rfl rfl rfl rfl rfl (Nat.zero_lt_succ _) rfl rfl ?_; refine L.nil (QE.seq ?_); refine C.seqJ (fun u : Unit => [(0, .slice LA l.length lc), (6, .int .i64 ((codZ l n) : Int)), (7, .int .i64 (i : Int)), (5, .slice A2 (codN l (codZ l n) i).length c2), (8, .int .u32 ((madeW (l.getD i []) : Nat) : Int)), (10, ptrOf A10 0)]) (fun u : Unit => [Rd LA (frV l)]) (fun u : Unit => [Own 73 1 A2 (codN l (codZ l n) i).length c2 (N32 (codN l (codZ l n) i)), Own 78 5 A10 1 1 [.int .i64 ((cdO (l.getD i [])) : Int), .int .i64 ((cdA (l.getD i [])) : Int), .int .i64 0, .int .i64 0, .int .i64 (cdN (l.getD i []) (codZ l n))]]) (fun u : Unit => True) ?_ ?_
     ·
      refine C.seq (C.region ?_); refine Lpu rfl rfl ?_; refine Lpu rfl rfl ?_; refine Lpu rfl rfl ?_
      refine L.bool 56 rfl (fun hg56 => ?_) (fun hg56 => ?_)
      ·
       replace hg56 := i_eq hg56
       refine L.no rfl rfl rfl ?_; refine L.no rfl rfl rfl ?_; refine Lpu rfl rfl ?_; refine L.nil (QE.seq ?_)
       refine C.cond rfl (fun _ => ?_) (fun h => by cases h)
       refine C.region ?_; refine Lpu rfl rfl ?_; refine Lpu rfl rfl ?_; refine L.step (Ev.idx (k := i) (m := i * 4) rfl rfl rfl rfl rfl rfl (by omega) (Src.r 0 rfl) (by rw [frV_len]; omega) rfl) rfl ?_; refine L.step (Ev.idxArr (k := 1) (m := i * 4 + 1) (b := i * 4) rfl rfl rfl rfl rfl rfl (by decide) (Src.r 0 rfl) (by rw [frV_len]; omega) rfl) rfl ?_; refine L.step (Ev.load rfl rfl rfl (Src.r 0 rfl) (frV_get l (k := i) (q := 1) (by omega) (by decide))) rfl ?_; refine L.step (Ev.toInt rfl rfl rfl rfl (by have := UInt8.toNat_lt ((l.getD i []).getD 1 0); omega) (by have := UInt8.toNat_lt ((l.getD i []).getD 1 0); omega)) rfl ?_; refine L.step (Ev.cast (u := .int .i64 ((((l.getD i []).getD 1 0).toNat % 16 : Nat) : Int)) (Ev.rem rfl rfl (by omega) (by decide)) (congrArg (Value.int .i64) (by omega))) rfl ?_; refine L.step (Ev.fieldAddr rfl rfl rfl rfl rfl rfl (Src.o 1 rfl) (Nat.zero_lt_succ _) rfl) rfl ?_
       first | refine L.store (j := 0) rfl rfl rfl rfl rfl rfl rfl rfl ?_ | refine L.store (j := 1) rfl rfl rfl rfl rfl rfl rfl rfl ?_ | refine L.store (j := 2) rfl rfl rfl rfl rfl rfl rfl rfl ?_ | refine L.store (j := 3) rfl rfl rfl rfl rfl rfl rfl rfl ?_ | refine L.store (j := 4) rfl rfl rfl rfl rfl rfl rfl rfl ?_ | refine L.store (j := 5) rfl rfl rfl rfl rfl rfl rfl rfl ?_
       refine L.nil ?_
       refine QE.join (()) (by exact trivial) (by exact Le.mk' (rs := [0]) (hs := [0, 1]) ⟨rfl, rfl, rfl, rfl, rfl, rfl, trivial⟩ ⟨rfl, trivial⟩ ⟨rfl, (congrArg some (own_eq2 rfl (by rw [show (cdA (l.getD i [])) = ((l.getD i []).getD 1 0).toNat % 16 from if_pos (by omega)]; rfl))), trivial⟩ (by decide))
      ·
       replace hg56 := i_ne hg56
       refine L.yes rfl ?_; refine Lpu rfl rfl ?_; refine L.yes rfl ?_; refine Lpu rfl rfl ?_; refine Lpu rfl rfl ?_; refine L.nil (QE.seq ?_)
       refine C.condB 59 rfl (fun hc59 => ?_) (fun hc59 => ?_)
       ·
        replace hc59 := i_eq hc59
        refine C.region ?_; refine Lpu rfl rfl ?_; refine Lpu rfl rfl ?_; refine L.step (Ev.idx (k := i) (m := i * 4) rfl rfl rfl rfl rfl rfl (by omega) (Src.r 0 rfl) (by rw [frV_len]; omega) rfl) rfl ?_; refine L.step (Ev.idxArr (k := 1) (m := i * 4 + 1) (b := i * 4) rfl rfl rfl rfl rfl rfl (by decide) (Src.r 0 rfl) (by rw [frV_len]; omega) rfl) rfl ?_; refine L.step (Ev.load rfl rfl rfl (Src.r 0 rfl) (frV_get l (k := i) (q := 1) (by omega) (by decide))) rfl ?_; refine L.step (Ev.toInt rfl rfl rfl rfl (by have := UInt8.toNat_lt ((l.getD i []).getD 1 0); omega) (by have := UInt8.toNat_lt ((l.getD i []).getD 1 0); omega)) rfl ?_; refine L.step (Ev.cast (u := .int .i64 ((((l.getD i []).getD 1 0).toNat % 16 : Nat) : Int)) (Ev.rem rfl rfl (by omega) (by decide)) (congrArg (Value.int .i64) (by omega))) rfl ?_; refine L.step (Ev.fieldAddr rfl rfl rfl rfl rfl rfl (Src.o 1 rfl) (Nat.zero_lt_succ _) rfl) rfl ?_
        first | refine L.store (j := 0) rfl rfl rfl rfl rfl rfl rfl rfl ?_ | refine L.store (j := 1) rfl rfl rfl rfl rfl rfl rfl rfl ?_ | refine L.store (j := 2) rfl rfl rfl rfl rfl rfl rfl rfl ?_ | refine L.store (j := 3) rfl rfl rfl rfl rfl rfl rfl rfl ?_ | refine L.store (j := 4) rfl rfl rfl rfl rfl rfl rfl rfl ?_ | refine L.store (j := 5) rfl rfl rfl rfl rfl rfl rfl rfl ?_
        refine L.nil ?_
        refine QE.join (()) (by exact trivial) (by exact Le.mk' (rs := [0]) (hs := [0, 1]) ⟨rfl, rfl, rfl, rfl, rfl, rfl, trivial⟩ ⟨rfl, trivial⟩ ⟨rfl, (congrArg some (own_eq2 rfl (by rw [show (cdA (l.getD i [])) = ((l.getD i []).getD 1 0).toNat % 16 from if_pos (by omega)]; rfl))), trivial⟩ (by decide))
       ·
        replace hc59 := i_ne hc59
        refine C.skip ?_
        refine QE.join (()) (by exact trivial) (by exact Le.mk' (rs := [0]) (hs := [0, 1]) ⟨rfl, rfl, rfl, rfl, rfl, rfl, trivial⟩ ⟨rfl, trivial⟩ ⟨rfl, (congrArg some (own_eq2 rfl (by rw [show (cdA (l.getD i [])) = 0 from if_neg (by omega)]; rfl))), trivial⟩ (by decide))
     ·
      intro _ _
      refine C.seq (C.region ?_); refine L.step (Ev.loadA (vs := [.int .i64 ((cdO (l.getD i [])) : Int), .int .i64 ((cdA (l.getD i [])) : Int), .int .i64 0, .int .i64 0, .int .i64 (cdN (l.getD i []) (codZ l n))]) rfl rfl rfl (Src.o 1 rfl) rfl rfl (by decide)) rfl ?_; refine Lpu rfl rfl ?_; refine L.step (Ev.mul rfl rfl (by omega) (by omega)) rfl ?_; refine L.call (js := []) (js' := [0, 1]) (encode2_c (cdO (l.getD i [])) (cdA (l.getD i [])) (cdN (l.getD i []) (codZ l n)) (4 * (i : Int)) (by omega) (by omega) hca (by omega)) rfl rfl rfl (by decide) trivial rfl ?_
      rintro _ _ _ ⟨rfl, rfl, rfl⟩
      refine L.norm (H' := [_, _]) [0, 1] ⟨rfl, rfl, trivial⟩ (by decide) ?_; refine Lpu rfl rfl ?_; refine Lpu rfl rfl ?_; refine Lpu rfl rfl ?_; refine Lpu rfl rfl ?_; refine Lpu rfl rfl ?_; refine L.nil (QE.seq (C.seq (C.region ?_))); refine Lpu rfl rfl ?_; refine Lpu rfl rfl ?_; refine L.nil (QE.seq ?_)
      refine C.condB 76 rfl (fun hc76 => ?_) (fun hc76 => ?_)
      ·
       replace hc76 := i_eq hc76
       refine C.region ?_; refine Lpu rfl rfl ?_; refine Lpu rfl rfl ?_; refine L.nil ?_
       refine QE.join ((encR (insT (cdO (l.getD i [])) (cdA (l.getD i [])) (cdN (l.getD i []) (codZ l n))) (4 * (i : Int))).1) (by unfold codW; rw [if_pos ⟨by omega, by omega, hc76⟩]) (by exact Le.mk' (rs := [0]) (hs := [0]) ⟨rfl, rfl, rfl, rfl, rfl, trivial⟩ ⟨rfl, trivial⟩ ⟨rfl, trivial⟩ (by decide))
      ·
       replace hc76 := i_ne hc76
       refine C.skip ?_
       refine QE.join (madeW (l.getD i [])) (by unfold codW; rw [if_neg (fun h => hc76 h.2.2)]) (by exact Le.mk' (rs := [0]) (hs := [0]) ⟨rfl, rfl, rfl, rfl, rfl, trivial⟩ ⟨rfl, trivial⟩ ⟨rfl, trivial⟩ (by decide))
    ·
     replace hc40 := of_decide_eq_false hc40
     refine C.skip ?_
     refine QE.join (madeW (l.getD i [])) (by unfold codW; rw [if_neg (fun h => by have := h.1; have := h.2.1; omega)]) (by exact Le.mk' (rs := [0]) (hs := [0]) ⟨rfl, rfl, rfl, rfl, rfl, trivial⟩ ⟨rfl, trivial⟩ ⟨rfl, trivial⟩ (by decide))
   ·
    replace hg37 := of_decide_eq_false hg37
    refine L.no rfl rfl rfl ?_; refine L.no rfl rfl rfl ?_; refine Lpu rfl rfl ?_; refine L.nil (QE.seq ?_)
    refine C.cond rfl (fun h => by cases h) (fun _ => ?_)
    refine C.skip ?_
    refine QE.join (madeW (l.getD i [])) (by unfold codW; rw [if_neg (fun h => by have := h.1; have := h.2.1; omega)]) (by exact Le.mk' (rs := [0]) (hs := [0]) ⟨rfl, rfl, rfl, rfl, rfl, trivial⟩ ⟨rfl, trivial⟩ ⟨rfl, trivial⟩ (by decide))
  ·
   intro w hw
   refine C.region ?_; refine Lpu rfl rfl ?_; refine Lpu rfl rfl ?_
   refine L.lit rfl rfl rfl rfl rfl (by rfl) (by rfl) (by rfl) rfl rfl (fun A80 => ?_)
   refine L.append (j := 0) rfl rfl rfl rfl (by decide) rfl rfl rfl rfl (Src.o 1 rfl) rfl (N32_one [w]) (by omega) (by show _ * 4 ≤ _; omega) rfl (fun A81 cc81 => ?_)
   refine Lpu rfl rfl ?_; refine L.nil ?_; refine QE.blkN ?_; refine QE.seq (C.region ?_); refine Lpu rfl rfl ?_; refine L.step (Ev.add rfl rfl (by omega) (by omega)) rfl ?_; refine Lpu rfl rfl ?_; refine L.nil ?_
   have he : (codN l (codZ l n) (i + 1)) = (codN l (codZ l n) i) ++ [w] := by rw [codN_succ, hw]
   have hel : (codN l (codZ l n) (i + 1)).length = (codN l (codZ l n) i).length + 1 := by rw [he, List.length_append]; rfl
   refine QE.round (i := (i, A2, c2)) ((i + 1, A81, cc81)) (by dsimp only; omega) (by dsimp only; omega) (by exact Le.mk' (rs := [0]) (hs := [0]) ⟨rfl, rfl, (by dsimp only; rw [hel]; rfl), rfl, trivial⟩ ⟨rfl, trivial⟩ ⟨(congrArg some (own_eq2 hel.symm (by dsimp only; rw [he]; simp only [← N32_app]; rfl))), trivial⟩ (by decide))
 ·
  replace hc20 := of_decide_eq_false hc20
  refine C.exit ?_; refine QE.tX ?_; refine QE.tX ?_; refine QE.blk ?_; refine QE.seq (C.seq ?_)
  obtain rfl : i = (codZ l n) := by omega
  have hcl := codN_len l (codZ l n) (codZ l n)
  refine C.region ?_; refine Lpu rfl rfl ?_; refine L.call (js := []) (js' := [0]) (bytes2_c A2 (codN l (codZ l n) (codZ l n)) c2 (by omega) (codL_w32 l n)) rfl rfl rfl (by decide) ⟨(Has.o 0 rfl), trivial⟩ rfl ?_
  rintro _ _ _ ⟨YA, yc, rfl, rfl, rfl⟩
  refine L.norm (H' := [_, _]) [0, 1] ⟨rfl, rfl, trivial⟩ (by decide) ?_; refine Lpu rfl rfl ?_; refine L.nil (QE.seq (C.ret ?_)); refine QE.ret (js := []) (hs := [0]) (vs := [_]) rfl ⟨rfl, trivial⟩ (by decide) ?_
  exact ⟨YA, yc, rfl, rfl, rfl⟩

end Go.Proofs.YtbkmahjhhncfcaaGreat
