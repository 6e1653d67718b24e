/-
  The reference's readings of a patch, as plain data.
-/
import Derived.Test.YtpccfdnmnnnboaaGreatRWOrR
import Derived.Test.YtpccfdnmnnnboaaGreatROj
import Derived.Test.YtpccfdnmnnnboaaGreatROf
import Derived.Test.YtpccfdnmnnnboaaGreatRWOrS
section
namespace Go.Sl

theorem any_yes {n k : Nat} {p : Nat → Bool} (hk : k < n) (h : p k = true) : (List.range n).any p = true := List.any_eq_true.2 ⟨k, List.mem_range.2 hk, h⟩
theorem any_no {n : Nat} {p : Nat → Bool} (h : ∀ k, k < n → p k = false) : (List.range n).any p = false := by
 rw [List.any_eq_false]
 intro k hk
 rw [h k (List.mem_range.1 hk)]
 decide
def chY (l : List Sy) (inn : Int) (i : Nat) : Bool := if i < l.length then decide (l.getD i Sy.zero ≠ ⟨true, (i : Int), 0⟩) else decide ((i : Int) < inn)
/-- A sector changes. -/
def chgB (l : List Sy) (inn : Int) (S t : Nat) : Bool := (List.range S).any fun j => chY l inn (t * S + j)
/-- A sector has a symbol of another one. -/
def hitB (l : List Sy) (S u t : Nat) : Bool := (List.range S).any fun j => decide (u * S + j < l.length) && (l.getD (u * S + j) Sy.zero).old && decide (rdT (l.getD (u * S + j) Sy.zero) S = t)
def rdsB (l : List Sy) (inn : Int) (S u t : Nat) : Bool := !decide (u = t) && chgB l inn S u && chgB l inn S t && hitB l S u t
def rdsR (l : List Sy) (inn : Int) (S u t : Nat) : List Nat := (List.range t).filter (rdsB l inn S u)
def rdsL (l : List Sy) (inn : Int) (S n k : Nat) : List (List Int) := (List.range k).map fun u => NI (rdsR l inn S u n)
section
variable {l : List Sy} {inn out : Int} {S n k u t : Nat}
theorem rdsR_len (l : List Sy) (inn : Int) (S u t : Nat) : (rdsR l inn S u t).length ≤ t := by
 have := List.length_filter_le (rdsB l inn S u) (List.range t)
 rwa [List.length_range] at this
theorem rdsL_len (l : List Sy) (inn : Int) (S n k : Nat) : (rdsL l inn S n k).length = k := by simp [rdsL]
theorem in_sector {i : Nat} (hS : 1 ≤ S) : i / S = t ↔ t * S ≤ i ∧ i < t * S + S := by
 constructor
 · rintro rfl
   exact ⟨Nat.div_mul_le_self i S, Nat.lt_div_mul_add hS⟩
 · rintro ⟨h1, h2⟩
   rw [Nat.div_eq_iff hS]
   omega
theorem chg_eq (hS : 1 ≤ S) (hl : (l.length : Int) = out) (ht : t < rdN inn out S) : (rdC inn out S l).getD t false = chgB l inn S t := by
 unfold rdC chL
 rw [map_range_getD ht, Bool.eq_iff_iff]
 unfold chgB
 rw [List.any_eq_true, List.any_eq_true]
 constructor
 · rintro ⟨i, hi, h⟩
   have hi := List.mem_range.1 hi
   rw [Bool.and_eq_true, decide_eq_true_eq] at h
   obtain ⟨h1, h2⟩ := (in_sector hS).1 h.1
   refine ⟨i - t * S, List.mem_range.2 (by omega), ?_⟩
   rw [show t * S + (i - t * S) = i by omega]
   have h3 := h.2
   unfold chX at h3
   unfold chY
   split
   · rename_i hlt
     rwa [if_pos hlt] at h3
   · exact decide_eq_true (by omega)
 · rintro ⟨j, hj, h⟩
   have hj := List.mem_range.1 hj
   have hsec : (t * S + j) / S = t := (in_sector hS).2 ⟨by omega, by omega⟩
   refine ⟨t * S + j, List.mem_range.2 ?_, ?_⟩
   · unfold chY at h
     split at h
     · omega
     · have := of_decide_eq_true h
       omega
   · rw [decide_eq_true hsec, Bool.true_and]
     unfold chX
     unfold chY at h
     split
     · rename_i hlt
       rwa [if_pos hlt] at h
     · rfl
theorem rows_eq (hS : 1 ≤ S) (hl : (l.length : Int) = out) (hn : n = rdN inn out S) : rwM (rdC inn out S l) S n l l.length = rdsL l inn S n n := by
 unfold rwM rdsL
 refine List.map_congr_left fun u hu => ?_
 have hu := List.mem_range.1 hu
 unfold rwR rdsR
 rw [List.filter_congr fun t ht => ?_]
 have ht := List.mem_range.1 ht
 rw [Bool.eq_iff_iff]
 unfold rwP rdsB
 rw [List.any_eq_true]
 constructor
 · rintro ⟨i, hi, h⟩
   have hi := List.mem_range.1 hi
   rw [Bool.and_eq_true, Bool.and_eq_true, decide_eq_true_eq, decide_eq_true_eq, Bool.not_eq_true'] at h
   obtain ⟨⟨h1, h2⟩, h3⟩ := h
   unfold skipB at h2
   rw [h1, h3] at h2
   simp only [Bool.or_eq_false_iff, Bool.not_eq_false', decide_eq_false_iff_not] at h2
   obtain ⟨⟨⟨h4, h5⟩, h6⟩, h7⟩ := h2
   rw [chg_eq hS hl (by omega)] at h6
   rw [chg_eq hS hl (by omega)] at h7
   rw [decide_eq_false h5, h6, h7]
   obtain ⟨h8, h9⟩ := (in_sector hS).1 h1
   unfold hitB
   rw [Bool.not_false, Bool.true_and, Bool.true_and, Bool.true_and, List.any_eq_true]
   refine ⟨i - u * S, List.mem_range.2 (by omega), ?_⟩
   rw [show u * S + (i - u * S) = i by omega, decide_eq_true hi, h4, decide_eq_true h3]
   rfl
 · intro h
   rw [Bool.and_eq_true, Bool.and_eq_true, Bool.and_eq_true, Bool.not_eq_true', decide_eq_false_iff_not] at h
   obtain ⟨⟨⟨h1, h2⟩, h3⟩, h4⟩ := h
   unfold hitB at h4
   rw [List.any_eq_true] at h4
   obtain ⟨j, hj, h4⟩ := h4
   have hj := List.mem_range.1 hj
   rw [Bool.and_eq_true, Bool.and_eq_true, decide_eq_true_eq, decide_eq_true_eq] at h4
   obtain ⟨⟨h5, h6⟩, h7⟩ := h4
   have hsec : (u * S + j) / S = u := (in_sector hS).2 ⟨by omega, by omega⟩
   refine ⟨u * S + j, List.mem_range.2 h5, ?_⟩
   unfold skipB
   rw [hsec, h6, h7, chg_eq hS hl (by omega), chg_eq hS hl (by omega), h2, h3, decide_eq_true rfl, decide_eq_true rfl, decide_eq_false h1]
   rfl
end
end Go.Sl
end
/-
  An empty slice of structs.
-/
section
namespace Go.Sl

section
variable {X : Cx} {β : Base} {n : Nat} {ds : List Deferred} {ops : Array Oper} {Q : Exit → Act → World → Prop} {rest : List Oper} {Γ : Env} {R H : List Pr}
theorem L.lit0S {d t e ty : Nat} {pos : String} {af : Array Edge} {i ei : Ti} (ht : tlook t X.tab = some i) (hdesc : i.desc = .slice e) (he : tlook e X.tab = some ei) (hd : Nat.blt d n = true)
   (k : ∀ A, L X β n ds ops Q rest ((d, .slice A 0 0) :: Γ) R (H ++ [Own e ei.size A 0 0 []])) : L X β n ds ops Q (⟨some d, .buildSlice t 0 #[], ty, pos, af, none⟩ :: rest) Γ R H := by
 refine L.mk hd e ei.size 0 [] (by unfold maxLen; omega) (by simp) (fun A => .slice A 0 0) ?_ k
 intro ρ w hρ hs o ho
 obtain ⟨e1, _⟩ := X.ok _ _ ht
 rw [hdesc] at e1
 have hS := run_sizeOf' (P := X.P) w (X.ok _ _ he)
 simp only [execOp, ho, Instr.buildSlice, Sem.run_bind, run_underlying e1, Result.andThen_ok, hS]
 simp [Instr.fill, newRow, Array.range_zero']
end
end Go.Sl
end
/-
  Patches of blocks, as plain data.
-/
section
namespace Go.Sl

abbrev T3 := UInt8 × UInt8 × UInt8
end Go.Sl
end
/-
  The bytes that symbols are; images of some length.
-/
section
namespace Go.Sl

def symB (old : List UInt8) (s : Sy) : UInt8 := if s.old = true then s.b + old.getD s.at_.toNat 0 else s.b
def runB (old : List UInt8) (l : List Sy) : List UInt8 := l.map (symB old)
def runOk (old : List UInt8) (l : List Sy) : Prop := ∀ i, i < l.length → (l.getD i Sy.zero).old = true → 0 ≤ (l.getD i Sy.zero).at_ ∧ (l.getD i Sy.zero).at_ < (old.length : Int)
theorem runB_len (old : List UInt8) (l : List Sy) : (runB old l).length = l.length := List.length_map _
theorem runB_succ (old : List UInt8) (l : List Sy) {i : Nat} (h : i < l.length) : runB old (l.take (i + 1)) = runB old (l.take i) ++ [symB old (l.getD i Sy.zero)] := by
 unfold runB
 rw [take_snoc' l Sy.zero i h, List.map_append]
 rfl
end Go.Sl
end
/-
  Run of the program, Input of the reference.
-/
section
namespace Go.Proofs.YtpccfdnmnnnboaaGreat
open Go.Sl

theorem Ev.add8 {X : Cx} {β : Base} {Γ : Env} {R H : List Pr} {t ty : Nat} {x y : Operand} {a b : UInt8} (hx : ev Γ x = some (.int .u8 (a.toNat : Int))) (hy : ev Γ y = some (.int .u8 (b.toNat : Int))) : Ev X β Γ R H (.binOp .add t x y ty) (.int .u8 ((a + b).toNat : Int)) :=
 (Ev.pure (v := .int .u8 (IntKind.u8.wrap ((a.toNat : Int) + (b.toNat : Int)))) (by simp [pev, hx, hy, pint, IntKind.wrap])).cast (by rw [show IntKind.u8.wrap ((a.toNat : Int) + (b.toNat : Int)) = ((a.toNat : Int) + (b.toNat : Int)) % 256 by simp [IntKind.wrap, IntKind.bits, IntKind.signed], UInt8.toNat_add]; rfl)
set_option maxHeartbeats 1000000 in
theorem run_c (B SA : Option Addr) (old : List UInt8) (l : List Sy) (bc sc : Nat) (hl : l.length ≤ 1000000) (hok : runOk old l) :
   Ctr X 69 [.slice B old.length bc, .slice SA l.length sc] [Rd B (U8 old), Rd SA (symsV l)] [] (fun v R' H' => ∃ (A : Option Addr) (c : Nat), v = .tuple #[.slice A (runB old l).length c, .int .i64 0] ∧ R' = [] ∧ H' = [Own 5 1 A (runB old l).length c (U8 (runB old l))]) := by
 refine Ctr.of (X := X) (fn := Tryz.f69) Tryz.func69 rfl (by kernel_rfl) rfl ?_
 intro β
 refine C.seq (C.region ?_); refine Lpu rfl rfl ?_; refine Lpu rfl rfl ?_; refine L.nil (QE.seq (C.seq (C.region ?_))); refine Lpu rfl rfl ?_; refine Lpu rfl rfl ?_
 refine L.make0 (m := l.length) rfl rfl rfl rfl rfl (by show 1 * _ ≤ _; omega) (by omega) rfl (fun A11 => ?_)
 refine Lpu rfl rfl ?_; refine L.nil (QE.seq (C.seq (C.seq (C.region ?_)))); refine Lpu rfl rfl ?_; refine Lpu rfl rfl ?_; refine Lpu rfl rfl ?_; refine L.nil (QE.seq (C.block ?_)); refine C.loop (fun q : Nat × Option Addr × Nat => [(0, .slice B old.length bc), (12, .slice SA l.length sc), (13, .int .i64 (l.length : Int)), (14, .int .i64 (q.1 : Int)), (6, .slice q.2.1 (runB old (l.take q.1)).length q.2.2)]) (fun q : Nat × Option Addr × Nat => [Rd B (U8 old), Rd SA (symsV l)]) (fun q : Nat × Option Addr × Nat => [Own 5 1 q.2.1 (runB old (l.take q.1)).length q.2.2 (U8 (runB old (l.take q.1)))]) (fun q : Nat × Option Addr × Nat => q.1 ≤ l.length) (fun q : Nat × Option Addr × Nat => l.length - q.1) (0, A11, l.length) (Nat.zero_le _) (by exact Le.mk' (rs := [0, 1]) (hs := [0]) ⟨rfl, rfl, rfl, rfl, rfl, trivial⟩ ⟨rfl, rfl, trivial⟩ ⟨rfl, trivial⟩ (by decide)) ?_
 rintro ⟨i, A, c⟩ hi
 dsimp only at hi ⊢
 have hrl : (runB old (l.take i)).length = i := by rw [runB_len, List.length_take]; omega
 refine C.seq (C.region ?_); refine Lpu rfl rfl ?_; refine L.nil (QE.seq (C.seq ?_))
 refine C.condB 15 rfl (fun hc15 => ?_) (fun hc15 => ?_)
 ·
  replace hc15 := of_decide_eq_true hc15
  refine C.skip (QE.seq (C.seq (C.block (C.seq (C.region ?_))))); refine L.step (Ev.idx (k := i) (m := i * 3) rfl rfl rfl rfl rfl rfl (by omega) (Src.r 1 rfl) (syms_pos (k := i) (by omega)) rfl) rfl ?_; refine L.step (Ev.loadA (vs := Sy.cells (l.getD i Sy.zero)) rfl rfl rfl (Src.r 1 rfl) (symsV_at l i (by omega)) rfl (by decide)) rfl ?_
  refine L.alloc rfl rfl rfl (fun A8 => ?_)
  refine L.storeA (j := 1) rfl rfl rfl rfl rfl (Nat.zero_lt_succ _) rfl rfl ?_; refine L.nil (QE.seq ?_); refine C.seqJ (fun z : UInt8 => [(0, .slice B old.length bc), (12, .slice SA l.length sc), (13, .int .i64 (l.length : Int)), (14, .int .i64 (i : Int)), (6, .slice A (runB old (l.take i)).length c), (8, ptrOf A8 0)]) (fun z : UInt8 => [Rd B (U8 old), Rd SA (symsV l)]) (fun z : UInt8 => [Own 5 1 A (runB old (l.take i)).length c (U8 (runB old (l.take i))), Own 146 3 A8 1 1 [.bool (l.getD i Sy.zero).old, .int .i64 (l.getD i Sy.zero).at_, .int .u8 (z.toNat : Int)]]) (fun z : UInt8 => z = symB old (l.getD i Sy.zero)) ?_ ?_
  ·
   refine C.seq (C.region ?_); refine L.step (Ev.fieldAddr rfl rfl rfl rfl rfl rfl (Src.o 1 rfl) (Nat.zero_lt_succ _) rfl) rfl ?_; refine L.step (Ev.load rfl rfl rfl (Src.o 1 rfl) rfl) rfl ?_; refine L.nil (QE.seq ?_)
   refine C.condB 19 rfl (fun hc19 => ?_) (fun hc19 => ?_)
   ·
    have hat := hok i (by omega) hc19
    refine C.seq (C.seq (C.region ?_)); refine L.step (Ev.fieldAddr rfl rfl rfl rfl rfl rfl (Src.o 1 rfl) (Nat.zero_lt_succ _) rfl) rfl ?_; refine L.step (Ev.load rfl rfl rfl (Src.o 1 rfl) rfl) rfl ?_; refine Lpu rfl rfl ?_; refine Lpu rfl rfl ?_
    refine L.bool 23 rfl (fun hg23 => ?_) (fun hg23 => ?_)
    ·
     replace hg23 := of_decide_eq_true hg23
     omega
    ·
     replace hg23 := of_decide_eq_false hg23
     refine L.yes rfl ?_; refine L.step (Ev.fieldAddr rfl rfl rfl rfl rfl rfl (Src.o 1 rfl) (Nat.zero_lt_succ _) rfl) rfl ?_; refine L.yes rfl ?_; refine L.step (Ev.load rfl rfl rfl (Src.o 1 rfl) rfl) rfl ?_; refine L.yes rfl ?_; refine Lpu rfl rfl ?_; refine L.yes rfl ?_; refine Lpu rfl rfl ?_; refine L.yes rfl ?_; refine Lpu rfl rfl ?_; refine Lpu rfl rfl ?_; refine L.nil (QE.seq ?_)
     refine C.condB 29 rfl (fun hc29 => ?_) (fun hc29 => ?_)
     ·
      replace hc29 := of_decide_eq_true hc29
      omega
     ·
      replace hc29 := of_decide_eq_false hc29
      refine C.skip (QE.seq ?_); refine C.regionM [Rd A8 [.bool (l.getD i Sy.zero).old, .int .i64 (l.getD i Sy.zero).at_, .int .u8 ((l.getD i Sy.zero).b.toNat : Int)], Rd B (U8 old)] ⟨Has.o 1 rfl, Has.r 0 rfl, trivial⟩ ?_; refine LM.q 0 rfl (by kernel_rfl) (Ev.fieldAddr rfl rfl rfl rfl rfl rfl (Src.r 0 rfl) (Nat.zero_lt_succ _) rfl) rfl ⟨Has.o 1 rfl, Has.r 0 rfl, trivial⟩ ?_; refine LM.q 1 rfl (by kernel_rfl) (Ev.load rfl rfl rfl (Src.r 0 rfl) rfl) rfl ⟨Has.o 1 rfl, Has.r 0 rfl, trivial⟩ ?_; refine LM.q 2 rfl (by kernel_rfl) (Ev.pure rfl) rfl ⟨Has.o 1 rfl, Has.r 0 rfl, trivial⟩ ?_; refine LM.f 3 rfl (by kernel_rfl) ⟨Has.o 1 rfl, Has.r 0 rfl, trivial⟩ ?_; refine L.step (Ev.fieldAddr rfl rfl rfl rfl rfl rfl (Src.o 1 rfl) (Nat.zero_lt_succ _) rfl) rfl ?_
      refine L.nil (QE.m (by kernel_rfl) ?_)
      refine LM.f 4 rfl (by kernel_rfl) ⟨Has.o 1 rfl, Has.r 0 rfl, trivial⟩ ?_; refine L.step (Ev.load rfl rfl rfl (Src.o 1 rfl) rfl) rfl ?_
      refine L.nil (QE.m (by kernel_rfl) ?_)
      refine LM.f 5 rfl (by kernel_rfl) ⟨Has.o 1 rfl, Has.r 0 rfl, trivial⟩ ?_; refine L.step (Ev.idx1 (k := (l.getD i Sy.zero).at_.toNat) rfl rfl rfl rfl rfl rfl (by omega) (by omega) (Src.r 0 rfl) (by rw [U8_len]; omega)) rfl ?_
      refine L.nil (QE.m (by kernel_rfl) ?_)
      refine LM.f 6 rfl (by kernel_rfl) ⟨Has.o 1 rfl, Has.r 0 rfl, trivial⟩ ?_; refine L.step (Ev.load rfl rfl rfl (Src.r 0 rfl) (U8_get (by omega))) rfl ?_
      refine L.nil (QE.m (by kernel_rfl) ?_)
      refine LM.cut [] (by kernel_rfl) ⟨Has.o 1 rfl, Has.r 0 rfl, trivial⟩ ?_; refine LM.f 7 rfl (by kernel_rfl) trivial ?_; refine L.step (Ev.add8 rfl rfl) rfl ?_
      refine L.nil (QE.m (by kernel_rfl) ?_)
      refine LM.f 8 rfl (by kernel_rfl) trivial ?_; refine L.step (Ev.fieldAddr rfl rfl rfl rfl rfl rfl (Src.o 1 rfl) (Nat.zero_lt_succ _) rfl) rfl ?_
      refine L.nil (QE.m (by kernel_rfl) ?_)
      refine LM.f 9 rfl (by kernel_rfl) trivial ?_
      first | refine L.store (j := 0) rfl rfl rfl rfl rfl rfl rfl rfl ?_ | refine L.store (j := 1) rfl rfl rfl rfl rfl rfl rfl rfl ?_ | refine L.store (j := 2) rfl rfl rfl rfl rfl rfl rfl rfl ?_ | refine L.store (j := 3) rfl rfl rfl rfl rfl rfl rfl rfl ?_
      refine L.nil (QE.m (by kernel_rfl) ?_)
      refine LM.nil (by kernel_rfl) trivial ?_
      refine QE.join (((l.getD i Sy.zero).b + old.getD (l.getD i Sy.zero).at_.toNat 0)) (by unfold symB; rw [if_pos hc19]) (by exact Le.mk' (rs := [0, 1]) (hs := [0, 1]) ⟨rfl, rfl, rfl, rfl, rfl, rfl, trivial⟩ ⟨rfl, rfl, trivial⟩ ⟨rfl, rfl, trivial⟩ (by decide))
   ·
    refine C.skip ?_
    refine QE.join ((l.getD i Sy.zero).b) (by unfold symB; rw [if_neg (by rw [hc19]; decide)]) (by exact Le.mk' (rs := [0, 1]) (hs := [0, 1]) ⟨rfl, rfl, rfl, rfl, rfl, rfl, trivial⟩ ⟨rfl, rfl, trivial⟩ ⟨rfl, rfl, trivial⟩ (by decide))
  ·
   intro z hz
   refine C.region ?_; refine Lpu rfl rfl ?_; refine L.step (Ev.fieldAddr rfl rfl rfl rfl rfl rfl (Src.o 1 rfl) (Nat.zero_lt_succ _) rfl) rfl ?_; refine L.step (Ev.load rfl rfl rfl (Src.o 1 rfl) rfl) rfl ?_
   refine L.lit rfl rfl rfl rfl rfl (by rfl) (by rfl) (by rfl) rfl rfl (fun A42 => ?_)
   refine L.append (j := 0) rfl rfl rfl rfl (by decide) rfl rfl rfl rfl (Src.o 2 rfl) rfl (allOne rfl) (by omega) (by show _ * 1 ≤ _; omega) rfl (fun A43 cc43 => ?_)
   refine Lpu rfl rfl ?_; refine L.nil ?_; refine QE.blkN ?_; refine QE.seq (C.region ?_); refine L.step (Ev.add rfl rfl (by omega) (by omega)) rfl ?_; refine Lpu rfl rfl ?_; refine L.nil ?_
   have he := runB_succ old l (i := i) (by omega)
   rw [← hz] at he
   have hel : (runB old (l.take (i + 1))).length = (runB old (l.take i)).length + 1 := by rw [he, List.length_append]; rfl
   refine QE.round (i := (i, A, c)) ((i + 1, A43, cc43)) (by dsimp only; omega) (by dsimp only; omega) (by exact Le.mk' (rs := [0, 1]) (hs := [0]) ⟨rfl, rfl, rfl, rfl, (by dsimp only; rw [hel]; rfl), trivial⟩ ⟨rfl, rfl, trivial⟩ ⟨(congrArg some (own_eq hel.symm (by dsimp only; rw [he, ← U8_app]; rfl))), trivial⟩ (by decide))
 ·
  replace hc15 := of_decide_eq_false hc15
  refine C.exit ?_; refine QE.tX ?_; refine QE.tX ?_; refine QE.blk ?_; refine QE.seq (C.seq (C.region ?_)); refine Lpu rfl rfl ?_; refine Lpu rfl rfl ?_; refine Lpu rfl rfl ?_; refine L.nil (QE.seq (C.ret ?_)); refine QE.ret (js := []) (hs := [0]) (vs := [_, _]) rfl ⟨rfl, rfl, trivial⟩ (by decide) ?_
  obtain rfl : i = l.length := by omega
  rw [List.take_length]
  exact ⟨A, c, rfl, rfl, rfl⟩

end Go.Proofs.YtpccfdnmnnnboaaGreat
end
