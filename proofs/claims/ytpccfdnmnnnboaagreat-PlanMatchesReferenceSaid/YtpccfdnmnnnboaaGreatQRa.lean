/-
  The bytes that symbols are; images of some length.
-/
import Derived.Test.YtpccfdnmnnnboaaGreatQOe
import Derived.Test.YtpccfdnmnnnboaaGreatQOn
section
namespace Go.Sl

def symB (old : List UInt8) (s : Sy) : UInt8 := if s.old = true then s.b + old.getD s.at_.toNat 0 else s.b
def runB (old : List UInt8) (l : List Sy) : List UInt8 := l.map (symB old)
def runOk (old : List UInt8) (l : List Sy) : Prop := ∀ i, i < l.length → (l.getD i Sy.zero).old = true → 0 ≤ (l.getD i Sy.zero).at_ ∧ (l.getD i Sy.zero).at_ < (old.length : Int)
theorem runB_len (old : List UInt8) (l : List Sy) : (runB old l).length = l.length := List.length_map _
theorem runB_succ (old : List UInt8) (l : List Sy) {i : Nat} (h : i < l.length) : runB old (l.take (i + 1)) = runB old (l.take i) ++ [symB old (l.getD i Sy.zero)] := by
 unfold runB
 rw [take_snoc' l Sy.zero i h, List.map_append]
 rfl
/-- An image of some length. -/
def inpB (b : List UInt8) (i : Nat) : UInt8 := if i < b.length then b.getD i 0 else UInt8.ofNat (7 * i % 256)
def inpF (b : List UInt8) (n : Nat) : List UInt8 := (List.range n).map (inpB b)
theorem inpF_len (b : List UInt8) (n : Nat) : (inpF b n).length = n := by simp [inpF]
theorem inpF_succ (b : List UInt8) (n : Nat) : inpF b (n + 1) = inpF b n ++ [inpB b n] := by simp [inpF, List.range_succ]
end Go.Sl
end
/-
  Run of the program, Input of the reference.
-/
section
namespace Go.Proofs.YtpccfdnmnnnboaaGreat
open Go.Sl

theorem Ev.toU8b {X : Cx} {β : Base} {Γ : Env} {R H : List Pr} {s d : Nat} {x : Operand} {k : IntKind} {m : Int} {q : UInt8} {i j : Ti} (hs : tlook s X.tab = some i) (hd : tlook d X.tab = some j) (hj : j.desc = .int .u8) (hx : ev Γ x = some (.int k m)) (hq : m % 256 = (q.toNat : Int)) : Ev X β Γ R H (.convert s d x) (.int .u8 (q.toNat : Int)) :=
 (Ev.pure (v := .int .u8 (IntKind.u8.wrap m)) (by simp [pev, hs, hd, hj, hx])).cast (by rw [show IntKind.u8.wrap m = m % 256 by simp [IntKind.wrap, IntKind.bits, IntKind.signed], hq])
theorem Ev.add8 {X : Cx} {β : Base} {Γ : Env} {R H : List Pr} {t ty : Nat} {x y : Operand} {a b : UInt8} (hx : ev Γ x = some (.int .u8 (a.toNat : Int))) (hy : ev Γ y = some (.int .u8 (b.toNat : Int))) : Ev X β Γ R H (.binOp .add t x y ty) (.int .u8 ((a + b).toNat : Int)) :=
 (Ev.pure (v := .int .u8 (IntKind.u8.wrap ((a.toNat : Int) + (b.toNat : Int)))) (by simp [pev, hx, hy, pint, IntKind.wrap])).cast (by rw [show IntKind.u8.wrap ((a.toNat : Int) + (b.toNat : Int)) = ((a.toNat : Int) + (b.toNat : Int)) % 256 by simp [IntKind.wrap, IntKind.bits, IntKind.signed], UInt8.toNat_add]; rfl)
set_option maxHeartbeats 1000000 in
theorem run_c (B SA : Option Addr) (old : List UInt8) (l : List Sy) (bc sc : Nat) (hl : l.length ≤ 1000000) (hok : runOk old l) :
   Ctr X 69 [.slice B old.length bc, .slice SA l.length sc] [Rd B (U8 old), Rd SA (symsV l)] [] (fun v R' H' => ∃ (A : Option Addr) (c : Nat), v = .tuple #[.slice A (runB old l).length c, .int .i64 0] ∧ R' = [] ∧ H' = [Own 5 1 A (runB old l).length c (U8 (runB old l))]) := by
 refine Ctr.of (X := X) (fn := Tryz.f69) Tryz.func69 rfl (by kernel_rfl) rfl ?_
 intro β
 refine C.seq (C.region ?_); refine Lpu rfl rfl ?_; refine Lpu rfl rfl ?_; refine L.nil (QE.seq (C.seq (C.region ?_))); refine Lpu rfl rfl ?_; refine Lpu rfl rfl ?_
 refine L.make0 (m := l.length) rfl rfl rfl rfl rfl (by show 1 * _ ≤ _; omega) (by omega) rfl (fun A11 => ?_)
 refine Lpu rfl rfl ?_; refine L.nil (QE.seq (C.seq (C.seq (C.region ?_)))); refine Lpu rfl rfl ?_; refine Lpu rfl rfl ?_; refine Lpu rfl rfl ?_; refine L.nil (QE.seq (C.block ?_)); refine C.loop (fun q : Nat × Option Addr × Nat => [(0, .slice B old.length bc), (12, .slice SA l.length sc), (13, .int .i64 (l.length : Int)), (14, .int .i64 (q.1 : Int)), (6, .slice q.2.1 (runB old (l.take q.1)).length q.2.2)]) (fun q : Nat × Option Addr × Nat => [Rd B (U8 old), Rd SA (symsV l)]) (fun q : Nat × Option Addr × Nat => [Own 5 1 q.2.1 (runB old (l.take q.1)).length q.2.2 (U8 (runB old (l.take q.1)))]) (fun q : Nat × Option Addr × Nat => q.1 ≤ l.length) (fun q : Nat × Option Addr × Nat => l.length - q.1) (0, A11, l.length) (Nat.zero_le _) (by exact Le.mk' (rs := [0, 1]) (hs := [0]) ⟨rfl, rfl, rfl, rfl, rfl, trivial⟩ ⟨rfl, rfl, trivial⟩ ⟨rfl, trivial⟩ (by decide)) ?_
 rintro ⟨i, A, c⟩ hi
 dsimp only at hi ⊢
 have hrl : (runB old (l.take i)).length = i := by rw [runB_len, List.length_take]; omega
 refine C.seq (C.region ?_); refine Lpu rfl rfl ?_; refine L.nil (QE.seq (C.seq ?_))
 refine C.condB 15 rfl (fun hc15 => ?_) (fun hc15 => ?_)
 ·
  replace hc15 := of_decide_eq_true hc15
  refine C.skip (QE.seq (C.seq (C.block (C.seq (C.region ?_))))); refine L.step (Ev.idx (k := i) (m := i * 3) rfl rfl rfl rfl rfl rfl (by omega) (Src.r 1 rfl) (syms_pos (k := i) (by omega)) rfl) rfl ?_; refine L.step (Ev.loadA (vs := Sy.cells (l.getD i Sy.zero)) rfl rfl rfl (Src.r 1 rfl) (symsV_at l i (by omega)) rfl (by decide)) rfl ?_
  refine L.alloc rfl rfl rfl (fun A8 => ?_)
  refine L.storeA (j := 1) rfl rfl rfl rfl rfl (Nat.zero_lt_succ _) rfl rfl ?_; refine L.nil (QE.seq ?_); refine C.seqJ (fun z : UInt8 => [(0, .slice B old.length bc), (12, .slice SA l.length sc), (13, .int .i64 (l.length : Int)), (14, .int .i64 (i : Int)), (6, .slice A (runB old (l.take i)).length c), (8, ptrOf A8 0)]) (fun z : UInt8 => [Rd B (U8 old), Rd SA (symsV l)]) (fun z : UInt8 => [Own 5 1 A (runB old (l.take i)).length c (U8 (runB old (l.take i))), Own 146 3 A8 1 1 [.bool (l.getD i Sy.zero).old, .int .i64 (l.getD i Sy.zero).at_, .int .u8 (z.toNat : Int)]]) (fun z : UInt8 => z = symB old (l.getD i Sy.zero)) ?_ ?_
  ·
   refine C.seq (C.region ?_); refine L.step (Ev.fieldAddr rfl rfl rfl rfl rfl rfl (Src.o 1 rfl) (Nat.zero_lt_succ _) rfl) rfl ?_; refine L.step (Ev.load rfl rfl rfl (Src.o 1 rfl) rfl) rfl ?_; refine L.nil (QE.seq ?_)
   refine C.condB 19 rfl (fun hc19 => ?_) (fun hc19 => ?_)
   ·
    have hat := hok i (by omega) hc19
    refine C.seq (C.seq (C.region ?_)); refine L.step (Ev.fieldAddr rfl rfl rfl rfl rfl rfl (Src.o 1 rfl) (Nat.zero_lt_succ _) rfl) rfl ?_; refine L.step (Ev.load rfl rfl rfl (Src.o 1 rfl) rfl) rfl ?_; refine Lpu rfl rfl ?_; refine Lpu rfl rfl ?_
    refine L.bool 23 rfl (fun hg23 => ?_) (fun hg23 => ?_)
    ·
     replace hg23 := of_decide_eq_true hg23
     omega
    ·
     replace hg23 := of_decide_eq_false hg23
     refine L.yes rfl ?_; refine L.step (Ev.fieldAddr rfl rfl rfl rfl rfl rfl (Src.o 1 rfl) (Nat.zero_lt_succ _) rfl) rfl ?_; refine L.yes rfl ?_; refine L.step (Ev.load rfl rfl rfl (Src.o 1 rfl) rfl) rfl ?_; refine L.yes rfl ?_; refine Lpu rfl rfl ?_; refine L.yes rfl ?_; refine Lpu rfl rfl ?_; refine L.yes rfl ?_; refine Lpu rfl rfl ?_; refine Lpu rfl rfl ?_; refine L.nil (QE.seq ?_)
     refine C.condB 29 rfl (fun hc29 => ?_) (fun hc29 => ?_)
     ·
      replace hc29 := of_decide_eq_true hc29
      omega
     ·
      replace hc29 := of_decide_eq_false hc29
      refine C.skip (QE.seq ?_); refine C.regionM [Rd A8 [.bool (l.getD i Sy.zero).old, .int .i64 (l.getD i Sy.zero).at_, .int .u8 ((l.getD i Sy.zero).b.toNat : Int)], Rd B (U8 old)] ⟨Has.o 1 rfl, Has.r 0 rfl, trivial⟩ ?_; refine LM.q 0 rfl (by kernel_rfl) (Ev.fieldAddr rfl rfl rfl rfl rfl rfl (Src.r 0 rfl) (Nat.zero_lt_succ _) rfl) rfl ⟨Has.o 1 rfl, Has.r 0 rfl, trivial⟩ ?_; refine LM.q 1 rfl (by kernel_rfl) (Ev.load rfl rfl rfl (Src.r 0 rfl) rfl) rfl ⟨Has.o 1 rfl, Has.r 0 rfl, trivial⟩ ?_; refine LM.q 2 rfl (by kernel_rfl) (Ev.pure rfl) rfl ⟨Has.o 1 rfl, Has.r 0 rfl, trivial⟩ ?_; refine LM.f 3 rfl (by kernel_rfl) ⟨Has.o 1 rfl, Has.r 0 rfl, trivial⟩ ?_; refine L.step (Ev.fieldAddr rfl rfl rfl rfl rfl rfl (Src.o 1 rfl) (Nat.zero_lt_succ _) rfl) rfl ?_
      refine L.nil (QE.m (by kernel_rfl) ?_)
      refine LM.f 4 rfl (by kernel_rfl) ⟨Has.o 1 rfl, Has.r 0 rfl, trivial⟩ ?_; refine L.step (Ev.load rfl rfl rfl (Src.o 1 rfl) rfl) rfl ?_
      refine L.nil (QE.m (by kernel_rfl) ?_)
      refine LM.f 5 rfl (by kernel_rfl) ⟨Has.o 1 rfl, Has.r 0 rfl, trivial⟩ ?_; refine L.step (Ev.idx1 (k := (l.getD i Sy.zero).at_.toNat) rfl rfl rfl rfl rfl rfl (by omega) (by omega) (Src.r 0 rfl) (by rw [U8_len]; omega)) rfl ?_
      refine L.nil (QE.m (by kernel_rfl) ?_)
      refine LM.f 6 rfl (by kernel_rfl) ⟨Has.o 1 rfl, Has.r 0 rfl, trivial⟩ ?_; refine L.step (Ev.load rfl rfl rfl (Src.r 0 rfl) (U8_get (by omega))) rfl ?_
      refine L.nil (QE.m (by kernel_rfl) ?_)
      refine LM.cut [] (by kernel_rfl) ⟨Has.o 1 rfl, Has.r 0 rfl, trivial⟩ ?_; refine LM.f 7 rfl (by kernel_rfl) trivial ?_; refine L.step (Ev.add8 rfl rfl) rfl ?_
      refine L.nil (QE.m (by kernel_rfl) ?_)
      refine LM.f 8 rfl (by kernel_rfl) trivial ?_; refine L.step (Ev.fieldAddr rfl rfl rfl rfl rfl rfl (Src.o 1 rfl) (Nat.zero_lt_succ _) rfl) rfl ?_
      refine L.nil (QE.m (by kernel_rfl) ?_)
      refine LM.f 9 rfl (by kernel_rfl) trivial ?_
      first | refine L.store (j := 0) rfl rfl rfl rfl rfl rfl rfl rfl ?_ | refine L.store (j := 1) rfl rfl rfl rfl rfl rfl rfl rfl ?_ | refine L.store (j := 2) rfl rfl rfl rfl rfl rfl rfl rfl ?_ | refine L.store (j := 3) rfl rfl rfl rfl rfl rfl rfl rfl ?_
      refine L.nil (QE.m (by kernel_rfl) ?_)
      refine LM.nil (by kernel_rfl) trivial ?_
      refine QE.join (((l.getD i Sy.zero).b + old.getD (l.getD i Sy.zero).at_.toNat 0)) (by unfold symB; rw [if_pos hc19]) (by exact Le.mk' (rs := [0, 1]) (hs := [0, 1]) ⟨rfl, rfl, rfl, rfl, rfl, rfl, trivial⟩ ⟨rfl, rfl, trivial⟩ ⟨rfl, rfl, trivial⟩ (by decide))
   ·
    refine C.skip ?_
    refine QE.join ((l.getD i Sy.zero).b) (by unfold symB; rw [if_neg (by rw [hc19]; decide)]) (by exact Le.mk' (rs := [0, 1]) (hs := [0, 1]) ⟨rfl, rfl, rfl, rfl, rfl, rfl, trivial⟩ ⟨rfl, rfl, trivial⟩ ⟨rfl, rfl, trivial⟩ (by decide))
  ·
   intro z hz
   refine C.region ?_; refine Lpu rfl rfl ?_; refine L.step (Ev.fieldAddr rfl rfl rfl rfl rfl rfl (Src.o 1 rfl) (Nat.zero_lt_succ _) rfl) rfl ?_; refine L.step (Ev.load rfl rfl rfl (Src.o 1 rfl) rfl) rfl ?_
   refine L.lit rfl rfl rfl rfl rfl (by rfl) (by rfl) (by rfl) rfl rfl (fun A42 => ?_)
   refine L.append (j := 0) rfl rfl rfl rfl (by decide) rfl rfl rfl rfl (Src.o 2 rfl) rfl (allOne rfl) (by omega) (by show _ * 1 ≤ _; omega) rfl (fun A43 cc43 => ?_)
   refine Lpu rfl rfl ?_; refine L.nil ?_; refine QE.blkN ?_; refine QE.seq (C.region ?_); refine L.step (Ev.add rfl rfl (by omega) (by omega)) rfl ?_; refine Lpu rfl rfl ?_; refine L.nil ?_
   have he := runB_succ old l (i := i) (by omega)
   rw [← hz] at he
   have hel : (runB old (l.take (i + 1))).length = (runB old (l.take i)).length + 1 := by rw [he, List.length_append]; rfl
   refine QE.round (i := (i, A, c)) ((i + 1, A43, cc43)) (by dsimp only; omega) (by dsimp only; omega) (by exact Le.mk' (rs := [0, 1]) (hs := [0]) ⟨rfl, rfl, rfl, rfl, (by dsimp only; rw [hel]; rfl), trivial⟩ ⟨rfl, rfl, trivial⟩ ⟨(congrArg some (own_eq hel.symm (by dsimp only; rw [he, ← U8_app]; rfl))), trivial⟩ (by decide))
 ·
  replace hc15 := of_decide_eq_false hc15
  refine C.exit ?_; refine QE.tX ?_; refine QE.tX ?_; refine QE.blk ?_; refine QE.seq (C.seq (C.region ?_)); refine Lpu rfl rfl ?_; refine Lpu rfl rfl ?_; refine Lpu rfl rfl ?_; refine L.nil (QE.seq (C.ret ?_)); refine QE.ret (js := []) (hs := [0]) (vs := [_, _]) rfl ⟨rfl, rfl, trivial⟩ (by decide) ?_
  obtain rfl : i = l.length := by omega
  rw [List.take_length]
  exact ⟨A, c, rfl, rfl, rfl⟩

theorem input_c (B : Option Addr) (b : List UInt8) (bc n : Nat) (hl : b.length ≤ 9223372036854775807) (hn : n ≤ 1000000) :
   Ctr X 41 [.slice B b.length bc, .int .i64 (n : Int)] [Rd B (U8 b)] [] (fun v R' H' => ∃ (A : Option Addr) (c : Nat), v = .slice A (inpF b n).length c ∧ R' = [] ∧ H' = [Own 5 1 A (inpF b n).length c (U8 (inpF b n))]) := by
 refine Ctr.of (X := X) (fn := Tryz.f41) Tryz.func41 rfl (by kernel_rfl) rfl ?_
 intro β
 refine C.seq (C.region ?_); refine Lpu rfl rfl ?_; refine L.nil (QE.seq (C.seq (C.region ?_)))
 refine L.lit0S rfl rfl rfl rfl (fun A8 => ?_)
 refine Lpu rfl rfl ?_; refine L.nil (QE.seq (C.seq (C.seq (C.region ?_)))); refine Lpu rfl rfl ?_; refine L.nil (QE.seq (C.block ?_)); refine C.loop (fun q : Nat × Option Addr × Nat => [(0, .slice B b.length bc), (1, .int .i64 (n : Int)), (6, .int .i64 (q.1 : Int)), (5, .slice q.2.1 (inpF b q.1).length q.2.2)]) (fun q : Nat × Option Addr × Nat => [Rd B (U8 b)]) (fun q : Nat × Option Addr × Nat => [Own 5 1 q.2.1 (inpF b q.1).length q.2.2 (U8 (inpF b q.1))]) (fun q : Nat × Option Addr × Nat => q.1 ≤ n) (fun q : Nat × Option Addr × Nat => n - q.1) (0, A8, 0) (Nat.zero_le _) (by exact Le.mk' (rs := [0]) (hs := [0]) ⟨rfl, rfl, rfl, rfl, trivial⟩ ⟨rfl, trivial⟩ ⟨rfl, trivial⟩ (by decide)) ?_
 rintro ⟨i, A, c⟩ hi
 dsimp only at hi ⊢
 have hrl := inpF_len b i
 refine C.seq (C.seq (C.region ?_)); refine Lpu rfl rfl ?_; refine Lpu rfl rfl ?_; refine Lpu rfl rfl ?_; refine L.nil (QE.seq ?_)
 refine C.condB 11 rfl (fun hc11 => ?_) (fun hc11 => ?_)
 ·
  replace hc11 := of_decide_eq_true hc11
  refine C.skip (QE.seq (C.seq (C.block (C.seq (C.region ?_))))); refine Lpu rfl rfl ?_; refine L.step (Ev.cast (u := .int .i64 ((7 * i : Nat) : Int)) (Ev.mul rfl rfl (by omega) (by omega)) (congrArg (Value.int .i64) (by omega))) rfl ?_; refine L.step (Ev.toU8b (q := UInt8.ofNat (7 * i % 256)) rfl rfl rfl rfl (by rw [UInt8.toNat_ofNat']; omega)) rfl ?_; refine Lpu rfl rfl ?_; refine L.nil (QE.seq ?_); refine C.seqJ (fun z : UInt8 => [(0, .slice B b.length bc), (1, .int .i64 (n : Int)), (6, .int .i64 (i : Int)), (5, .slice A (inpF b i).length c), (7, .int .u8 (z.toNat : Int))]) (fun z : UInt8 => [Rd B (U8 b)]) (fun z : UInt8 => [Own 5 1 A (inpF b i).length c (U8 (inpF b i))]) (fun z : UInt8 => z = inpB b i) ?_ ?_
  ·
   refine C.seq (C.region ?_); refine Lpu rfl rfl ?_; refine Lpu rfl rfl ?_; refine Lpu rfl rfl ?_; refine Lpu rfl rfl ?_; refine L.nil (QE.seq ?_)
   refine C.condB 20 rfl (fun hc20 => ?_) (fun hc20 => ?_)
   ·
    replace hc20 := of_decide_eq_true hc20
    refine C.region ?_; refine Lpu rfl rfl ?_; refine Lpu rfl rfl ?_; refine L.step (Ev.idx1 (k := i) rfl rfl rfl rfl rfl rfl rfl (by omega) (Src.r 0 rfl) (by rw [U8_len]; omega)) rfl ?_; refine L.step (Ev.load rfl rfl rfl (Src.r 0 rfl) (U8_get (by omega))) rfl ?_; refine Lpu rfl rfl ?_; refine L.nil ?_
    refine QE.join (b.getD i 0) (by unfold inpB; rw [if_pos (by omega)]) (by exact Le.mk' (rs := [0]) (hs := [0]) ⟨rfl, rfl, rfl, rfl, rfl, trivial⟩ ⟨rfl, trivial⟩ ⟨rfl, trivial⟩ (by decide))
   ·
    replace hc20 := of_decide_eq_false hc20
    refine C.skip ?_
    refine QE.join (UInt8.ofNat (7 * i % 256)) (by unfold inpB; rw [if_neg (by omega)]) (by exact Le.mk' (rs := [0]) (hs := [0]) ⟨rfl, rfl, rfl, rfl, rfl, trivial⟩ ⟨rfl, trivial⟩ ⟨rfl, trivial⟩ (by decide))
  ·
   intro z hz
   refine C.region ?_; refine Lpu rfl rfl ?_; refine Lpu rfl rfl ?_
   refine L.lit rfl rfl rfl rfl rfl (by rfl) (by rfl) (by rfl) rfl rfl (fun A27 => ?_)
   refine L.append (j := 0) rfl rfl rfl rfl (by decide) rfl rfl rfl rfl (Src.o 1 rfl) rfl (allOne rfl) (by omega) (by show _ * 1 ≤ _; omega) rfl (fun A28 cc28 => ?_)
   refine Lpu rfl rfl ?_; refine L.nil ?_; refine QE.blkN ?_; refine QE.seq (C.region ?_); refine Lpu rfl rfl ?_; refine L.step (Ev.add rfl rfl (by omega) (by omega)) rfl ?_; refine Lpu rfl rfl ?_; refine L.nil ?_
   have he := inpF_succ b i
   rw [← hz] at he
   have hel : (inpF b (i + 1)).length = (inpF b i).length + 1 := by rw [he, List.length_append]; rfl
   refine QE.round (i := (i, A, c)) ((i + 1, A28, cc28)) (by dsimp only; omega) (by dsimp only; omega) (by exact Le.mk' (rs := [0]) (hs := [0]) ⟨rfl, rfl, rfl, (by dsimp only; rw [hel]; rfl), trivial⟩ ⟨rfl, trivial⟩ ⟨(congrArg some (own_eq hel.symm (by dsimp only; rw [he, ← U8_app]; rfl))), trivial⟩ (by decide))
 ·
  replace hc11 := of_decide_eq_false hc11
  refine C.exit ?_; refine QE.tX ?_; refine QE.tX ?_; refine QE.blk ?_; refine QE.seq (C.seq (C.region ?_)); refine Lpu rfl rfl ?_; refine Lpu rfl rfl ?_; refine L.nil (QE.seq (C.ret ?_)); refine QE.ret (js := []) (hs := [0]) (vs := [_]) rfl ⟨rfl, trivial⟩ (by decide) ?_
  obtain rfl : i = n := by omega
  exact ⟨A, c, rfl, rfl, rfl⟩

end Go.Proofs.YtpccfdnmnnnboaaGreat
end
