/-
  The search of the reference, as plain data.
-/
import Derived.Test.YtpccfdnmnnnboaaGreatQWOrC
import Derived.Test.YtpccfdnmnnnboaaGreatQWOrD
section
namespace Go.Sl

theorem find_at {α : Type} {q : α → Bool} {d : α} : ∀ {l : List α} {i : Nat}, (∀ j, j < i → q (l.getD j d) = false) → i < l.length → q (l.getD i d) = true → l.find? q = some (l.getD i d)
 | [], _, _, h, _ => absurd h (Nat.not_lt_zero _)
 | x :: l, 0, _, _, h => by
   have : q x = true := h
   simp [this]
 | x :: l, i + 1, h1, h2, h3 => by
   have h0 : q x = false := h1 0 (Nat.succ_pos _)
   have := find_at (l := l) (i := i) (d := d) (fun j hj => h1 (j + 1) (Nat.succ_lt_succ hj)) (Nat.lt_of_succ_lt_succ h2) h3
   simp only [List.find?_cons, h0]
   exact this
theorem find_not {α : Type} {q : α → Bool} {d : α} {l : List α} (h : ∀ j, j < l.length → q (l.getD j d) = false) : l.find? q = none := by
 rw [List.find?_eq_none]
 intro x hx
 obtain ⟨i, hi, rfl⟩ := List.mem_iff_getElem.1 hx
 have := h i hi
 simp only [List.getD_eq_getElem?_getD, List.getElem?_eq_getElem hi, Option.getD_some] at this
 rw [this]
 decide
def fullL (n : Nat) (p : Nat → Nat → Bool) (l : List Nat) : Bool := fullB n p (fun t => l.contains t)
def refR (ls : List (List Int)) : Option (List Nat) := srch (fun k => (stL k 0 ls.length).find? (fullL ls.length (rdP ls))) (ls.length + 1)
def refT (ls : List (List Int)) : Option (List Nat) := if readB ls = true ∧ ls.length ≤ 16 then refR ls else none
def refE (ls : List (List Int)) : Int := if readB ls = true then (if (refT ls).isSome = true then 0 else 2) else 1
def refQ (ls : List (List Int)) : List Nat := sqO ls.length (rdP ls) (refT ls)
def refH (ls : List (List Int)) : List Nat := (refT ls).getD []
section
variable {ls : List (List Int)}
theorem refT_no (h : readB ls = false ∨ 16 < ls.length) : refT ls = none := by
 unfold refT
 rw [if_neg]
 rintro ⟨h1, h2⟩
 rcases h with h | h
 · rw [h] at h1; cases h1
 · omega
theorem refT_ok (h : readB ls = true) (h2 : ls.length ≤ 16) : refT ls = refR ls := if_pos ⟨h, h2⟩
theorem ref_none (h : refT ls = none) : refQ ls = [] ∧ refH ls = [] ∧ refE ls = if readB ls = true then 2 else 1 := by
 unfold refQ refH refE
 rw [h]
 exact ⟨rfl, rfl, rfl⟩
theorem ref_some {l : List Nat} (h1 : readB ls = true) (h : refT ls = some l) : refQ ls = frs ls.length (rdP ls) (fun t => l.contains t) ls.length ∧ refH ls = l ∧ refE ls = 0 := by
 unfold refQ refH refE
 rw [h, if_pos h1]
 exact ⟨rfl, rfl, rfl⟩
theorem NL_st {L : List (List Nat)} {i : Nat} (h : i < L.length) (t : Nat) : ((NL L).getD i []).contains (t : Int) = (L.getD i []).contains t := by rw [NL_get h, NI_has]
end
end Go.Sl
end
/-
  The order of the reference; results held against each other.
-/
section
namespace Go.Proofs.YtpccfdnmnnnboaaGreat
open Go.Sl

set_option maxHeartbeats 1000000 in
theorem order21_c (LA : Option Addr) (ls : List (List Int)) (lc : Nat) (hs : List Hd) (hh : hs.length = ls.length) (hll : ls.length ≤ 9223372036854775807) (hlr : ∀ i, (ls.getD i []).length ≤ 9223372036854775807) :
   Ctr X 49 [.slice LA ls.length lc] [Rd LA (rowsV hs (J8 ls)), KidsR hs (J8 ls)] [] (fun v R' H' => ∃ (A B : Option Addr) (c d : Nat), v = .agg (List.toArray [.slice A (refQ ls).length c, .slice B (refH ls).length d, .int .i64 (refE ls)]) ∧ R' = [Rd A (I64 (NI (refQ ls))), Rd B (I64 (NI (refH ls)))] ∧ H' = []) := by
 refine Ctr.of (X := X) (fn := Tryz.f49) Tryz.func49 rfl (by kernel_rfl) rfl ?_
 intro β
 refine C.seq (C.region ?_)
 refine L.alloc rfl rfl rfl (fun A2 => ?_)
 refine L.nil (QE.seq (C.seq (C.seq (C.region ?_)))); refine Lpu rfl rfl ?_; refine L.call (js := []) (js' := [0]) (readings21_c LA ls lc hs hh hll hlr) rfl rfl rfl (by decide) (Hq [0, 1] rfl) rfl ?_
 rintro _ _ _ ⟨rfl, rfl, rfl⟩
 refine Lpu rfl rfl ?_; refine L.nil (QE.seq ?_)
 refine C.condB 9 rfl (fun hc9 => ?_) (fun hc9 => ?_)
 ·
  have hrb : readB ls = false := by simpa using hc9
  refine C.seq (C.region ?_); refine L.step (Ev.build rfl rfl rfl rfl rfl rfl rfl) rfl ?_; refine L.storeA (j := 0) rfl rfl rfl rfl rfl (Nat.zero_lt_succ _) rfl rfl ?_; refine L.nil (QE.seq (C.ret (QE.tR ?_))); refine QE.more (r := Rd none (I64 (NI []))) (Has.nil) ?_; refine QE.more (r := Rd none (I64 (NI []))) (Has.nil) ?_; refine QE.ret (js := [1, 0]) (hs := []) (vs := [_]) rfl ⟨⟨_, _, 0, _, rfl, rfl, Src.o 0 rfl, .inl ⟨rfl, by decide, _, rfl, rfl, rfl⟩⟩, trivial⟩ (by decide) ?_
  obtain ⟨e1, e2, e3⟩ := ref_none (refT_no (.inl hrb))
  refine ⟨none, none, 0, 0, ?_, ?_, rfl⟩
  · rw [e1, e2, e3]; first | rw [if_pos hrb] | rw [if_neg (by rw [hrb]; decide)]
    rfl
  · rw [e1, e2]; rfl
 ·
  have hrb : readB ls = true := by simpa using hc9
  refine C.skip (QE.seq (C.seq (C.seq (C.region ?_)))); refine Lpu rfl rfl ?_; refine Lpu rfl rfl ?_; refine Lpu rfl rfl ?_; refine L.nil (QE.seq ?_)
  refine C.condB 13 rfl (fun hc13 => ?_) (fun hc13 => ?_)
  ·
   replace hc13 := of_decide_eq_true hc13
   refine C.seq (C.region ?_); refine L.step (Ev.build rfl rfl rfl rfl rfl rfl rfl) rfl ?_; refine L.storeA (j := 0) rfl rfl rfl rfl rfl (Nat.zero_lt_succ _) rfl rfl ?_; refine L.nil (QE.seq (C.ret (QE.tR ?_))); refine QE.more (r := Rd none (I64 (NI []))) (Has.nil) ?_; refine QE.more (r := Rd none (I64 (NI []))) (Has.nil) ?_; refine QE.ret (js := [1, 0]) (hs := []) (vs := [_]) rfl ⟨⟨_, _, 0, _, rfl, rfl, Src.o 0 rfl, .inl ⟨rfl, by decide, _, rfl, rfl, rfl⟩⟩, trivial⟩ (by decide) ?_
   have hbig : 16 < ls.length := by omega
   obtain ⟨e1, e2, e3⟩ := ref_none (refT_no (.inr hbig))
   refine ⟨none, none, 0, 0, ?_, ?_, rfl⟩
   · rw [e1, e2, e3]; first | rw [if_pos hrb] | rw [if_neg (by rw [hrb]; decide)]
     rfl
   · rw [e1, e2]; rfl
  ·
   replace hc13 := of_decide_eq_false hc13
   refine C.skip (QE.seq (C.seq (C.seq (C.region ?_)))); refine Lpu rfl rfl ?_; refine L.nil (QE.seq (C.block ?_)); refine C.loop (fun k : Nat => [(0, .slice LA ls.length lc), (2, ptrOf A2 0), (3, .int .i64 (k : Int))]) (fun k : Nat => [Rd LA (rowsV hs (J8 ls)), KidsR hs (J8 ls)]) (fun k : Nat => [Own 101 3 A2 1 1 [.slice none 0 0, .slice none 0 0, .int .i64 0]]) (fun k : Nat => k ≤ ls.length + 1 ∧ srch (fun k => (stL k 0 ls.length).find? (fullL ls.length (rdP ls))) k = none) (fun k : Nat => ls.length + 1 - k) 0 ⟨Nat.zero_le _, rfl⟩ (by exact Le.mk' (rs := [0, 1]) (hs := [0]) ⟨rfl, rfl, rfl, trivial⟩ ⟨rfl, rfl, trivial⟩ ⟨rfl, trivial⟩ (by decide)) ?_
   rintro k ⟨hk, hsr⟩
   refine C.seq (C.seq (C.region ?_)); refine Lpu rfl rfl ?_; refine Lpu rfl rfl ?_; refine Lpu rfl rfl ?_; refine Lpu rfl rfl ?_; refine L.nil (QE.seq ?_)
   refine C.condB 18 rfl (fun hc18 => ?_) (fun hc18 => ?_)
   ·
    replace hc18 := of_decide_eq_true hc18
    refine C.skip (QE.seq (C.seq (C.block (C.seq (C.region ?_))))); refine Lpu rfl rfl ?_; refine Lpu rfl rfl ?_; refine Lpu rfl rfl ?_; refine L.callR (js := []) (js' := [0]) (stash_c k (by omega) 0 ls.length (by omega)) rfl rfl rfl (by decide) trivial rfl ?_
    rintro _ _ _ ⟨S, sc, ss, rfl, rfl, rfl, hss⟩
    refine Lpu rfl rfl ?_; refine L.nil (QE.seq (C.seq ?_)); refine C.freeze 0 rfl [1] (by decide) (by decide) ?_
    have hsl := stL_len k 0 ls.length
    have hp3 := two_pow_small (f := 0) (show ls.length ≤ 16 by omega)
    refine C.region ?_; refine Lpu rfl rfl ?_; refine L.nil (QE.seq (C.block ?_)); refine C.loop (fun i : Nat => [(0, .slice LA ls.length lc), (2, ptrOf A2 0), (3, .int .i64 (k : Int)), (4, .slice S (stL k 0 ls.length).length sc), (5, .int .i64 (i : Int))]) (fun i : Nat => [Rd S (rowsV ss (J8 (NL (stL k 0 ls.length)))), KidsR ss (J8 (NL (stL k 0 ls.length))), Rd LA (rowsV hs (J8 ls)), KidsR hs (J8 ls)]) (fun i : Nat => [Own 101 3 A2 1 1 [.slice none 0 0, .slice none 0 0, .int .i64 0]]) (fun i : Nat => i ≤ (stL k 0 ls.length).length ∧ ∀ j, j < i → fullL ls.length (rdP ls) ((stL k 0 ls.length).getD j []) = false) (fun i : Nat => (stL k 0 ls.length).length - i) 0 ⟨Nat.zero_le _, all_zero⟩ (by exact Le.mk' (rs := [0, 1, 2, 3]) (hs := [0]) ⟨rfl, rfl, rfl, rfl, rfl, trivial⟩ ⟨rfl, rfl, rfl, rfl, trivial⟩ ⟨rfl, trivial⟩ (by decide)) ?_
    rintro i ⟨hi, hi2⟩
    refine C.seq (C.seq (C.region ?_)); refine Lpu rfl rfl ?_; refine Lpu rfl rfl ?_; refine Lpu rfl rfl ?_; refine Lpu rfl rfl ?_; refine L.nil (QE.seq ?_)
    refine C.condB 28 rfl (fun hc28 => ?_) (fun hc28 => ?_)
    ·
     replace hc28 := of_decide_eq_true hc28
     refine C.skip (QE.seq (C.seq (C.block (C.seq ?_))))
     have hni := stL_get (k := k) (f := 0) (n := ls.length) (i := i) (by omega)
     refine C.region ?_; refine Lpu rfl rfl ?_; refine Lpu rfl rfl ?_; refine Lpu rfl rfl ?_; refine L.step (Ev.idx1 (k := i) rfl rfl rfl rfl rfl rfl rfl (by omega) (Src.r 0 rfl) (by rw [rowsV_len (by rw [J8_len, NL_len]; exact hss), J8_len, NL_len]; omega)) rfl ?_; refine L.step (Ev.load rfl rfl rfl (Src.r 0 rfl) (rowsJ_get (by rw [NL_len]; exact hss) (by rw [NL_len]; omega))) rfl ?_; refine L.call (js := []) (js' := [0]) (first21_c LA ls lc hs hh hll hlr hrb (by omega) ((NL (stL k 0 ls.length)).getD i []) (ss.getD i (none, 0)).1 (ss.getD i (none, 0)).2 (by rw [hni]; omega)) rfl rfl rfl (by decide) ⟨(Has.r 2 rfl), (Has.r 3 rfl), ((Has.kid 1 rfl (by rw [J8_len, NL_len]; exact hss) (i) (by rw [J8_len, NL_len]; omega)).cast (J8_get _)), trivial⟩ rfl ?_
     rintro _ _ _ ⟨A36, c36, rfl, rfl, rfl⟩
     have hfr : (frs ls.length (rdP ls) (fun t => ((NL (stL k 0 ls.length)).getD i []).contains (t : Int)) ls.length) = (frs ls.length (rdP ls) (fun t => ((stL k 0 ls.length).getD i []).contains t) ls.length) := frs_congr (fun t => NL_st (by omega) t) ls.length
     refine Lpu rfl rfl ?_; refine L.nil (QE.seq (C.seq (C.region ?_))); refine Lpu rfl rfl ?_; refine Lpu rfl rfl ?_; refine Lpu rfl rfl ?_; refine Lpu rfl rfl ?_; refine Lpu rfl rfl ?_; refine L.nil (QE.seq ?_)
     refine C.condB 41 rfl (fun hc41 => ?_) (fun hc41 => ?_)
     ·
      replace hc41 := i_eq hc41
      have hyes : fullL ls.length (rdP ls) ((stL k 0 ls.length).getD i []) = true := full_iff.2 (by rw [← hfr]; omega)
      refine C.seq ?_; refine C.freeze 0 rfl [1] (by decide) (by decide) ?_; refine C.region ?_; refine Lpu rfl rfl ?_; refine Lpu rfl rfl ?_; refine Lpu rfl rfl ?_; refine L.step (Ev.idx1 (k := i) rfl rfl rfl rfl rfl rfl rfl (by omega) (Src.r 1 rfl) (by rw [rowsV_len (by rw [J8_len, NL_len]; exact hss), J8_len, NL_len]; omega)) rfl ?_; refine L.step (Ev.load rfl rfl rfl (Src.r 1 rfl) (rowsJ_get (by rw [NL_len]; exact hss) (by rw [NL_len]; omega))) rfl ?_; refine L.step (Ev.build rfl rfl rfl rfl rfl rfl rfl) rfl ?_; refine L.storeA (j := 0) rfl rfl rfl rfl rfl (Nat.zero_lt_succ _) rfl rfl ?_; refine L.nil (QE.seq (C.ret (QE.bR (QE.tR (QE.tR (QE.bR (QE.bR (QE.tR (QE.tR (QE.bR (QE.tR ?_))))))))))); refine QE.more (r := Rd (ss.getD i (none, 0)).1 (I64 ((NL (stL k 0 ls.length)).getD i []))) (((Has.kid 2 rfl (by rw [J8_len, NL_len]; exact hss) (i) (by rw [J8_len, NL_len]; omega)).cast (J8_get _))) ?_; refine QE.ret (js := [1, 0]) (hs := []) (vs := [_]) rfl ⟨⟨_, _, 0, _, rfl, rfl, Src.o 0 rfl, .inl ⟨rfl, by decide, _, rfl, rfl, rfl⟩⟩, trivial⟩ (by decide) ?_
      have hT : refT ls = some ((stL k 0 ls.length).getD i []) := by
        rw [refT_ok hrb (by omega)]
        exact srch_found hsr (find_at (d := []) hi2 (by omega) hyes) (by omega)
      obtain ⟨e1, e2, e3⟩ := ref_some hrb hT
      have hnl : (NL (stL k 0 ls.length)).getD i [] = NI ((stL k 0 ls.length).getD i []) := NL_get (by omega)
      refine ⟨A36, (ss.getD i (none, 0)).1, c36, (ss.getD i (none, 0)).2, ?_, ?_, rfl⟩
      · rw [e1, e2, e3, ← hfr, show ((stL k 0 ls.length).getD i []).length = ((NL (stL k 0 ls.length)).getD i []).length from by rw [hnl, NI_len]]; rfl
      · rw [e1, e2, ← hfr, ← hnl]; rfl
     ·
      replace hc41 := i_ne hc41
      have hno : fullL ls.length (rdP ls) ((stL k 0 ls.length).getD i []) = false := full_no.2 (by rw [← hfr]; omega)
      refine C.skip ?_; refine QE.blkN ?_; refine QE.seq (C.region ?_); refine Lpu rfl rfl ?_; refine L.step (Ev.add rfl rfl (by omega) (by omega)) rfl ?_; refine Lpu rfl rfl ?_; refine L.nil ?_
      refine QE.round (i + 1) (by exact ⟨by omega, all_step hi2 hno⟩) (by omega) (by exact Le.mk' (rs := [0, 1, 2, 3]) (hs := [1]) ⟨rfl, rfl, rfl, rfl, rfl, trivial⟩ ⟨rfl, rfl, rfl, rfl, trivial⟩ ⟨rfl, trivial⟩ (by decide))
    ·
     replace hc28 := of_decide_eq_false hc28
     refine C.exit ?_; refine QE.tX ?_; refine QE.tX ?_; refine QE.blk ?_; refine QE.blkN ?_; refine QE.seq (C.region ?_); refine Lpu rfl rfl ?_; refine L.step (Ev.add rfl rfl (by omega) (by omega)) rfl ?_; refine Lpu rfl rfl ?_; refine L.nil ?_
     refine QE.round (k + 1) (by exact ⟨by omega, srch_none hsr (find_not (d := []) (fun j hj => hi2 j (by omega)))⟩) (by omega) (by exact Le.mk' (rs := [2, 3]) (hs := [0]) ⟨rfl, rfl, rfl, trivial⟩ ⟨rfl, rfl, trivial⟩ ⟨rfl, trivial⟩ (by decide))
   ·
    replace hc18 := of_decide_eq_false hc18
    refine C.exit ?_; refine QE.tX ?_; refine QE.tX ?_; refine QE.blk ?_; refine QE.seq (C.seq (C.region ?_)); refine L.step (Ev.build rfl rfl rfl rfl rfl rfl rfl) rfl ?_; refine L.storeA (j := 0) rfl rfl rfl rfl rfl (Nat.zero_lt_succ _) rfl rfl ?_; refine L.nil (QE.seq (C.ret ?_)); refine QE.more (r := Rd none (I64 (NI []))) (Has.nil) ?_; refine QE.more (r := Rd none (I64 (NI []))) (Has.nil) ?_; refine QE.ret (js := [1, 0]) (hs := []) (vs := [_]) rfl ⟨⟨_, _, 0, _, rfl, rfl, Src.o 0 rfl, .inl ⟨rfl, by decide, _, rfl, rfl, rfl⟩⟩, trivial⟩ (by decide) ?_
    obtain ⟨e1, e2, e3⟩ := ref_none (by
      rw [refT_ok hrb (by omega)]
      have : k = ls.length + 1 := by omega
      rw [this] at hsr
      exact hsr)
    refine ⟨none, none, 0, 0, ?_, ?_, rfl⟩
    · rw [e1, e2, e3]; first | rw [if_pos hrb] | rw [if_neg (by rw [hrb]; decide)]
      rfl
    · rw [e1, e2]; rfl

end Go.Proofs.YtpccfdnmnnnboaaGreat
end
/-
  Patches without bytes of their own, as plain data.
-/
section
namespace Go.Sl

structure Po where
 k : Int
 fr : Int
 ln : Int
 b : UInt8
def Po.cells (x : Po) : List Value := [.int .i64 x.k, .int .i64 x.fr, .int .i64 x.ln, .int .u8 (x.b.toNat : Int), .slice none 0 0]
def Po.zero : Po := ⟨0, 0, 0, 0⟩
def opsV (l : List Po) : List Value := l.flatMap Po.cells
theorem opsV_len (l : List Po) : (opsV l).length = l.length * 5 := by
 induction l with
 | nil => rfl
 | cons r l ih => rw [show opsV (r :: l) = r.cells ++ opsV l from rfl, List.length_append, ih]; simp [Po.cells]; omega
theorem opsV_at : ∀ (l : List Po) (k : Nat), k < l.length → ((opsV l).drop (k * 5)).take 5 = (l.getD k Po.zero).cells
 | [], _, h => absurd h (Nat.not_lt_zero _)
 | _ :: _, 0, _ => rfl
 | _ :: l, k + 1, h => by
   rw [show (k + 1) * 5 = k * 5 + 5 from by omega]
   exact opsV_at l k (by simpa using h)
theorem ops_pos {l : List Po} {k : Nat} (hk : k < l.length) : 0 < (opsV l).length := by rw [opsV_len]; omega
theorem opsV_app (a b : List Po) : opsV (a ++ b) = opsV a ++ opsV b := by simp [opsV]
def insB (x : Po) (size : Int) : Bool := decide (0 ≤ x.fr ∧ x.fr ≤ size - x.ln)
def rightB (x : Po) (size : Int) : Bool :=
 if x.k = 1 then insB x size && decide ((x.b.toNat : Int) = 0) else if x.k = 2 then insB x size && decide ((x.b.toNat : Int) = 0) && decide (x.ln = 0) else if x.k = 3 then decide (x.fr = 0) else if x.k = 4 then decide (x.fr = 0) && decide ((x.b.toNat : Int) = 0) && decide (x.ln = 0) else false
def kindT (x : Po) (t1 t2 t3 t4 t0 : Nat) : Nat := if x.k = 1 then t1 else if x.k = 2 then t2 else if x.k = 3 then t3 else if x.k = 4 then t4 else t0
def kindP (x : Po) : Value := if x.k = 1 ∨ x.k = 2 ∨ x.k = 3 ∨ x.k = 4 then .agg (List.toArray x.cells) else .agg (List.toArray [])
def chkG (size : Int) : Int → List Po → Bool
 | left, [] => decide (left ≤ 0)
 | left, x :: xs => if x.ln < 1 ∨ left < x.ln ∨ rightB x size = false then false else chkG size (left - x.ln) xs
def chkE (inn out : Int) (l : List Po) : Int := if min inn out < 0 ∨ 65536 < max inn out ∨ 4096 < l.length then 60 else if chkG inn out l = true then 0 else 60
theorem drop_po {l : List Po} {i : Nat} (h : i < l.length) : l.drop i = l.getD i Po.zero :: l.drop (i + 1) := by
 rw [List.drop_eq_getElem_cons h]
 simp [List.getD_eq_getElem?_getD, h]
theorem chkG_no {size left : Int} {l : List Po} {i : Nat} (h : i < l.length) (hb : (l.getD i Po.zero).ln < 1 ∨ left < (l.getD i Po.zero).ln ∨ rightB (l.getD i Po.zero) size = false) : chkG size left (l.drop i) = false := by
 rw [drop_po h, chkG, if_pos hb]
theorem chkG_step {size left : Int} {l : List Po} {i : Nat} (h : i < l.length) (h1 : ¬(l.getD i Po.zero).ln < 1) (h2 : ¬left < (l.getD i Po.zero).ln) (h3 : rightB (l.getD i Po.zero) size = true) : chkG size left (l.drop i) = chkG size (left - (l.getD i Po.zero).ln) (l.drop (i + 1)) := by
 rw [drop_po h, chkG, if_neg (by
   rintro (q | q | q)
   · exact h1 q
   · exact h2 q
   · rw [h3] at q; cases q)]
theorem chkG_end {size left : Int} {l : List Po} {i : Nat} (h : l.length ≤ i) : chkG size left (l.drop i) = decide (left ≤ 0) := by
 rw [List.drop_eq_nil_of_le h, chkG]
/-! ### Symbols -/
structure Sy where
 old : Bool
 at_ : Int
 b : UInt8
 deriving DecidableEq
def Sy.cells (s : Sy) : List Value := [.bool s.old, .int .i64 s.at_, .int .u8 (s.b.toNat : Int)]
def Sy.zero : Sy := ⟨false, 0, 0⟩
def symsV (l : List Sy) : List Value := l.flatMap Sy.cells
theorem symsV_len (l : List Sy) : (symsV l).length = l.length * 3 := by
 induction l with
 | nil => rfl
 | cons r l ih => rw [show symsV (r :: l) = r.cells ++ symsV l from rfl, List.length_append, ih]; simp [Sy.cells]; omega
theorem symsV_at : ∀ (l : List Sy) (k : Nat), k < l.length → ((symsV l).drop (k * 3)).take 3 = (l.getD k Sy.zero).cells
 | [], _, h => absurd h (Nat.not_lt_zero _)
 | _ :: _, 0, _ => rfl
 | _ :: l, k + 1, h => by
   rw [show (k + 1) * 3 = k * 3 + 3 from by omega]
   exact symsV_at l k (by simpa using h)
theorem syms_pos {l : List Sy} {k : Nat} (hk : k < l.length) : 0 < (symsV l).length := by rw [symsV_len]; omega
theorem symsV_app (a b : List Sy) : symsV (a ++ b) = symsV a ++ symsV b := by simp [symsV]
def symO (x : Po) (i : Nat) : Sy := if x.k = 1 then ⟨true, x.fr + (i : Int), 0⟩ else ⟨false, 0, x.b⟩
def symX (x : Po) (m : Nat) : List Sy := (List.range m).map (symO x)
theorem symX_len (x : Po) (m : Nat) : (symX x m).length = m := by simp [symX]
theorem symX_succ (x : Po) (m : Nat) : symX x (m + 1) = symX x m ++ [symO x m] := by simp [symX, List.range_succ]
def symL (l : List Po) : List Sy := l.flatMap fun x => symX x x.ln.toNat
theorem symL_snoc (l : List Po) (i : Nat) (h : i < l.length) : symL (l.take (i + 1)) = symL (l.take i) ++ symX (l.getD i Po.zero) (l.getD i Po.zero).ln.toNat := by
 rw [take_snoc' l Po.zero i h]
 simp [symL]
theorem chkG_len {size : Int} : ∀ (l : List Po) (left : Int), 0 ≤ left → chkG size left l = true → ((symL l).length : Int) ≤ left
 | [], left, h0, _ => h0
 | x :: l, left, h0, h => by
   rw [chkG] at h
   split at h
   · cases h
   · rename_i hb
     have ih := chkG_len l (left - x.ln) (by omega) h
     rw [show symL (x :: l) = symX x x.ln.toNat ++ symL l from rfl, List.length_append, symX_len]
     omega
theorem symL_pre (l : List Po) (i j : Nat) (h : i < l.length) (hj : j ≤ (l.getD i Po.zero).ln.toNat) : (symL (l.take i) ++ symX (l.getD i Po.zero) j).length ≤ (symL l).length := by
 have e : symL l = symL (l.take (i + 1)) ++ symL (l.drop (i + 1)) := by
   unfold symL
   rw [← List.flatMap_append, List.take_append_drop]
 rw [e, symL_snoc l i h]
 simp only [List.length_append, symX_len]
 omega
theorem chkG_get {size : Int} : ∀ (l : List Po) (left : Int), chkG size left l = true → ∀ i, i < l.length → 1 ≤ (l.getD i Po.zero).ln ∧ (l.getD i Po.zero).ln ≤ left ∧ rightB (l.getD i Po.zero) size = true
 | x :: l, left, h, i, hi => by
   rw [chkG] at h
   split at h
   · cases h
   · rename_i hb
     cases i with
     | zero =>
       show 1 ≤ x.ln ∧ x.ln ≤ left ∧ rightB x size = true
       refine ⟨by omega, by omega, ?_⟩
       cases hr : rightB x size with
       | true => rfl
       | false => exact absurd (.inr (.inr hr)) hb
     | succ i =>
       have := chkG_get l (left - x.ln) h i (Nat.lt_of_succ_lt_succ hi)
       show 1 ≤ (l.getD i Po.zero).ln ∧ (l.getD i Po.zero).ln ≤ left ∧ rightB (l.getD i Po.zero) size = true
       exact ⟨this.1, by omega, this.2.2⟩
def syS (inn out : Int) (l : List Po) : List Sy := if chkE inn out l = 0 then symL l else []
theorem symO_one (x : Po) (i : Nat) : ∀ v ∈ (symO x i).cells, v.oneCell' = true := by
 intro v hv
 simp only [Sy.cells, List.mem_cons, List.not_mem_nil, or_false] at hv
 rcases hv with rfl | rfl | rfl <;> rfl
theorem chkE_ok {inn out : Int} {l : List Po} (h : chkE inn out l = 0) : 0 ≤ inn ∧ inn ≤ 65536 ∧ 0 ≤ out ∧ out ≤ 65536 ∧ l.length ≤ 4096 ∧ chkG inn out l = true := by
 unfold chkE at h
 split at h
 · cases h
 · split at h
   · rename_i h1 h2
     exact ⟨by omega, by omega, by omega, by omega, by omega, h2⟩
   · cases h
end Go.Sl
end
