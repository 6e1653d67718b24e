/-
  The plans that the laws speak of.
-/
import Derived.Test.YtpccfdnmnnnboaaGreatRTg
section
namespace Go.Proofs.YtpccfdnmnnnboaaGreat
open Go.Sl

theorem halves_c  :
   Ctr X 38 [] [] [] (fun v R' H' => ∃ (O : Option Addr), v = .agg (List.toArray [.bool false, .int .i64 4, .int .i64 4, .slice O 2 2]) ∧ R' = [Rd O (opsV [⟨1, 2, 2, 0⟩, ⟨1, 0, 2, 0⟩])] ∧ H' = []) := by
 refine Ctr.of (X := X) (fn := Tryz.f38) Tryz.func38 rfl (by kernel_rfl) rfl ?_
 intro β
 refine C.seq (C.region ?_)
 refine L.alloc rfl rfl rfl (fun A0 => ?_)
 refine L.nil (QE.seq (C.seq (C.region ?_))); refine L.step (Ev.build rfl rfl rfl rfl rfl rfl rfl) rfl ?_; refine L.step (Ev.build rfl rfl rfl rfl rfl rfl rfl) rfl ?_
 refine L.lit2S (sz := 5) (cs := Po.cells ⟨1, 2, 2, 0⟩) (cs' := Po.cells ⟨1, 0, 2, 0⟩) rfl rfl rfl rfl rfl rfl (Nat.zero_lt_succ _) rfl rfl rfl rfl (fun A3 => ?_)
 refine L.step (Ev.build rfl rfl rfl rfl rfl rfl rfl) rfl ?_; refine L.storeA (j := 0) rfl rfl rfl rfl rfl (Nat.zero_lt_succ _) rfl rfl ?_; refine L.nil (QE.seq (C.ret ?_)); refine QE.freeze 1 rfl [0] (by decide) (by decide) ?_; refine QE.norm (H' := [_]) [0] ⟨rfl, trivial⟩ (by decide) ?_; refine QE.ret (js := [0]) (hs := []) (vs := [_]) rfl ⟨⟨_, _, 0, _, rfl, rfl, Src.o 0 rfl, .inl ⟨rfl, by decide, _, rfl, rfl, rfl⟩⟩, trivial⟩ (by decide) ?_
 exact ⟨A3, rfl, rfl, rfl⟩

end Go.Proofs.YtpccfdnmnnnboaaGreat
end
/-
  What is lacking, as plain data.
-/
section
namespace Go.Sl

def leftI (lim : Int) (wear : List Int) (dead : List Bool) (i : Int) : Int := if dead.getD i.toNat false = true then 0 else lim - wear.getD i.toNat 0
def maxL (g : Int → Int) (l : List Int) (m : Int) : Int := l.foldl (fun a i => max a (g i)) m
def minL (g : Int → Int) (l : List Int) (m : Int) : Int := l.foldl (fun a i => min a (g i)) m
section
variable {g : Int → Int} {l : List Int} {m : Int} {k : Nat}
theorem maxL_succ (h : k < l.length) : maxL g (l.take (k + 1)) m = max (maxL g (l.take k) m) (g (l.getD k 0)) := by
 unfold maxL
 rw [take_snoc' l 0 k h, List.foldl_append]
 rfl
theorem minL_succ (h : k < l.length) : minL g (l.take (k + 1)) m = min (minL g (l.take k) m) (g (l.getD k 0)) := by
 unfold minL
 rw [take_snoc' l 0 k h, List.foldl_append]
 rfl
theorem minL_app (a b : List Int) : minL g (a ++ b) m = minL g b (minL g a m) := by unfold minL; rw [List.foldl_append]
theorem minL_bd {c : Int} (hg : ∀ x ∈ l, -c ≤ g x ∧ g x ≤ c) (hm : -c ≤ m ∧ m ≤ c) : -c ≤ minL g l m ∧ minL g l m ≤ c := by
 induction l generalizing m with
 | nil => exact hm
 | cons a l ih =>
   have h1 := hg a (by simp)
   exact ih (m := min m (g a)) (fun x hx => hg x (by simp [hx])) ⟨by omega, by omega⟩
theorem maxL_bd {c : Int} (hg : ∀ x ∈ l, -c ≤ g x ∧ g x ≤ c) (hm : -c ≤ m ∧ m ≤ c) : -c ≤ maxL g l m ∧ maxL g l m ≤ c := by
 induction l generalizing m with
 | nil => exact hm
 | cons a l ih =>
   have h1 := hg a (by simp)
   exact ih (m := max m (g a)) (fun x hx => hg x (by simp [hx])) ⟨by omega, by omega⟩
end
/-- All sectors that a need looks at. -/
def allL (ns : Nat) (j0 j1 s0 s1 : Int) (undo st : List Int) (nu nS : Nat) : List Int := NI (List.range ns) ++ [j0, j1, s0, s1] ++ undo.take (min nu undo.length) ++ st.take (min nS st.length)
def leastI (lim : Int) (wear : List Int) (dead : List Bool) (ns : Nat) (j0 j1 s0 s1 : Int) (stage undo st : List Int) (nu nS : Nat) : Int :=
 minL (leftI lim wear dead) (allL ns j0 j1 s0 s1 undo st nu nS) (maxL (leftI lim wear dead) stage 0)
def lkS (l : List (Int × Int)) (w b : Int) : List (Int × Int) := if 0 < b then l ++ [(w, b)] else l
def lkV (l : List (Int × Int)) : List Value := l.flatMap fun r => [.int .i64 r.1, .int .i64 r.2]
theorem lkV_len (l : List (Int × Int)) : (lkV l).length = l.length * 2 := by
 induction l with
 | nil => rfl
 | cons r l ih => rw [show lkV (r :: l) = [.int .i64 r.1, .int .i64 r.2] ++ lkV l from rfl, List.length_append, ih]; simp; omega
theorem lkV_app (a b : List (Int × Int)) : lkV a ++ lkV b = lkV (a ++ b) := by simp [lkV]
theorem lkV_at : ∀ (l : List (Int × Int)) (k : Nat), k < l.length → ((lkV l).drop (k * 2)).take 2 = [.int .i64 (l.getD k (0, 0)).1, .int .i64 (l.getD k (0, 0)).2]
 | [], _, h => absurd h (Nat.not_lt_zero _)
 | _ :: _, 0, _ => rfl
 | _ :: l, k + 1, h => by
   rw [show (k + 1) * 2 = k * 2 + 2 from by omega]
   exact lkV_at l k (by simpa using h)
theorem lkV_get : ∀ (l : List (Int × Int)) (k q : Nat), k < l.length → q < 2 → (lkV l)[k * 2 + q]? = [Value.int .i64 (l.getD k (0, 0)).1, .int .i64 (l.getD k (0, 0)).2][q]?
 | [], _, _, h, _ => absurd h (Nat.not_lt_zero _)
 | _ :: _, 0, 0, _, _ => rfl
 | _ :: _, 0, 1, _, _ => rfl
 | _ :: l, k + 1, q, h, hq => by
   rw [show (k + 1) * 2 + q = k * 2 + q + 2 from by omega]
   exact lkV_get l k q (by simpa using h) hq
theorem lk_pos {l : List (Int × Int)} {k : Nat} (h : k < l.length) : 0 < (lkV l).length := by rw [lkV_len]; omega
theorem lkV_one (l : List (Int × Int)) : ∀ v ∈ lkV l, v.oneCell' = true := by
 intro v hv
 obtain ⟨r, _, h⟩ := List.mem_flatMap.1 hv
 simp only [List.mem_cons, List.not_mem_nil, or_false] at h
 rcases h with rfl | rfl <;> rfl
def lkB (a b c d : Int) (i : Nat) : Int := [a, b, c, d].getD i 0
def lkN (a b c d : Int) : Nat → List (Int × Int)
 | 0 => []
 | i + 1 => lkS (lkN a b c d i) (1 + (i : Int)) (lkB a b c d i)
theorem lkN_len (a b c d : Int) : ∀ i, (lkN a b c d i).length ≤ i
 | 0 => Nat.le_refl _
 | i + 1 => by
   have ih := lkN_len a b c d i
   rw [lkN, lkS]
   split
   · rw [List.length_append]
     exact Nat.succ_le_succ ih
   · omega
end Go.Sl
end
/-
  What is lacking, of the program and of the reference.
-/
section
namespace Go.Proofs.YtpccfdnmnnnboaaGreat
open Go.Sl

theorem one_in {m i : Nat} (h : i < m) : ∀ k, k < [((i : Nat) : Int)].length → 0 ≤ [((i : Nat) : Int)].getD k 0 ∧ [((i : Nat) : Int)].getD k 0 < (m : Int) := by
 intro k hk
 obtain rfl : k = 0 := by simpa using hk
 show 0 ≤ ((i : Nat) : Int) ∧ ((i : Nat) : Int) < (m : Int)
 omega
theorem two_in {m : Nat} {a b : Int} (ha : 0 ≤ a ∧ a < (m : Int)) (hb : 0 ≤ b ∧ b < (m : Int)) : ∀ k, k < [a, b].length → 0 ≤ [a, b].getD k 0 ∧ [a, b].getD k 0 < (m : Int)
 | 0, _ => ha
 | 1, _ => hb
 | k + 2, h => absurd h (by simp)
theorem take_in {m j : Nat} {l : List Int} (h : ∀ i, i < l.length → 0 ≤ l.getD i 0 ∧ l.getD i 0 < (m : Int)) : ∀ k, k < (l.take j).length → 0 ≤ (l.take j).getD k 0 ∧ (l.take j).getD k 0 < (m : Int) := by
 intro k hk
 rw [List.length_take] at hk
 rw [List.getD_eq_getElem?_getD, List.getElem?_take_of_lt (by omega), ← List.getD_eq_getElem?_getD]
 exact h k (by omega)
theorem min_range {g : Int → Int} {i : Nat} {m : Int} : minL g (NI (List.range (i + 1))) m = minL g [((i : Nat) : Int)] (minL g (NI (List.range i)) m) := by
 rw [List.range_succ, NI_app, minL_app]
 rfl

theorem left1_c (fs : Int) (dv : Value) (WA EA : Option Addr) (wear : List Int) (dead : List Bool) (lim : Int) (wc ec : Nat) (FA : Option Addr) (i : Int) (hi : 0 ≤ i ∧ i < (wear.length : Int)) (hlim : 0 ≤ lim ∧ lim ≤ 1000000) (hwe : ∀ i, 0 ≤ wear.getD i 0 ∧ wear.getD i 0 ≤ 1000000) (hde : dead.length = wear.length) (hwl : wear.length ≤ 1000000) :
   Ctr X 79 [.int .i64 i, ptrOf FA 0] [Rd FA [.int .i64 fs, dv, .slice WA wear.length wc, .int .i64 lim, .slice EA dead.length ec], Rd WA (I64 wear), Rd EA (Bs dead)] [] (fun v R' H' => v = .int .i64 (leftI lim wear dead i) ∧ R' = [] ∧ H' = []) := by
 refine Ctr.of (X := X) (fn := Tryz.f79) Tryz.func79 rfl (by kernel_rfl) rfl ?_
 intro β
 have hw := hwe i.toNat
 refine C.seq (C.region ?_); refine Lpu rfl rfl ?_; refine L.nil (QE.seq (C.seq (C.seq (C.region ?_)))); refine L.step (Ev.fieldAddr rfl rfl rfl rfl rfl rfl (Src.r 0 rfl) (Nat.zero_lt_succ _) rfl) rfl ?_; refine L.step (Ev.load rfl rfl rfl (Src.r 0 rfl) rfl) rfl ?_; refine Lpu rfl rfl ?_; refine L.step (Ev.idx1 (k := i.toNat) rfl rfl rfl rfl rfl rfl (by omega) (by omega) (Src.r 2 rfl) (by rw [Bs_len]; omega)) rfl ?_; refine L.step (Ev.load rfl rfl rfl (Src.r 2 rfl) (Bs_get (by omega))) rfl ?_; refine L.nil (QE.seq ?_)
 refine C.condB 8 rfl (fun hc8 => ?_) (fun hc8 => ?_)
 ·
  refine C.seq (C.region ?_); refine Lpu rfl rfl ?_; refine L.nil (QE.seq (C.ret (QE.tR ?_))); refine QE.ret (js := []) (hs := []) (vs := [_]) rfl ⟨rfl, trivial⟩ (by decide) ?_
  refine ⟨congrArg (Value.int .i64) ?_, rfl, rfl⟩
  unfold leftI
  rw [if_pos (hc8)]
 ·
  refine C.skip (QE.seq (C.seq ?_)); refine C.regionQ (by kernel_rfl) ?_; refine LQ.step (Ev.fieldAddr rfl rfl rfl rfl rfl rfl (Src.r 0 rfl) (Nat.zero_lt_succ _) rfl) rfl ?_; refine LQ.step (Ev.load rfl rfl rfl (Src.r 0 rfl) rfl) rfl ?_; refine LQ.step (Ev.fieldAddr rfl rfl rfl rfl rfl rfl (Src.r 0 rfl) (Nat.zero_lt_succ _) rfl) rfl ?_; refine LQ.step (Ev.load rfl rfl rfl (Src.r 0 rfl) rfl) rfl ?_; refine LQ.step (Ev.pure rfl) rfl ?_; refine LQ.step (Ev.idx1 (k := i.toNat) rfl rfl rfl rfl rfl rfl (by omega) (by omega) (Src.r 1 rfl) (by rw [I64_len]; omega)) rfl ?_; refine LQ.step (Ev.load rfl rfl rfl (Src.r 1 rfl) (I64_get (by omega))) rfl ?_; refine LQ.step (Ev.sub rfl rfl (by omega) (by omega)) rfl ?_; refine LQ.step (Ev.pure rfl) rfl ?_; refine LQ.nil ?_; refine QE.seq (C.ret ?_); refine QE.ret (js := []) (hs := []) (vs := [_]) rfl ⟨rfl, trivial⟩ (by decide) ?_
  refine ⟨congrArg (Value.int .i64) ?_, rfl, rfl⟩
  unfold leftI
  rw [if_neg (by rw [hc8]; decide)]

theorem leftR_c (fs : Int) (dv : Value) (WA EA : Option Addr) (wear : List Int) (dead : List Bool) (lim : Int) (wc ec : Nat) (i : Int) (hi : 0 ≤ i ∧ i < (wear.length : Int)) (hlim : 0 ≤ lim ∧ lim ≤ 1000000) (hwe : ∀ i, 0 ≤ wear.getD i 0 ∧ wear.getD i 0 ≤ 1000000) (hde : dead.length = wear.length) (hwl : wear.length ≤ 1000000) :
   Ctr X 82 [.agg (List.toArray [.int .i64 fs, dv, .slice WA wear.length wc, .int .i64 lim, .slice EA dead.length ec]), .int .i64 i] [Rd WA (I64 wear), Rd EA (Bs dead)] [] (fun v R' H' => v = .int .i64 (leftI lim wear dead i) ∧ R' = [] ∧ H' = []) := by
 refine Ctr.of (X := X) (fn := Tryz.f82) Tryz.func82 rfl (by kernel_rfl) rfl ?_
 intro β
 have hw := hwe i.toNat
 refine C.seq (C.region ?_)
 refine L.boxA rfl rfl (fun A2 => ?_)
 refine Lpu rfl rfl ?_; refine L.nil (QE.seq (C.seq (C.seq ?_))); refine C.freeze 0 rfl [] (by decide) (by decide) ?_; refine C.region ?_; refine L.step (Ev.fieldAddr rfl rfl rfl rfl rfl rfl (Src.r 0 rfl) (Nat.zero_lt_succ _) rfl) rfl ?_; refine L.step (Ev.load rfl rfl rfl (Src.r 0 rfl) rfl) rfl ?_; refine Lpu rfl rfl ?_; refine L.step (Ev.idx1 (k := i.toNat) rfl rfl rfl rfl rfl rfl (by omega) (by omega) (Src.r 2 rfl) (by rw [Bs_len]; omega)) rfl ?_; refine L.step (Ev.load rfl rfl rfl (Src.r 2 rfl) (Bs_get (by omega))) rfl ?_; refine L.nil (QE.seq ?_)
 refine C.condB 9 rfl (fun hc9 => ?_) (fun hc9 => ?_)
 ·
  refine C.seq (C.region ?_); refine Lpu rfl rfl ?_; refine L.nil (QE.seq (C.ret (QE.tR ?_))); refine QE.ret (js := []) (hs := []) (vs := [_]) rfl ⟨rfl, trivial⟩ (by decide) ?_
  refine ⟨congrArg (Value.int .i64) ?_, rfl, rfl⟩
  unfold leftI
  rw [if_pos (hc9)]
 ·
  refine C.skip (QE.seq (C.seq ?_)); refine C.regionQ (by kernel_rfl) ?_; refine LQ.step (Ev.fieldAddr rfl rfl rfl rfl rfl rfl (Src.r 0 rfl) (Nat.zero_lt_succ _) rfl) rfl ?_; refine LQ.step (Ev.load rfl rfl rfl (Src.r 0 rfl) rfl) rfl ?_; refine LQ.step (Ev.fieldAddr rfl rfl rfl rfl rfl rfl (Src.r 0 rfl) (Nat.zero_lt_succ _) rfl) rfl ?_; refine LQ.step (Ev.load rfl rfl rfl (Src.r 0 rfl) rfl) rfl ?_; refine LQ.step (Ev.pure rfl) rfl ?_; refine LQ.step (Ev.idx1 (k := i.toNat) rfl rfl rfl rfl rfl rfl (by omega) (by omega) (Src.r 1 rfl) (by rw [I64_len]; omega)) rfl ?_; refine LQ.step (Ev.load rfl rfl rfl (Src.r 1 rfl) (I64_get (by omega))) rfl ?_; refine LQ.step (Ev.sub rfl rfl (by omega) (by omega)) rfl ?_; refine LQ.step (Ev.pure rfl) rfl ?_; refine LQ.nil ?_; refine QE.seq (C.ret ?_); refine QE.ret (js := []) (hs := []) (vs := [_]) rfl ⟨rfl, trivial⟩ (by decide) ?_
  refine ⟨congrArg (Value.int .i64) ?_, rfl, rfl⟩
  unfold leftI
  rw [if_neg (by rw [hc9]; decide)]

set_option maxHeartbeats 1000000 in
theorem use_c (fs : Int) (dv : Value) (WA EA : Option Addr) (wear : List Int) (dead : List Bool) (lim : Int) (wc ec : Nat) (FA TA GA XA : Option Addr) (xs : List Int) (xc xl : Nat) (hxl0 : xs.length = xl) (m : Int) (hx : ∀ i, i < xs.length → 0 ≤ xs.getD i 0 ∧ xs.getD i 0 < (wear.length : Int)) (hxl : xs.length ≤ 1000000) (hlim : 0 ≤ lim ∧ lim ≤ 1000000) (hwe : ∀ i, 0 ≤ wear.getD i 0 ∧ wear.getD i 0 ≤ 1000000) (hde : dead.length = wear.length) (hwl : wear.length ≤ 1000000) :
   Ctr X 80 [.slice XA xl xc, ptrOf TA 0, ptrOf GA 0] [Rd FA [.int .i64 fs, dv, .slice WA wear.length wc, .int .i64 lim, .slice EA dead.length ec], Rd WA (I64 wear), Rd EA (Bs dead), Rd GA [.func (.func 79) #[] #[ptrOf FA 0]], Rd XA (I64 xs)] [Own 3 1 TA 1 1 [.int .i64 m]] (fun v R' H' => v = .tuple #[] ∧ R' = [] ∧ H' = [Own 3 1 TA 1 1 [.int .i64 (minL (leftI lim wear dead) xs m)]]) := by
 refine Ctr.of (X := X) (fn := Tryz.f80) Tryz.func80 rfl (by kernel_rfl) rfl ?_
 intro β
 subst hxl0
 refine C.seq (C.region ?_); refine Lpu rfl rfl ?_; refine Lpu rfl rfl ?_; refine Lpu rfl rfl ?_; refine L.nil (QE.seq (C.block ?_)); refine C.loop (fun k : Nat => [(1, ptrOf TA 0), (2, ptrOf GA 0), (6, .slice XA xs.length xc), (7, .int .i64 (xs.length : Int)), (8, .int .i64 (k : Int))]) (fun k : Nat => [Rd FA [.int .i64 fs, dv, .slice WA wear.length wc, .int .i64 lim, .slice EA dead.length ec], Rd WA (I64 wear), Rd EA (Bs dead), Rd GA [.func (.func 79) #[] #[ptrOf FA 0]], Rd XA (I64 xs)]) (fun k : Nat => [Own 3 1 TA 1 1 [.int .i64 (minL (leftI lim wear dead) (xs.take k) m)]]) (fun k : Nat => k ≤ xs.length) (fun k : Nat => xs.length - k) 0 (Nat.zero_le _) (by exact Le.mk' (rs := [0, 1, 2, 3, 4]) (hs := [0]) ⟨rfl, rfl, rfl, rfl, rfl, trivial⟩ ⟨rfl, rfl, rfl, rfl, rfl, trivial⟩ ⟨rfl, trivial⟩ (by decide)) ?_
 intro k hk
 refine C.seq (C.region ?_); refine Lpu rfl rfl ?_; refine L.nil (QE.seq (C.seq ?_))
 refine C.condB 9 rfl (fun hc9 => ?_) (fun hc9 => ?_)
 ·
  replace hc9 := of_decide_eq_true hc9
  refine C.skip (QE.seq (C.seq (C.block (C.seq (C.region ?_))))); refine L.step (Ev.idx1 (k := k) rfl rfl rfl rfl rfl rfl rfl (by omega) (Src.r 4 rfl) (by rw [I64_len]; omega)) rfl ?_; refine L.step (Ev.load rfl rfl rfl (Src.r 4 rfl) (I64_get (by omega))) rfl ?_; refine Lpu rfl rfl ?_; refine L.nil (QE.seq ?_); refine C.regionM [Rd FA [.int .i64 fs, dv, .slice WA wear.length wc, .int .i64 lim, .slice EA dead.length ec], Rd WA (I64 wear), Rd EA (Bs dead), Rd GA [.func (.func 79) #[] #[ptrOf FA 0]], Rd XA (I64 xs), Rd TA [.int .i64 (minL (leftI lim wear dead) (xs.take k) m)]] ⟨Has.r 0 rfl, Has.r 1 rfl, Has.r 2 rfl, Has.r 3 rfl, Has.r 4 rfl, Has.o 0 rfl, trivial⟩ ?_; refine LM.q 0 rfl (by kernel_rfl) (Ev.load rfl rfl rfl (Src.r 5 rfl) rfl) rfl ⟨Has.r 0 rfl, Has.r 1 rfl, Has.r 2 rfl, Has.r 3 rfl, Has.r 4 rfl, Has.o 0 rfl, trivial⟩ ?_; refine LM.q 1 rfl (by kernel_rfl) (Ev.load rfl rfl rfl (Src.r 3 rfl) rfl) rfl ⟨Has.r 0 rfl, Has.r 1 rfl, Has.r 2 rfl, Has.r 3 rfl, Has.r 4 rfl, Has.o 0 rfl, trivial⟩ ?_; refine LM.f 2 rfl (by kernel_rfl) ⟨Has.r 0 rfl, Has.r 1 rfl, Has.r 2 rfl, Has.r 3 rfl, Has.r 4 rfl, Has.o 0 rfl, trivial⟩ ?_; refine Lpu rfl rfl ?_
  refine L.nil (QE.m (by kernel_rfl) ?_)
  refine LM.f 3 rfl (by kernel_rfl) ⟨Has.r 0 rfl, Has.r 1 rfl, Has.r 2 rfl, Has.r 3 rfl, Has.r 4 rfl, Has.o 0 rfl, trivial⟩ ?_; refine L.callv (js := []) (js' := [0]) (left1_c fs dv WA EA wear dead lim wc ec FA (xs.getD k 0) (hx k (by omega)) hlim hwe hde hwl) rfl rfl rfl rfl rfl (by decide) (Hq [0, 1, 2] rfl) rfl ?_
  rintro _ _ _ ⟨rfl, rfl, rfl⟩
  refine L.norm (H' := [_]) [0] ⟨rfl, trivial⟩ (by decide) ?_
  refine L.nil (QE.m (by kernel_rfl) ?_)
  refine LM.cut [] (by kernel_rfl) ⟨Has.r 0 rfl, Has.r 1 rfl, Has.r 2 rfl, Has.r 3 rfl, Has.r 4 rfl, Has.o 0 rfl, trivial⟩ ?_; refine LM.f 4 rfl (by kernel_rfl) trivial ?_; refine L.step (Ev.cast (u := .int .i64 (min (minL (leftI lim wear dead) (xs.take k) m) (leftI lim wear dead (xs.getD k 0)))) (Ev.pure rfl) (congrArg (Value.int .i64) (by simp only [Bool.false_eq_true, if_false]; split <;> omega))) rfl ?_
  refine L.nil (QE.m (by kernel_rfl) ?_)
  refine LM.f 5 rfl (by kernel_rfl) trivial ?_; refine L.store (j := 0) rfl rfl rfl rfl rfl rfl rfl rfl ?_
  refine L.nil (QE.m (by kernel_rfl) ?_)
  refine LM.nil (by kernel_rfl) trivial ?_; refine QE.blkN ?_; refine QE.seq (C.region ?_); refine L.step (Ev.add rfl rfl (by omega) (by omega)) rfl ?_; refine Lpu rfl rfl ?_; refine L.nil ?_
  refine QE.round (k + 1) (by omega) (by omega) (by exact Le.mk' (rs := [0, 1, 2, 3, 4]) (hs := [0]) ⟨rfl, rfl, rfl, rfl, rfl, trivial⟩ ⟨rfl, rfl, rfl, rfl, rfl, trivial⟩ ⟨(congrArg some (own_eq rfl (by rw [minL_succ (by omega)]; rfl))), trivial⟩ (by decide))
 ·
  replace hc9 := of_decide_eq_false hc9
  refine C.exit ?_; refine QE.tX ?_; refine QE.tX ?_; refine QE.blk ?_; refine QE.retN ?_; refine QE.ret (js := []) (hs := [0]) (vs := []) rfl trivial (by decide) ?_
  obtain rfl : k = xs.length := by omega
  rw [List.take_length]
  exact ⟨rfl, rfl, rfl⟩

theorem lack_c (OA LA : Option Addr) (ls : List (Int × Int)) (lc : Nat) (w b : Int) (hl : ls.length ≤ 100) :
   Ctr X 81 [.int .i64 w, .int .i64 b, ptrOf OA 0] [] [Own 82 1 OA 1 1 [.slice LA ls.length lc], Own 87 2 LA ls.length lc (lkV ls)] (fun v R' H' => v = .tuple #[] ∧ R' = [] ∧ ∃ (L : Option Addr) (c : Nat), H' = [Own 82 1 OA 1 1 [.slice L (lkS ls w b).length c], Own 87 2 L (lkS ls w b).length c (lkV (lkS ls w b))]) := by
 refine Ctr.of (X := X) (fn := Tryz.f81) Tryz.func81 rfl (by kernel_rfl) rfl ?_
 intro β
 refine C.seq (C.region ?_); refine Lpu rfl rfl ?_; refine Lpu rfl rfl ?_; refine L.nil (QE.seq ?_)
 refine C.condB 6 rfl (fun hc6 => ?_) (fun hc6 => ?_)
 ·
  replace hc6 := of_decide_eq_true hc6
  refine C.region ?_; refine L.step (Ev.load rfl rfl rfl (Src.o 0 rfl) rfl) rfl ?_; refine Lpu rfl rfl ?_; refine Lpu rfl rfl ?_; refine L.step (Ev.build rfl rfl rfl rfl rfl rfl rfl) rfl ?_
  refine L.lit1S (cs := [.int .i64 w, .int .i64 b]) rfl rfl rfl rfl (Nat.zero_lt_succ _) rfl rfl rfl (fun A11 => ?_)
  refine L.append (j := 1) rfl rfl rfl rfl (by decide) rfl rfl rfl rfl (Src.o 2 rfl) rfl (lkV_one [(w, b)]) (by omega) (by show _ * 16 ≤ _; omega) rfl (fun A12 cc12 => ?_)
  refine L.store (j := 0) rfl rfl rfl rfl rfl rfl rfl rfl ?_; refine L.nil ?_; refine QE.retN ?_; refine QE.ret (js := []) (hs := [0, 1]) (vs := []) rfl trivial (by decide) ?_
  have e : lkS ls w b = ls ++ [(w, b)] := by unfold lkS; rw [if_pos (by omega)]
  have e2 : (lkS ls w b).length = ls.length + 1 := by rw [e, List.length_append]; rfl
  refine ⟨rfl, rfl, A12, cc12, ?_⟩
  rw [e2, e, ← lkV_app]
  rfl
 ·
  replace hc6 := of_decide_eq_false hc6
  refine C.skip ?_; refine QE.retN ?_; refine QE.ret (js := []) (hs := [0, 1]) (vs := []) rfl trivial (by decide) ?_
  have e : lkS ls w b = ls := by unfold lkS; rw [if_neg (by omega)]
  rw [e]
  exact ⟨rfl, rfl, LA, lc, rfl⟩

end Go.Proofs.YtpccfdnmnnnboaaGreat
end
