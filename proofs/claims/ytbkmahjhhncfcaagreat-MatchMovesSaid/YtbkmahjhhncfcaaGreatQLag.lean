/-
  Forms of lifted code, as plain bytes.
-/
import Derived.Test.YtbkmahjhhncfcaaGreatQLaf
import Derived.Test.YtbkmahjhhncfcaaGreatQWLaI
import Derived.Test.YtbkmahjhhncfcaaGreatQSlS
section
namespace Go.Sl

def twoB (n : Nat) : List UInt8 := [UInt8.ofNat (n / 256 % 256), UInt8.ofNat (n % 256)]
theorem twoB_len (n : Nat) : (twoB n).length = 2 := rfl
def prevL (ls : List Int) (i : Nat) : Int := if i = 0 then 0 else ls.getD (i - 1) 0
def difL (ls : List Int) (i : Nat) : Nat := ((ls.getD i 0 - prevL ls i) / 4).toNat
/-- Labels in ascending order, none of them far away. -/
def ascL (ls : List Int) : Prop := ∀ i, i < ls.length → 0 ≤ prevL ls i ∧ prevL ls i ≤ ls.getD i 0 ∧ ls.getD i 0 ≤ 1099511627776
def labsB (ls : List Int) (k : Nat) : List UInt8 := (List.range k).flatMap fun i => twoB (difL ls i)
theorem labsB_succ (ls : List Int) (k : Nat) : labsB ls (k + 1) = labsB ls k ++ twoB (difL ls k) := by simp [labsB, List.range_succ]
theorem labsB_len (ls : List Int) (k : Nat) : (labsB ls k).length = 2 * k := by
 induction k with
 | zero => rfl
 | succ k ih => rw [labsB_succ, List.length_append, ih, twoB_len]; omega
/-- The bits of eight marks, as far as they go. -/
def bitsN (ms : List Bool) (j : Nat) : Nat → Nat
 | 0 => 0
 | k + 1 => bitsN ms j k + if ms.getD (8 * j + k) false = true then 2 ^ k else 0
theorem bitsN_lt (ms : List Bool) (j k : Nat) : bitsN ms j k < 2 ^ k := by
 induction k with
 | zero => exact Nat.zero_lt_one
 | succ k ih =>
   simp only [bitsN]
   rw [Nat.pow_succ]
   split <;> omega
theorem bitsN_yes {ms : List Bool} {j k : Nat} (h : ms.getD (8 * j + k) false = true) : bitsN ms j k + 2 ^ k = bitsN ms j (k + 1) := by
 simp only [bitsN]
 rw [if_pos h]
theorem bitsN_no {ms : List Bool} {j k : Nat} (h : ms.getD (8 * j + k) false = false) : bitsN ms j (k + 1) = bitsN ms j k := by
 simp only [bitsN]
 rw [if_neg (by rw [h]; decide)]
 rfl
theorem bitsN_end {ms : List Bool} {j k m : Nat} (h : ms.length ≤ 8 * j + k) (hm : k ≤ m) : bitsN ms j m = bitsN ms j k := by
 induction m with
 | zero =>
   obtain rfl : k = 0 := by omega
   rfl
 | succ m ih =>
   by_cases e : k = m + 1
   · rw [e]
   · rw [bitsN_no (by rw [List.getD_eq_getElem?_getD, List.getElem?_eq_none (by omega)]; rfl), ih (by omega)]
def markB (ms : List Bool) (j : Nat) : UInt8 := UInt8.ofNat (bitsN ms j 8)
theorem markB_nat (ms : List Bool) (j : Nat) : (markB ms j).toNat = bitsN ms j 8 := by
 unfold markB
 rw [UInt8.toNat_ofNat']
 exact Nat.mod_eq_of_lt (bitsN_lt ms j 8)
def marksN (ms : List Bool) (k : Nat) : List UInt8 := (List.range k).map (markB ms)
theorem marksN_succ (ms : List Bool) (k : Nat) : marksN ms (k + 1) = marksN ms k ++ [markB ms k] := by simp [marksN, List.range_succ]
theorem marksN_len (ms : List Bool) (k : Nat) : (marksN ms k).length = k := by simp [marksN]
def marksB (ms : List Bool) : List UInt8 := marksN ms ((ms.length + 7) / 8)
def formH (x : Lf) : List UInt8 := twoB x.ws.length ++ twoB x.ls.length
def formF (x : Lf) : List UInt8 := formH x ++ labsB x.ls x.ls.length ++ marksB x.ms ++ bytesF x.ws
theorem formH_len (x : Lf) : (formH x).length = 4 := rfl
theorem formF_len (x : Lf) : (formF x).length = 4 + 2 * x.ls.length + (x.ms.length + 7) / 8 + 4 * x.ws.length := by
 unfold formF marksB
 rw [List.length_append, List.length_append, List.length_append, formH_len, labsB_len, marksN_len, bytesF_len]

/-! ### What bytes are the form of -/
def numB (b : List UInt8) (i : Nat) : Nat := (b.getD i 0).toNat * 256 + (b.getD (i + 1) 0).toNat
theorem numB_lt (b : List UInt8) (i : Nat) : numB b i < 65536 := by
 have h1 := UInt8.toNat_lt (b.getD i 0)
 have h2 := UInt8.toNat_lt (b.getD (i + 1) 0)
 unfold numB
 omega
def rlab (b : List UInt8) : Nat → Nat
 | 0 => 4 * numB b 4
 | i + 1 => rlab b i + 4 * numB b (4 + 2 * (i + 1))
def rlast (b : List UInt8) (k : Nat) : Nat := if k = 0 then 0 else rlab b (k - 1)
theorem rlast_succ (b : List UInt8) (k : Nat) : rlast b k + 4 * numB b (4 + 2 * k) = rlast b (k + 1) := by
 cases k with
 | zero => simp [rlast, rlab]
 | succ k => simp [rlast, rlab]
theorem rlast_le (b : List UInt8) (k : Nat) : rlast b k ≤ 262140 * k := by
 induction k with
 | zero => simp [rlast]
 | succ k ih =>
   have := numB_lt b (4 + 2 * k)
   rw [← rlast_succ]
   omega
def rlabs (b : List UInt8) (k : Nat) : List Int := (List.range k).map fun i => (rlab b i : Int)
theorem rlabs_succ (b : List UInt8) (k : Nat) : rlabs b (k + 1) = rlabs b k ++ [(rlast b (k + 1) : Int)] := by simp [rlabs, List.range_succ, rlast]
theorem rlabs_len (b : List UInt8) (k : Nat) : (rlabs b k).length = k := by simp [rlabs]
theorem rlabs_get (b : List UInt8) {k i : Nat} (h : i < k) : (rlabs b k).getD i 0 = (rlab b i : Int) := by
 unfold rlabs
 rw [List.getD_eq_getElem?_getD, List.getElem?_map, List.getElem?_range h]
 rfl
theorem rlabs_asc (b : List UInt8) {k : Nat} (hk : k ≤ 65536) : ascL (rlabs b k) := by
 intro i hi
 rw [rlabs_len] at hi
 have h1 := rlast_le b (i + 1)
 have h2 := rlast_succ b i
 have h3 : rlast b (i + 1) = rlab b i := rfl
 have h4 : prevL (rlabs b k) i = (rlast b i : Int) := by
   unfold prevL rlast
   by_cases e : i = 0
   · rw [if_pos e, if_pos e]; rfl
   · rw [if_neg e, if_neg e, rlabs_get b (by omega)]
 rw [h4, rlabs_get b hi]
 omega
def rmark (b : List UInt8) (m i : Nat) : Bool := decide ((b.getD (m + i / 8) 0).toNat / 2 ^ (i % 8) % 2 = 1)
def rmarks (b : List UInt8) (m n : Nat) : List Bool := (List.range n).map (rmark b m)
theorem rmarks_succ (b : List UInt8) (m n : Nat) : rmarks b m (n + 1) = rmarks b m n ++ [rmark b m n] := by simp [rmarks, List.range_succ]
theorem rmarks_len (b : List UInt8) (m n : Nat) : (rmarks b m n).length = n := by simp [rmarks]
def rN (b : List UInt8) : Nat := numB b 0
def rK (b : List UInt8) : Nat := numB b 2
def rM (b : List UInt8) : Nat := 4 + 2 * rK b
def rW (b : List UInt8) : Nat := rM b + (rN b + 7) / 8
def readX (b : List UInt8) : Lf := ⟨wordsR (b.drop (rW b)), rmarks b (rM b) (rN b), rlabs b (rK b)⟩
def readOk (b : List UInt8) : Prop := 4 ≤ b.length ∧ b.length = rW b + 4 * rN b ∧ lowC (readX b) = 0 ∧ formF (readX b) = b
instance (b : List UInt8) : Decidable (readOk b) := by unfold readOk; infer_instance
def readR (b : List UInt8) : Lf := if readOk b then readX b else Lf.zero
def readE (b : List UInt8) : Int := if readOk b then 0 else 3
theorem readX_lens {b : List UInt8} (h : b.length = rW b + 4 * rN b) : (readX b).ws.length = rN b ∧ (readX b).ms.length = rN b ∧ (readX b).ls.length = rK b := by
 refine ⟨?_, rmarks_len _ _ _, rlabs_len _ _⟩
 show (wordsR (b.drop (rW b))).length = rN b
 unfold wordsR
 rw [if_pos (by rw [List.length_drop]; omega), wordsF_len, List.length_drop]
 omega
theorem readX_asc (b : List UInt8) : ascL (readX b).ls := rlabs_asc b (Nat.le_of_lt (numB_lt b 2))
/-- Labels of code ascend. -/
theorem asc_sorted {l : List Int} (h : l.Pairwise (· < ·)) (hr : ∀ x ∈ l, 0 ≤ x ∧ x ≤ 1099511627776) : ascL l := by
 intro i hi
 have mem : ∀ j, j < l.length → l.getD j 0 ∈ l := by
   intro j hj
   rw [List.getD_eq_getElem?_getD, List.getElem?_eq_getElem hj]
   exact List.getElem_mem hj
 have h1 := hr _ (mem i hi)
 unfold prevL
 by_cases e : i = 0
 · rw [if_pos e]; omega
 · rw [if_neg e]
   have h2 := hr _ (mem (i - 1) (by omega))
   have h3 := List.pairwise_iff_getElem.1 h (i - 1) i (by omega) hi (by omega)
   rw [List.getD_eq_getElem?_getD, List.getElem?_eq_getElem (show i - 1 < l.length by omega)] at h2 ⊢
   rw [List.getD_eq_getElem?_getD, List.getElem?_eq_getElem hi] at h1 ⊢
   simp only [Option.getD_some] at h1 h2 ⊢
   omega
theorem liftF_asc {l : List Nat} (hl : l.length ≤ 1000000) : ascL (liftF l).ls := asc_sorted (labs_sorted l) fun x hx => by
 have := labs_range hx
 omega
theorem liftR_asc {b : List UInt8} : ascL (liftR b).ls := by
 unfold liftR
 split
 · rename_i h
   exact liftF_asc (by rw [wordsF_len]; have := h.2; omega)
 · intro i hi
   exact absurd hi (Nat.not_lt_zero _)
end Go.Sl
end
/-
  Chunks, numbers of two bytes, in the program.
-/
section
namespace Go.Proofs.YtbkmahjhhncfcaaGreat
open Go.Sl

def chkL (n j : Nat) : Nat := if n - 8 * j < 8 then n - 8 * j else 8
theorem chkL_le (n j : Nat) : chkL n j ≤ 8 ∧ (8 * j < n → 8 * j + chkL n j ≤ n) := by
 unfold chkL
 split <;> omega
def encC (MA : Option Addr) (ms : List Bool) (j : Nat) : List Value := [.slice (subA MA (8 * j + chkL ms.length j) (8 * j) 1) (chkL ms.length j) (chkL ms.length j)]
def RbC (SA NA MA : Option Addr) (ms : List Bool) (mc : Nat) : List Pr := [Rd SA [.slice MA ms.length mc], Rd NA [.int .i64 8], Rd MA (Bs ms)]
def StC (A3 : Option Addr) (s : List UInt8 × Option Addr × Nat) : List Pr := [Own 22 1 A3 1 1 [.slice s.2.1 s.1.length s.2.2], Own 5 1 s.2.1 s.1.length s.2.2 (U8 s.1)]
def nxtC (ms : List Bool) (s : List UInt8 × Option Addr × Nat) (j : Nat) (s2 : List UInt8 × Option Addr × Nat) : Prop := s2.1 = s.1 ++ [markB ms j]
def goodC (ms : List Bool) (s : List UInt8 × Option Addr × Nat) (j : Nat) : Prop := 8 * j < ms.length ∧ s.1.length ≤ 4000000
theorem getD_take {α : Type} (l : List α) (m : Nat) (d : α) {k : Nat} (h : k < m) : (l.take m).getD k d = l.getD k d := by
 rw [List.getD_eq_getElem?_getD, List.getElem?_take, if_pos h, ← List.getD_eq_getElem?_getD]

theorem two_c (n : Nat) (_hn : n ≤ 1099511627776) :
   Ctr X 70 [.int .i64 (n : Int)] [] [] (fun v R' H' => ∃ A : Option Addr, v = .slice A 2 2 ∧ R' = [] ∧ H' = [Own 5 1 A 2 2 (U8 (twoB n))]) := by
 refine Ctr.of (X := X) (fn := Tryz.f70) Tryz.func70 rfl (by kernel_rfl) rfl ?_
 intro β
 refine C.seq (C.region ?_); refine Lpu rfl rfl ?_; refine L.nil (QE.seq (C.seq (C.region ?_))); refine Lpu rfl rfl ?_; refine L.step (Ev.shrI (m := n) (k := 8) rfl rfl (by decide)) rfl ?_; refine L.step (Ev.toU8 (q := (UInt8.ofNat (n / 256 % 256)).toNat) rfl rfl rfl rfl (by rw [UInt8.toNat_ofNat']; omega)) rfl ?_; refine Lpu rfl rfl ?_; refine L.step (Ev.toU8 (q := (UInt8.ofNat (n % 256)).toNat) rfl rfl rfl rfl (by rw [UInt8.toNat_ofNat']; omega)) rfl ?_
 refine L.lit rfl rfl rfl rfl rfl (by rfl) (by rfl) (by rfl) rfl rfl (fun A8 => ?_)
 refine Lpu rfl rfl ?_; refine L.nil (QE.seq (C.ret ?_)); refine QE.ret (js := []) (hs := [0]) (vs := [_]) rfl ⟨rfl, trivial⟩ (by decide) ?_
 exact ⟨A8, rfl, rfl, rfl⟩

theorem number_c (BA B : Option Addr) (b : List UInt8) (bc i : Nat) (hi : i + 1 < b.length) (hl : b.length ≤ 1000000) :
   Ctr X 107 [.int .i64 (i : Int), ptrOf BA 0] [Rd BA [.slice B b.length bc], Rd B (U8 b)] [] (fun v R' H' => v = .int .i64 (numB b i : Int) ∧ R' = [] ∧ H' = []) := by
 refine Ctr.of (X := X) (fn := Tryz.f107) Tryz.func107 rfl (by kernel_rfl) rfl ?_
 intro β
 have h0 := UInt8.toNat_lt (b.getD i 0)
 have h1 := UInt8.toNat_lt (b.getD (i + 1) 0)
 refine C.seq (C.region ?_); refine Lpu rfl rfl ?_; refine L.nil (QE.seq (C.seq ?_)); refine C.regionQ (by kernel_rfl) ?_; refine LQ.step (Ev.load rfl rfl rfl (Src.r 0 rfl) rfl) rfl ?_; refine LQ.step (Ev.pure rfl) rfl ?_; refine LQ.step (Ev.idx1 (k := i) rfl rfl rfl rfl rfl rfl rfl (by omega) (Src.r 1 rfl) (by rw [U8_len]; omega)) rfl ?_; refine LQ.step (Ev.load rfl rfl rfl (Src.r 1 rfl) (U8_get (by omega))) rfl ?_; refine LQ.step (Ev.toInt rfl rfl rfl rfl (by omega) (by omega)) rfl ?_; refine LQ.step (Ev.shlI (m := (b.getD (i) 0).toNat) (k := 8) rfl rfl (by decide) (by omega)) rfl ?_; refine LQ.step (Ev.load rfl rfl rfl (Src.r 0 rfl) rfl) rfl ?_; refine LQ.step (Ev.pure rfl) rfl ?_; refine LQ.step (Ev.cast (u := .int .i64 ((i + 1 : Nat) : Int)) (Ev.add rfl rfl (by omega) (by omega)) (congrArg (Value.int .i64) (by omega))) rfl ?_; refine LQ.step (Ev.idx1 (k := i + 1) rfl rfl rfl rfl rfl rfl rfl (by omega) (Src.r 1 rfl) (by rw [U8_len]; omega)) rfl ?_; refine LQ.step (Ev.load rfl rfl rfl (Src.r 1 rfl) (U8_get (by omega))) rfl ?_; refine LQ.step (Ev.toInt rfl rfl rfl rfl (by omega) (by omega)) rfl ?_; refine LQ.step (Ev.shrOr rfl rfl (by omega) (by omega)) rfl ?_; refine LQ.step (Ev.pure rfl) rfl ?_; refine LQ.nil ?_; refine QE.seq (C.ret ?_); refine QE.ret (js := []) (hs := []) (vs := [_]) rfl ⟨rfl, trivial⟩ (by decide) ?_
 exact ⟨rfl, rfl, rfl⟩

theorem chunk_c (MA : Option Addr) (m mc : Nat) :
   Ctr X 71 [.slice MA m mc, .int .i64 8] [] [] (fun v R' H' => ∃ SA NA : Option Addr, v = .func (.func 104) #[] #[ptrOf SA 0, ptrOf NA 0] ∧ R' = [Rd SA [.slice MA m mc], Rd NA [.int .i64 8]] ∧ H' = []) := by
 refine Ctr.of (X := X) (fn := Tryz.f71) Tryz.func71 rfl (by kernel_rfl) rfl ?_
 intro β
 refine C.seq (C.region ?_)
 refine L.box rfl rfl rfl (fun A2 => ?_)
 refine L.box rfl rfl rfl (fun A3 => ?_)
 refine Lpu rfl rfl ?_; refine L.nil (QE.seq (C.seq (C.seq (C.region ?_)))); refine L.step (Ev.load rfl rfl rfl (Src.o 1 rfl) rfl) rfl ?_; refine Lpu rfl rfl ?_; refine L.nil (QE.seq ?_)
 refine C.condB 6 rfl (fun hc6 => ?_) (fun hc6 => ?_)
 ·
  replace hc6 := of_decide_eq_true hc6
  omega
 ·
  replace hc6 := of_decide_eq_false hc6
  refine C.skip (QE.seq (C.seq (C.region ?_))); refine Lpu rfl rfl ?_; refine Lpu rfl rfl ?_; refine L.nil (QE.seq (C.ret ?_)); refine QE.freeze 1 rfl [0] (by decide) (by decide) ?_; refine QE.freeze 0 rfl [] (by decide) (by decide) ?_; refine QE.ret (js := [0, 1]) (hs := []) (vs := [_]) rfl ⟨rfl, trivial⟩ (by decide) ?_
  exact ⟨A2, A3, rfl, rfl, rfl⟩

set_option maxHeartbeats 1000000 in
theorem chunkI_c (l : Nat) (r : Loop) (SA NA MA : Option Addr) (ms : List Bool) (mc : Nat) (hmc : ms.length ≤ mc) (hml : ms.length ≤ 1000000) (A3 : Option Addr) (base : List UInt8) (O0 : Option Addr) (c0 : Nat) (hbl : base.length ≤ 3000000) (hy : YieldR X l r (encC MA ms) (RbC SA NA MA ms mc) (StC A3) (nxtC ms) (goodC ms)) :
   Ctr X 104 [.func (.yield l) #[] #[], ptrOf SA 0, ptrOf NA 0] [Rd SA [.slice MA ms.length mc], Rd NA [.int .i64 8], Rd MA (Bs ms)] [LoopP l r, Own 22 1 A3 1 1 [.slice O0 base.length c0], Own 5 1 O0 base.length c0 (U8 base)] (fun _ R' H' => R' = [] ∧ ∃ (O : Option Addr) (c : Nat), H' = LoopP l r :: StC A3 (base ++ marksB ms, O, c)) := by
 refine Ctr.of (X := X) (fn := Tryz.f104) Tryz.func104 rfl (by kernel_rfl) rfl ?_
 intro β
 refine C.seq (C.region ?_); refine Lpu rfl rfl ?_; refine L.nil (QE.seq (C.block ?_)); refine C.loop (fun q : Nat × Option Addr × Nat => [(0, .func (.yield l) #[] #[]), (1, ptrOf SA 0), (2, ptrOf NA 0), (4, .int .i64 ((8 * q.1 : Nat) : Int))]) (fun q : Nat × Option Addr × Nat => [Rd SA [.slice MA ms.length mc], Rd NA [.int .i64 8], Rd MA (Bs ms)]) (fun q : Nat × Option Addr × Nat => [LoopP l r, Own 22 1 A3 1 1 [.slice q.2.1 (base ++ marksN ms q.1).length q.2.2], Own 5 1 q.2.1 (base ++ marksN ms q.1).length q.2.2 (U8 (base ++ marksN ms q.1))]) (fun q : Nat × Option Addr × Nat => q.1 ≤ (ms.length + 7) / 8) (fun q : Nat × Option Addr × Nat => (ms.length + 7) / 8 - q.1) (0, O0, c0) (Nat.zero_le _) (by exact Le.mk' (rs := [0, 1, 2]) (hs := [0, 1, 2]) ⟨rfl, rfl, rfl, rfl, trivial⟩ ⟨rfl, rfl, rfl, trivial⟩ ⟨rfl, (congrArg some (by dsimp only; rw [show marksN ms 0 = [] from rfl, List.append_nil])), (congrArg some (by dsimp only; rw [show marksN ms 0 = [] from rfl, List.append_nil])), trivial⟩ (by decide)) ?_
 rintro ⟨j, O, oc⟩ hj
 dsimp only at hj ⊢
 refine C.seq (C.seq (C.region ?_)); refine Lpu rfl rfl ?_; refine L.step (Ev.load rfl rfl rfl (Src.r 0 rfl) rfl) rfl ?_; refine Lpu rfl rfl ?_; refine Lpu rfl rfl ?_; refine L.nil (QE.seq ?_)
 refine C.condB 9 rfl (fun hc9 => ?_) (fun hc9 => ?_)
 ·
  replace hc9 := of_decide_eq_true hc9
  have hcl := chkL_le ms.length j
  refine C.skip (QE.seq (C.seq (C.block (C.seq ?_)))); refine C.regionQ (by kernel_rfl) ?_; refine LQ.step (Ev.load rfl rfl rfl (Src.r 1 rfl) rfl) rfl ?_; refine LQ.step (Ev.load rfl rfl rfl (Src.r 0 rfl) rfl) rfl ?_; refine LQ.step (Ev.pure rfl) rfl ?_; refine LQ.step (Ev.sliceL (l := 8 * j) rfl rfl rfl rfl rfl rfl (by omega)) rfl ?_; refine LQ.step (Ev.pure rfl) rfl ?_; refine LQ.step (Ev.cast (u := .int .i64 (((chkL ms.length j) : Nat) : Int)) (Ev.pure rfl) (congrArg (Value.int .i64) (by show (if _ < _ then _ else _) = _; unfold chkL; split <;> split <;> omega))) rfl ?_; refine LQ.step (Ev.pure rfl) rfl ?_; refine LQ.nil ?_; refine QE.seq (C.seq ?_); refine C.regionY ?_; refine LY.step (Ev.pure rfl) rfl ?_; refine LY.step (Ev.load rfl rfl rfl (Src.r 0 rfl) rfl) rfl ?_; refine LY.step (Ev.pure rfl) rfl ?_; refine LY.step (Ev.pure rfl) rfl ?_; refine LY.step (Ev.pure rfl) rfl ?_; refine LY.step (Ev.cast (u := .int .i64 ((8 * j + (chkL ms.length j) : Nat) : Int)) (Ev.add rfl rfl (by omega) (by omega)) (congrArg (Value.int .i64) (by omega))) rfl ?_; refine LY.step (Ev.pure rfl) rfl ?_; refine LY.step (Ev.pure rfl) rfl ?_; refine LY.step (Ev.cast (u := .int .i64 ((8 * j + (chkL ms.length j) : Nat) : Int)) (Ev.add rfl rfl (by omega) (by omega)) (congrArg (Value.int .i64) (by omega))) rfl ?_; refine LY.step (Ev.cast (u := .slice (subA MA (8 * j + (chkL ms.length j)) (8 * j) 1) (chkL ms.length j) (chkL ms.length j)) (Ev.sliceLHM (l := 8 * j) (h := 8 * j + (chkL ms.length j)) (m := 8 * j + (chkL ms.length j)) rfl rfl rfl rfl rfl rfl rfl rfl rfl rfl (by omega) (by omega) (by omega)) (by rw [Nat.add_sub_cancel_left]; rfl)) rfl ?_; refine LY.yieldR (js := [0, 1, 2]) (js' := []) hy ((base ++ marksN ms j), O, oc) j ⟨by omega, by dsimp only; rw [List.length_append, marksN_len]; omega⟩ rfl rfl rfl rfl (by decide) (Hq [0, 1, 2] rfl) rfl ?_
  rintro ⟨s2, O2, c2⟩ hnx
  have hnx2 : s2 = base ++ marksN ms (j + 1) := hnx.trans (by dsimp only; rw [marksN_succ, List.append_assoc])
  subst hnx2
  unfold StC
  dsimp only
  refine LY.step (Ev.pure rfl) rfl ?_; refine LY.nil ?_; refine QE.seq ?_
  refine C.cond rfl (fun h => by cases h) (fun _ => ?_)
  refine C.skip ?_; refine QE.blkN ?_; refine QE.seq (C.region ?_); refine Lpu rfl rfl ?_; refine L.step (Ev.load rfl rfl rfl (Src.r 1 rfl) rfl) rfl ?_; refine L.step (Ev.cast (u := .int .i64 ((8 * (j + 1) : Nat) : Int)) (Ev.add rfl rfl (by omega) (by omega)) (congrArg (Value.int .i64) (by omega))) rfl ?_; refine Lpu rfl rfl ?_; refine L.nil ?_
  refine QE.round (i := (j, O, oc)) ((j + 1, O2, c2)) (by dsimp only; omega) (by dsimp only; omega) (by exact Le.mk' (rs := [0, 1, 2]) (hs := [0, 1, 2]) ⟨rfl, rfl, rfl, rfl, trivial⟩ ⟨rfl, rfl, rfl, trivial⟩ ⟨rfl, rfl, rfl, trivial⟩ (by decide))
 ·
  replace hc9 := of_decide_eq_false hc9
  refine C.exit ?_; refine QE.tX ?_; refine QE.tX ?_; refine QE.blk ?_; refine QE.retN ?_; refine QE.ret (js := []) (hs := [0, 1, 2]) (vs := []) rfl trivial (by decide) ?_
  obtain rfl : j = (ms.length + 7) / 8 := by omega
  exact ⟨rfl, O, oc, rfl⟩

end Go.Proofs.YtbkmahjhhncfcaaGreat
end
