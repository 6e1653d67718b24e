/-
  Instructions as plain data: words, what is decoded, what is encoded.
-/
import Derived.Test.YtbkmahjhhncfcaaGreatQSlZ
import Derived.Test.YtbkmahjhhncfcaaGreatQWMtI
section
namespace Go.Sl

structure Ins where
 op : Int
 a : Int
 b : Int
 c : Int
 n : Int
theorem Ins.ext' {x y : Ins} (h1 : x.op = y.op) (h2 : x.a = y.a) (h3 : x.b = y.b) (h4 : x.c = y.c) (h5 : x.n = y.n) : x = y := by
 cases x; cases y; simp_all
instance : DecidableEq Ins := fun x y =>
 if h : x.op = y.op ∧ x.a = y.a ∧ x.b = y.b ∧ x.c = y.c ∧ x.n = y.n then isTrue (Ins.ext' h.1 h.2.1 h.2.2.1 h.2.2.2.1 h.2.2.2.2) else isFalse fun e => h (by rw [e]; exact ⟨rfl, rfl, rfl, rfl, rfl⟩)
/-- The numbers of an instruction, one by one. -/
def Ins.l (x : Ins) : List Int := [x.op, x.a, x.b, x.c, x.n]
def in5 (x : Ins) : List Value := [.int .i64 x.op, .int .i64 x.a, .int .i64 x.b, .int .i64 x.c, .int .i64 x.n]
theorem Ins.l_inj {x y : Ins} : (x.l == y.l) = decide (x = y) := by
 rw [Bool.eq_iff_iff, beq_iff_eq, decide_eq_true_iff]
 refine ⟨fun h => ?_, fun h => by rw [h]⟩
 unfold Ins.l at h
 simp only [List.cons.injEq, and_true] at h
 exact Ins.ext' h.1 h.2.1 h.2.2.1 h.2.2.2.1 h.2.2.2.2

/-- A number of some bits, with a sign. -/
def sgn (n h : Nat) : Int := if h ≤ n then (n : Int) - 2 * (h : Int) else (n : Int)
def datI (w : Nat) : Ins := ⟨0, 0, 0, 0, (w : Int)⟩
/-- What a word is at a place. -/
def decF (w : Nat) (t : Int) : Ins :=
 if w / 16777216 = 1 ∨ w / 16777216 = 3 ∨ w / 16777216 = 4 then
   if w / 65536 % 256 ≤ 15 ∧ w / 256 % 256 ≤ 15 ∧ w % 256 ≤ 15 then ⟨(w / 16777216 : Nat), (w / 65536 % 256 : Nat), (w / 256 % 256 : Nat), (w % 256 : Nat), 0⟩ else datI w
 else if w / 16777216 = 5 ∨ w / 16777216 = 6 then ⟨(w / 16777216 : Nat), 0, 0, 0, t + 4 * sgn (w % 16777216) 8388608⟩
 else if w / 16777216 = 2 then (if w / 65536 % 256 ≤ 15 then ⟨2, (w / 65536 % 256 : Nat), 0, 0, (w % 65536 : Nat)⟩ else datI w)
 else if w / 16777216 = 7 then (if w / 65536 % 256 ≤ 15 then ⟨7, (w / 65536 % 256 : Nat), 0, 0, t + 4 * sgn (w % 65536) 32768⟩ else datI w)
 else if w / 16777216 = 8 then (if w / 65536 % 256 ≤ 15 then ⟨8, (w / 65536 % 256 : Nat), 0, 0, t + 4 * (w % 65536 : Nat)⟩ else datI w)
 else datI w
/-- The word that an instruction may be at a place. -/
def encW (x : Ins) (t : Int) : Nat :=
 if x.op = 0 then (x.n % 4294967296).toNat
 else if x.op = 1 ∨ x.op = 3 ∨ x.op = 4 then (x.op * 16777216 + x.a * 65536 + x.b * 256 + x.c).toNat
 else if x.op = 2 then (x.op * 16777216 + x.a * 65536 + x.n).toNat
 else if x.op = 5 ∨ x.op = 6 then (x.op * 16777216 + ((x.n - t) / 4) % 16777216).toNat
 else (x.op * 16777216 + x.a * 65536 + ((x.n - t) / 4) % 65536).toNat
/-- An instruction has one word at most. -/
theorem enc_dec {w : Nat} (h : w < 4294967296) (t : Int) : encW (decF w t) t = w := by
 have hd : encW (datI w) t = w := by
   unfold encW datI
   rw [if_pos rfl]
   dsimp only
   omega
 unfold decF
 split
 · split
   · unfold encW
     dsimp only
     rw [if_neg (by omega), if_pos (by omega)]
     omega
   · exact hd
 · split
   · unfold encW sgn
     dsimp only
     rw [if_neg (by omega), if_neg (by omega), if_neg (by omega), if_pos (by omega)]
     split <;> omega
   · split
     · split
       · unfold encW
         dsimp only
         rw [if_neg (by decide), if_neg (by decide), if_pos rfl]
         omega
       · exact hd
     · split
       · split
         · unfold encW sgn
           dsimp only
           rw [if_neg (by decide), if_neg (by decide), if_neg (by decide), if_neg (by decide)]
           split <;> omega
         · exact hd
       · split
         · split
           · unfold encW
             dsimp only
             rw [if_neg (by decide), if_neg (by decide), if_neg (by decide), if_neg (by decide)]
             omega
           · exact hd
         · exact hd
/-! ### How a program decodes -/
def octN (w i : Nat) : Nat := w / 2 ^ (24 - 8 * i) % 256
def lowI (w k : Nat) (s : Bool) : Int := if s = true then sgn (w % 2 ^ k) (2 ^ (k - 1)) else ((w % 2 ^ k : Nat) : Int)
def regsF (k : Nat) : Nat := [0, 3, 1, 3, 3, 0, 0, 1, 1].getD k 0
def bitsF (k : Nat) : Nat := [0, 0, 16, 0, 0, 24, 24, 16, 16].getD k 0
def signF (k : Nat) : Bool := [false, false, false, false, false, true, true, true, false].getD k false
def targF (k : Nat) : Bool := [false, false, false, false, false, true, true, true, true].getD k false
def kindV (s : List ByteArray) (k : Nat) : List Value := [.string (s.getD k ByteArray.empty), .int .i64 (regsF k : Int), .int .i64 (bitsF k : Int), .bool (signF k), .bool (targF k)]
def kindsV (s : List ByteArray) : List Value := (List.range 9).flatMap (kindV s)
theorem kindsV_get (s : List ByteArray) {k : Nat} (h : k < 9) : ((kindsV s).drop (k * 5)).take 5 = kindV s k := by
 rcases (by omega : k = 0 ∨ k = 1 ∨ k = 2 ∨ k = 3 ∨ k = 4 ∨ k = 5 ∨ k = 6 ∨ k = 7 ∨ k = 8) with rfl | rfl | rfl | rfl | rfl | rfl | rfl | rfl | rfl <;> rfl
theorem regs_le (k : Nat) : regsF k ≤ 3 := by
 by_cases h : k < 9
 · rcases (by omega : k = 0 ∨ k = 1 ∨ k = 2 ∨ k = 3 ∨ k = 4 ∨ k = 5 ∨ k = 6 ∨ k = 7 ∨ k = 8) with rfl | rfl | rfl | rfl | rfl | rfl | rfl | rfl | rfl <;> decide
 · unfold regsF
   rw [List.getD_eq_getElem?_getD, List.getElem?_eq_none (by simp; omega)]
   decide
/-- The registers that are read so far. -/
def regN (w i j : Nat) : Int := if j ≤ i then (octN w j : Int) else 0
def regV (w i : Nat) (op n : Int) : List Value := [.int .i64 op, .int .i64 (regN w i 1), .int .i64 (regN w i 2), .int .i64 (regN w i 3), .int .i64 n]
theorem regV_set (w i : Nat) (op n : Int) (h : i < 3) : (regV w i op n).set (i + 1) (.int .i64 (octN w (i + 1) : Int)) = regV w (i + 1) op n := by
 rcases (by omega : i = 0 ∨ i = 1 ∨ i = 2) with rfl | rfl | rfl <;> rfl
theorem regV_at (w i : Nat) (op n : Int) (h : i < 3) : (regV w (i + 1) op n)[i + 1]? = some (.int .i64 (octN w (i + 1) : Int)) := by
 rcases (by omega : i = 0 ∨ i = 1 ∨ i = 2) with rfl | rfl | rfl <;> rfl
theorem regV_num (w i : Nat) (op n : Int) (h : i < 3) : ∃ m : Int, (regV w i op n)[i + 1]? = some (.int .i64 m) := by
 rcases (by omega : i = 0 ∨ i = 1 ∨ i = 2) with rfl | rfl | rfl <;> exact ⟨_, rfl⟩
theorem ptrs_at (A : Option Addr) {i : Nat} (h : i < 3) : (#[ptrOf A 1, ptrOf A 2, ptrOf A 3] : Array Value)[i]? = some (ptrOf A (i + 1)) := by
 rcases (by omega : i = 0 ∨ i = 1 ∨ i = 2) with rfl | rfl | rfl <;> rfl
theorem octN_lt (w i : Nat) : octN w i < 256 := Nat.mod_lt _ (by decide)
theorem oct0 (w : Nat) (h : w < 4294967296) : octN w 0 = w / 16777216 := by
 unfold octN
 rw [show 2 ^ (24 - 8 * 0) = 16777216 by decide]
 omega
theorem oct1 (w : Nat) : octN w 1 = w / 65536 % 256 := rfl
theorem oct2 (w : Nat) : octN w 2 = w / 256 % 256 := rfl
theorem oct3 (w : Nat) : octN w 3 = w % 256 := by
 unfold octN
 rw [show 2 ^ (24 - 8 * 3) = 1 by decide, Nat.div_one]
/-- The number of an instruction, whatever its kind. -/
def numF (w op : Nat) (t : Int) : Int :=
 if targF op = true then t + 4 * (if 0 < bitsF op then lowI w (bitsF op) (signF op) else 0) else (if 0 < bitsF op then lowI w (bitsF op) (signF op) else 0)
theorem dec_data {w : Nat} (hw : w < 4294967296) {t : Int} (h : octN w 0 = 0 ∨ 8 < octN w 0) : decF w t = datI w := by
 rw [oct0 w hw] at h
 unfold decF
 rw [if_neg (by omega), if_neg (by omega), if_neg (by omega), if_neg (by omega), if_neg (by omega)]
theorem dec_bad {w : Nat} (hw : w < 4294967296) {t : Int} {i : Nat} (h0 : 0 < octN w 0) (h8 : octN w 0 ≤ 8) (hi : i < regsF (octN w 0)) (hb : 15 < octN w (i + 1)) : decF w t = datI w := by
 rw [oct0 w hw] at h0 h8 hi
 have e1 := oct1 w
 have e2 := oct2 w
 have e3 := oct3 w
 generalize hk : w / 16777216 = k at h0 h8 hi
 unfold decF
 rw [hk]
 rcases (by omega : k = 1 ∨ k = 2 ∨ k = 3 ∨ k = 4 ∨ k = 5 ∨ k = 6 ∨ k = 7 ∨ k = 8) with rfl | rfl | rfl | rfl | rfl | rfl | rfl | rfl <;>
   simp only [regsF, List.getD_cons_succ, List.getD_cons_zero] at hi
 · rcases (by omega : i = 0 ∨ i = 1 ∨ i = 2) with rfl | rfl | rfl <;> simp only [Nat.reduceAdd] at hb <;> rw [if_pos (by decide), if_neg (by omega)]
 · obtain rfl : i = 0 := by omega
   simp only [Nat.reduceAdd] at hb
   rw [if_neg (by decide), if_neg (by decide), if_pos (by decide), if_neg (by omega)]
 · rcases (by omega : i = 0 ∨ i = 1 ∨ i = 2) with rfl | rfl | rfl <;> simp only [Nat.reduceAdd] at hb <;> rw [if_pos (by decide), if_neg (by omega)]
 · rcases (by omega : i = 0 ∨ i = 1 ∨ i = 2) with rfl | rfl | rfl <;> simp only [Nat.reduceAdd] at hb <;> rw [if_pos (by decide), if_neg (by omega)]
 · omega
 · omega
 · obtain rfl : i = 0 := by omega
   simp only [Nat.reduceAdd] at hb
   rw [if_neg (by decide), if_neg (by decide), if_neg (by decide), if_pos (by decide), if_neg (by omega)]
 · obtain rfl : i = 0 := by omega
   simp only [Nat.reduceAdd] at hb
   rw [if_neg (by decide), if_neg (by decide), if_neg (by decide), if_neg (by decide), if_pos (by decide), if_neg (by omega)]
theorem dec_good {w : Nat} (hw : w < 4294967296) {t : Int} (h0 : 0 < octN w 0) (h8 : octN w 0 ≤ 8) (hg : ∀ j, j < regsF (octN w 0) → octN w (j + 1) ≤ 15) :
   decF w t = ⟨(octN w 0 : Int), regN w (regsF (octN w 0)) 1, regN w (regsF (octN w 0)) 2, regN w (regsF (octN w 0)) 3, numF w (octN w 0) t⟩ := by
 rw [oct0 w hw] at h0 h8 hg ⊢
 have e1 := oct1 w
 have e2 := oct2 w
 have e3 := oct3 w
 generalize hk : w / 16777216 = k at h0 h8 hg
 unfold decF
 rw [hk]
 have g1 := hg 0
 have g2 := hg 1
 have g3 := hg 2
 clear hg
 rcases (by omega : k = 1 ∨ k = 2 ∨ k = 3 ∨ k = 4 ∨ k = 5 ∨ k = 6 ∨ k = 7 ∨ k = 8) with rfl | rfl | rfl | rfl | rfl | rfl | rfl | rfl <;>
   simp only [regsF, List.getD_cons_succ, List.getD_cons_zero, Nat.reduceAdd] at g1 g2 g3
 · rw [if_pos (by decide), if_pos (by omega)]
   unfold regN
   rw [← e1, ← e2, ← e3]
   rfl
 · rw [if_neg (by decide), if_neg (by decide), if_pos (by decide), if_pos (by omega)]
   unfold regN
   rw [← e1]
   rfl
 · rw [if_pos (by decide), if_pos (by omega)]
   unfold regN
   rw [← e1, ← e2, ← e3]
   rfl
 · rw [if_pos (by decide), if_pos (by omega)]
   unfold regN
   rw [← e1, ← e2, ← e3]
   rfl
 · rw [if_neg (by decide), if_pos (by decide)]
   rfl
 · rw [if_neg (by decide), if_pos (by decide)]
   rfl
 · rw [if_neg (by decide), if_neg (by decide), if_neg (by decide), if_pos (by decide), if_pos (by omega)]
   unfold regN
   rw [← e1]
   rfl
 · rw [if_neg (by decide), if_neg (by decide), if_neg (by decide), if_neg (by decide), if_pos (by decide), if_pos (by omega)]
   unfold regN
   rw [← e1]
   rfl
theorem low_le (w k : Nat) (s : Bool) (hk : k ≤ 32) : -4294967296 ≤ lowI w k s ∧ lowI w k s ≤ 4294967296 := by
 have h1 : w % 2 ^ k < 2 ^ k := Nat.mod_lt _ (Nat.pow_pos (by decide))
 have h2 : (2 : Nat) ^ k ≤ 2 ^ 32 := Nat.pow_le_pow_right (by decide) hk
 have h3 : (2 : Nat) ^ (k - 1) ≤ 2 ^ 31 := Nat.pow_le_pow_right (by decide) (by omega)
 unfold lowI sgn
 generalize (2 : Nat) ^ (k - 1) = q at h3
 generalize w % 2 ^ k = r at h1
 split
 · split <;> omega
 · omega
theorem bits_le (k : Nat) : bitsF k ≤ 24 := by
 by_cases h : k < 9
 · rcases (by omega : k = 0 ∨ k = 1 ∨ k = 2 ∨ k = 3 ∨ k = 4 ∨ k = 5 ∨ k = 6 ∨ k = 7 ∨ k = 8) with rfl | rfl | rfl | rfl | rfl | rfl | rfl | rfl | rfl <;> decide
 · unfold bitsF
   rw [List.getD_eq_getElem?_getD, List.getElem?_eq_none (by simp; omega)]
   decide

/-- The word of an instruction, if it has one. -/
def encF (x : Ins) (t : Int) : Option Nat := if encW x t < 4294967296 ∧ decF (encW x t) t = x then some (encW x t) else none
theorem encF_dec {w : Nat} (h : w < 4294967296) (t : Int) : encF (decF w t) t = some w := by
 unfold encF
 rw [enc_dec h t, if_pos ⟨h, rfl⟩]
theorem encF_some {x : Ins} {t : Int} {w : Nat} (h : encF x t = some w) : w < 4294967296 ∧ decF w t = x := by
 unfold encF at h
 split at h
 · injection h with h
   subst h
   assumption
 · cases h
/-- Whatever word is guessed: it is the word if it is decoded to the instruction. -/
theorem encF_guess {x : Ins} {t : Int} {w : Nat} (h : w < 4294967296) (g : (∃ v, encF x t = some v) → w = encW x t) : encF x t = if decF w t = x then some w else none := by
 by_cases e : decF w t = x
 · rw [if_pos e, ← e]
   exact encF_dec h t
 · rw [if_neg e]
   cases hx : encF x t with
   | none => rfl
   | some v =>
     exfalso
     have h1 := g ⟨v, hx⟩
     have h2 := encF_some hx
     have h3 : encW x t = v := by rw [← h2.2]; exact enc_dec h2.1 t
     rw [h3] at h1
     subst h1
     exact e h2.2
end Go.Sl
end
/-
  How the program reads a word: its bytes, its low bits, the kinds.
-/
section
namespace Go.Proofs.YtbkmahjhhncfcaaGreat
open Go.Sl

theorem octet_c (w i : Nat) (hw : w < 4294967296) (hi : i ≤ 3) :
   Ctr X 105 [.int .u32 (w : Int), .int .i64 (i : Int)] [] [] (fun v R' H' => v = .int .i64 (octN w i : Int) ∧ R' = [] ∧ H' = []) := by
 refine Ctr.of (X := X) (fn := Tryz.f105) Tryz.func105 rfl (by kernel_rfl) rfl ?_
 intro β
 refine C.seq (C.region ?_); refine Lpu rfl rfl ?_; refine L.nil (QE.seq (C.seq (C.region ?_))); refine Lpu rfl rfl ?_; refine Lpu rfl rfl ?_; refine L.step (Ev.mul rfl rfl (by omega) (by omega)) rfl ?_; refine L.step (Ev.sub rfl rfl (by omega) (by omega)) rfl ?_; refine L.step (Ev.shr32 (k := 24 - 8 * i) (q := w / 2 ^ (24 - 8 * i)) rfl rfl (by omega) (by omega) rfl) rfl ?_; refine L.step (Ev.low32 8 (q := octN w i) rfl rfl rfl (Nat.lt_of_le_of_lt (Nat.div_le_self _ _) hw) (by decide) rfl) rfl ?_; refine L.step (Ev.toInt rfl rfl rfl rfl (by omega) (by have := octN_lt w i; omega)) rfl ?_; refine Lpu rfl rfl ?_; refine L.nil (QE.seq (C.ret ?_)); refine QE.ret (js := []) (hs := []) (vs := [_]) rfl ⟨rfl, trivial⟩ (by decide) ?_
 exact ⟨rfl, rfl, rfl⟩

theorem low_c (w k : Nat) (s : Bool) (hw : w < 4294967296) (h1 : 1 ≤ k) (hk : k ≤ 24) :
   Ctr X 116 [.int .u32 (w : Int), .int .i64 (k : Int), .bool s] [] [] (fun v R' H' => v = .int .i64 (lowI w k s) ∧ R' = [] ∧ H' = []) := by
 have e2 : 2 ^ k = 2 * 2 ^ (k - 1) := by rw [Nat.mul_comm, ← Nat.pow_succ]; congr 1; omega
 have hp : 0 < 2 ^ (k - 1) := Nat.pow_pos (by decide)
 have hle : 2 ^ k ≤ 2 ^ 24 := Nat.pow_le_pow_right (by decide) hk
 have hm : w % 2 ^ k < 2 ^ k := Nat.mod_lt _ (by omega)
 refine Ctr.of (X := X) (fn := Tryz.f116) Tryz.func116 rfl (by kernel_rfl) rfl ?_
 intro β
 refine C.seq (C.region ?_); refine Lpu rfl rfl ?_; refine L.nil (QE.seq (C.seq (C.region ?_))); refine Lpu rfl rfl ?_; refine L.step (Ev.toInt rfl rfl rfl rfl (by omega) (by omega)) rfl ?_; refine Lpu rfl rfl ?_; refine L.step (Ev.cast (u := .int .i64 ((2 ^ k : Nat) : Int)) (Ev.shlI (m := 1) (k := k) rfl rfl (by omega) (by omega)) (congrArg (Value.int .i64) (by rw [Nat.one_mul]))) rfl ?_; refine L.step (Ev.cast (u := .int .i64 ((2 ^ k - 1 : Nat) : Int)) (Ev.sub rfl rfl (by omega) (by omega)) (congrArg (Value.int .i64) (by omega))) rfl ?_; refine L.step (Ev.maskI (q := ((w % 2 ^ k : Nat) : Int)) k rfl rfl rfl (by omega) (by rw [Int.natCast_emod])) rfl ?_; refine Lpu rfl rfl ?_; refine L.nil (QE.seq (C.seq (C.seq (C.region ?_)))); refine Lpu rfl rfl ?_; refine Lpu rfl rfl ?_
 refine L.bool 15 rfl (fun hg15 => ?_) (fun hg15 => ?_)
 ·
  refine L.yes rfl ?_; refine Lpu rfl rfl ?_; refine L.yes rfl ?_; refine Lpu rfl rfl ?_; refine L.yes rfl ?_; refine L.step (Ev.cast (u := .int .i64 ((k - 1 : Nat) : Int)) (Ev.sub rfl rfl (by omega) (by omega)) (congrArg (Value.int .i64) (by omega))) rfl ?_; refine L.yes rfl ?_; refine L.step (Ev.shrI (m := w % 2 ^ k) (k := k - 1) rfl rfl (by omega)) rfl ?_; refine L.yes rfl ?_; refine Lpu rfl rfl ?_; refine Lpu rfl rfl ?_; refine L.nil (QE.seq ?_)
  refine C.condB 21 rfl (fun hc21 => ?_) (fun hc21 => ?_)
  ·
   replace hc21 := i_eq hc21
   refine C.region ?_; refine Lpu rfl rfl ?_; refine Lpu rfl rfl ?_; refine L.step (Ev.cast (u := .int .i64 ((2 ^ k : Nat) : Int)) (Ev.shlI (m := 1) (k := k) rfl rfl (by omega) (by omega)) (congrArg (Value.int .i64) (by rw [Nat.one_mul]))) rfl ?_; refine L.step (Ev.sub rfl rfl (by omega) (by omega)) rfl ?_; refine Lpu rfl rfl ?_; refine L.nil (QE.seq (C.seq (C.region ?_))); refine Lpu rfl rfl ?_; refine Lpu rfl rfl ?_; refine L.nil (QE.seq (C.ret ?_)); refine QE.ret (js := []) (hs := []) (vs := [_]) rfl ⟨rfl, trivial⟩ (by decide) ?_
   refine ⟨?_, rfl, rfl⟩
   refine congrArg (Value.int .i64) ?_
   have hd : 2 ^ (k - 1) ≤ w % 2 ^ k := Nat.le_of_not_lt fun h => by rw [Nat.div_eq_of_lt h] at hc21; cases hc21
   unfold lowI sgn
   rw [if_pos hg15, if_pos hd]
   omega
  ·
   replace hc21 := i_ne hc21
   refine C.skip (QE.seq (C.seq (C.region ?_))); refine Lpu rfl rfl ?_; refine Lpu rfl rfl ?_; refine L.nil (QE.seq (C.ret ?_)); refine QE.ret (js := []) (hs := []) (vs := [_]) rfl ⟨rfl, trivial⟩ (by decide) ?_
   refine ⟨?_, rfl, rfl⟩
   refine congrArg (Value.int .i64) ?_
   have hd : ¬ 2 ^ (k - 1) ≤ w % 2 ^ k := fun h => hc21 (congrArg Int.ofNat (Nat.div_eq_of_lt_le (by rw [Nat.one_mul]; exact h) (by rw [show 1 + 1 = 2 from rfl, ← e2]; exact hm)))
   unfold lowI sgn
   rw [if_pos hg15, if_neg hd]
 ·
  refine L.no rfl rfl rfl ?_; refine L.no rfl rfl rfl ?_; refine L.no rfl rfl rfl ?_; refine L.no rfl rfl rfl ?_; refine L.no rfl rfl rfl ?_; refine Lpu rfl rfl ?_; refine L.nil (QE.seq ?_)
  refine C.cond rfl (fun h => by cases h) (fun _ => ?_)
  refine C.skip (QE.seq (C.seq (C.region ?_))); refine Lpu rfl rfl ?_; refine Lpu rfl rfl ?_; refine L.nil (QE.seq (C.ret ?_)); refine QE.ret (js := []) (hs := []) (vs := [_]) rfl ⟨rfl, trivial⟩ (by decide) ?_
  refine ⟨?_, rfl, rfl⟩
  refine congrArg (Value.int .i64) ?_
  unfold lowI
  rw [if_neg (by rw [hg15]; decide)]

theorem kinds_c  :
   Ctr X 112 [] [] [] (fun v R' H' => ∃ s : List ByteArray, v = .agg (List.toArray (kindsV s)) ∧ R' = [] ∧ H' = []) := by
 refine Ctr.of (X := X) (fn := Tryz.f112) Tryz.func112 rfl (by kernel_rfl) rfl ?_
 intro β
 refine C.seq (C.region ?_)
 refine L.alloc rfl rfl rfl (fun A0 => ?_)
 refine L.nil (QE.seq (C.seq (C.region ?_))); refine L.step (Ev.build rfl rfl rfl rfl rfl rfl rfl) rfl ?_; refine L.step (Ev.build rfl rfl rfl rfl rfl rfl rfl) rfl ?_; refine L.step (Ev.build rfl rfl rfl rfl rfl rfl rfl) rfl ?_; refine L.step (Ev.build rfl rfl rfl rfl rfl rfl rfl) rfl ?_; refine L.step (Ev.build rfl rfl rfl rfl rfl rfl rfl) rfl ?_; refine L.step (Ev.build rfl rfl rfl rfl rfl rfl rfl) rfl ?_; refine L.step (Ev.build rfl rfl rfl rfl rfl rfl rfl) rfl ?_; refine L.step (Ev.build rfl rfl rfl rfl rfl rfl rfl) rfl ?_; refine L.step (Ev.build rfl rfl rfl rfl rfl rfl rfl) rfl ?_; refine L.step (Ev.buildArr rfl rfl rfl rfl rfl rfl rfl) rfl ?_; refine L.storeA (j := 0) rfl rfl rfl rfl rfl (Nat.zero_lt_succ _) rfl rfl ?_; refine L.nil (QE.seq (C.ret ?_)); refine QE.ret (js := []) (hs := []) (vs := [_]) rfl ⟨⟨_, _, 0, _, rfl, rfl, Src.o 0 rfl, .inl ⟨rfl, by decide, _, rfl, rfl, rfl⟩⟩, trivial⟩ (by decide) ?_
 exact ⟨[_, _, _, _, _, _, _, _, _], rfl, rfl, rfl⟩

end Go.Proofs.YtbkmahjhhncfcaaGreat
end
