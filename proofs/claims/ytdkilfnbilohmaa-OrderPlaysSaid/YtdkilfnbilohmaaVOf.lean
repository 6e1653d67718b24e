/-
  Patches without bytes of their own, as plain data.
-/
import Derived.Test.YtdkilfnbilohmaaVOd
namespace Go.Sl

structure Po where
 k : Int
 fr : Int
 ln : Int
 b : UInt8
def Po.cells (x : Po) : List Value := [.int .i64 x.k, .int .i64 x.fr, .int .i64 x.ln, .int .u8 (x.b.toNat : Int), .slice none 0 0]
def Po.zero : Po := ⟨0, 0, 0, 0⟩
def opsV (l : List Po) : List Value := l.flatMap Po.cells
theorem opsV_len (l : List Po) : (opsV l).length = l.length * 5 := by
 induction l with
 | nil => rfl
 | cons r l ih => rw [show opsV (r :: l) = r.cells ++ opsV l from rfl, List.length_append, ih]; simp [Po.cells]; omega
theorem opsV_at : ∀ (l : List Po) (k : Nat), k < l.length → ((opsV l).drop (k * 5)).take 5 = (l.getD k Po.zero).cells
 | [], _, h => absurd h (Nat.not_lt_zero _)
 | _ :: _, 0, _ => rfl
 | _ :: l, k + 1, h => by
   rw [show (k + 1) * 5 = k * 5 + 5 from by omega]
   exact opsV_at l k (by simpa using h)
theorem ops_pos {l : List Po} {k : Nat} (hk : k < l.length) : 0 < (opsV l).length := by rw [opsV_len]; omega
theorem opsV_app (a b : List Po) : opsV (a ++ b) = opsV a ++ opsV b := by simp [opsV]
def insB (x : Po) (size : Int) : Bool := decide (0 ≤ x.fr ∧ x.fr ≤ size - x.ln)
def rightB (x : Po) (size : Int) : Bool :=
 if x.k = 1 then insB x size && decide ((x.b.toNat : Int) = 0) else if x.k = 2 then insB x size && decide ((x.b.toNat : Int) = 0) && decide (x.ln = 0) else if x.k = 3 then decide (x.fr = 0) else if x.k = 4 then decide (x.fr = 0) && decide ((x.b.toNat : Int) = 0) && decide (x.ln = 0) else false
def kindT (x : Po) (t1 t2 t3 t4 t0 : Nat) : Nat := if x.k = 1 then t1 else if x.k = 2 then t2 else if x.k = 3 then t3 else if x.k = 4 then t4 else t0
def kindP (x : Po) : Value := if x.k = 1 ∨ x.k = 2 ∨ x.k = 3 ∨ x.k = 4 then .agg (List.toArray x.cells) else .agg (List.toArray [])
def chkG (size : Int) : Int → List Po → Bool
 | left, [] => decide (left ≤ 0)
 | left, x :: xs => if x.ln < 1 ∨ left < x.ln ∨ rightB x size = false then false else chkG size (left - x.ln) xs
def chkE (inn out : Int) (l : List Po) : Int := if min inn out < 0 ∨ 65536 < max inn out ∨ 4096 < l.length then 60 else if chkG inn out l = true then 0 else 60
theorem drop_po {l : List Po} {i : Nat} (h : i < l.length) : l.drop i = l.getD i Po.zero :: l.drop (i + 1) := by
 rw [List.drop_eq_getElem_cons h]
 simp [List.getD_eq_getElem?_getD, h]
theorem chkG_no {size left : Int} {l : List Po} {i : Nat} (h : i < l.length) (hb : (l.getD i Po.zero).ln < 1 ∨ left < (l.getD i Po.zero).ln ∨ rightB (l.getD i Po.zero) size = false) : chkG size left (l.drop i) = false := by
 rw [drop_po h, chkG, if_pos hb]
theorem chkG_step {size left : Int} {l : List Po} {i : Nat} (h : i < l.length) (h1 : ¬(l.getD i Po.zero).ln < 1) (h2 : ¬left < (l.getD i Po.zero).ln) (h3 : rightB (l.getD i Po.zero) size = true) : chkG size left (l.drop i) = chkG size (left - (l.getD i Po.zero).ln) (l.drop (i + 1)) := by
 rw [drop_po h, chkG, if_neg (by
   rintro (q | q | q)
   · exact h1 q
   · exact h2 q
   · rw [h3] at q; cases q)]
theorem chkG_end {size left : Int} {l : List Po} {i : Nat} (h : l.length ≤ i) : chkG size left (l.drop i) = decide (left ≤ 0) := by
 rw [List.drop_eq_nil_of_le h, chkG]
/-! ### Symbols -/
structure Sy where
 old : Bool
 at_ : Int
 b : UInt8
 deriving DecidableEq
def Sy.cells (s : Sy) : List Value := [.bool s.old, .int .i64 s.at_, .int .u8 (s.b.toNat : Int)]
def Sy.zero : Sy := ⟨false, 0, 0⟩
def symsV (l : List Sy) : List Value := l.flatMap Sy.cells
theorem symsV_len (l : List Sy) : (symsV l).length = l.length * 3 := by
 induction l with
 | nil => rfl
 | cons r l ih => rw [show symsV (r :: l) = r.cells ++ symsV l from rfl, List.length_append, ih]; simp [Sy.cells]; omega
theorem symsV_at : ∀ (l : List Sy) (k : Nat), k < l.length → ((symsV l).drop (k * 3)).take 3 = (l.getD k Sy.zero).cells
 | [], _, h => absurd h (Nat.not_lt_zero _)
 | _ :: _, 0, _ => rfl
 | _ :: l, k + 1, h => by
   rw [show (k + 1) * 3 = k * 3 + 3 from by omega]
   exact symsV_at l k (by simpa using h)
theorem syms_pos {l : List Sy} {k : Nat} (hk : k < l.length) : 0 < (symsV l).length := by rw [symsV_len]; omega
theorem symsV_app (a b : List Sy) : symsV (a ++ b) = symsV a ++ symsV b := by simp [symsV]
def symO (x : Po) (i : Nat) : Sy := if x.k = 1 then ⟨true, x.fr + (i : Int), 0⟩ else ⟨false, 0, x.b⟩
def symX (x : Po) (m : Nat) : List Sy := (List.range m).map (symO x)
theorem symX_len (x : Po) (m : Nat) : (symX x m).length = m := by simp [symX]
theorem symX_succ (x : Po) (m : Nat) : symX x (m + 1) = symX x m ++ [symO x m] := by simp [symX, List.range_succ]
def symL (l : List Po) : List Sy := l.flatMap fun x => symX x x.ln.toNat
theorem symL_snoc (l : List Po) (i : Nat) (h : i < l.length) : symL (l.take (i + 1)) = symL (l.take i) ++ symX (l.getD i Po.zero) (l.getD i Po.zero).ln.toNat := by
 rw [take_snoc' l Po.zero i h]
 simp [symL]
theorem chkG_len {size : Int} : ∀ (l : List Po) (left : Int), 0 ≤ left → chkG size left l = true → ((symL l).length : Int) ≤ left
 | [], left, h0, _ => h0
 | x :: l, left, h0, h => by
   rw [chkG] at h
   split at h
   · cases h
   · rename_i hb
     have ih := chkG_len l (left - x.ln) (by omega) h
     rw [show symL (x :: l) = symX x x.ln.toNat ++ symL l from rfl, List.length_append, symX_len]
     omega
theorem symL_pre (l : List Po) (i j : Nat) (h : i < l.length) (hj : j ≤ (l.getD i Po.zero).ln.toNat) : (symL (l.take i) ++ symX (l.getD i Po.zero) j).length ≤ (symL l).length := by
 have e : symL l = symL (l.take (i + 1)) ++ symL (l.drop (i + 1)) := by
   unfold symL
   rw [← List.flatMap_append, List.take_append_drop]
 rw [e, symL_snoc l i h]
 simp only [List.length_append, symX_len]
 omega
theorem chkG_get {size : Int} : ∀ (l : List Po) (left : Int), chkG size left l = true → ∀ i, i < l.length → 1 ≤ (l.getD i Po.zero).ln ∧ (l.getD i Po.zero).ln ≤ left ∧ rightB (l.getD i Po.zero) size = true
 | x :: l, left, h, i, hi => by
   rw [chkG] at h
   split at h
   · cases h
   · rename_i hb
     cases i with
     | zero =>
       show 1 ≤ x.ln ∧ x.ln ≤ left ∧ rightB x size = true
       refine ⟨by omega, by omega, ?_⟩
       cases hr : rightB x size with
       | true => rfl
       | false => exact absurd (.inr (.inr hr)) hb
     | succ i =>
       have := chkG_get l (left - x.ln) h i (Nat.lt_of_succ_lt_succ hi)
       show 1 ≤ (l.getD i Po.zero).ln ∧ (l.getD i Po.zero).ln ≤ left ∧ rightB (l.getD i Po.zero) size = true
       exact ⟨this.1, by omega, this.2.2⟩
def syS (inn out : Int) (l : List Po) : List Sy := if chkE inn out l = 0 then symL l else []
theorem symO_one (x : Po) (i : Nat) : ∀ v ∈ (symO x i).cells, v.oneCell' = true := by
 intro v hv
 simp only [Sy.cells, List.mem_cons, List.not_mem_nil, or_false] at hv
 rcases hv with rfl | rfl | rfl <;> rfl
theorem chkE_ok {inn out : Int} {l : List Po} (h : chkE inn out l = 0) : 0 ≤ inn ∧ inn ≤ 65536 ∧ 0 ≤ out ∧ out ≤ 65536 ∧ l.length ≤ 4096 ∧ chkG inn out l = true := by
 unfold chkE at h
 split at h
 · cases h
 · split at h
   · rename_i h1 h2
     exact ⟨by omega, by omega, by omega, by omega, by omega, h2⟩
   · cases h
end Go.Sl
