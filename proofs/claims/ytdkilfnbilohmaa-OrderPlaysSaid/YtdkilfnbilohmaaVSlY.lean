/-
  An empty slice of structs.
-/
import Derived.Test.YtdkilfnbilohmaaVSlX
import Derived.Test.YtdkilfnbilohmaaVOm
section
namespace Go.Sl

section
variable {X : Cx} {β : Base} {n : Nat} {ds : List Deferred} {ops : Array Oper} {Q : Exit → Act → World → Prop} {rest : List Oper} {Γ : Env} {R H : List Pr}
theorem L.lit0S {d t e ty : Nat} {pos : String} {af : Array Edge} {i ei : Ti} (ht : tlook t X.tab = some i) (hdesc : i.desc = .slice e) (he : tlook e X.tab = some ei) (hd : Nat.blt d n = true)
   (k : ∀ A, L X β n ds ops Q rest ((d, .slice A 0 0) :: Γ) R (H ++ [Own e ei.size A 0 0 []])) : L X β n ds ops Q (⟨some d, .buildSlice t 0 #[], ty, pos, af, none⟩ :: rest) Γ R H := by
 refine L.mk hd e ei.size 0 [] (by unfold maxLen; omega) (by simp) (fun A => .slice A 0 0) ?_ k
 intro ρ w hρ hs o ho
 obtain ⟨e1, _⟩ := X.ok _ _ ht
 rw [hdesc] at e1
 have hS := run_sizeOf' (P := X.P) w (X.ok _ _ he)
 simp only [execOp, ho, Instr.buildSlice, Sem.run_bind, run_underlying e1, Result.andThen_ok, hS]
 simp [Instr.fill, newRow, Array.range_zero']
end
end Go.Sl
end
/-
  Patches of blocks, as plain data.
-/
section
namespace Go.Sl

abbrev T3 := UInt8 × UInt8 × UInt8
def triC (x : T3) : List Value := [.int .u8 (x.1.toNat : Int), .int .u8 (x.2.1.toNat : Int), .int .u8 (x.2.2.toNat : Int)]
def triV (l : List T3) : List Value := l.flatMap triC
theorem triV_len (l : List T3) : (triV l).length = l.length * 3 := by
 induction l with
 | nil => rfl
 | cons r l ih => rw [show triV (r :: l) = triC r ++ triV l from rfl, List.length_append, ih]; simp [triC]; omega
theorem triV_at : ∀ (l : List T3) (k : Nat), k < l.length → ((triV l).drop (k * 3)).take 3 = triC (l.getD k (0, 0, 0))
 | [], _, h => absurd h (Nat.not_lt_zero _)
 | _ :: _, 0, _ => rfl
 | _ :: l, k + 1, h => by
   rw [show (k + 1) * 3 = k * 3 + 3 from by omega]
   exact triV_at l k (by simpa using h)
theorem tri_pos {l : List T3} {k : Nat} (hk : k < l.length) : 0 < (triV l).length := by rw [triV_len]; omega
theorem triV_get {l : List T3} {i j : Nat} (hi : i < l.length) (hj : j < 3) : (triV l)[i * 3 + j]? = (triC (l.getD i (0, 0, 0)))[j]? := by
 rw [← triV_at l i hi, List.getElem?_take, if_pos hj, List.getElem?_drop]
def bkL (x : T3) : Nat := 1 + x.2.1.toNat % 4
/-- The operation of a block. -/
def bkO (n out : Nat) (x : T3) : Po :=
 if 0 < x.1.toNat % 8 then
   if 4 < x.1.toNat % 8 ∧ out < n then ⟨1, (out : Int), ((min (bkL x) (n - out) : Nat) : Int), 0⟩ else ⟨1, ((x.2.2.toNat % n : Nat) : Int), ((min (bkL x) (n - x.2.2.toNat % n) : Nat) : Int), 0⟩
 else ⟨3, 0, (bkL x : Int), x.2.2⟩
def bkS (n : Nat) (l : List T3) : Nat → List Po × Nat
 | 0 => ([], 0)
 | k + 1 => ((bkS n l k).1 ++ [bkO n (bkS n l k).2 (l.getD k (0, 0, 0))], (bkS n l k).2 + (bkO n (bkS n l k).2 (l.getD k (0, 0, 0))).ln.toNat)
theorem bkO_ln (n out : Nat) (x : T3) : 0 ≤ (bkO n out x).ln ∧ (bkO n out x).ln ≤ 4 := by
 unfold bkO bkL
 split
 · split
   · dsimp only; omega
   · dsimp only; omega
 · dsimp only; omega
theorem bkS_len (n : Nat) (l : List T3) : ∀ k, (bkS n l k).1.length = k
 | 0 => rfl
 | k + 1 => by
   rw [bkS, List.length_append, bkS_len n l k]
   rfl
theorem bkS_out (n : Nat) (l : List T3) : ∀ k, (bkS n l k).2 ≤ 4 * k
 | 0 => Nat.le_refl _
 | k + 1 => by
   have ih := bkS_out n l k
   have := bkO_ln n (bkS n l k).2 (l.getD k (0, 0, 0))
   rw [bkS]
   dsimp only
   omega
theorem rdE_le {lf : Bool} {inn out size : Int} {ops : List Po} (h : rdE lf inn out size ops = 0) : rdN inn out size.toNat ≤ 64 := by
 unfold rdE at h
 split at h
 · rename_i h1
   exact absurd h h1
 · split at h
   · cases h
   · split at h
     · cases h
     · split at h
       · cases h
       · omega
theorem rdM_row (lf : Bool) (inn out size : Int) (ops : List Po) (i : Nat) : ((rdM lf inn out size ops).getD i []).length ≤ 64 := by
 by_cases h : rdE lf inn out size ops = 0
 · rw [rdM_ok h]
   exact Nat.le_trans (rwM_row _ _ _ _ _ _) (rdE_le h)
 · rw [rdM_no h]
   exact Nat.zero_le _
end Go.Sl
end
