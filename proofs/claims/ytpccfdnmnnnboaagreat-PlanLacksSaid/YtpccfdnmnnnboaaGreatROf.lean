/-
  Patches without bytes of their own, as plain data.
-/
import Derived.Test.YtpccfdnmnnnboaaGreatROd
import Derived.Test.YtpccfdnmnnnboaaGreatRWOrD
section
namespace Go.Sl

structure Po where
 k : Int
 fr : Int
 ln : Int
 b : UInt8
def Po.cells (x : Po) : List Value := [.int .i64 x.k, .int .i64 x.fr, .int .i64 x.ln, .int .u8 (x.b.toNat : Int), .slice none 0 0]
def Po.zero : Po := ⟨0, 0, 0, 0⟩
def opsV (l : List Po) : List Value := l.flatMap Po.cells
theorem opsV_len (l : List Po) : (opsV l).length = l.length * 5 := by
 induction l with
 | nil => rfl
 | cons r l ih => rw [show opsV (r :: l) = r.cells ++ opsV l from rfl, List.length_append, ih]; simp [Po.cells]; omega
theorem opsV_at : ∀ (l : List Po) (k : Nat), k < l.length → ((opsV l).drop (k * 5)).take 5 = (l.getD k Po.zero).cells
 | [], _, h => absurd h (Nat.not_lt_zero _)
 | _ :: _, 0, _ => rfl
 | _ :: l, k + 1, h => by
   rw [show (k + 1) * 5 = k * 5 + 5 from by omega]
   exact opsV_at l k (by simpa using h)
theorem ops_pos {l : List Po} {k : Nat} (hk : k < l.length) : 0 < (opsV l).length := by rw [opsV_len]; omega
def insB (x : Po) (size : Int) : Bool := decide (0 ≤ x.fr ∧ x.fr ≤ size - x.ln)
def rightB (x : Po) (size : Int) : Bool :=
 if x.k = 1 then insB x size && decide ((x.b.toNat : Int) = 0) else if x.k = 2 then insB x size && decide ((x.b.toNat : Int) = 0) && decide (x.ln = 0) else if x.k = 3 then decide (x.fr = 0) else if x.k = 4 then decide (x.fr = 0) && decide ((x.b.toNat : Int) = 0) && decide (x.ln = 0) else false
def kindT (x : Po) (t1 t2 t3 t4 t0 : Nat) : Nat := if x.k = 1 then t1 else if x.k = 2 then t2 else if x.k = 3 then t3 else if x.k = 4 then t4 else t0
def kindP (x : Po) : Value := if x.k = 1 ∨ x.k = 2 ∨ x.k = 3 ∨ x.k = 4 then .agg (List.toArray x.cells) else .agg (List.toArray [])
def chkG (size : Int) : Int → List Po → Bool
 | left, [] => decide (left ≤ 0)
 | left, x :: xs => if x.ln < 1 ∨ left < x.ln ∨ rightB x size = false then false else chkG size (left - x.ln) xs
def chkE (inn out : Int) (l : List Po) : Int := if min inn out < 0 ∨ 65536 < max inn out ∨ 4096 < l.length then 60 else if chkG inn out l = true then 0 else 60
theorem drop_po {l : List Po} {i : Nat} (h : i < l.length) : l.drop i = l.getD i Po.zero :: l.drop (i + 1) := by
 rw [List.drop_eq_getElem_cons h]
 simp [List.getD_eq_getElem?_getD, h]
theorem chkG_no {size left : Int} {l : List Po} {i : Nat} (h : i < l.length) (hb : (l.getD i Po.zero).ln < 1 ∨ left < (l.getD i Po.zero).ln ∨ rightB (l.getD i Po.zero) size = false) : chkG size left (l.drop i) = false := by
 rw [drop_po h, chkG, if_pos hb]
theorem chkG_step {size left : Int} {l : List Po} {i : Nat} (h : i < l.length) (h1 : ¬(l.getD i Po.zero).ln < 1) (h2 : ¬left < (l.getD i Po.zero).ln) (h3 : rightB (l.getD i Po.zero) size = true) : chkG size left (l.drop i) = chkG size (left - (l.getD i Po.zero).ln) (l.drop (i + 1)) := by
 rw [drop_po h, chkG, if_neg (by
   rintro (q | q | q)
   · exact h1 q
   · exact h2 q
   · rw [h3] at q; cases q)]
theorem chkG_end {size left : Int} {l : List Po} {i : Nat} (h : l.length ≤ i) : chkG size left (l.drop i) = decide (left ≤ 0) := by
 rw [List.drop_eq_nil_of_le h, chkG]
/-! ### Symbols -/
structure Sy where
 old : Bool
 at_ : Int
 b : UInt8
 deriving DecidableEq
def Sy.cells (s : Sy) : List Value := [.bool s.old, .int .i64 s.at_, .int .u8 (s.b.toNat : Int)]
def Sy.zero : Sy := ⟨false, 0, 0⟩
def symsV (l : List Sy) : List Value := l.flatMap Sy.cells
theorem symsV_len (l : List Sy) : (symsV l).length = l.length * 3 := by
 induction l with
 | nil => rfl
 | cons r l ih => rw [show symsV (r :: l) = r.cells ++ symsV l from rfl, List.length_append, ih]; simp [Sy.cells]; omega
theorem symsV_at : ∀ (l : List Sy) (k : Nat), k < l.length → ((symsV l).drop (k * 3)).take 3 = (l.getD k Sy.zero).cells
 | [], _, h => absurd h (Nat.not_lt_zero _)
 | _ :: _, 0, _ => rfl
 | _ :: l, k + 1, h => by
   rw [show (k + 1) * 3 = k * 3 + 3 from by omega]
   exact symsV_at l k (by simpa using h)
theorem syms_pos {l : List Sy} {k : Nat} (hk : k < l.length) : 0 < (symsV l).length := by rw [symsV_len]; omega
theorem symsV_app (a b : List Sy) : symsV (a ++ b) = symsV a ++ symsV b := by simp [symsV]
def symO (x : Po) (i : Nat) : Sy := if x.k = 1 then ⟨true, x.fr + (i : Int), 0⟩ else ⟨false, 0, x.b⟩
def symX (x : Po) (m : Nat) : List Sy := (List.range m).map (symO x)
theorem symX_len (x : Po) (m : Nat) : (symX x m).length = m := by simp [symX]
theorem symX_succ (x : Po) (m : Nat) : symX x (m + 1) = symX x m ++ [symO x m] := by simp [symX, List.range_succ]
def symL (l : List Po) : List Sy := l.flatMap fun x => symX x x.ln.toNat
theorem symL_snoc (l : List Po) (i : Nat) (h : i < l.length) : symL (l.take (i + 1)) = symL (l.take i) ++ symX (l.getD i Po.zero) (l.getD i Po.zero).ln.toNat := by
 rw [take_snoc' l Po.zero i h]
 simp [symL]
theorem chkG_len {size : Int} : ∀ (l : List Po) (left : Int), 0 ≤ left → chkG size left l = true → ((symL l).length : Int) ≤ left
 | [], left, h0, _ => h0
 | x :: l, left, h0, h => by
   rw [chkG] at h
   split at h
   · cases h
   · rename_i hb
     have ih := chkG_len l (left - x.ln) (by omega) h
     rw [show symL (x :: l) = symX x x.ln.toNat ++ symL l from rfl, List.length_append, symX_len]
     omega
theorem symL_pre (l : List Po) (i j : Nat) (h : i < l.length) (hj : j ≤ (l.getD i Po.zero).ln.toNat) : (symL (l.take i) ++ symX (l.getD i Po.zero) j).length ≤ (symL l).length := by
 have e : symL l = symL (l.take (i + 1)) ++ symL (l.drop (i + 1)) := by
   unfold symL
   rw [← List.flatMap_append, List.take_append_drop]
 rw [e, symL_snoc l i h]
 simp only [List.length_append, symX_len]
 omega
theorem chkG_get {size : Int} : ∀ (l : List Po) (left : Int), chkG size left l = true → ∀ i, i < l.length → 1 ≤ (l.getD i Po.zero).ln ∧ (l.getD i Po.zero).ln ≤ left ∧ rightB (l.getD i Po.zero) size = true
 | x :: l, left, h, i, hi => by
   rw [chkG] at h
   split at h
   · cases h
   · rename_i hb
     cases i with
     | zero =>
       show 1 ≤ x.ln ∧ x.ln ≤ left ∧ rightB x size = true
       refine ⟨by omega, by omega, ?_⟩
       cases hr : rightB x size with
       | true => rfl
       | false => exact absurd (.inr (.inr hr)) hb
     | succ i =>
       have := chkG_get l (left - x.ln) h i (Nat.lt_of_succ_lt_succ hi)
       show 1 ≤ (l.getD i Po.zero).ln ∧ (l.getD i Po.zero).ln ≤ left ∧ rightB (l.getD i Po.zero) size = true
       exact ⟨this.1, by omega, this.2.2⟩
def syS (inn out : Int) (l : List Po) : List Sy := if chkE inn out l = 0 then symL l else []
theorem symO_one (x : Po) (i : Nat) : ∀ v ∈ (symO x i).cells, v.oneCell' = true := by
 intro v hv
 simp only [Sy.cells, List.mem_cons, List.not_mem_nil, or_false] at hv
 rcases hv with rfl | rfl | rfl <;> rfl
theorem chkE_ok {inn out : Int} {l : List Po} (h : chkE inn out l = 0) : 0 ≤ inn ∧ inn ≤ 65536 ∧ 0 ≤ out ∧ out ≤ 65536 ∧ l.length ≤ 4096 ∧ chkG inn out l = true := by
 unfold chkE at h
 split at h
 · cases h
 · split at h
   · rename_i h1 h2
     exact ⟨by omega, by omega, by omega, by omega, by omega, h2⟩
   · cases h
end Go.Sl
end
/-
  The contracts of patches.
-/
section
namespace Go.Proofs.YtpccfdnmnnnboaaGreat
open Go.Sl

theorem inside_c (x : Po) (size : Int) (hs1 : -100000 ≤ size - x.ln) (hs2 : size - x.ln ≤ 100000) :
   Ctr X 197 [.agg (List.toArray x.cells), .int .i64 size] [] [] (fun v R' H' => v = .bool (insB x size) ∧ R' = [] ∧ H' = []) := by
 refine Ctr.of (X := X) (fn := Tryz.f197) Tryz.func197 rfl (by kernel_rfl) rfl ?_
 intro β
 refine C.seq (C.region ?_)
 refine L.boxA rfl rfl (fun A2 => ?_)
 refine Lpu rfl rfl ?_; refine L.nil (QE.seq (C.seq ?_)); refine C.freeze 0 rfl [] (by decide) (by decide) ?_; refine C.region ?_; refine L.step (Ev.fieldAddr rfl rfl rfl rfl rfl rfl (Src.r 0 rfl) (Nat.zero_lt_succ _) rfl) rfl ?_; refine L.step (Ev.load rfl rfl rfl (Src.r 0 rfl) rfl) rfl ?_; refine Lpu rfl rfl ?_; refine Lpu rfl rfl ?_
 refine L.bool 8 rfl (fun hg8 => ?_) (fun hg8 => ?_)
 ·
  replace hg8 := of_decide_eq_true hg8
  refine L.yes rfl ?_; refine L.step (Ev.fieldAddr rfl rfl rfl rfl rfl rfl (Src.r 0 rfl) (Nat.zero_lt_succ _) rfl) rfl ?_; refine L.yes rfl ?_; refine L.step (Ev.load rfl rfl rfl (Src.r 0 rfl) rfl) rfl ?_; refine L.yes rfl ?_; refine Lpu rfl rfl ?_; refine L.yes rfl ?_; refine L.step (Ev.fieldAddr rfl rfl rfl rfl rfl rfl (Src.r 0 rfl) (Nat.zero_lt_succ _) rfl) rfl ?_; refine L.yes rfl ?_; refine L.step (Ev.load rfl rfl rfl (Src.r 0 rfl) rfl) rfl ?_; refine L.yes rfl ?_; refine L.step (Ev.sub rfl rfl (by omega) (by omega)) rfl ?_; refine L.yes rfl ?_; refine Lpu rfl rfl ?_; refine Lpu rfl rfl ?_; refine Lpu rfl rfl ?_; refine L.nil (QE.seq (C.ret ?_)); refine QE.ret (js := []) (hs := []) (vs := [_]) rfl ⟨rfl, trivial⟩ (by decide) ?_
  exact ⟨congrArg Value.bool (by unfold insB; rw [Bool.eq_iff_iff]; simp; omega), rfl, rfl⟩
 ·
  replace hg8 := of_decide_eq_false hg8
  refine L.no rfl rfl rfl ?_; refine L.no rfl rfl rfl ?_; refine L.no rfl rfl rfl ?_; refine L.no rfl rfl rfl ?_; refine L.no rfl rfl rfl ?_; refine L.no rfl rfl rfl ?_; refine L.no rfl rfl rfl ?_; refine Lpu rfl rfl ?_; refine Lpu rfl rfl ?_; refine L.nil (QE.seq (C.ret ?_)); refine QE.ret (js := []) (hs := []) (vs := [_]) rfl ⟨rfl, trivial⟩ (by decide) ?_
  exact ⟨congrArg Value.bool (by unfold insB; rw [Bool.eq_iff_iff]; simp; omega), rfl, rfl⟩

theorem right1_c (x : Po) (size : Int) (hs1 : -100000 ≤ size - x.ln) (hs2 : size - x.ln ≤ 100000) :
   Ctr X 195 [.agg (List.toArray x.cells), .int .i64 size] [] [] (fun v R' H' => v = .bool (insB x size && decide ((x.b.toNat : Int) = 0)) ∧ R' = [] ∧ H' = []) := by
 refine Ctr.of (X := X) (fn := Tryz.f195) Tryz.func195 rfl (by kernel_rfl) rfl ?_
 intro β
 refine C.seq (C.region ?_)
 refine L.boxA rfl rfl (fun A2 => ?_)
 refine Lpu rfl rfl ?_; refine L.nil (QE.seq (C.seq ?_)); refine C.freeze 0 rfl [] (by decide) (by decide) ?_; refine C.region ?_; refine L.step (Ev.loadA rfl rfl rfl (Src.r 0 rfl) rfl rfl (by decide)) rfl ?_; refine Lpu rfl rfl ?_; refine L.call (js := []) (js' := []) (inside_c x size hs1 hs2) rfl rfl rfl (by decide) trivial rfl ?_
 rintro _ _ _ ⟨rfl, rfl, rfl⟩
 refine Lpu rfl rfl ?_
 refine L.bool 8 rfl (fun hg8 => ?_) (fun hg8 => ?_)
 ·
  refine L.yes rfl ?_; refine L.step (Ev.fieldAddr rfl rfl rfl rfl rfl rfl (Src.r 0 rfl) (Nat.zero_lt_succ _) rfl) rfl ?_; refine L.yes rfl ?_; refine L.step (Ev.load rfl rfl rfl (Src.r 0 rfl) rfl) rfl ?_; refine L.yes rfl ?_; refine Lpu rfl rfl ?_; refine Lpu rfl rfl ?_; refine Lpu rfl rfl ?_
  refine L.bool 13 rfl (fun hg13 => ?_) (fun hg13 => ?_)
  ·
   replace hg13 := i_eq hg13
   refine L.yes rfl ?_; refine L.step (Ev.fieldAddr rfl rfl rfl rfl rfl rfl (Src.r 0 rfl) (Nat.zero_lt_succ _) rfl) rfl ?_; refine L.yes rfl ?_; refine L.step (Ev.load rfl rfl rfl (Src.r 0 rfl) rfl) rfl ?_; refine L.yes rfl ?_; refine Lpu rfl rfl ?_; refine L.yes rfl ?_; refine Lpu rfl rfl ?_; refine Lpu rfl rfl ?_; refine Lpu rfl rfl ?_; refine L.nil (QE.seq (C.ret ?_)); refine QE.ret (js := []) (hs := []) (vs := [_]) rfl ⟨rfl, trivial⟩ (by decide) ?_
   refine ⟨congrArg Value.bool ?_, rfl, rfl⟩
   rw [Bool.eq_iff_iff]
   simp [*]
   try omega
  ·
   replace hg13 := i_ne hg13
   refine L.no rfl rfl rfl ?_; refine L.no rfl rfl rfl ?_; refine L.no rfl rfl rfl ?_; refine L.no rfl rfl rfl ?_; refine Lpu rfl rfl ?_; refine Lpu rfl rfl ?_; refine L.nil (QE.seq (C.ret ?_)); refine QE.ret (js := []) (hs := []) (vs := [_]) rfl ⟨rfl, trivial⟩ (by decide) ?_
   refine ⟨congrArg Value.bool ?_, rfl, rfl⟩
   rw [Bool.eq_iff_iff]
   simp [*]
   try omega
 ·
  refine L.no rfl rfl rfl ?_; refine L.no rfl rfl rfl ?_; refine L.no rfl rfl rfl ?_; refine Lpu rfl rfl ?_; refine Lpu rfl rfl ?_; refine L.no rfl rfl rfl ?_; refine L.no rfl rfl rfl ?_; refine L.no rfl rfl rfl ?_; refine L.no rfl rfl rfl ?_; refine Lpu rfl rfl ?_; refine Lpu rfl rfl ?_; refine L.nil (QE.seq (C.ret ?_)); refine QE.ret (js := []) (hs := []) (vs := [_]) rfl ⟨rfl, trivial⟩ (by decide) ?_
  refine ⟨congrArg Value.bool ?_, rfl, rfl⟩
  rw [Bool.eq_iff_iff]
  simp [*]
  try omega

theorem right2_c (x : Po) (size : Int) (hs1 : -100000 ≤ size - x.ln) (hs2 : size - x.ln ≤ 100000) :
   Ctr X 199 [.agg (List.toArray x.cells), .int .i64 size] [] [] (fun v R' H' => v = .bool (insB x size && decide ((x.b.toNat : Int) = 0) && decide (x.ln = 0)) ∧ R' = [] ∧ H' = []) := by
 refine Ctr.of (X := X) (fn := Tryz.f199) Tryz.func199 rfl (by kernel_rfl) rfl ?_
 intro β
 refine C.seq (C.region ?_)
 refine L.boxA rfl rfl (fun A2 => ?_)
 refine Lpu rfl rfl ?_; refine L.nil (QE.seq (C.seq ?_)); refine C.freeze 0 rfl [] (by decide) (by decide) ?_; refine C.region ?_; refine L.step (Ev.loadA rfl rfl rfl (Src.r 0 rfl) rfl rfl (by decide)) rfl ?_; refine Lpu rfl rfl ?_; refine L.call (js := []) (js' := []) (inside_c x size hs1 hs2) rfl rfl rfl (by decide) trivial rfl ?_
 rintro _ _ _ ⟨rfl, rfl, rfl⟩
 refine Lpu rfl rfl ?_
 refine L.bool 8 rfl (fun hg8 => ?_) (fun hg8 => ?_)
 ·
  refine L.yes rfl ?_; refine L.step (Ev.fieldAddr rfl rfl rfl rfl rfl rfl (Src.r 0 rfl) (Nat.zero_lt_succ _) rfl) rfl ?_; refine L.yes rfl ?_; refine L.step (Ev.load rfl rfl rfl (Src.r 0 rfl) rfl) rfl ?_; refine L.yes rfl ?_; refine Lpu rfl rfl ?_; refine Lpu rfl rfl ?_; refine Lpu rfl rfl ?_
  refine L.bool 13 rfl (fun hg13 => ?_) (fun hg13 => ?_)
  ·
   replace hg13 := i_eq hg13
   refine L.yes rfl ?_; refine L.step (Ev.fieldAddr rfl rfl rfl rfl rfl rfl (Src.r 0 rfl) (Nat.zero_lt_succ _) rfl) rfl ?_; refine L.yes rfl ?_; refine L.step (Ev.load rfl rfl rfl (Src.r 0 rfl) rfl) rfl ?_; refine L.yes rfl ?_; refine Lpu rfl rfl ?_; refine L.yes rfl ?_; refine L.step (Ev.fieldAddr rfl rfl rfl rfl rfl rfl (Src.r 0 rfl) (Nat.zero_lt_succ _) rfl) rfl ?_; refine L.yes rfl ?_; refine L.step (Ev.load rfl rfl rfl (Src.r 0 rfl) rfl) rfl ?_; refine L.yes rfl ?_; refine Lpu rfl rfl ?_; refine Lpu rfl rfl ?_; refine Lpu rfl rfl ?_; refine L.nil (QE.seq (C.ret ?_)); refine QE.ret (js := []) (hs := []) (vs := [_]) rfl ⟨rfl, trivial⟩ (by decide) ?_
   refine ⟨congrArg Value.bool ?_, rfl, rfl⟩
   rw [Bool.eq_iff_iff]
   simp [*]
   try omega
  ·
   replace hg13 := i_ne hg13
   refine L.no rfl rfl rfl ?_; refine L.no rfl rfl rfl ?_; refine L.no rfl rfl rfl ?_; refine L.no rfl rfl rfl ?_; refine L.no rfl rfl rfl ?_; refine L.no rfl rfl rfl ?_; refine Lpu rfl rfl ?_; refine Lpu rfl rfl ?_; refine L.nil (QE.seq (C.ret ?_)); refine QE.ret (js := []) (hs := []) (vs := [_]) rfl ⟨rfl, trivial⟩ (by decide) ?_
   refine ⟨congrArg Value.bool ?_, rfl, rfl⟩
   rw [Bool.eq_iff_iff]
   simp [*]
   try omega
 ·
  refine L.no rfl rfl rfl ?_; refine L.no rfl rfl rfl ?_; refine L.no rfl rfl rfl ?_; refine Lpu rfl rfl ?_; refine Lpu rfl rfl ?_; refine L.no rfl rfl rfl ?_; refine L.no rfl rfl rfl ?_; refine L.no rfl rfl rfl ?_; refine L.no rfl rfl rfl ?_; refine L.no rfl rfl rfl ?_; refine L.no rfl rfl rfl ?_; refine Lpu rfl rfl ?_; refine Lpu rfl rfl ?_; refine L.nil (QE.seq (C.ret ?_)); refine QE.ret (js := []) (hs := []) (vs := [_]) rfl ⟨rfl, trivial⟩ (by decide) ?_
  refine ⟨congrArg Value.bool ?_, rfl, rfl⟩
  rw [Bool.eq_iff_iff]
  simp [*]
  try omega

theorem right3_c (x : Po) (size : Int) (_hs1 : -100000 ≤ size - x.ln) (_hs2 : size - x.ln ≤ 100000) :
   Ctr X 202 [.agg (List.toArray x.cells), .int .i64 size] [] [] (fun v R' H' => v = .bool (decide (x.fr = 0)) ∧ R' = [] ∧ H' = []) := by
 refine Ctr.of (X := X) (fn := Tryz.f202) Tryz.func202 rfl (by kernel_rfl) rfl ?_
 intro β
 refine C.seq (C.region ?_)
 refine L.boxA rfl rfl (fun A2 => ?_)
 refine Lpu rfl rfl ?_; refine L.nil (QE.seq (C.seq ?_)); refine C.freeze 0 rfl [] (by decide) (by decide) ?_; refine C.region ?_; refine L.step (Ev.fieldAddr rfl rfl rfl rfl rfl rfl (Src.r 0 rfl) (Nat.zero_lt_succ _) rfl) rfl ?_; refine L.step (Ev.load rfl rfl rfl (Src.r 0 rfl) rfl) rfl ?_; refine Lpu rfl rfl ?_; refine Lpu rfl rfl ?_
 refine L.bool 8 rfl (fun hg8 => ?_) (fun hg8 => ?_)
 ·
  replace hg8 := i_eq hg8
  refine L.yes rfl ?_; refine L.step (Ev.fieldAddr rfl rfl rfl rfl rfl rfl (Src.r 0 rfl) (Nat.zero_lt_succ _) rfl) rfl ?_; refine L.yes rfl ?_; refine L.step (Ev.load rfl rfl rfl (Src.r 0 rfl) rfl) rfl ?_; refine L.yes rfl ?_; refine Lpu rfl rfl ?_; refine L.yes rfl ?_; refine Lpu rfl rfl ?_; refine Lpu rfl rfl ?_; refine Lpu rfl rfl ?_; refine L.nil (QE.seq (C.ret ?_)); refine QE.ret (js := []) (hs := []) (vs := [_]) rfl ⟨rfl, trivial⟩ (by decide) ?_
  refine ⟨congrArg Value.bool ?_, rfl, rfl⟩
  rw [Bool.eq_iff_iff]
  simp [*]
  try omega
 ·
  replace hg8 := i_ne hg8
  refine L.no rfl rfl rfl ?_; refine L.no rfl rfl rfl ?_; refine L.no rfl rfl rfl ?_; refine L.no rfl rfl rfl ?_; refine Lpu rfl rfl ?_; refine Lpu rfl rfl ?_; refine L.nil (QE.seq (C.ret ?_)); refine QE.ret (js := []) (hs := []) (vs := [_]) rfl ⟨rfl, trivial⟩ (by decide) ?_
  refine ⟨congrArg Value.bool ?_, rfl, rfl⟩
  rw [Bool.eq_iff_iff]
  simp [*]
  try omega

theorem right4_c (x : Po) (size : Int) (_hs1 : -100000 ≤ size - x.ln) (_hs2 : size - x.ln ≤ 100000) :
   Ctr X 205 [.agg (List.toArray x.cells), .int .i64 size] [] [] (fun v R' H' => v = .bool (decide (x.fr = 0) && decide ((x.b.toNat : Int) = 0) && decide (x.ln = 0)) ∧ R' = [] ∧ H' = []) := by
 refine Ctr.of (X := X) (fn := Tryz.f205) Tryz.func205 rfl (by kernel_rfl) rfl ?_
 intro β
 refine C.seq (C.region ?_)
 refine L.boxA rfl rfl (fun A2 => ?_)
 refine Lpu rfl rfl ?_; refine L.nil (QE.seq (C.seq ?_)); refine C.freeze 0 rfl [] (by decide) (by decide) ?_; refine C.region ?_; refine L.step (Ev.fieldAddr rfl rfl rfl rfl rfl rfl (Src.r 0 rfl) (Nat.zero_lt_succ _) rfl) rfl ?_; refine L.step (Ev.load rfl rfl rfl (Src.r 0 rfl) rfl) rfl ?_; refine Lpu rfl rfl ?_; refine Lpu rfl rfl ?_
 refine L.bool 8 rfl (fun hg8 => ?_) (fun hg8 => ?_)
 ·
  replace hg8 := i_eq hg8
  refine L.yes rfl ?_; refine L.step (Ev.fieldAddr rfl rfl rfl rfl rfl rfl (Src.r 0 rfl) (Nat.zero_lt_succ _) rfl) rfl ?_; refine L.yes rfl ?_; refine L.step (Ev.load rfl rfl rfl (Src.r 0 rfl) rfl) rfl ?_; refine L.yes rfl ?_; refine Lpu rfl rfl ?_; refine Lpu rfl rfl ?_; refine Lpu rfl rfl ?_
  refine L.bool 13 rfl (fun hg13 => ?_) (fun hg13 => ?_)
  ·
   replace hg13 := i_eq hg13
   refine L.yes rfl ?_; refine L.step (Ev.fieldAddr rfl rfl rfl rfl rfl rfl (Src.r 0 rfl) (Nat.zero_lt_succ _) rfl) rfl ?_; refine L.yes rfl ?_; refine L.step (Ev.load rfl rfl rfl (Src.r 0 rfl) rfl) rfl ?_; refine L.yes rfl ?_; refine Lpu rfl rfl ?_; refine L.yes rfl ?_; refine L.step (Ev.fieldAddr rfl rfl rfl rfl rfl rfl (Src.r 0 rfl) (Nat.zero_lt_succ _) rfl) rfl ?_; refine L.yes rfl ?_; refine L.step (Ev.load rfl rfl rfl (Src.r 0 rfl) rfl) rfl ?_; refine L.yes rfl ?_; refine Lpu rfl rfl ?_; refine Lpu rfl rfl ?_; refine Lpu rfl rfl ?_; refine L.nil (QE.seq (C.ret ?_)); refine QE.ret (js := []) (hs := []) (vs := [_]) rfl ⟨rfl, trivial⟩ (by decide) ?_
   refine ⟨congrArg Value.bool ?_, rfl, rfl⟩
   rw [Bool.eq_iff_iff]
   simp [*]
   try omega
  ·
   replace hg13 := i_ne hg13
   refine L.no rfl rfl rfl ?_; refine L.no rfl rfl rfl ?_; refine L.no rfl rfl rfl ?_; refine L.no rfl rfl rfl ?_; refine L.no rfl rfl rfl ?_; refine L.no rfl rfl rfl ?_; refine Lpu rfl rfl ?_; refine Lpu rfl rfl ?_; refine L.nil (QE.seq (C.ret ?_)); refine QE.ret (js := []) (hs := []) (vs := [_]) rfl ⟨rfl, trivial⟩ (by decide) ?_
   refine ⟨congrArg Value.bool ?_, rfl, rfl⟩
   rw [Bool.eq_iff_iff]
   simp [*]
   try omega
 ·
  replace hg8 := i_ne hg8
  refine L.no rfl rfl rfl ?_; refine L.no rfl rfl rfl ?_; refine L.no rfl rfl rfl ?_; refine Lpu rfl rfl ?_; refine Lpu rfl rfl ?_; refine L.no rfl rfl rfl ?_; refine L.no rfl rfl rfl ?_; refine L.no rfl rfl rfl ?_; refine L.no rfl rfl rfl ?_; refine L.no rfl rfl rfl ?_; refine L.no rfl rfl rfl ?_; refine Lpu rfl rfl ?_; refine Lpu rfl rfl ?_; refine L.nil (QE.seq (C.ret ?_)); refine QE.ret (js := []) (hs := []) (vs := [_]) rfl ⟨rfl, trivial⟩ (by decide) ?_
  refine ⟨congrArg Value.bool ?_, rfl, rfl⟩
  rw [Bool.eq_iff_iff]
  simp [*]
  try omega

theorem right0_c (size : Int) :
   Ctr X 208 [.agg (List.toArray []), .int .i64 size] [] [] (fun v R' H' => v = .bool false ∧ R' = [] ∧ H' = []) := by
 refine Ctr.of (X := X) (fn := Tryz.f208) Tryz.func208 rfl (by kernel_rfl) rfl ?_
 intro β
 refine C.seq (C.region ?_)
 refine L.boxA rfl rfl (fun A2 => ?_)
 refine Lpu rfl rfl ?_; refine L.nil (QE.seq (C.seq (C.region ?_))); refine Lpu rfl rfl ?_; refine L.nil (QE.seq (C.ret ?_)); refine QE.ret (js := []) (hs := []) (vs := [_]) rfl ⟨rfl, trivial⟩ (by decide) ?_
 exact ⟨rfl, rfl, rfl⟩

theorem sym1_c (x : Po) (i : Nat) (h1 : 0 ≤ x.fr + (i : Int)) (h2 : x.fr + (i : Int) ≤ 100000) (_h3 : 0 ≤ x.fr) :
   Ctr X 196 [.agg (List.toArray x.cells), .int .i64 (i : Int)] [] [] (fun v R' H' => v = .agg (List.toArray (Sy.cells ⟨true, x.fr + (i : Int), 0⟩)) ∧ R' = [] ∧ H' = []) := by
 refine Ctr.of (X := X) (fn := Tryz.f196) Tryz.func196 rfl (by kernel_rfl) rfl ?_
 intro β
 refine C.seq (C.region ?_)
 refine L.boxA rfl rfl (fun A2 => ?_)
 refine L.alloc rfl rfl rfl (fun A4 => ?_)
 refine L.nil (QE.seq (C.seq ?_)); refine C.freeze 0 rfl [1] (by decide) (by decide) ?_; refine C.region ?_; refine L.step (Ev.fieldAddr rfl rfl rfl rfl rfl rfl (Src.r 0 rfl) (Nat.zero_lt_succ _) rfl) rfl ?_; refine L.step (Ev.load rfl rfl rfl (Src.r 0 rfl) rfl) rfl ?_; refine Lpu rfl rfl ?_; refine L.step (Ev.add rfl rfl (by omega) (by omega)) rfl ?_; refine L.step (Ev.build rfl rfl rfl rfl rfl rfl rfl) rfl ?_; refine L.storeA (j := 0) rfl rfl rfl rfl rfl (Nat.zero_lt_succ _) rfl rfl ?_; refine L.nil (QE.seq (C.ret ?_)); refine QE.ret (js := []) (hs := []) (vs := [_]) rfl ⟨⟨_, _, 0, _, rfl, rfl, Src.o 0 rfl, .inl ⟨rfl, by decide, _, rfl, rfl, rfl⟩⟩, trivial⟩ (by decide) ?_
 exact ⟨rfl, rfl, rfl⟩

theorem sym3_c (x : Po) (i : Nat) (_h1 : 0 ≤ x.fr + (i : Int)) (_h2 : x.fr + (i : Int) ≤ 100000) (_h3 : 0 ≤ x.fr) :
   Ctr X 203 [.agg (List.toArray x.cells), .int .i64 (i : Int)] [] [] (fun v R' H' => v = .agg (List.toArray (Sy.cells ⟨false, 0, x.b⟩)) ∧ R' = [] ∧ H' = []) := by
 refine Ctr.of (X := X) (fn := Tryz.f203) Tryz.func203 rfl (by kernel_rfl) rfl ?_
 intro β
 refine C.seq (C.region ?_)
 refine L.boxA rfl rfl (fun A2 => ?_)
 refine L.alloc rfl rfl rfl (fun A4 => ?_)
 refine L.nil (QE.seq (C.seq ?_)); refine C.freeze 0 rfl [1] (by decide) (by decide) ?_; refine C.region ?_; refine L.step (Ev.fieldAddr rfl rfl rfl rfl rfl rfl (Src.r 0 rfl) (Nat.zero_lt_succ _) rfl) rfl ?_; refine L.step (Ev.load rfl rfl rfl (Src.r 0 rfl) rfl) rfl ?_; refine L.step (Ev.build rfl rfl rfl rfl rfl rfl rfl) rfl ?_; refine L.storeA (j := 0) rfl rfl rfl rfl rfl (Nat.zero_lt_succ _) rfl rfl ?_; refine L.nil (QE.seq (C.ret ?_)); refine QE.ret (js := []) (hs := []) (vs := [_]) rfl ⟨⟨_, _, 0, _, rfl, rfl, Src.o 0 rfl, .inl ⟨rfl, by decide, _, rfl, rfl, rfl⟩⟩, trivial⟩ (by decide) ?_
 exact ⟨rfl, rfl, rfl⟩

theorem of_c (x : Po) :
   Ctr X 83 [.agg (List.toArray x.cells)] [] [] (fun v R' H' => v = .iface (kindT x 194 195 196 197 199) (kindP x) ∧ R' = [] ∧ H' = []) := by
 refine Ctr.of (X := X) (fn := Tryz.f83) Tryz.func83 rfl (by kernel_rfl) rfl ?_
 intro β
 refine C.seq (C.region ?_)
 refine L.boxA rfl rfl (fun A1 => ?_)
 refine Lpu rfl rfl ?_; refine L.nil (QE.seq (C.seq (C.seq ?_))); refine C.freeze 0 rfl [] (by decide) (by decide) ?_; refine C.region ?_; refine L.step (Ev.fieldAddr rfl rfl rfl rfl rfl rfl (Src.r 0 rfl) (Nat.zero_lt_succ _) rfl) rfl ?_; refine L.step (Ev.load rfl rfl rfl (Src.r 0 rfl) rfl) rfl ?_; refine L.nil (QE.seq (C.block (C.seq (C.region ?_)))); refine Lpu rfl rfl ?_; refine Lpu rfl rfl ?_; refine L.nil (QE.seq ?_)
 refine C.condB 5 rfl (fun hc5 => ?_) (fun hc5 => ?_)
 ·
  replace hc5 := i_eq hc5
  refine C.seq (C.region ?_); refine L.step (Ev.loadA rfl rfl rfl (Src.r 0 rfl) rfl rfl (by decide)) rfl ?_; refine Lpu rfl rfl ?_; refine Lpu rfl rfl ?_; refine L.nil (QE.seq (C.ret (QE.bR (QE.tR ?_)))); refine QE.ret (js := []) (hs := []) (vs := [_]) rfl ⟨rfl, trivial⟩ (by decide) ?_
  have hT : kindT x 194 195 196 197 199 = 194 := by unfold kindT; simp [*]
  refine ⟨?_, rfl, rfl⟩
  rw [hT]
  unfold kindP
  rw [if_pos (by omega)]
  rfl
 ·
  replace hc5 := i_ne hc5
  refine C.seq (C.region ?_); refine Lpu rfl rfl ?_; refine Lpu rfl rfl ?_; refine L.nil (QE.seq ?_)
  refine C.condB 9 rfl (fun hc9 => ?_) (fun hc9 => ?_)
  ·
   replace hc9 := i_eq hc9
   refine C.seq (C.region ?_); refine L.step (Ev.loadA rfl rfl rfl (Src.r 0 rfl) rfl rfl (by decide)) rfl ?_; refine Lpu rfl rfl ?_; refine Lpu rfl rfl ?_; refine L.nil (QE.seq (C.ret (QE.bR (QE.tR ?_)))); refine QE.ret (js := []) (hs := []) (vs := [_]) rfl ⟨rfl, trivial⟩ (by decide) ?_
   have hT : kindT x 194 195 196 197 199 = 195 := by unfold kindT; simp [*]
   refine ⟨?_, rfl, rfl⟩
   rw [hT]
   unfold kindP
   rw [if_pos (by omega)]
   rfl
  ·
   replace hc9 := i_ne hc9
   refine C.seq (C.region ?_); refine Lpu rfl rfl ?_; refine Lpu rfl rfl ?_; refine L.nil (QE.seq ?_)
   refine C.condB 13 rfl (fun hc13 => ?_) (fun hc13 => ?_)
   ·
    replace hc13 := i_eq hc13
    refine C.seq (C.region ?_); refine L.step (Ev.loadA rfl rfl rfl (Src.r 0 rfl) rfl rfl (by decide)) rfl ?_; refine Lpu rfl rfl ?_; refine Lpu rfl rfl ?_; refine L.nil (QE.seq (C.ret (QE.bR (QE.tR ?_)))); refine QE.ret (js := []) (hs := []) (vs := [_]) rfl ⟨rfl, trivial⟩ (by decide) ?_
    have hT : kindT x 194 195 196 197 199 = 196 := by unfold kindT; simp [*]
    refine ⟨?_, rfl, rfl⟩
    rw [hT]
    unfold kindP
    rw [if_pos (by omega)]
    rfl
   ·
    replace hc13 := i_ne hc13
    refine C.seq (C.region ?_); refine Lpu rfl rfl ?_; refine Lpu rfl rfl ?_; refine L.nil (QE.seq ?_)
    refine C.condB 17 rfl (fun hc17 => ?_) (fun hc17 => ?_)
    ·
     replace hc17 := i_eq hc17
     refine C.seq (C.region ?_); refine L.step (Ev.loadA rfl rfl rfl (Src.r 0 rfl) rfl rfl (by decide)) rfl ?_; refine Lpu rfl rfl ?_; refine Lpu rfl rfl ?_; refine L.nil (QE.seq (C.ret (QE.bR (QE.tR ?_)))); refine QE.ret (js := []) (hs := []) (vs := [_]) rfl ⟨rfl, trivial⟩ (by decide) ?_
     have hT : kindT x 194 195 196 197 199 = 197 := by unfold kindT; simp [*]
     refine ⟨?_, rfl, rfl⟩
     rw [hT]
     unfold kindP
     rw [if_pos (by omega)]
     rfl
    ·
     replace hc17 := i_ne hc17
     refine C.skip ?_; refine QE.blkN ?_; refine QE.seq (C.seq (C.region ?_)); refine L.step (Ev.build rfl rfl rfl rfl rfl rfl rfl) rfl ?_; refine Lpu rfl rfl ?_; refine Lpu rfl rfl ?_; refine L.nil (QE.seq (C.ret ?_)); refine QE.ret (js := []) (hs := []) (vs := [_]) rfl ⟨rfl, trivial⟩ (by decide) ?_
     have hT : kindT x 194 195 196 197 199 = 199 := by unfold kindT; rw [if_neg hc5, if_neg hc9, if_neg hc13, if_neg hc17]
     refine ⟨?_, rfl, rfl⟩
     rw [hT]
     unfold kindP
     rw [if_neg (by omega)]
     rfl

end Go.Proofs.YtpccfdnmnnnboaaGreat
end
