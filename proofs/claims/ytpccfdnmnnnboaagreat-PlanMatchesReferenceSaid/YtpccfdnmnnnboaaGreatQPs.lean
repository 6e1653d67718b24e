/-
  Records of what sectors had, as plain data.
-/
import Derived.Test.YtpccfdnmnnnboaaGreatQWOyB
import Derived.Test.YtpccfdnmnnnboaaGreatQSlV
import Derived.Test.YtpccfdnmnnnboaaGreatQSlR
import Derived.Test.YtpccfdnmnnnboaaGreatQTd
section
namespace Go.Sl

section
variable {X : Cx} {β : Base} {Γ : Env} {R H : List Pr}
end

/-- The number of the first two bytes. -/
def be2 (l : List UInt8) : Nat := (l.getD 0 0).toNat * 256 + (l.getD 1 0).toNat
/-- A range with its bytes can be read. -/
def PieceOk (l : List UInt8) (last : Int) (size : Int) : Prop := 4 ≤ l.length ∧ last ≤ (be2 l : Int) ∧ 1 ≤ be2 (l.drop 2) ∧ (be2 l : Int) + (be2 (l.drop 2) : Int) ≤ size ∧ be2 (l.drop 2) ≤ l.length - 4
instance (l : List UInt8) (last size : Int) : Decidable (PieceOk l last size) := by unfold PieceOk; infer_instance
abbrev Pc := Nat × List UInt8
/-- So many ranges are read. -/
def goR : Nat → Int → List UInt8 → Int → Option (List UInt8 × List Pc)
 | 0, _, l, _ => some (l, [])
 | k + 1, size, l, last => if PieceOk l last size then (goR k size (((l.drop 2).drop 2).drop (be2 (l.drop 2))) ((be2 l : Int) + (be2 (l.drop 2) : Int))).map (fun r => (r.1, (be2 l, ((l.drop 2).drop 2).take (be2 (l.drop 2))) :: r.2)) else none
def parseS (rec : List UInt8) (size : Int) : Option (List Pc) :=
 if rec.length < 5 ∨ 64 ≤ (rec.getD 0 0).toNat then none
 else match goR (be2 (rec.drop 1)) size ((rec.drop 1).drop 2) 0 with
   | none => none
   | some r => if r.1.length = 2 ∧ be2 r.1 = rec.length then some r.2 else none
/-- What was read so far, and what is left. -/
def Half (n : Nat) (size : Int) (l0 : List UInt8) (k : Nat) (l : List UInt8) (last : Int) (ps : List Pc) : Prop := goR n size l0 0 = (goR k size l last).map fun r => (r.1, ps ++ r.2)
theorem Half.start (n : Nat) (size : Int) (l0 : List UInt8) : Half n size l0 n l0 0 [] := by
 unfold Half
 cases goR n size l0 0 <;> simp
theorem Half.next {n : Nat} {size : Int} {l0 : List UInt8} {k : Nat} {l : List UInt8} {last : Int} {ps : List Pc} (h : Half n size l0 (k + 1) l last ps) (hp : PieceOk l last size) :
   Half n size l0 k (((l.drop 2).drop 2).drop (be2 (l.drop 2))) ((be2 l : Int) + (be2 (l.drop 2) : Int)) (ps ++ [(be2 l, ((l.drop 2).drop 2).take (be2 (l.drop 2)))]) := by
 unfold Half at h ⊢
 rw [h, goR, if_pos hp, Option.map_map]
 congr 1
 funext r
 simp
theorem Half.done {n : Nat} {size : Int} {l0 l : List UInt8} {last : Int} {ps : List Pc} (h : Half n size l0 0 l last ps) : goR n size l0 0 = some (l, ps) := by
 unfold Half at h
 rw [h, goR]
 simp
end Go.Sl
end
/-
  The records of changes, as plain data: their bytes, and that they are read back.
-/
section
namespace Go.Sl

section
variable {X : Cx} {β : Base} {n : Nat} {ds : List Deferred} {ops : Array Oper} {Q : Exit → Act → World → Prop} {Γ : Env} {R H : List Pr} {rest : List Oper}
/-- []T{}, elements of any size -/
theorem L.lit0A {d t e ty : Nat} {pos : String} {af : Array Edge} {i ei : Ti} (ht : tlook t X.tab = some i) (hdesc : i.desc = .slice e) (he : tlook e X.tab = some ei) (hd : Nat.blt d n = true)
   (k : ∀ A, L X β n ds ops Q rest ((d, .slice A 0 0) :: Γ) R (H ++ [Own e ei.size A 0 0 []])) : L X β n ds ops Q (⟨some d, .buildSlice t 0 #[], ty, pos, af, none⟩ :: rest) Γ R H := by
 refine L.mk hd e ei.size 0 [] (by unfold maxLen; omega) (by simp) (fun A => .slice A 0 0) ?_ k
 intro ρ w hρ hs o ho
 obtain ⟨e1, _⟩ := X.ok _ _ ht
 rw [hdesc] at e1
 have hS := run_sizeOf' (P := X.P) w (X.ok _ _ he)
 simp only [execOp, ho, Instr.buildSlice, Sem.run_bind, run_underlying e1, Result.andThen_ok, hS]
 simp [Instr.fill, newRow, Array.range_zero']
end
theorem rangesV_at : ∀ (l : List (Nat × Nat)) (k : Nat), k < l.length → ((rangesV l).drop (k * 2)).take 2 = [.int .i64 ((l.getD k (0, 0)).1 : Int), .int .i64 ((l.getD k (0, 0)).2 : Int)]
 | [], _, h => absurd h (Nat.not_lt_zero _)
 | _ :: _, 0, _ => rfl
 | _ :: l, k + 1, h => by
   rw [show (k + 1) * 2 = k * 2 + 2 from by omega]
   exact rangesV_at l k (by simpa using h)
theorem rangesV_get (l : List (Nat × Nat)) (k q : Nat) (hk : k < l.length) (hq : q < 2) : (rangesV l)[k * 2 + q]? = [Value.int .i64 ((l.getD k (0, 0)).1 : Int), .int .i64 ((l.getD k (0, 0)).2 : Int)][q]? := by
 have h := rangesV_at l k hk
 rw [← h, List.getElem?_take, if_pos hq, List.getElem?_drop]
theorem rangesV_set2 : ∀ (l : List (Nat × Nat)) (k y : Nat), k < l.length → (rangesV l).set (k * 2 + 1) (.int .i64 (y : Int)) = rangesV (l.set k ((l.getD k (0, 0)).1, y))
 | [], _, _, h => absurd h (Nat.not_lt_zero _)
 | _ :: _, 0, _, _ => rfl
 | r :: l, k + 1, y, h => by
   have ih := rangesV_set2 l k y (by simpa using h)
   rw [show (k + 1) * 2 + 1 = (k * 2 + 1) + 1 + 1 from by omega]
   show [Value.int .i64 (r.1 : Int), .int .i64 (r.2 : Int)] ++ (rangesV l).set (k * 2 + 1) (.int .i64 (y : Int)) = _
   rw [ih]
   rfl
theorem ranges_pos {l : List (Nat × Nat)} {k : Nat} (hk : k < l.length) : 0 < (rangesV l).length := by rw [rangesV_len]; omega
theorem stepR_put {s : List (Nat × Nat)} {i : Nat} (h0 : 0 < s.length) (h : (s.getD (s.length - 1) (0, 0)).2 = i) : stepR s i = s.set (s.length - 1) ((s.getD (s.length - 1) (0, 0)).1, i + 1) := by
 obtain ⟨t, r, rfl⟩ : ∃ t r, s = t ++ [r] := ⟨s.dropLast, s.getLast (by intro e; subst e; cases h0), (List.dropLast_concat_getLast _).symm⟩
 simp only [List.length_append, List.length_cons, List.length_nil, Nat.zero_add, Nat.add_sub_cancel] at h ⊢
 have hg : (t ++ [r]).getD t.length (0, 0) = r := by simp
 rw [hg] at h ⊢
 obtain ⟨p, q⟩ := r
 simp only at h
 subst h
 rw [stepR_snoc, List.set_append_right _ _ (Nat.le_refl _), Nat.sub_self]
 rfl
theorem stepR_app {s : List (Nat × Nat)} {i : Nat} (h : s.length = 0 ∨ (s.getD (s.length - 1) (0, 0)).2 ≠ i) : stepR s i = s ++ [(i, i + 1)] := by
 rcases h with h | h
 · obtain rfl := List.eq_nil_of_length_eq_zero h
   rfl
 · unfold stepR
   split
   · next r hr =>
     rw [if_neg]
     intro e
     obtain ⟨t, rfl⟩ := List.getLast?_eq_some_iff.1 hr
     simp at h
     exact h e
   · rfl
theorem stepR_cases (s : List (Nat × Nat)) (i : Nat) : stepR s i = s ++ [(i, i + 1)] ∨ ∃ t p, s = t ++ [(p, i)] ∧ stepR s i = t ++ [(p, i + 1)] := by
 rcases List.eq_nil_or_concat s with rfl | ⟨t, ⟨p, q⟩, rfl⟩
 · exact .inl rfl
 · by_cases h : q = i
   · subst h
     exact .inr ⟨t, p, by simp, by rw [List.concat_eq_append, stepR_snoc]⟩
   · refine .inl (stepR_app (.inr ?_))
     simpa using h

/-! ### What the ranges are -/
theorem chgN_mem (a b : List UInt8) : ∀ k, ∀ r ∈ chgN a b k, r.1 < r.2 ∧ r.2 ≤ k
 | 0, r, h => by cases h
 | k + 1, r, h => by
   have ih := chgN_mem a b k
   rw [chgN] at h
   split at h
   · have := ih r h; omega
   · rcases stepR_cases (chgN a b k) k with e | ⟨t, p, e1, e2⟩
     · rw [e] at h
       rcases List.mem_append.1 h with h | h
       · have := ih r h; omega
       · simp at h; subst h; simp
     · rw [e2] at h
       rcases List.mem_append.1 h with h | h
       · have := ih r (by rw [e1]; exact List.mem_append_left _ h); omega
       · simp at h
         subst h
         have := ih (p, k) (by rw [e1]; simp)
         simp only at this ⊢
         omega
theorem chgN_getD {a b : List UInt8} {k i : Nat} (h : i < (chgN a b k).length) : ((chgN a b k).getD i (0, 0)).1 < ((chgN a b k).getD i (0, 0)).2 ∧ ((chgN a b k).getD i (0, 0)).2 ≤ k :=
 chgN_mem a b k _ (by rw [List.getD_eq_getElem?_getD, List.getElem?_eq_getElem h]; exact List.getElem_mem h)
theorem chgN_len' (a b : List UInt8) : ∀ k, (chgN a b k).length ≤ k
 | 0 => Nat.le_refl _
 | k + 1 => by
   rw [chgN]
   have := chgN_len' a b k
   split
   · omega
   · rcases stepR_cases (chgN a b k) k with e | ⟨t, p, e1, e2⟩
     · rw [e]; simp; omega
     · rw [e2]; rw [e1] at this; simp at this ⊢; omega
/-! ### The bytes of a record -/
def RecBad (sec : Int) (old new : List UInt8) : Prop := sec < 0 ∨ 64 ≤ sec ∨ old.length ≠ new.length ∨ old.length < 1 ∨ 4096 < old.length
instance (sec : Int) (old new : List UInt8) : Decidable (RecBad sec old new) := by unfold RecBad; infer_instance
/-! ### Read back -/
end Go.Sl
end
/-
  Contents of sectors, sizes of records, and what a plan needs, as plain data.
-/
section
namespace Go.Sl

def ctB (b : List UInt8) (i : Nat) : UInt8 := if i < b.length then b.getD i 0 else 255
def ctK (b : List UInt8) (a k : Nat) : List UInt8 := (List.range k).map fun j => ctB b (a + j)
def ctF (b : List UInt8) (t S : Nat) : List UInt8 := ctK b (t * S) S
theorem ctK_len (b : List UInt8) (a k : Nat) : (ctK b a k).length = k := by simp [ctK]
theorem ctF_len (b : List UInt8) (t S : Nat) : (ctF b t S).length = S := ctK_len _ _ _
theorem ctK_succ (b : List UInt8) (a k : Nat) : ctK b a (k + 1) = ctK b a k ++ [ctB b (a + k)] := by simp [ctK, List.range_succ]
/-- What copying bytes into bytes 255 makes. -/
theorem ct_copy (b : List UInt8) (a S : Nat) : (b.drop (min a b.length)).take (min (b.length - min a b.length) S) ++ List.replicate (S - min (b.length - min a b.length) S) 255 = ctK b a S := by
 refine ext_getD (d := 0) (by rw [List.length_append, List.length_take, List.length_drop, List.length_replicate, ctK_len]; omega) (fun i hi => ?_)
 rw [List.length_append, List.length_take, List.length_drop, List.length_replicate] at hi
 have e : (ctK b a S).getD i 0 = ctB b (a + i) := by
   unfold ctK
   rw [List.getD_eq_getElem?_getD, List.getElem?_map, List.getElem?_range (by omega)]
   rfl
 rw [e]
 unfold ctB
 by_cases h : a + i < b.length
 · rw [if_pos h, List.getD_eq_getElem?_getD, List.getElem?_append_left (by rw [List.length_take, List.length_drop]; omega), List.getElem?_take_of_lt (by omega), List.getElem?_drop, Nat.min_eq_left (by omega), ← List.getD_eq_getElem?_getD]
 · rw [if_neg h, List.getD_eq_getElem?_getD, List.getElem?_append_right (by rw [List.length_take, List.length_drop]; omega), List.length_take, List.length_drop, List.getElem?_replicate, if_pos (by omega)]
   rfl

/-! ### Sizes of records -/
def ndS (rs : List (Nat × Nat)) : Nat := (rs.map fun r => 4 + (r.2 - r.1)).sum
theorem ndS_app (a b : List (Nat × Nat)) : ndS (a ++ b) = ndS a + ndS b := by simp [ndS]
theorem ndS_succ (rs : List (Nat × Nat)) {k : Nat} (h : k < rs.length) : ndS (rs.take (k + 1)) = ndS (rs.take k) + (4 + ((rs.getD k (0, 0)).2 - (rs.getD k (0, 0)).1)) := by
 rw [take_snoc' rs (0, 0) k h, ndS_app]
 simp [ndS]
theorem ndS_step (s : List (Nat × Nat)) (i : Nat) : ndS (stepR s i) ≤ ndS s + 5 := by
 have h0 : ndS [(i, i + 1)] = 5 := by
   show 4 + (i + 1 - i) + 0 = 5
   omega
 unfold stepR
 cases h : s.getLast? with
 | none =>
   show ndS (s ++ [(i, i + 1)]) ≤ ndS s + 5
   rw [ndS_app, h0]
   exact Nat.le_refl _
 | some r =>
   obtain ⟨s', rfl⟩ := List.getLast?_eq_some_iff.1 h
   show ndS (if r.2 = i then (s' ++ [r]).dropLast ++ [(r.1, i + 1)] else (s' ++ [r]) ++ [(i, i + 1)]) ≤ ndS (s' ++ [r]) + 5
   split
   · rename_i hq
     rw [List.dropLast_concat, ndS_app, ndS_app]
     show ndS s' + (4 + (i + 1 - r.1) + 0) ≤ ndS s' + (4 + (r.2 - r.1) + 0) + 5
     omega
   · rw [ndS_app, h0]
     exact Nat.le_refl _
theorem ndS_chg (a b : List UInt8) : ∀ k, ndS (chgN a b k) ≤ 5 * k
 | 0 => Nat.le_refl _
 | k + 1 => by
   have ih := ndS_chg a b k
   rw [chgN]
   split
   · omega
   · have := ndS_step (chgN a b k) k
     omega
theorem ndS_take (rs : List (Nat × Nat)) (k : Nat) : ndS (rs.take k) ≤ ndS rs := by
 have := ndS_app (rs.take k) (rs.drop k)
 rw [List.take_append_drop] at this
 omega
def recN (o w : List UInt8) : Nat := 5 + ndS (chgN o w o.length)
theorem recN_le (o w : List UInt8) : recN o w ≤ 5 + 5 * o.length := by
 have := ndS_chg o w o.length
 unfold recN
 omega

/-! ### What a plan needs -/
def ndR (old new : List UInt8) (S : Nat) (t : Int) : Nat := recN (ctF old t.toNat S) (ctF new t.toNat S)
def ndT (old new : List UInt8) (S : Nat) (seq : List Int) : Nat := (seq.map (ndR old new S)).sum
def ndG (old new : List UInt8) (S : Nat) (seq : List Int) : Nat := (seq.map (ndR old new S)).foldl max 0
section
variable {old new : List UInt8} {S i : Nat} {seq : List Int}
theorem ndR_le (t : Int) : ndR old new S t ≤ 5 + 5 * S := by
 have := recN_le (ctF old t.toNat S) (ctF new t.toNat S)
 rw [ctF_len] at this
 exact this
theorem ndT_succ (h : i < seq.length) : ndT old new S (seq.take (i + 1)) = ndT old new S (seq.take i) + ndR old new S (seq.getD i 0) := by
 unfold ndT
 rw [take_snoc' seq 0 i h, List.map_append, List.sum_append]
 simp
theorem ndG_succ (h : i < seq.length) : ndG old new S (seq.take (i + 1)) = max (ndG old new S (seq.take i)) (ndR old new S (seq.getD i 0)) := by
 unfold ndG
 rw [take_snoc' seq 0 i h, List.map_append, List.foldl_append]
 rfl
theorem ndT_le (hS : S ≤ 4096) : ∀ i, ndT old new S (seq.take i) ≤ 20485 * i
 | 0 => by rw [List.take_zero]; exact Nat.le_refl _
 | i + 1 => by
   have ih := ndT_le hS i
   by_cases h : i < seq.length
   · rw [ndT_succ h]
     have := ndR_le (old := old) (new := new) (S := S) (seq.getD i 0)
     omega
   · rw [List.take_of_length_le (by omega)] at *
     omega
theorem ndG_le (hS : S ≤ 4096) : ∀ i, ndG old new S (seq.take i) ≤ 20485
 | 0 => by rw [List.take_zero]; exact Nat.zero_le _
 | i + 1 => by
   have ih := ndG_le hS i
   by_cases h : i < seq.length
   · rw [ndG_succ h]
     have := ndR_le (old := old) (new := new) (S := S) (seq.getD i 0)
     omega
   · rw [List.take_of_length_le (by omega)] at *
     omega
end
structure Nd where
 s : Int
 u : Int
 r : Int
 e : Int
 o : Int
 deriving DecidableEq
def ndN (u s k : Nat) : Nat := u + s + 5 * k + 12
def ndW (S : Nat) : Nat := max 1 ((S - 8) / 30)
def ndU (T S : Nat) : Nat := (T + S - 1) / S
def ndQ (n w : Nat) : Nat := n / w
theorem ndU_le {T S : Nat} : ndU T S ≤ T + S := Nat.le_trans (Nat.div_le_self _ _) (by omega)
theorem ndQ_le (n w : Nat) : ndQ n w ≤ n := Nat.div_le_self _ _
def ndC (n w : Nat) : Nat := ndQ n w + 1
def ndEr (u s k c : Nat) : Nat := u + s + 4 * k + 1 + c
def ndOp (u s k n c : Nat) : Nat := 2 * u + 2 * s + 9 * k + 2 + n + 2 * c
def nd5 (u s k S g : Nat) : Nd := ⟨(s : Int), (u : Int), ((2 * S + g : Nat) : Int), ((ndEr u s k (ndC (ndN u s k) (ndW S)) : Nat) : Int), ((ndOp u s k (ndN u s k) (ndC (ndN u s k) (ndW S)) : Nat) : Int)⟩
def needE (lf : Bool) (sz n inn out : Int) (ops : List Po) (seq st : List Int) (old : List UInt8) : Int :=
 if vldB lf sz n inn out ops seq st = false then 190 else if (old.length : Int) ≠ inn then 61 else if 65535 < ndT old (runB old (symL ops)) sz.toNat seq then 2 else 0
def needV (lf : Bool) (sz n inn out : Int) (ops : List Po) (seq st : List Int) (old : List UInt8) : Nd :=
 if needE lf sz n inn out ops seq st old = 0 then nd5 (ndU (ndT old (runB old (symL ops)) sz.toNat seq) sz.toNat) st.length seq.length sz.toNat (ndG old (runB old (symL ops)) sz.toNat seq) else ⟨0, 0, 0, 0, 0⟩
section
variable {lf : Bool} {sz n inn out : Int} {ops : List Po} {seq st : List Int} {old : List UInt8}
theorem needE_1 (h : vldB lf sz n inn out ops seq st = false) : needE lf sz n inn out ops seq st old = 190 := by unfold needE; rw [if_pos h]
theorem needE_2 (h : vldB lf sz n inn out ops seq st = true) (h2 : (old.length : Int) ≠ inn) : needE lf sz n inn out ops seq st old = 61 := by unfold needE; rw [if_neg (by rw [h]; decide), if_pos h2]
theorem needE_3 (h : vldB lf sz n inn out ops seq st = true) (h2 : (old.length : Int) = inn) (h3 : 65535 < ndT old (runB old (symL ops)) sz.toNat seq) : needE lf sz n inn out ops seq st old = 2 := by unfold needE; rw [if_neg (by rw [h]; decide), if_neg (fun g => g h2), if_pos h3]
theorem needE_0 (h : vldB lf sz n inn out ops seq st = true) (h2 : (old.length : Int) = inn) (h3 : ndT old (runB old (symL ops)) sz.toNat seq ≤ 65535) : needE lf sz n inn out ops seq st old = 0 := by unfold needE; rw [if_neg (by rw [h]; decide), if_neg (fun g => g h2), if_neg (by omega)]
theorem needV_no (h : needE lf sz n inn out ops seq st old ≠ 0) : needV lf sz n inn out ops seq st old = ⟨0, 0, 0, 0, 0⟩ := by unfold needV; rw [if_neg h]
theorem needV_ok (h : needE lf sz n inn out ops seq st old = 0) : needV lf sz n inn out ops seq st old = nd5 (ndU (ndT old (runB old (symL ops)) sz.toNat seq) sz.toNat) st.length seq.length sz.toNat (ndG old (runB old (symL ops)) sz.toNat seq) := by unfold needV; rw [if_pos h]
/-- What a valid plan is. -/
theorem val_seq (h : vldB lf sz n inn out ops seq st = true) : seq.length = (chgL (symL ops) inn sz.toNat n.toNat).length ∧ ∀ i, i < seq.length → ∃ t : Nat, seq.getD i 0 = (t : Int) ∧ t < n.toNat ∧ chgB (symL ops) inn sz.toNat t = true := by
 obtain ⟨_, _, _, h4, _, _⟩ := val_iff.1 h
 have hp := srt_perm seq
 rw [h4] at hp
 refine ⟨by rw [← hp.length_eq, NI_len], fun i hi => ?_⟩
 have hm : seq.getD i 0 ∈ seq := by
   rw [List.getD_eq_getElem?_getD, List.getElem?_eq_getElem hi]
   exact List.getElem_mem hi
 obtain ⟨t, ht, e⟩ := List.mem_map.1 (hp.mem_iff.2 hm)
 have := mem_chgL.1 ht
 exact ⟨t, e.symm, this.1, this.2⟩
end
theorem tdiv30 {S : Nat} : ((S : Int) - 8).tdiv 30 = (((S - 8) / 30 : Nat) : Int) := by
 rcases Nat.lt_or_ge S 8 with h | h
 · have h4 : (((S : Int) - 8).tdiv 30).natAbs = ((S : Int) - 8).natAbs / 30 := Int.natAbs_tdiv _ 30
   have h5 : ((S : Int) - 8).natAbs / 30 = 0 := by omega
   have h6 : (S - 8) / 30 = 0 := by omega
   rw [h5] at h4
   rw [h6]
   omega
 · rw [show (S : Int) - 8 = ((S - 8 : Nat) : Int) by omega]
   rfl
section
variable {X : Cx} {β : Base} {Γ : Env} {R H : List Pr}
theorem Ev.quo30 {t ty : Nat} {x y : Operand} {a b : Int} {q : Nat} (hx : ev Γ x = some (.int .i64 a)) (hy : ev Γ y = some (.int .i64 b)) (h0 : b = 30) (hq : a.tdiv 30 = (q : Int)) (h1 : -9223372036854775808 ≤ a) (h2 : a ≤ 9223372036854775807) :
   Ev X β Γ R H (.binOp .quo t x y ty) (.int .i64 (q : Int)) := by
 intro ρ w hρ hs o ho
 subst h0
 rw [← hq]
 have hb : ¬ (30 : Int) = 0 := by decide
 have h3 : a.tdiv 30 ≤ 9223372036854775807 ∧ -9223372036854775808 ≤ a.tdiv 30 := by
   have h4 : (a.tdiv 30).natAbs = a.natAbs / 30 := Int.natAbs_tdiv a 30
   omega
 simp [execOp, ho, hρ _ _ hx, hρ _ _ hy, run_guard, binOp, Op.intDiv, wrap_in (a := a.tdiv 30) h3.2 h3.1]
end
end Go.Sl
end
/-
  Toward as plain data.
-/
section
namespace Go.Sl
/-! ### Toward -/
structure Nx where
 x : Fo
 done : Bool
 e : Int
 deriving DecidableEq
section
variable {f : Fl} {sec : Int} {want : List UInt8}
end
def TowX (sec : Int) (want : List UInt8) (W : Option Addr) (wc : Nat) (good : Bool) (x : Fo) (XA : Option Addr) (xc : Nat) : Prop :=
 (good = true ∧ x = ⟨2, sec, 0, want⟩ ∧ XA = W ∧ xc = wc) ∨ (good = false ∧ x = ⟨1, sec, 0, []⟩ ∧ XA = none ∧ xc = 0)
theorem TowX.next {sec : Int} {want : List UInt8} {W : Option Addr} {wc : Nat} {g : Bool} {x : Fo} {XA : Option Addr} {xc : Nat} (h : TowX sec want W wc g x XA xc) (b : Bool) (hb : b = true) : TowX sec want W wc (g && b) x XA xc := by
 subst hb
 rw [Bool.and_true]
 exact h
theorem TowX.len {sec : Int} {want : List UInt8} {W : Option Addr} {wc : Nat} {g : Bool} {x : Fo} {XA : Option Addr} {xc : Nat} (h : TowX sec want W wc g x XA xc) : x.data.length ≤ want.length := by
 rcases h with ⟨_, rfl, rfl, _⟩ | ⟨_, rfl, rfl, _⟩ <;> simp
/-! ### Made -/
section
variable {X : Cx} {β : Base} {Γ : Env} {R H : List Pr}
theorem Ev.shr {t ty : Nat} {x y : Operand} {k yk : IntKind} {a b : Int} (hx : ev Γ x = some (.int k a)) (hy : ev Γ y = some (.int yk b)) (h0 : 0 ≤ b) : Ev X β Γ R H (.binOp .shr t x y ty) (.int k (a.fdiv (2 ^ min b.toNat k.bits))) := by
 intro ρ w hρ hw o ho
 have hg : (eqGuard .shr t x y (.int k a) (.int yk b)).run X.P w = .ok () w := by unfold eqGuard; rfl
 have hb : ¬ b < 0 := by omega
 simp [execOp, ho, hρ _ _ hx, hρ _ _ hy, hg, binOp_shr, Op.shift, hb]
end
def V0 (hs : List Hd) (s m : Nat) : List Value := rowsV hs (B8 (List.replicate m (List.replicate s (255 : UInt8))))
theorem V0_len {hs : List Hd} {s m : Nat} (h : hs.length = m) : (V0 hs s m).length = m := by
 unfold V0
 rw [rowsV_len (by rw [B8_len]; simpa using h), B8_len]
 simp
theorem V0_get {hs : List Hd} {s m i : Nat} (h : hs.length = m) (hi : i < m) : (V0 hs s m)[i]? = some (.slice (hs.getD i (none, 0)).1 s (hs.getD i (none, 0)).2) := by
 unfold V0
 rw [rows8_get (by simpa using h) (by simpa using hi), getD_rep _ _ _ _ hi]
 simp
structure Mk (s m : Nat) (dl : List (List UInt8)) (wl : List Int) (el : List Bool) : Prop where
 d : dl.length = m
 r : ∀ i, i < m → (dl.getD i []).length = s
 w : wl.length = m
 v : ∀ i, i < m → 0 ≤ wl.getD i 0 ∧ wl.getD i 0 ≤ 3
 e : el.length = m
theorem Mk.start (s m : Nat) : Mk s m (List.replicate m (List.replicate s 255)) (List.replicate m 0) (List.replicate m false) :=
 ⟨by simp, fun i hi => by rw [getD_rep _ _ _ _ hi]; simp, by simp, fun i hi => by rw [getD_rep _ _ _ _ hi]; decide, by simp⟩
theorem Mk.data {s m : Nat} {dl : List (List UInt8)} {wl : List Int} {el : List Bool} (h : Mk s m dl wl el) {k : Nat} (hk : k < m) (l : List UInt8) (hl : l.length = s) : Mk s m (dl.set k l) wl el :=
 ⟨by rw [List.length_set]; exact h.d, fun i hi => by
   by_cases hki : k = i
   · subst hki; rw [getD_set_eq (by rw [h.d]; exact hk)]; exact hl
   · rw [getD_set_ne hki]; exact h.r i hi, h.w, h.v, h.e⟩
theorem Mk.wear {s m : Nat} {dl : List (List UInt8)} {wl : List Int} {el : List Bool} (h : Mk s m dl wl el) {k : Nat} (hk : k < m) (x : Int) (hx : 0 ≤ x ∧ x ≤ 3) : Mk s m dl (wl.set k x) el :=
 ⟨h.d, h.r, by rw [List.length_set]; exact h.w, fun i hi => by
   by_cases hki : k = i
   · subst hki; rw [getD_set_eq (by rw [h.w]; exact hk)]; exact hx
   · rw [getD_set_ne hki]; exact h.v i hi, h.e⟩
theorem Mk.dead {s m : Nat} {dl : List (List UInt8)} {wl : List Int} {el : List Bool} (h : Mk s m dl wl el) (k : Nat) (x : Bool) : Mk s m dl wl (el.set k x) := ⟨h.d, h.r, h.w, h.v, by rw [List.length_set]; exact h.e⟩
theorem Mk.ok {s m : Nat} {dl : List (List UInt8)} {wl : List Int} {el : List Bool} (h : Mk s m dl wl el) (h1 : 1 ≤ s) (h2 : s ≤ 4096) (h3 : 1 ≤ m) (h4 : m ≤ 64) : (Fl.mk s dl wl 3 el).Ok := by
 obtain ⟨a, b, c, d, e⟩ := h
 subst a
 exact ⟨h1, h2, h3, h4, c, e, b, (by decide : (1 : Int) ≤ 3), (by decide : (3 : Int) ≤ 100000), d⟩
theorem Mk.rows {s m : Nat} {dl : List (List UInt8)} {wl : List Int} {el : List Bool} (h : Mk s m dl wl el) {hs : List Hd} (hh : hs.length = m) : V0 hs s m = rowsV hs (B8 dl) := by
 refine List.ext_getElem? fun i => ?_
 by_cases hi : i < m
 · rw [V0_get hh hi, rows8_get (by rw [hh, h.d]) (by rw [h.d]; exact hi), h.r i hi]
 · rw [List.getElem?_eq_none (by rw [V0_len hh]; omega), List.getElem?_eq_none (by rw [rowsV_len (by rw [B8_len, h.d]; exact hh), B8_len, h.d]; omega)]

theorem Has.take {R H : List Pr} {A : Option Addr} {xs : List Value} (h : Has R H (Rd A xs)) (m : Nat) : Has R H (Rd A (xs.take m)) := by
 refine ⟨fun β w hw j u hu => h.1 β w hw j u ?_, fun k hk => h.2 k ⟨fun h0 => hk.1 (by rw [h0, List.take_nil]), hk.2⟩⟩
 rw [List.getElem?_take] at hu
 split at hu
 · exact hu
 · cases hu
theorem U8_take (l : List UInt8) (m : Nat) : (U8 l).take m = U8 (l.take m) := by simp [U8, List.map_take]
end Go.Sl
end
