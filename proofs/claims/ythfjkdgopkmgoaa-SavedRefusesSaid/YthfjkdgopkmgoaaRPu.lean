/-
  Reading a record by its places, as the reference does, and restoring.
-/
import Derived.Test.YthfjkdgopkmgoaaRPt
namespace Go.Sl

def num21 (l : List UInt8) (at_ : Nat) : Int := if at_ + 2 ≤ l.length then (be2 (l.drop at_) : Int) else -1
theorem num21_eq (l : List UInt8) (at_ : Nat) : 256 * ((l.getD at_ 0).toNat : Int) + ((l.getD (at_ + 1) 0).toNat : Int) = (be2 (l.drop at_) : Int) := by
  unfold be2
  simp only [List.getD_eq_getElem?_getD, List.getElem?_drop, Nat.add_zero]
  omega
theorem num21_lt (l : List UInt8) (at_ : Nat) : -1 ≤ num21 l at_ ∧ num21 l at_ < 65536 := by
  have := be2_lt (l.drop at_)
  unfold num21
  split <;> omega
theorem num21_in {l : List UInt8} {at_ : Nat} (h : at_ + 2 ≤ l.length) : num21 l at_ = (be2 (l.drop at_) : Int) := if_pos h
theorem goR_drop : ∀ (k : Nat) {size : Int} {l : List UInt8} {last : Int} {r : List UInt8 × List Pc}, goR k size l last = some r → ∃ m, r.1 = l.drop m
  | 0, _, l, _, r, h => by
    injection h with h
    subst h
    exact ⟨0, rfl⟩
  | k + 1, size, l, last, r, h => by
    rw [goR] at h
    split at h
    · obtain ⟨q, hq, rfl⟩ := Option.map_eq_some_iff.1 h
      obtain ⟨m, hm⟩ := goR_drop k hq
      refine ⟨2 + 2 + be2 (l.drop 2) + m, ?_⟩
      rw [hm, List.drop_drop, List.drop_drop, List.drop_drop]
      congr 1
      omega
    · cases h
theorem parseS_some {rec : List UInt8} {size : Int} {ps : List Pc} (h : parseS rec size = some ps) : ¬(rec.length < 5 ∨ 64 ≤ (rec.getD 0 0).toNat) ∧ ∃ l, goR (be2 (rec.drop 1)) size ((rec.drop 1).drop 2) 0 = some (l, ps) ∧ l.length = 2 ∧ be2 l = rec.length := by
  by_cases h1 : rec.length < 5 ∨ 64 ≤ (rec.getD 0 0).toNat
  · rw [parseS_1 h1] at h; cases h
  · refine ⟨h1, ?_⟩
    cases hg : goR (be2 (rec.drop 1)) size ((rec.drop 1).drop 2) 0 with
    | none => rw [parseS_2 hg] at h; cases h
    | some r =>
      obtain ⟨l, qs⟩ := r
      rw [parseS_3 h1 hg] at h
      split at h
      · next hc => injection h with h; subst h; exact ⟨l, rfl, hc⟩
      · cases h
theorem parse_last {b : List UInt8} {n : Int} (h5 : 5 ≤ b.length) (h : num21 b (b.length - 2) ≠ (b.length : Int)) : parseS b n = none := by
  cases hp : parseS b n with
  | none => rfl
  | some ps =>
    obtain ⟨_, l, hg, hl, hb⟩ := parseS_some hp
    obtain ⟨m, hm⟩ := goR_drop _ hg
    simp only at hm
    rw [List.drop_drop, List.drop_drop] at hm
    have h2 : l.length = b.length - (1 + 2 + m) := by rw [hm, List.length_drop]; congr 1; omega
    have h3 : l = b.drop (b.length - 2) := by rw [hm]; congr 1; omega
    rw [num21_in (by omega), ← h3, hb] at h
    exact absurd rfl h
theorem ref_ok {b : List UInt8} {n : Int} {at_ last : Nat} (hat : at_ + 2 ≤ b.length) (h1 : ¬num21 b at_ < (last : Int)) (h2 : ¬num21 b (at_ + 2) < 1) (h3 : ¬num21 b at_ + num21 b (at_ + 2) > n) (h4 : ¬(at_ : Int) + 4 + num21 b (at_ + 2) > (b.length : Int) - 2) :
    num21 b at_ = (be2 (b.drop at_) : Int) ∧ num21 b (at_ + 2) = (be2 ((b.drop at_).drop 2) : Int) ∧ PieceOk (b.drop at_) (last : Int) n ∧ at_ + 4 + be2 ((b.drop at_).drop 2) + 2 ≤ b.length := by
  have e1 := num21_in hat
  have hat2 : at_ + 2 + 2 ≤ b.length := by
    rcases Nat.lt_or_ge b.length (at_ + 2 + 2) with h | h
    · unfold num21 at h2
      rw [if_neg (by omega)] at h2
      omega
    · exact h
  have e2 := num21_in hat2
  rw [show b.drop (at_ + 2) = (b.drop at_).drop 2 from by rw [List.drop_drop]] at e2
  rw [e2] at h2 h3 h4
  rw [e1] at h1 h3
  refine ⟨e1, e2, ?_, by omega⟩
  unfold PieceOk
  rw [List.length_drop]
  omega
theorem ref_no {b : List UInt8} {n : Int} {m at_ last k : Nat} {ps : List Pc} (hm : m = be2 (b.drop 1)) (hat : at_ + 2 ≤ b.length) (hh : Half m n ((b.drop 1).drop 2) (k + 1) (b.drop at_) (last : Int) ps)
    (h : num21 b at_ < (last : Int) ∨ num21 b (at_ + 2) < 1 ∨ num21 b at_ + num21 b (at_ + 2) > n ∨ (at_ : Int) + 4 + num21 b (at_ + 2) > (b.length : Int) - 2) : parseS b n = none := by
  subst hm
  by_cases hp : PieceOk (b.drop at_) (last : Int) n
  · have hn := hh.next hp
    cases hq : parseS b n with
    | none => rfl
    | some qs =>
      obtain ⟨_, l, hg, hl, _⟩ := parseS_some hq
      unfold Half at hn
      rw [hg] at hn
      obtain ⟨r, hr, hr2⟩ := Option.map_eq_some_iff.1 hn.symm
      obtain ⟨j, hj⟩ := goR_drop _ hr
      have e3 : l = r.1 := congrArg Prod.fst hr2.symm
      rw [hj] at e3
      have e4 := congrArg List.length e3
      simp only [List.length_drop] at e4
      unfold PieceOk at hp
      rw [List.length_drop] at hp
      have e1 := num21_in hat
      have e2 := num21_in (l := b) (at_ := at_ + 2) (by omega)
      rw [show b.drop (at_ + 2) = (b.drop at_).drop 2 from by rw [List.drop_drop]] at e2
      rw [e1, e2] at h
      omega
  · exact parseS_2 (hh.bad hp)
/-- A piece as a range. -/
def prg (p : Pc) : Nat × Nat := (p.1, p.1 + p.2.length)
theorem ref_end {b : List UInt8} {n : Int} {m at_ : Nat} {last : Int} {ps : List Pc} (hm : m = be2 (b.drop 1)) (h5 : ¬(b.length < 5 ∨ 64 ≤ (b.getD 0 0).toNat)) (hat : at_ + 2 ≤ b.length) (hn : num21 b (b.length - 2) = (b.length : Int)) (hh : Half m n ((b.drop 1).drop 2) 0 (b.drop at_) last ps) :
    ((at_ : Int) == (b.length : Int) - 2) = (parseS b n).isSome ∧ ∀ qs, parseS b n = some qs → ps = qs := by
  subst hm
  have e := parseS_3 h5 hh.done
  rw [e, List.length_drop]
  by_cases h : at_ = b.length - 2
  · subst h
    rw [num21_in (by omega)] at hn
    rw [if_pos ⟨by omega, by omega⟩]
    refine ⟨?_, fun qs hq => by injection hq⟩
    rw [show ((b.length - 2 : Nat) : Int) = (b.length : Int) - 2 from by omega]
    simp
  · rw [if_neg (by omega)]
    refine ⟨?_, fun qs hq => by cases hq⟩
    have : ¬((at_ : Int) = (b.length : Int) - 2) := by omega
    simpa using this

theorem ref_next {m : Nat} {n : Int} {l0 b : List UInt8} {k at_ : Nat} {last : Int} {ps : List Pc} (hh : Half m n l0 (k + 1) (b.drop at_) last ps) (hp : PieceOk (b.drop at_) last n) :
    Half m n l0 k (b.drop (at_ + (4 + be2 ((b.drop at_).drop 2)))) ((be2 (b.drop at_) + be2 ((b.drop at_).drop 2) : Nat) : Int) (ps ++ [(be2 (b.drop at_), (((b.drop at_).drop 2).drop 2).take (be2 ((b.drop at_).drop 2)))]) := by
  have h := hh.next hp
  have e : ∀ x, b.drop (at_ + (4 + x)) = (((b.drop at_).drop 2).drop 2).drop x := fun x => by
    rw [List.drop_drop, List.drop_drop, List.drop_drop]
    congr 1
    omega
  rw [e]
  exact h
theorem rg_snoc {b : List UInt8} {at_ : Nat} {ps : List Pc} {u v : Int} (e1 : u = (be2 (b.drop at_) : Int)) (e2 : v = (be2 ((b.drop at_).drop 2) : Int)) (h : at_ + 4 + be2 ((b.drop at_).drop 2) + 2 ≤ b.length) :
    rangesV (ps.map prg) ++ [.int .i64 u, .int .i64 (u + v)] = rangesV ((ps ++ [(be2 (b.drop at_), (((b.drop at_).drop 2).drop 2).take (be2 ((b.drop at_).drop 2)))]).map prg) := by
  have e5 : ((((b.drop at_).drop 2).drop 2).take (be2 ((b.drop at_).drop 2))).length = be2 ((b.drop at_).drop 2) := by rw [List.length_take, List.length_drop, List.length_drop, List.length_drop]; omega
  rw [List.map_append, List.map_singleton, ← rangesV_snoc, e1, e2]
  unfold prg
  simp only [e5]
  rfl
def Pc0 : Pc := (0, [])
theorem rg_getD {ps : List Pc} {i : Nat} (h : i < ps.length) : (ps.map prg).getD i (0, 0) = ((ps.getD i Pc0).1, (ps.getD i Pc0).1 + (ps.getD i Pc0).2.length) := by
  simp [List.getD_eq_getElem?_getD, h, prg]
theorem rg_get1 {ps : List Pc} {i : Nat} (h : i < ps.length) : (rangesV (ps.map prg))[i * 2]? = some (.int .i64 ((ps.getD i Pc0).1 : Int)) := by
  have := rangesV_get (ps.map prg) i 0 (by rw [List.length_map]; exact h) (by decide)
  rw [rg_getD h] at this
  exact this
theorem rg_get2 {ps : List Pc} {i : Nat} (h : i < ps.length) : (rangesV (ps.map prg))[i * 2 + 1]? = some (.int .i64 (((ps.getD i Pc0).1 + (ps.getD i Pc0).2.length : Nat) : Int)) := by
  have := rangesV_get (ps.map prg) i 1 (by rw [List.length_map]; exact h) (by decide)
  rw [rg_getD h] at this
  exact this

/-! ### Restore -/
def lenP (ps : List Pc) : Nat := ps.foldr (fun p t => 4 + p.2.length + t) 0
theorem lenP_snoc (ps : List Pc) (p : Pc) : lenP (ps ++ [p]) = lenP ps + (4 + p.2.length) := by
  induction ps with
  | nil => simp [lenP]
  | cons q ps ih => simp only [lenP, List.cons_append, List.foldr_cons] at ih ⊢; omega
theorem goR_at : ∀ (k : Nat) {size : Int} {l : List UInt8} {last : Int} {r : List UInt8 × List Pc}, goR k size l last = some r → ∀ i, i < r.2.length →
    lenP (r.2.take i) + 4 + (r.2.getD i Pc0).2.length ≤ l.length ∧ (l.drop (lenP (r.2.take i) + 4)).take (r.2.getD i Pc0).2.length = (r.2.getD i Pc0).2 ∧ ((r.2.getD i Pc0).1 : Int) + ((r.2.getD i Pc0).2.length : Int) ≤ size
  | 0, _, _, _, r, h, i, hi => by
    injection h with h
    subst h
    cases hi
  | k + 1, size, l, last, r, h, i, hi => by
    rw [goR] at h
    split at h
    · next hp =>
      obtain ⟨q, hq, rfl⟩ := Option.map_eq_some_iff.1 h
      unfold PieceOk at hp
      have e5 : (((l.drop 2).drop 2).take (be2 (l.drop 2))).length = be2 (l.drop 2) := by rw [List.length_take, List.length_drop, List.length_drop]; omega
      cases i with
      | zero =>
        show 0 + 4 + (((l.drop 2).drop 2).take (be2 (l.drop 2))).length ≤ l.length ∧ (l.drop (0 + 4)).take (((l.drop 2).drop 2).take (be2 (l.drop 2))).length = ((l.drop 2).drop 2).take (be2 (l.drop 2)) ∧ (be2 l : Int) + ((((l.drop 2).drop 2).take (be2 (l.drop 2))).length : Int) ≤ size
        rw [e5, List.drop_drop]
        exact ⟨by omega, rfl, by omega⟩
      | succ i =>
        have ih := goR_at k hq i (by simpa using hi)
        simp only [List.length_drop, List.drop_drop] at ih
        have e6 : lenP (((be2 l, ((l.drop 2).drop 2).take (be2 (l.drop 2))) :: q.2).take (i + 1)) = 4 + be2 (l.drop 2) + lenP (q.2.take i) := by rw [List.take_succ_cons]; simp only [lenP, List.foldr_cons, e5]
        have e7 : ((be2 l, ((l.drop 2).drop 2).take (be2 (l.drop 2))) :: q.2).getD (i + 1) Pc0 = q.2.getD i Pc0 := rfl
        dsimp only
        rw [e6, e7]
        refine ⟨by omega, ?_, ih.2.2⟩
        refine Eq.trans ?_ ih.2.1
        congr 2
    · cases h
/-- The places of the pieces in a right record. -/
theorem parse_at {rec : List UInt8} {size : Int} {ps : List Pc} (h : parseS rec size = some ps) {i : Nat} (hi : i < ps.length) :
    3 + lenP (ps.take i) + 4 + (ps.getD i Pc0).2.length ≤ rec.length ∧ (rec.drop (3 + lenP (ps.take i) + 4)).take (ps.getD i Pc0).2.length = (ps.getD i Pc0).2 ∧ ((ps.getD i Pc0).1 : Int) + ((ps.getD i Pc0).2.length : Int) ≤ size := by
  obtain ⟨h1, l, hg, _⟩ := parseS_some h
  obtain ⟨h2, h3, h4⟩ := goR_at _ hg i hi
  simp only [List.drop_drop, List.length_drop] at h2 h3 h4
  refine ⟨by omega, ?_, h4⟩
  rw [← h3]
  congr 2
theorem goR_count : ∀ (k : Nat) {size : Int} {l : List UInt8} {last : Int} {r : List UInt8 × List Pc}, goR k size l last = some r → r.2.length = k
  | 0, _, _, _, _, h => by injection h with h; subst h; rfl
  | k + 1, _, _, _, _, h => by
    rw [goR] at h
    split at h
    · obtain ⟨q, hq, rfl⟩ := Option.map_eq_some_iff.1 h
      simp [goR_count k hq]
    · cases h
theorem parse_count {rec : List UInt8} {size : Int} {ps : List Pc} (h : parseS rec size = some ps) : ps.length < 65536 := by
  obtain ⟨_, l, hg, _⟩ := parseS_some h
  have := goR_count _ hg
  have h2 := be2_lt (rec.drop 1)
  simp only at this
  omega
theorem applyP_len {rec : List UInt8} {out : List UInt8} {ps : List Pc} (h : parseS rec (out.length : Int) = some ps) : ∀ i, i ≤ ps.length → (applyP out (ps.take i)).length = out.length
  | 0, _ => rfl
  | i + 1, hi => by
    have ih := applyP_len h i (by omega)
    have ha := (parse_at h (i := i) (by omega)).2.2
    rw [take_snoc' ps Pc0 i (by omega), applyP_snoc, putB_len (by omega)]
    exact ih
theorem putB_nil (o : List UInt8) (p : Nat) : putB o p [] = o := by simp [putB]
theorem putB_step {o d : List UInt8} {p j : Nat} (h : p + d.length ≤ o.length) (hj : j < d.length) : (putB o p (d.take j)).set (p + j) (d.getD j 0) = putB o p (d.take (j + 1)) := by
  have l1 : (d.take j).length = j := by rw [List.length_take]; omega
  have l2 : (d.take (j + 1)).length = j + 1 := by rw [List.length_take]; omega
  have hl := putB_len (out := o) (b := d.take j) (p := p) (by omega)
  have hl2 := putB_len (out := o) (b := d.take (j + 1)) (p := p) (by omega)
  refine ext_getD (d := 0) (by rw [List.length_set, hl, hl2]) (fun i hi => ?_)
  rw [List.length_set, hl] at hi
  by_cases hp : p + j = i
  · subst hp
    rw [getD_set_eq (by omega), putB_get (by omega), if_pos (by omega), show p + j - p = j from by omega]
    simp only [List.getD_eq_getElem?_getD, List.getElem?_take]
    rw [if_pos (by omega)]
  · rw [getD_set_ne hp, putB_get (by omega), putB_get (by omega), l1, l2]
    by_cases h1 : p ≤ i ∧ i < p + j
    · rw [if_pos h1, if_pos (by omega)]
      simp only [List.getD_eq_getElem?_getD, List.getElem?_take]
      rw [if_pos (by omega), if_pos (by omega)]
    · rw [if_neg h1, if_neg (by omega)]
theorem putB_all {rec d : List UInt8} {a j : Nat} (h : (rec.drop a).take d.length = d) (hj : j < d.length) : rec.getD (a + j) 0 = d.getD j 0 := by
  have : d.getD j 0 = ((rec.drop a).take d.length).getD j 0 := by rw [h]
  rw [this]
  simp only [List.getD_eq_getElem?_getD, List.getElem?_take, List.getElem?_drop]
  rw [if_pos hj]
def ResBad (b rec : List UInt8) : Prop := parseS rec (b.length : Int) = none ∨ b.length < 1 ∨ 4096 < b.length
instance (b rec : List UInt8) : Decidable (ResBad b rec) := by unfold ResBad; infer_instance
def resS (b rec : List UInt8) : List UInt8 := if ResBad b rec then [] else applyP b ((parseS rec (b.length : Int)).getD [])
def resE (b rec : List UInt8) : Int := if ResBad b rec then 210 else 0
theorem resS_bad {b rec : List UInt8} (h : ResBad b rec) : resS b rec = [] := if_pos h
theorem resE_bad {b rec : List UInt8} (h : ResBad b rec) : resE b rec = 210 := if_pos h
theorem ResBad.no {b rec : List UInt8} {ps : List Pc} (h : parseS rec (b.length : Int) = some ps) (h1 : 1 ≤ b.length) (h2 : b.length ≤ 4096) : ¬ResBad b rec := by
  unfold ResBad
  rw [h]
  rintro (hx | hx)
  · cases hx
  · omega
theorem resS_ok {b rec : List UInt8} {ps : List Pc} (h : parseS rec (b.length : Int) = some ps) (h1 : 1 ≤ b.length) (h2 : b.length ≤ 4096) : resS b rec = applyP b ps := by
  unfold resS
  rw [if_neg (ResBad.no h h1 h2), h]
  rfl
theorem resE_ok {b rec : List UInt8} {ps : List Pc} (h : parseS rec (b.length : Int) = some ps) (h1 : 1 ≤ b.length) (h2 : b.length ≤ 4096) : resE b rec = 0 := by
  unfold resE
  rw [if_neg (ResBad.no h h1 h2)]
theorem resS_len {b rec : List UInt8} : (resS b rec).length ≤ b.length := by
  by_cases h : ResBad b rec
  · rw [resS_bad h]; simp
  · have h' := h
    unfold ResBad at h'
    cases hp : parseS rec (b.length : Int) with
    | none => exact absurd (.inl hp) h
    | some ps =>
      rw [resS_ok hp (by omega) (by omega)]
      have := applyP_len hp ps.length (Nat.le_refl _)
      rw [List.take_length] at this
      omega
/-- The record of a change restores. -/
theorem res_rec {sec : Int} {a b : List UInt8} (h : ¬RecBad sec a b) : resS b (recS sec a b) = a ∧ resE b (recS sec a b) = 0 := by
  have h' := h
  unfold RecBad at h'
  have hx : (UInt8.ofInt sec).toNat < 64 := by
    simp [UInt8.ofInt, UInt8.toNat_ofNat']
    omega
  have hp := parse_rec (b := b) hx (a := a) (by omega) (size := b.length) (by omega) (by omega)
  rw [recS_ok h]
  rw [resS_ok hp (by omega) (by omega), resE_ok hp (by omega) (by omega)]
  exact ⟨apply_rec (by omega), rfl⟩
end Go.Sl
