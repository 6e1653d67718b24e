/-
  The plain laws of the Flash statements: what cut and whole operations do to a flash, with no program in sight.
-/
import Derived.Test.YthfjkdgopkmgoaaPm
namespace Go.Sl

theorem bits8 {a b : UInt8} (h : ∀ i, (hi : i < 8) → a.toBitVec[i] = b.toBitVec[i]) : a = b := by
  apply UInt8.eq_of_toBitVec_eq
  ext i hi
  exact h i hi
theorem and_le_zero (o d : UInt8) : (o &&& d) &&& ~~~o = 0 := by
  apply UInt8.eq_of_toBitVec_eq
  ext i hi
  simp
  cases o.toBitVec[i] <;> simp
theorem and_again (o d : UInt8) : (o &&& d) &&& d = o &&& d := by
  apply UInt8.eq_of_toBitVec_eq
  ext i hi
  simp
theorem and_turn (o d e : UInt8) : (o &&& d) &&& e = (o &&& e) &&& d := by
  apply UInt8.eq_of_toBitVec_eq
  ext i hi
  simp
  cases o.toBitVec[i] <;> cases d.toBitVec[i] <;> cases e.toBitVec[i] <;> rfl
theorem mix_and (o d m : UInt8) : mixB o (o &&& d) m &&& d = o &&& d := by
  apply UInt8.eq_of_toBitVec_eq
  unfold mixB
  ext i hi
  simp
  cases o.toBitVec[i] <;> cases d.toBitVec[i] <;> cases m.toBitVec[i] <;> rfl
theorem mix_out (o m : UInt8) : mixB o o m = o := by
  apply UInt8.eq_of_toBitVec_eq
  unfold mixB
  ext i hi
  simp
  cases o.toBitVec[i] <;> cases m.toBitVec[i] <;> rfl
theorem mix_not (o w m : UInt8) : mixB o w m &&& ~~~m = o &&& ~~~m := by
  apply UInt8.eq_of_toBitVec_eq
  unfold mixB
  ext i hi
  simp
  cases o.toBitVec[i] <;> cases w.toBitVec[i] <;> cases m.toBitVec[i] <;> rfl
theorem mix_in (o w m : UInt8) : mixB o w m &&& m = w &&& m := by
  apply UInt8.eq_of_toBitVec_eq
  unfold mixB
  ext i hi
  simp
  cases o.toBitVec[i] <;> cases w.toBitVec[i] <;> cases m.toBitVec[i] <;> rfl
theorem and_zero8 (a : UInt8) : a &&& 0 = 0 := by
  apply UInt8.eq_of_toBitVec_eq
  ext i hi
  simp

/-- An operation that is one, for a sector that is there. -/
structure GoodOp (f : Fl) (x : Fo) : Prop where
  k : x.kind = 1 ∨ x.kind = 2
  s : 0 ≤ x.sec ∧ x.sec ≤ (f.data.length : Int) - 1
  p : x.kind = 2 → 0 ≤ x.at_ ∧ x.at_ ≤ (f.size : Int) ∧ (x.data.length : Int) ≤ (f.size : Int) - x.at_

section
variable {f : Fl} {x : Fo} {mk : Nat → UInt8}
theorem opS_good (ok : f.Ok) (er : Bool) (se at_ : UInt8) (data : List UInt8) : GoodOp f (opS f er se at_ data) := by
  have h1 := ok.n1
  have h2 := Int.emod_nonneg (se.toNat : Int) (show (f.data.length : Int) ≠ 0 by omega)
  have h3 := Int.emod_lt_of_pos (se.toNat : Int) (show (0 : Int) < (f.data.length : Int) by omega)
  have h4 := Int.emod_nonneg (at_.toNat : Int) (show ((f.size : Int) + 1) ≠ 0 by omega)
  have h5 := Int.emod_lt_of_pos (at_.toNat : Int) (show (0 : Int) < (f.size : Int) + 1 by omega)
  unfold opS
  split
  · exact ⟨.inl rfl, ⟨h2, by dsimp only; omega⟩, fun h => by cases h⟩
  · refine ⟨.inr rfl, ⟨h2, by dsimp only; omega⟩, fun _ => ⟨h4, by dsimp only; omega, ?_⟩⟩
    dsimp only
    rw [List.length_take]
    omega
theorem opS_sec (f : Fl) (er : Bool) (se at_ : UInt8) (data : List UInt8) : (opS f er se at_ data).sec = (se.toNat : Int) % (f.data.length : Int) := by unfold opS; split <;> rfl
theorem opS_len (f : Fl) (er : Bool) (se at_ : UInt8) (data : List UInt8) : (opS f er se at_ data).data.length ≤ data.length := by
  unfold opS
  split
  · exact Nat.zero_le _
  · dsimp only
    rw [List.length_take]
    omega
theorem opS_prog (f : Fl) (se at_ : UInt8) (data : List UInt8) : (opS f false se at_ data).kind = 2 := rfl
theorem GoodOp.lt (g : GoodOp f x) : x.sec.toNat < f.data.length := by have := g.s; omega
theorem GoodOp.dead (g : GoodOp f x) (h : f.dead.getD x.sec.toNat false = true) : checkE f x = 171 := checkE_3 g.k ⟨g.s.1, g.s.2, g.p⟩ h
theorem GoodOp.worn (g : GoodOp f x) (h : f.dead.getD x.sec.toNat false = false) (h2 : x.kind = 1 ∧ f.wear.getD x.sec.toNat 0 = f.limit) : checkE f x = 172 := checkE_4 g.k ⟨g.s.1, g.s.2, g.p⟩ h h2
theorem GoodOp.fine (g : GoodOp f x) (h : f.dead.getD x.sec.toNat false = false) (h2 : ¬(x.kind = 1 ∧ f.wear.getD x.sec.toNat 0 = f.limit)) : checkE f x = 0 := checkE_0 g.k ⟨g.s.1, g.s.2, g.p⟩ h h2
theorem GoodOp.err (g : GoodOp f x) : checkE f x = 0 ∨ (checkE f x = 171 ∧ f.dead.getD x.sec.toNat false = true) ∨ (checkE f x = 172 ∧ x.kind = 1 ∧ f.wear.getD x.sec.toNat 0 = f.limit) := by
  by_cases h : f.dead.getD x.sec.toNat false = true
  · exact .inr (.inl ⟨g.dead h, h⟩)
  · by_cases h2 : x.kind = 1 ∧ f.wear.getD x.sec.toNat 0 = f.limit
    · exact .inr (.inr ⟨g.worn (by simpa using h) h2, h2⟩)
    · exact .inl (g.fine (by simpa using h) h2)
theorem GoodOp.of0 (h : checkE f x = 0) : GoodOp f x := ⟨(checkE_ok h).1, ⟨(checkE_ok h).2.1.1, (checkE_ok h).2.1.2.1⟩, (checkE_ok h).2.1.2.2⟩
/-- The right operations of a flash are those of the flash after an operation. -/
theorem GoodOp.cut (g : GoodOp f x) (y : Fo) : GoodOp (cutF f y mk) x := ⟨g.k, by rw [cutF_data]; exact g.s, g.p⟩

theorem cutF_row (h : x.sec.toNat < f.data.length) : (cutF f x mk).data.getD x.sec.toNat [] = rowF f x mk := getD_set_eq h _ _
theorem cutF_other {i : Nat} (h : x.sec.toNat ≠ i) : (cutF f x mk).data.getD i [] = f.data.getD i [] := getD_set_ne h _ _
theorem rowF_get {i : Nat} (h : i < f.size) (d : UInt8) : (rowF f x mk).getD i d = rowB f x mk i := map_range_getD h d
theorem cutF_wear1 (hk : x.kind = 1) (h : x.sec.toNat < f.wear.length) : (cutF f x mk).wear.getD x.sec.toNat 0 = f.wear.getD x.sec.toNat 0 + 1 := by
  unfold cutF
  dsimp only
  rw [if_pos hk, getD_set_eq h]
theorem cutF_wear2 (hk : x.kind ≠ 1) : (cutF f x mk).wear = f.wear := by
  unfold cutF
  dsimp only
  rw [if_neg hk]
theorem cutF_wear3 {i : Nat} (h : x.sec.toNat ≠ i) : (cutF f x mk).wear.getD i 0 = f.wear.getD i 0 := by
  unfold cutF
  dsimp only
  split
  · exact getD_set_ne h _ _
  · rfl
theorem cutF_wearq (mk mk' : Nat → UInt8) : (cutF f x mk).wear = (cutF f x mk').wear := rfl

/-- No bit of the mask: nothing changes in the sector. -/
theorem rowF_none (hl : (f.data.getD x.sec.toNat []).length = f.size) (h : ∀ i, i < f.size → mk i = 0) : rowF f x mk = f.data.getD x.sec.toNat [] := by
  refine ext_getD (d := 0) (by rw [rowF_len, hl]) fun i hi => ?_
  rw [rowF_len] at hi
  rw [rowF_get hi]
  unfold rowB
  rw [h i hi, mixB_zero]
theorem rowB_all {i : Nat} (h : mk i = 255) : rowB f x mk i = askB x i ((f.data.getD x.sec.toNat []).getD i 0) := by
  unfold rowB
  rw [h, mixB_ones]
theorem rowB_w (f : Fl) (x : Fo) (i : Nat) : rowB f x (fun _ => 255) i = askB x i ((f.data.getD x.sec.toNat []).getD i 0) := rowB_all rfl
/-- Each bit is as it was, or as the whole operation leaves it. -/
theorem rowB_not (i : Nat) : rowB f x mk i &&& ~~~(mk i) = (f.data.getD x.sec.toNat []).getD i 0 &&& ~~~(mk i) := mix_not _ _ _
theorem rowB_in (i : Nat) : rowB f x mk i &&& mk i = rowB f x (fun _ => 255) i &&& mk i := by
  rw [rowB_w]
  exact mix_in _ _ _
/-- A program only clears bits. -/
theorem rowB_prog (hk : x.kind = 2) (i : Nat) : rowB f x (fun _ => 255) i &&& ~~~((f.data.getD x.sec.toNat []).getD i 0) = 0 := by
  rw [rowB_w]
  by_cases hi : x.at_ ≤ (i : Int) ∧ (i : Int) - x.at_ < (x.data.length : Int)
  · rw [askB_in (by omega) hi]
    exact and_le_zero _ _
  · rw [askB_out (by omega) hi]
    apply UInt8.eq_of_toBitVec_eq
    ext j hj
    simp
/-- What is asked for of what was left by a cut. -/
theorem askB_cut (i : Nat) (o m : UInt8) : askB x i (mixB o (askB x i o) m) = askB x i o := by
  by_cases hk : x.kind = 1
  · rw [askB_1 hk, askB_1 hk]
  · by_cases hi : x.at_ ≤ (i : Int) ∧ (i : Int) - x.at_ < (x.data.length : Int)
    · rw [askB_in hk hi, askB_in hk hi]
      exact mix_and _ _ _
    · rw [askB_out hk hi, askB_out hk hi]
      exact mix_out _ _
theorem askB_turn {y : Fo} (hx : x.kind ≠ 1) (hy : y.kind ≠ 1) (i : Nat) (o : UInt8) : askB y i (askB x i o) = askB x i (askB y i o) := by
  by_cases h1 : x.at_ ≤ (i : Int) ∧ (i : Int) - x.at_ < (x.data.length : Int)
  · by_cases h2 : y.at_ ≤ (i : Int) ∧ (i : Int) - y.at_ < (y.data.length : Int)
    · rw [askB_in hx h1, askB_in hy h2, askB_in hy h2, askB_in hx h1]
      exact and_turn _ _ _
    · rw [askB_out hy h2, askB_out hy h2]
  · by_cases h2 : y.at_ ≤ (i : Int) ∧ (i : Int) - y.at_ < (y.data.length : Int)
    · rw [askB_out hx h1, askB_in hy h2, askB_out hx h1]
    · rw [askB_out hx h1, askB_out hy h2, askB_out hx h1]
/-- The contents of an operation that was cut and is then done are those of the whole one. -/
theorem rowF_again (h : x.sec.toNat < f.data.length) : rowF (cutF f x mk) x (fun _ => 255) = rowF f x (fun _ => 255) := by
  unfold rowF
  refine List.map_congr_left fun i hi => ?_
  have hi' : i < f.size := List.mem_range.1 hi
  rw [rowB_w, rowB_w, cutF_row h, rowF_get hi']
  exact askB_cut _ _ _
theorem rowF_turn {y : Fo} (hx : x.kind ≠ 1) (hy : y.kind ≠ 1) (hs : y.sec = x.sec) (h : x.sec.toNat < f.data.length) : rowF (cutF f x (fun _ => 255)) y (fun _ => 255) = rowF (cutF f y (fun _ => 255)) x (fun _ => 255) := by
  unfold rowF
  refine List.map_congr_left fun i hi => ?_
  have hi' : i < f.size := List.mem_range.1 hi
  have e1 := cutF_row (mk := fun _ => 255) h
  have e2 := cutF_row (f := f) (x := y) (mk := fun _ => 255) (by rw [hs]; exact h)
  rw [hs] at e2
  rw [rowB_w, rowB_w, hs, e1, e2, rowF_get hi', rowF_get hi', rowB_w, rowB_w, hs]
  exact askB_turn hx hy _ _
theorem set_set_eq {α : Type} (l : List α) (i : Nat) (a b : α) : (l.set i a).set i b = l.set i b := by simp
/-- Programming the same again changes nothing. -/
theorem cutF_again (hk : x.kind = 2) (h : x.sec.toNat < f.data.length) : cutF (cutF f x (fun _ => 255)) x (fun _ => 255) = cutF f x (fun _ => 255) := by
  have e := rowF_again (mk := fun _ => 255) h
  have hk' : x.kind ≠ 1 := by omega
  unfold cutF at e ⊢
  dsimp only at e ⊢
  simp only [if_neg hk'] at e ⊢
  rw [e, set_set_eq]
/-- Two programs may be exchanged. -/
theorem cutF_turn {y : Fo} (hx : x.kind = 2) (hy : y.kind = 2) (hs : y.sec = x.sec) (h : x.sec.toNat < f.data.length) : cutF (cutF f x (fun _ => 255)) y (fun _ => 255) = cutF (cutF f y (fun _ => 255)) x (fun _ => 255) := by
  have e := rowF_turn (by omega) (by omega) hs h
  have hx' : x.kind ≠ 1 := by omega
  have hy' : y.kind ≠ 1 := by omega
  unfold cutF at e ⊢
  dsimp only at e ⊢
  simp only [if_neg hx', if_neg hy', hs] at e ⊢
  rw [e, set_set_eq, set_set_eq]
/-- A program does not wear, so the next one may be done. -/
theorem check_prog {y : Fo} (hE : checkE f x = 0) (gy : GoodOp f y) (hy : y.kind = 2) (hs : y.sec = x.sec) : checkE (cutF f x mk) y = 0 := by
  refine (gy.cut x).fine ?_ (by omega)
  show f.dead.getD y.sec.toNat false = false
  rw [hs]
  exact (checkE_ok hE).2.2.1
theorem check_prog0 {y : Fo} (hE : checkE f x = 0) (gy : GoodOp f y) (hy : y.kind = 2) (hs : y.sec = x.sec) : checkE f y = 0 := by
  refine gy.fine ?_ (by omega)
  rw [hs]
  exact (checkE_ok hE).2.2.1
/-- An operation that was cut fails then only if the sector is worn then. -/
theorem check_again (ok : f.Ok) (hE : checkE f x = 0) : checkE (cutF f x mk) x = 0 ∨ checkE (cutF f x mk) x = 172 ∧ x.kind = 1 ∧ f.wear.getD x.sec.toNat 0 = f.limit - 1 := by
  have g : GoodOp f x := GoodOp.of0 hE
  have hd : (cutF f x mk).dead.getD x.sec.toNat false = false := (checkE_ok hE).2.2.1
  rcases (g.cut (mk := mk) x).err with h | ⟨_, h⟩ | ⟨h, hk, hw⟩
  · exact .inl h
  · rw [hd] at h; cases h
  · refine .inr ⟨h, hk, ?_⟩
    rw [cutF_wear1 hk (by rw [ok.wl]; exact g.lt)] at hw
    have : f.wear.getD x.sec.toNat 0 + 1 = f.limit := hw
    omega
/-- What an operation keeps. -/
structure Kept (f g : Fl) : Prop where
  ok : g.Ok
  n : g.data.length = f.data.length
  s : g.size = f.size
  l : g.limit = f.limit
  w : g.wear.length = f.data.length
  e : g.dead.length = f.data.length
  d : g.dead = f.dead
  r : ∀ i, i < f.data.length → (g.data.getD i []).length = f.size
theorem cutR_kept (ok : f.Ok) (hE : checkE f x = 0) (mk : Nat → UInt8) : Kept f (cutR f x mk) := by
  rw [cutR_ok hE]
  have h := cutF_ok ok hE mk
  exact ⟨h, cutF_data _ _, rfl, rfl, by rw [h.wl, cutF_data], by rw [h.dl, cutF_data], rfl, fun i hi => h.rows i (by rw [cutF_data]; exact hi)⟩
theorem cutR_not (hE : checkE f x = 0) {i : Nat} (hi : i < f.size) : ((cutR f x mk).data.getD x.sec.toNat []).getD i 0 &&& ~~~(mk i) = (f.data.getD x.sec.toNat []).getD i 0 &&& ~~~(mk i) := by
  rw [cutR_ok hE, cutF_row (GoodOp.of0 hE).lt, rowF_get hi]
  exact rowB_not i
theorem cutR_in (hE : checkE f x = 0) {i : Nat} (hi : i < f.size) : ((cutR f x mk).data.getD x.sec.toNat []).getD i 0 &&& mk i = ((cutR f x (fun _ => 255)).data.getD x.sec.toNat []).getD i 0 &&& mk i := by
  rw [cutR_ok hE, cutR_ok hE, cutF_row (GoodOp.of0 hE).lt, cutF_row (GoodOp.of0 hE).lt, rowF_get hi, rowF_get hi]
  exact rowB_in i
theorem cutR_none (ok : f.Ok) (hE : checkE f x = 0) (h : ∀ i, i < f.size → mk i = 0) : (cutR f x mk).data.getD x.sec.toNat [] = f.data.getD x.sec.toNat [] := by
  rw [cutR_ok hE, cutF_row (GoodOp.of0 hE).lt]
  exact rowF_none (ok.rows _ (GoodOp.of0 hE).lt) h
theorem cutR_wearq (hE : checkE f x = 0) (mk mk' : Nat → UInt8) : (cutR f x mk).wear = (cutR f x mk').wear := by rw [cutR_ok hE, cutR_ok hE]; rfl
theorem cutR_other (hE : checkE f x = 0) {i : Nat} (h : x.sec.toNat ≠ i) : (cutR f x mk).data.getD i [] = f.data.getD i [] := by rw [cutR_ok hE]; exact cutF_other h
theorem cutR_wear1 (ok : f.Ok) (hE : checkE f x = 0) {k : Nat} (hk : x.kind = 1) (h : (k : Int) = x.sec) : f.wear.getD k 0 + 1 = (cutR f x mk).wear.getD k 0 := by
  obtain rfl : x.sec.toNat = k := by omega
  rw [cutR_ok hE, cutF_wear1 hk (by rw [ok.wl]; exact (GoodOp.of0 hE).lt)]
theorem cutR_wear2 (hE : checkE f x = 0) {k : Nat} (h : ¬(x.kind = 1 ∧ (k : Int) = x.sec)) : f.wear.getD k 0 = (cutR f x mk).wear.getD k 0 := by
  rw [cutR_ok hE]
  by_cases hk : x.kind = 1
  · have := (GoodOp.of0 hE).s
    rw [cutF_wear3 (fun e => h ⟨hk, by omega⟩)]
  · rw [cutF_wear2 hk]
theorem cutR_prog (hE : checkE f x = 0) (hk : x.kind = 2) {i : Nat} (hi : i < f.size) : ((cutR f x (fun _ => 255)).data.getD x.sec.toNat []).getD i 0 &&& ~~~((f.data.getD x.sec.toNat []).getD i 0) = 0 := by
  rw [cutR_ok hE, cutF_row (GoodOp.of0 hE).lt, rowF_get hi]
  exact rowB_prog hk i
/-- Done again. -/
theorem cutR_again (hE : checkE f x = 0) (hk : x.kind = 2) : cutR (cutR f x (fun _ => 255)) x (fun _ => 255) = cutR f x (fun _ => 255) := by
  rw [cutR_ok hE, cutR_ok (check_prog hE (GoodOp.of0 hE) hk rfl), cutF_again hk (GoodOp.of0 hE).lt]
theorem cutR_turn {y : Fo} (hE : checkE f x = 0) (hk : x.kind = 2) (gy : GoodOp f y) (hy : y.kind = 2) (hs : y.sec = x.sec) : cutR (cutR f x (fun _ => 255)) y (fun _ => 255) = cutR (cutR f y (fun _ => 255)) x (fun _ => 255) := by
  have hy0 := check_prog0 hE gy hy hs
  rw [cutR_ok hE, cutR_ok hy0, cutR_ok (check_prog hE gy hy hs), cutR_ok (check_prog hy0 (GoodOp.of0 hE) hk hs.symm), cutF_turn hk hy hs (GoodOp.of0 hE).lt]
theorem checkR_prog {y : Fo} (hE : checkE f x = 0) (gy : GoodOp f y) (hy : y.kind = 2) (hs : y.sec = x.sec) : checkE (cutR f x mk) y = 0 := by
  rw [cutR_ok hE]
  exact check_prog hE gy hy hs
theorem checkR_again (ok : f.Ok) (hE : checkE f x = 0) : checkE (cutR f x mk) x = 0 ∨ checkE (cutR f x mk) x = 172 ∧ x.kind = 1 ∧ f.wear.getD x.sec.toNat 0 = f.limit - 1 := by
  rw [cutR_ok hE]
  exact check_again ok hE
theorem cutR_finish (hE : checkE f x = 0) (h2 : checkE (cutR f x mk) x = 0) : (cutR (cutR f x mk) x (fun _ => 255)).data.getD x.sec.toNat [] = (cutR f x (fun _ => 255)).data.getD x.sec.toNat [] := by
  rw [cutR_ok h2]
  rw [cutR_ok hE, cutR_ok hE, cutF_row (by rw [cutF_data]; exact (GoodOp.of0 hE).lt), cutF_row (GoodOp.of0 hE).lt]
  exact rowF_again (GoodOp.of0 hE).lt
end
end Go.Sl
