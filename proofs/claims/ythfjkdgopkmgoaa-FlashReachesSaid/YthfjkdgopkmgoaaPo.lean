/-
  The plain law of following Toward: at most two operations.
-/
import Derived.Test.YthfjkdgopkmgoaaPn
namespace Go.Sl
section
variable {f : Fl} {x : Fo} {mk : Nat → UInt8}
/-! ### Toward -/
theorem towX_good {w : List UInt8} (ok : f.Ok) (hw : w.length = f.size) : GoodOp f (towX f 0 w) := by
  have h1 := ok.n1
  unfold towX
  split
  · exact ⟨.inr rfl, ⟨Int.le_refl _, by dsimp only; omega⟩, fun _ => ⟨Int.le_refl _, by dsimp only; omega, by dsimp only; omega⟩⟩
  · exact ⟨.inl rfl, ⟨Int.le_refl _, by dsimp only; omega⟩, fun h => by cases h⟩
theorem towX_sec (f : Fl) (w : List UInt8) : (towX f 0 w).sec.toNat = 0 := by unfold towX; split <;> rfl
theorem towN_in {w : List UInt8} (ok : f.Ok) (hw : w.length = f.size) : ¬(¬(0 ≤ (0 : Int) ∧ (0 : Int) ≤ (f.data.length : Int) - 1) ∨ w.length ≠ f.size) := by
  have := ok.n1
  omega
/-- Toward fails only if the sector is dead, or must be erased and is worn. -/
theorem towN_err {w : List UInt8} (ok : f.Ok) (hw : w.length = f.size) (he : (towN f 0 w).e ≠ 0) :
    f.data.getD 0 [] ≠ w ∧ (((towN f 0 w).e = 171 ∧ f.dead.getD 0 false = true) ∨ ((towN f 0 w).e = 172 ∧ f.dead.getD 0 false = false ∧ f.wear.getD 0 0 = f.limit)) := by
  have hin := towN_in ok hw
  by_cases h2 : f.data.getD 0 [] = w
  · rw [towN_2 hin h2] at he
    exact (he rfl).elim
  · refine ⟨h2, ?_⟩
    by_cases h3 : checkE f (towX f 0 w) ≠ 0
    · rw [towN_3 hin h2 rfl h3]
      have g := towX_good ok hw
      have hs := towX_sec f w
      by_cases hd : f.dead.getD 0 false = true
      · exact .inl ⟨g.dead (by rw [hs]; exact hd), hd⟩
      · have hd' : f.dead.getD 0 false = false := by simpa using hd
        by_cases hk : (towX f 0 w).kind = 1 ∧ f.wear.getD 0 0 = f.limit
        · exact .inr ⟨g.worn (by rw [hs]; exact hd') (by rw [hs]; exact hk), hd', hk.2⟩
        · exact (h3 (g.fine (by rw [hs]; exact hd') (by rw [hs]; exact hk))).elim
    · rw [towN_4 hin h2 rfl h3] at he
      exact (he rfl).elim
theorem towN_done {w : List UInt8} (ok : f.Ok) (hw : w.length = f.size) (hd : (towN f 0 w).done = true) : f.data.getD 0 [] = w := by
  have hin := towN_in ok hw
  by_cases h2 : f.data.getD 0 [] = w
  · exact h2
  · by_cases h3 : checkE f (towX f 0 w) ≠ 0
    · rw [towN_3 hin h2 rfl h3] at hd; cases hd
    · rw [towN_4 hin h2 rfl h3] at hd; cases hd
theorem towN_go {w : List UInt8} (ok : f.Ok) (hw : w.length = f.size) (he : (towN f 0 w).e = 0) (hd : (towN f 0 w).done = false) : f.data.getD 0 [] ≠ w ∧ (towN f 0 w).x = towX f 0 w ∧ checkE f (towX f 0 w) = 0 := by
  have hin := towN_in ok hw
  by_cases h2 : f.data.getD 0 [] = w
  · rw [towN_2 hin h2] at hd; cases hd
  · by_cases h3 : checkE f (towX f 0 w) ≠ 0
    · rw [towN_3 hin h2 rfl h3] at he
      exact (h3 he).elim
    · exact ⟨h2, by rw [towN_4 hin h2 rfl h3], by simpa using h3⟩
/-- How far the sector is, behind so many operations. -/
def Phase (k : Nat) (f : Fl) (w : List UInt8) : Prop :=
  k = 0 ∨ (k = 1 ∧ (f.data.getD 0 [] = w ∨ (f.dead.getD 0 false = false ∧ ∀ i, i < f.size → (f.data.getD 0 []).getD i 0 = 255))) ∨ (k = 2 ∧ f.data.getD 0 [] = w)
theorem cutF_row0 (h0 : x.sec.toNat = 0) (h : 0 < f.data.length) : (cutF f x mk).data.getD 0 [] = rowF f x mk := by
  have e := cutF_row (f := f) (x := x) (mk := mk) (by rw [h0]; exact h)
  rwa [h0] at e
theorem prog_row {w : List UInt8} (hw : w.length = f.size) (hb : towB (f.data.getD 0 []) w f.size = true) : rowF f ⟨2, 0, 0, w⟩ (fun _ => 255) = w := by
  refine ext_getD (d := 0) (by rw [rowF_len, hw]) fun i hi => ?_
  rw [rowF_len] at hi
  rw [rowF_get hi, rowB_w, askB_in (by show (2 : Int) ≠ 1; decide) (by dsimp only; omega)]
  have h := List.all_eq_true.1 hb i (List.mem_range.2 hi)
  have h0 : w.getD i 0 &&& ~~~((f.data.getD 0 []).getD i 0) = 0 := by simpa using h
  show (f.data.getD 0 []).getD i 0 &&& w.getD ((i : Int) - 0).toNat 0 = w.getD i 0
  rw [show ((i : Int) - 0).toNat = i from by omega]
  exact (andNot_zero _ _).2 h0
theorem Phase.next {w : List UInt8} {k : Nat} (ok : f.Ok) (hw : w.length = f.size) (h : Phase k f w) (he : (towN f 0 w).e = 0) (hd : (towN f 0 w).done = false) : Phase (k + 1) (cutR f (towN f 0 w).x (fun _ => 255)) w := by
  obtain ⟨hne, hx, hE⟩ := towN_go ok hw he hd
  rw [hx, cutR_ok hE]
  have hlt := ok.n1
  have hdd := (checkE_ok hE).2.2.1
  rw [towX_sec] at hdd
  have prog : towB (f.data.getD 0 []) w f.size = true → (cutF f (towX f 0 w) (fun _ => 255)).data.getD 0 [] = w := by
    intro hb
    have hx1 : towX f 0 w = ⟨2, 0, 0, w⟩ := towX_1 (sec := 0) (show towB (f.data.getD (0 : Int).toNat []) w f.size = true from hb)
    rw [hx1]
    have e := cutF_row0 (f := f) (x := ⟨2, 0, 0, w⟩) (mk := fun _ => 255) (show (0 : Int).toNat = 0 from rfl) hlt
    rw [e]
    exact prog_row hw hb
  rcases h with rfl | ⟨rfl, h⟩ | ⟨rfl, h⟩
  · by_cases hb : towB (f.data.getD 0 []) w f.size = true
    · exact .inr (.inl ⟨rfl, .inl (prog hb)⟩)
    · have hb' : towB (f.data.getD 0 []) w f.size = false := by simpa using hb
      refine .inr (.inl ⟨rfl, .inr ⟨hdd, fun i hi => ?_⟩⟩)
      have hx1 : towX f 0 w = ⟨1, 0, 0, []⟩ := towX_2 (sec := 0) (show towB (f.data.getD (0 : Int).toNat []) w f.size = false from hb')
      rw [hx1]
      have e := cutF_row0 (f := f) (x := ⟨1, 0, 0, []⟩) (mk := fun _ => 255) (show (0 : Int).toNat = 0 from rfl) hlt
      rw [e]
      have hi' : i < f.size := hi
      rw [rowF_get hi', rowB_w, askB_1 rfl]
  · rcases h with h | ⟨_, h⟩
    · exact (hne h).elim
    · refine .inr (.inr ⟨rfl, prog ?_⟩)
      refine List.all_eq_true.2 fun i hi => ?_
      rw [h i (List.mem_range.1 hi)]
      have : w.getD i 0 &&& ~~~(255 : UInt8) = 0 := by
        rw [show ~~~(255 : UInt8) = 0 from rfl]
        exact and_zero8 _
      rw [this]
      rfl
  · exact (hne h).elim
theorem Phase.lt {w : List UInt8} {k : Nat} (h : Phase k f w) : k < 3 := by
  rcases h with rfl | ⟨rfl, _⟩ | ⟨rfl, _⟩ <;> decide
end
end Go.Sl
