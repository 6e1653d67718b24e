/-
  What Toward says of a blank flash with a dead sector, and of one with a byte that is another one, as plain data.
-/
import Derived.Test.YthfjkdgopkmgoaaUQa
namespace Go.Sl

theorem find_one {A b : List UInt8} {z m : Nat} (hb : b.length ≤ z) (hm : 1 ≤ m) : (List.range m).find? (diffB A b 0 z) = if diffB A b 0 z 0 = true then some 0 else none := by
  by_cases h : diffB A b 0 z 0 = true
  · rw [if_pos h]
    exact find_mono (s := 1) (find_yes (s := 0) rfl h) hm
  · rw [if_neg h]
    have h' : diffB A b 0 z 0 = false := by simpa using h
    refine find_rest (s := 1) (find_no (s := 0) rfl h') hm (fun t ht => diffB_no1 ?_)
    have := Nat.mul_le_mul_right z ht
    unfold frm too
    omega
structure Blank (f : Fl) (us : List Int) : Prop where
  ok : f.Ok
  hu : UOk f us
  one : 1 ≤ us.length
  four : 4 ≤ f.size
  byt : ∀ s k, s < us.length → k < f.size → byt f us s k = 255
  live : ∀ i, f.dead.getD i false = false
section
variable {f : Fl} {us : List Int}
theorem Blank.room (h : Blank f us) : 4 ≤ us.length * f.size := by
  have := Nat.mul_le_mul h.one h.four
  omega
theorem Blank.u (h : Blank f us) : (us.getD 0 0).toNat < f.data.length := by
  have := h.hu.r 0 h.one
  omega
theorem bad0 {b : List UInt8} (h : b.length ≤ us.length * f.size) : ¬TowBad f us 0 b := by
  unfold TowBad
  omega
def deadF (f : Fl) (u : Nat) : Fl := ⟨f.size, f.data, f.wear, f.limit, f.dead.set u true⟩
theorem deadF_ok (ok : f.Ok) (u : Nat) : (deadF f u).Ok := ⟨ok.s1, ok.s2, ok.n1, ok.n2, ok.wl, (List.length_set ..).trans ok.dl, ok.rows, ok.l1, ok.l2, ok.wear⟩
theorem area_get0 {g : Fl} (ok : g.Ok) (hu : UOk g us) (h1 : 1 ≤ us.length) {k : Nat} (hk : k < g.size) : (area g us).getD k 0 = byt g us 0 k := by
  have := area_get ok hu (s := 0) (k := k) h1 hk
  rw [Nat.zero_mul, Nat.zero_add] at this
  exact this
theorem okN_one {A : List UInt8} {x : UInt8} : okN A [x] 0 1 = (A.getD 0 0 &&& x == x) := by
  rw [okN_succ, okN_zero, Bool.true_and]
  rfl
theorem tow_dead1 (h : Blank f us) : towS (deadF f (us.getD 0 0).toNat) us 0 [1] = ⟨fo0, false, 171⟩ := by
  have h4 := h.four; have hr := h.room
  have ok := deadF_ok h.ok (us.getD 0 0).toNat
  have hu : UOk (deadF f (us.getD 0 0).toNat) us := h.hu.of rfl
  have hA := area_get0 ok hu h.one (k := 0) (by show 0 < f.size; omega)
  have hb : byt (deadF f (us.getD 0 0).toNat) us 0 0 = 255 := h.byt 0 0 h.one (by omega)
  refine towS_4 (s := 0) (bad0 (by show 1 ≤ us.length * f.size; omega)) ?_ ?_ ?_
  · show okN _ [1] 0 1 = true
    rw [okN_one, hA, hb]
    decide
  · show (List.range us.length).find? (diffB (area (deadF f (us.getD 0 0).toNat) us) [1] 0 f.size) = some 0
    rw [find_one (by show 1 ≤ f.size; omega) h.one, if_pos]
    cases hd : diffB (area (deadF f (us.getD 0 0).toNat) us) [1] 0 f.size 0 with
    | true => rfl
    | false =>
      have := (diffB_iff (p := 0) (b := [1]) ok hu h.one).1 hd 0 (by show 0 < f.size; omega) (Nat.zero_le _) (by simp)
      rw [hb] at this
      simp at this
  · show (f.dead.set (us.getD 0 0).toNat true).getD (us.getD 0 0).toNat false = true
    exact getD_set_eq (by rw [h.ok.dl]; exact h.u) _ _
theorem tow_dead2 (h : Blank f us) : towS (deadF f (us.getD 0 0).toNat) us 0 [255] = ⟨fo0, true, 0⟩ := by
  have h4 := h.four; have hr := h.room
  have ok := deadF_ok h.ok (us.getD 0 0).toNat
  have hu : UOk (deadF f (us.getD 0 0).toNat) us := h.hu.of rfl
  have hA := area_get0 ok hu h.one (k := 0) (by show 0 < f.size; omega)
  have hb : byt (deadF f (us.getD 0 0).toNat) us 0 0 = 255 := h.byt 0 0 h.one (by omega)
  refine towS_3 (bad0 (by show 1 ≤ us.length * f.size; omega)) ?_ ?_
  · show okN _ [255] 0 1 = true
    rw [okN_one, hA, hb]
    decide
  · show (List.range us.length).find? (diffB (area (deadF f (us.getD 0 0).toNat) us) [255] 0 f.size) = none
    have hd : diffB (area (deadF f (us.getD 0 0).toNat) us) [255] 0 f.size 0 = false := by
      refine (diffB_iff (p := 0) (b := [255]) ok hu h.one).2 (fun k hk _ h2 => ?_)
      obtain rfl : k = 0 := by simpa using h2
      rw [hb]
      simp
    rw [find_one (by show 1 ≤ f.size; omega) h.one, hd]
    rfl
end
end Go.Sl
