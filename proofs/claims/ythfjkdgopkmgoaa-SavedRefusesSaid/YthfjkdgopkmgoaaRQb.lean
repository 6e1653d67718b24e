/-
  What Toward says of a blank flash with a dead sector, and of one with a byte that is another one, as plain data.
-/
import Derived.Test.YthfjkdgopkmgoaaRQa
namespace Go.Sl

structure Blank (f : Fl) (us : List Int) : Prop where
  ok : f.Ok
  hu : UOk f us
  one : 1 ≤ us.length
  four : 4 ≤ f.size
  byt : ∀ s k, s < us.length → k < f.size → byt f us s k = 255
  live : ∀ i, f.dead.getD i false = false
section
variable {f : Fl} {us : List Int}
theorem Blank.room (h : Blank f us) : 4 ≤ us.length * f.size := by
  have := Nat.mul_le_mul h.one h.four
  omega
theorem Blank.u (h : Blank f us) : (us.getD 0 0).toNat < f.data.length := by
  have := h.hu.r 0 h.one
  omega
theorem bad0 {b : List UInt8} (h : b.length ≤ us.length * f.size) : ¬TowBad f us 0 b := by
  unfold TowBad
  omega
theorem area_get0 {g : Fl} (ok : g.Ok) (hu : UOk g us) (h1 : 1 ≤ us.length) {k : Nat} (hk : k < g.size) : (area g us).getD k 0 = byt g us 0 k := by
  have := area_get ok hu (s := 0) (k := k) h1 hk
  rw [Nat.zero_mul, Nat.zero_add] at this
  exact this
def byteF (f : Fl) (u : Nat) (x : UInt8) : Fl := ⟨f.size, f.data.set u ((f.data.getD u []).set 1 x), f.wear, f.limit, f.dead⟩
theorem byteF_dl (u : Nat) (x : UInt8) : (byteF f u x).data.length = f.data.length := List.length_set
theorem byteF_ok (ok : f.Ok) (u : Nat) (x : UInt8) : (byteF f u x).Ok := by
  refine ⟨ok.s1, ok.s2, by rw [byteF_dl]; exact ok.n1, by rw [byteF_dl]; exact ok.n2, by rw [byteF_dl]; exact ok.wl, by rw [byteF_dl]; exact ok.dl, fun i hi => ?_, ok.l1, ok.l2, fun i hi => ok.wear i (by rwa [byteF_dl] at hi)⟩
  rw [byteF_dl] at hi
  show ((f.data.set u ((f.data.getD u []).set 1 x)).getD i []).length = f.size
  by_cases h : u = i
  · subst h
    rw [getD_set_eq hi, List.length_set]
    exact ok.rows u hi
  · rw [getD_set_ne h]
    exact ok.rows i hi
theorem tow_byte (h : Blank f us) (x y : UInt8) : (towS (byteF f (us.getD 0 0).toNat x) us 0 [255, y]).e = if x &&& y = y then 0 else 210 := by
  have h4 := h.four; have hr := h.room
  have ok := byteF_ok h.ok (us.getD 0 0).toNat x
  have hu : UOk (byteF f (us.getD 0 0).toNat x) us := h.hu.of (byteF_dl _ _)
  have hrow := h.ok.rows _ h.u
  have e0 : byt (byteF f (us.getD 0 0).toNat x) us 0 0 = 255 := by
    show ((f.data.set (us.getD 0 0).toNat ((f.data.getD (us.getD 0 0).toNat []).set 1 x)).getD (us.getD 0 0).toNat []).getD 0 0 = 255
    rw [getD_set_eq h.u, getD_set_ne (by decide)]
    exact h.byt 0 0 h.one (by omega)
  have e1 : byt (byteF f (us.getD 0 0).toNat x) us 0 1 = x := by
    show ((f.data.set (us.getD 0 0).toNat ((f.data.getD (us.getD 0 0).toNat []).set 1 x)).getD (us.getD 0 0).toNat []).getD 1 0 = x
    rw [getD_set_eq h.u, getD_set_eq (by omega)]
  rw [← area_get0 ok hu h.one (by show 0 < f.size; omega)] at e0
  rw [← area_get0 ok hu h.one (by show 1 < f.size; omega)] at e1
  have hok : okN (area (byteF f (us.getD 0 0).toNat x) us) [255, y] 0 2 = (x &&& y == y) := by
    rw [okN_succ, okN_succ, okN_zero, e0, e1]
    simp
  have hbad : ¬TowBad (byteF f (us.getD 0 0).toNat x) us 0 [255, y] := bad0 (by show 2 ≤ us.length * f.size; omega)
  by_cases hc : x &&& y = y
  · rw [if_pos hc]
    have hok' : okN (area (byteF f (us.getD 0 0).toNat x) us) [255, y] (0 : Int).toNat [255, y].length = true := by
      show okN _ [255, y] 0 2 = true
      rw [hok, hc]
      simp
    cases hn : (List.range us.length).find? (diffB (area (byteF f (us.getD 0 0).toNat x) us) [255, y] (0 : Int).toNat (byteF f (us.getD 0 0).toNat x).size) with
    | none => rw [towS_3 hbad hok' hn]
    | some s => rw [towS_5 hbad hok' hn (h.live _)]
  · rw [if_neg hc, towS_2 hbad]
    show okN _ [255, y] 0 2 = false
    rw [hok]
    simpa using hc
end
end Go.Sl
