/-
  Toward as plain data.
-/
import Derived.Test.YthfjkdgopkmgoaaRPl
namespace Go.Sl
/-! ### Toward -/
structure Nx where
  x : Fo
  done : Bool
  e : Int
  deriving DecidableEq
def fo0 : Fo := ⟨0, 0, 0, []⟩
/-- The first k places can be programmed. -/
def towB (row want : List UInt8) (k : Nat) : Bool := (List.range k).all fun i => want.getD i 0 &&& ~~~(row.getD i 0) == 0
def towX (f : Fl) (sec : Int) (want : List UInt8) : Fo := if towB (f.data.getD sec.toNat []) want f.size = true then ⟨2, sec, 0, want⟩ else ⟨1, sec, 0, []⟩
section
variable {f : Fl} {sec : Int} {want : List UInt8}
theorem towX_1 (h : towB (f.data.getD sec.toNat []) want f.size = true) : towX f sec want = ⟨2, sec, 0, want⟩ := if_pos h
theorem towX_2 (h : towB (f.data.getD sec.toNat []) want f.size = false) : towX f sec want = ⟨1, sec, 0, []⟩ := if_neg (by rw [h]; exact Bool.false_ne_true)
end
def TowX (sec : Int) (want : List UInt8) (W : Option Addr) (wc : Nat) (good : Bool) (x : Fo) (XA : Option Addr) (xc : Nat) : Prop :=
  (good = true ∧ x = ⟨2, sec, 0, want⟩ ∧ XA = W ∧ xc = wc) ∨ (good = false ∧ x = ⟨1, sec, 0, []⟩ ∧ XA = none ∧ xc = 0)
theorem TowX.next {sec : Int} {want : List UInt8} {W : Option Addr} {wc : Nat} {g : Bool} {x : Fo} {XA : Option Addr} {xc : Nat} (h : TowX sec want W wc g x XA xc) (b : Bool) (hb : b = true) : TowX sec want W wc (g && b) x XA xc := by
  subst hb
  rw [Bool.and_true]
  exact h
theorem TowX.len {sec : Int} {want : List UInt8} {W : Option Addr} {wc : Nat} {g : Bool} {x : Fo} {XA : Option Addr} {xc : Nat} (h : TowX sec want W wc g x XA xc) : x.data.length ≤ want.length := by
  rcases h with ⟨_, rfl, rfl, _⟩ | ⟨_, rfl, rfl, _⟩ <;> simp
theorem TowX.eq {f : Fl} {sec : Int} {want : List UInt8} {W : Option Addr} {wc : Nat} {x : Fo} {XA : Option Addr} {xc : Nat} (h : TowX sec want W wc (towB (f.data.getD sec.toNat []) want f.size) x XA xc) : towX f sec want = x := by
  rcases h with ⟨hg, rfl, _⟩ | ⟨hg, rfl, _⟩
  · exact towX_1 hg
  · exact towX_2 hg
/-! ### Made -/
section
variable {X : Cx} {β : Base} {Γ : Env} {R H : List Pr}
theorem Ev.shr {t ty : Nat} {x y : Operand} {k yk : IntKind} {a b : Int} (hx : ev Γ x = some (.int k a)) (hy : ev Γ y = some (.int yk b)) (h0 : 0 ≤ b) : Ev X β Γ R H (.binOp .shr t x y ty) (.int k (a.fdiv (2 ^ min b.toNat k.bits))) := by
  intro ρ w hρ hw o ho
  have hg : (eqGuard .shr t x y (.int k a) (.int yk b)).run X.P w = .ok () w := by unfold eqGuard; rfl
  have hb : ¬ b < 0 := by omega
  simp [execOp, ho, hρ _ _ hx, hρ _ _ hy, hg, binOp_shr, Op.shift, hb]
end
def V0 (hs : List Hd) (s m : Nat) : List Value := rowsV hs (B8 (List.replicate m (List.replicate s (255 : UInt8))))
theorem V0_len {hs : List Hd} {s m : Nat} (h : hs.length = m) : (V0 hs s m).length = m := by
  unfold V0
  rw [rowsV_len (by rw [B8_len]; simpa using h), B8_len]
  simp
theorem V0_get {hs : List Hd} {s m i : Nat} (h : hs.length = m) (hi : i < m) : (V0 hs s m)[i]? = some (.slice (hs.getD i (none, 0)).1 s (hs.getD i (none, 0)).2) := by
  unfold V0
  rw [rows8_get (by simpa using h) (by simpa using hi), getD_rep _ _ _ _ hi]
  simp
structure Mk (s m : Nat) (dl : List (List UInt8)) (wl : List Int) (el : List Bool) : Prop where
  d : dl.length = m
  r : ∀ i, i < m → (dl.getD i []).length = s
  w : wl.length = m
  v : ∀ i, i < m → 0 ≤ wl.getD i 0 ∧ wl.getD i 0 ≤ 3
  e : el.length = m
theorem Mk.start (s m : Nat) : Mk s m (List.replicate m (List.replicate s 255)) (List.replicate m 0) (List.replicate m false) :=
  ⟨by simp, fun i hi => by rw [getD_rep _ _ _ _ hi]; simp, by simp, fun i hi => by rw [getD_rep _ _ _ _ hi]; decide, by simp⟩
theorem Mk.data {s m : Nat} {dl : List (List UInt8)} {wl : List Int} {el : List Bool} (h : Mk s m dl wl el) {k : Nat} (hk : k < m) (l : List UInt8) (hl : l.length = s) : Mk s m (dl.set k l) wl el :=
  ⟨by rw [List.length_set]; exact h.d, fun i hi => by
    by_cases hki : k = i
    · subst hki; rw [getD_set_eq (by rw [h.d]; exact hk)]; exact hl
    · rw [getD_set_ne hki]; exact h.r i hi, h.w, h.v, h.e⟩
theorem Mk.wear {s m : Nat} {dl : List (List UInt8)} {wl : List Int} {el : List Bool} (h : Mk s m dl wl el) {k : Nat} (hk : k < m) (x : Int) (hx : 0 ≤ x ∧ x ≤ 3) : Mk s m dl (wl.set k x) el :=
  ⟨h.d, h.r, by rw [List.length_set]; exact h.w, fun i hi => by
    by_cases hki : k = i
    · subst hki; rw [getD_set_eq (by rw [h.w]; exact hk)]; exact hx
    · rw [getD_set_ne hki]; exact h.v i hi, h.e⟩
theorem Mk.dead {s m : Nat} {dl : List (List UInt8)} {wl : List Int} {el : List Bool} (h : Mk s m dl wl el) (k : Nat) (x : Bool) : Mk s m dl wl (el.set k x) := ⟨h.d, h.r, h.w, h.v, by rw [List.length_set]; exact h.e⟩
theorem Mk.ok {s m : Nat} {dl : List (List UInt8)} {wl : List Int} {el : List Bool} (h : Mk s m dl wl el) (h1 : 1 ≤ s) (h2 : s ≤ 4096) (h3 : 1 ≤ m) (h4 : m ≤ 64) : (Fl.mk s dl wl 3 el).Ok := by
  obtain ⟨a, b, c, d, e⟩ := h
  subst a
  exact ⟨h1, h2, h3, h4, c, e, b, (by decide : (1 : Int) ≤ 3), (by decide : (3 : Int) ≤ 100000), d⟩
theorem Mk.rows {s m : Nat} {dl : List (List UInt8)} {wl : List Int} {el : List Bool} (h : Mk s m dl wl el) {hs : List Hd} (hh : hs.length = m) : V0 hs s m = rowsV hs (B8 dl) := by
  refine List.ext_getElem? fun i => ?_
  by_cases hi : i < m
  · rw [V0_get hh hi, rows8_get (by rw [hh, h.d]) (by rw [h.d]; exact hi), h.r i hi]
  · rw [List.getElem?_eq_none (by rw [V0_len hh]; omega), List.getElem?_eq_none (by rw [rowsV_len (by rw [B8_len, h.d]; exact hh), B8_len, h.d]; omega)]

theorem Has.take {R H : List Pr} {A : Option Addr} {xs : List Value} (h : Has R H (Rd A xs)) (m : Nat) : Has R H (Rd A (xs.take m)) := by
  refine ⟨fun β w hw j u hu => h.1 β w hw j u ?_, fun k hk => h.2 k ⟨fun h0 => hk.1 (by rw [h0, List.take_nil]), hk.2⟩⟩
  rw [List.getElem?_take] at hu
  split at hu
  · exact hu
  · cases hu
theorem U8_take (l : List UInt8) (m : Nat) : (U8 l).take m = U8 (l.take m) := by simp [U8, List.map_take]
end Go.Sl
