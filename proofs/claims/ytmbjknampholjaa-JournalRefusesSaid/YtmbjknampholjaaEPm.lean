/-
  Toward as plain data.
-/
import Derived.Test.YtmbjknampholjaaEPl
section
namespace Go.Sl
/-! ### Toward -/
structure Nx where
 x : Fo
 done : Bool
 e : Int
 deriving DecidableEq
def fo0 : Fo := ⟨0, 0, 0, []⟩
/-- The first k places can be programmed. -/
def towB (row want : List UInt8) (k : Nat) : Bool := (List.range k).all fun i => want.getD i 0 &&& ~~~(row.getD i 0) == 0
theorem towB_succ (row want : List UInt8) (k : Nat) : towB row want (k + 1) = (towB row want k && (want.getD k 0 &&& ~~~(row.getD k 0) == 0)) := by
 unfold towB
 rw [List.range_succ, List.all_append]
 simp
theorem towB_no {row want : List UInt8} {k n : Nat} (hk : k < n) (h : want.getD k 0 &&& ~~~(row.getD k 0) ≠ 0) : towB row want n = false := by
 unfold towB
 exact List.all_eq_false.2 ⟨k, by simpa using hk, by simpa using h⟩
theorem andNot_zero (r w : UInt8) : r &&& w = w ↔ w &&& ~~~r = 0 := by
 rw [← UInt8.toBitVec_inj, ← UInt8.toBitVec_inj]
 constructor
 · intro h
   ext i hi
   have h1 := congrArg (fun b => b.getLsbD i) h
   simp [BitVec.getLsbD_eq_getElem hi] at h1 ⊢
   cases hr : r.toBitVec[i] <;> cases hw : w.toBitVec[i] <;> simp_all
 · intro h
   ext i hi
   have h1 := congrArg (fun b => b.getLsbD i) h
   simp [BitVec.getLsbD_eq_getElem hi] at h1 ⊢
   cases hr : r.toBitVec[i] <;> cases hw : w.toBitVec[i] <;> simp_all
def towX (f : Fl) (sec : Int) (want : List UInt8) : Fo := if towB (f.data.getD sec.toNat []) want f.size = true then ⟨2, sec, 0, want⟩ else ⟨1, sec, 0, []⟩
def towN (f : Fl) (sec : Int) (want : List UInt8) : Nx :=
 if ¬(0 ≤ sec ∧ sec ≤ (f.data.length : Int) - 1) ∨ want.length ≠ f.size then ⟨fo0, false, 170⟩
 else if f.data.getD sec.toNat [] = want then ⟨fo0, true, 0⟩
 else if checkE f (towX f sec want) ≠ 0 then ⟨fo0, false, checkE f (towX f sec want)⟩ else ⟨towX f sec want, false, 0⟩
section
variable {f : Fl} {sec : Int} {want : List UInt8}
theorem towN_1 (h : ¬(0 ≤ sec ∧ sec ≤ (f.data.length : Int) - 1) ∨ want.length ≠ f.size) : towN f sec want = ⟨fo0, false, 170⟩ := if_pos h
theorem towN_2 (h : ¬(¬(0 ≤ sec ∧ sec ≤ (f.data.length : Int) - 1) ∨ want.length ≠ f.size)) (h2 : f.data.getD sec.toNat [] = want) : towN f sec want = ⟨fo0, true, 0⟩ := by unfold towN; rw [if_neg h, if_pos h2]
theorem towN_3 {x : Fo} (h : ¬(¬(0 ≤ sec ∧ sec ≤ (f.data.length : Int) - 1) ∨ want.length ≠ f.size)) (h2 : f.data.getD sec.toNat [] ≠ want) (hx : towX f sec want = x) (h3 : checkE f x ≠ 0) : towN f sec want = ⟨fo0, false, checkE f x⟩ := by
 subst hx; unfold towN; rw [if_neg h, if_neg h2, if_pos h3]
theorem towN_4 {x : Fo} (h : ¬(¬(0 ≤ sec ∧ sec ≤ (f.data.length : Int) - 1) ∨ want.length ≠ f.size)) (h2 : f.data.getD sec.toNat [] ≠ want) (hx : towX f sec want = x) (h3 : ¬ checkE f x ≠ 0) : towN f sec want = ⟨x, false, 0⟩ := by
 subst hx; unfold towN; rw [if_neg h, if_neg h2, if_neg h3]
theorem towX_1 (h : towB (f.data.getD sec.toNat []) want f.size = true) : towX f sec want = ⟨2, sec, 0, want⟩ := if_pos h
theorem towX_2 (h : towB (f.data.getD sec.toNat []) want f.size = false) : towX f sec want = ⟨1, sec, 0, []⟩ := if_neg (by rw [h]; exact Bool.false_ne_true)
end
def TowX (sec : Int) (want : List UInt8) (W : Option Addr) (wc : Nat) (good : Bool) (x : Fo) (XA : Option Addr) (xc : Nat) : Prop :=
 (good = true ∧ x = ⟨2, sec, 0, want⟩ ∧ XA = W ∧ xc = wc) ∨ (good = false ∧ x = ⟨1, sec, 0, []⟩ ∧ XA = none ∧ xc = 0)
theorem TowX.next {sec : Int} {want : List UInt8} {W : Option Addr} {wc : Nat} {g : Bool} {x : Fo} {XA : Option Addr} {xc : Nat} (h : TowX sec want W wc g x XA xc) (b : Bool) (hb : b = true) : TowX sec want W wc (g && b) x XA xc := by
 subst hb
 rw [Bool.and_true]
 exact h
theorem TowX.has {sec : Int} {want : List UInt8} {W : Option Addr} {wc : Nat} {g : Bool} {x : Fo} {XA : Option Addr} {xc : Nat} {R H : List Pr} (h : TowX sec want W wc g x XA xc) (hw : Has R H (Rd W (U8 want))) : Has R H (Rd XA (U8 x.data)) := by
 rcases h with ⟨_, rfl, rfl, _⟩ | ⟨_, rfl, rfl, _⟩
 · exact hw
 · exact Has.nil
theorem TowX.len {sec : Int} {want : List UInt8} {W : Option Addr} {wc : Nat} {g : Bool} {x : Fo} {XA : Option Addr} {xc : Nat} (h : TowX sec want W wc g x XA xc) : x.data.length ≤ want.length := by
 rcases h with ⟨_, rfl, rfl, _⟩ | ⟨_, rfl, rfl, _⟩ <;> simp
theorem TowX.eq {f : Fl} {sec : Int} {want : List UInt8} {W : Option Addr} {wc : Nat} {x : Fo} {XA : Option Addr} {xc : Nat} (h : TowX sec want W wc (towB (f.data.getD sec.toNat []) want f.size) x XA xc) : towX f sec want = x := by
 rcases h with ⟨hg, rfl, _⟩ | ⟨hg, rfl, _⟩
 · exact towX_1 hg
 · exact towX_2 hg
/-! ### Made -/
section
variable {X : Cx} {β : Base} {Γ : Env} {R H : List Pr}
theorem Ev.shr {t ty : Nat} {x y : Operand} {k yk : IntKind} {a b : Int} (hx : ev Γ x = some (.int k a)) (hy : ev Γ y = some (.int yk b)) (h0 : 0 ≤ b) : Ev X β Γ R H (.binOp .shr t x y ty) (.int k (a.fdiv (2 ^ min b.toNat k.bits))) := by
 intro ρ w hρ hw o ho
 have hg : (eqGuard .shr t x y (.int k a) (.int yk b)).run X.P w = .ok () w := by unfold eqGuard; rfl
 have hb : ¬ b < 0 := by omega
 simp [execOp, ho, hρ _ _ hx, hρ _ _ hy, hg, binOp_shr, Op.shift, hb]
end
def V0 (hs : List Hd) (s m : Nat) : List Value := rowsV hs (B8 (List.replicate m (List.replicate s (255 : UInt8))))
theorem V0_len {hs : List Hd} {s m : Nat} (h : hs.length = m) : (V0 hs s m).length = m := by
 unfold V0
 rw [rowsV_len (by rw [B8_len]; simpa using h), B8_len]
 simp
theorem V0_get {hs : List Hd} {s m i : Nat} (h : hs.length = m) (hi : i < m) : (V0 hs s m)[i]? = some (.slice (hs.getD i (none, 0)).1 s (hs.getD i (none, 0)).2) := by
 unfold V0
 rw [rows8_get (by simpa using h) (by simpa using hi), getD_rep _ _ _ _ hi]
 simp
structure Mk (s m : Nat) (dl : List (List UInt8)) (wl : List Int) (el : List Bool) : Prop where
 d : dl.length = m
 r : ∀ i, i < m → (dl.getD i []).length = s
 w : wl.length = m
 v : ∀ i, i < m → 0 ≤ wl.getD i 0 ∧ wl.getD i 0 ≤ 3
 e : el.length = m
theorem Mk.start (s m : Nat) : Mk s m (List.replicate m (List.replicate s 255)) (List.replicate m 0) (List.replicate m false) :=
 ⟨by simp, fun i hi => by rw [getD_rep _ _ _ _ hi]; simp, by simp, fun i hi => by rw [getD_rep _ _ _ _ hi]; decide, by simp⟩
theorem Mk.data {s m : Nat} {dl : List (List UInt8)} {wl : List Int} {el : List Bool} (h : Mk s m dl wl el) {k : Nat} (hk : k < m) (l : List UInt8) (hl : l.length = s) : Mk s m (dl.set k l) wl el :=
 ⟨by rw [List.length_set]; exact h.d, fun i hi => by
   by_cases hki : k = i
   · subst hki; rw [getD_set_eq (by rw [h.d]; exact hk)]; exact hl
   · rw [getD_set_ne hki]; exact h.r i hi, h.w, h.v, h.e⟩
theorem Mk.wear {s m : Nat} {dl : List (List UInt8)} {wl : List Int} {el : List Bool} (h : Mk s m dl wl el) {k : Nat} (hk : k < m) (x : Int) (hx : 0 ≤ x ∧ x ≤ 3) : Mk s m dl (wl.set k x) el :=
 ⟨h.d, h.r, by rw [List.length_set]; exact h.w, fun i hi => by
   by_cases hki : k = i
   · subst hki; rw [getD_set_eq (by rw [h.w]; exact hk)]; exact hx
   · rw [getD_set_ne hki]; exact h.v i hi, h.e⟩
theorem Mk.dead {s m : Nat} {dl : List (List UInt8)} {wl : List Int} {el : List Bool} (h : Mk s m dl wl el) (k : Nat) (x : Bool) : Mk s m dl wl (el.set k x) := ⟨h.d, h.r, h.w, h.v, by rw [List.length_set]; exact h.e⟩
theorem Mk.ok {s m : Nat} {dl : List (List UInt8)} {wl : List Int} {el : List Bool} (h : Mk s m dl wl el) (h1 : 1 ≤ s) (h2 : s ≤ 4096) (h3 : 1 ≤ m) (h4 : m ≤ 64) : (Fl.mk s dl wl 3 el).Ok := by
 obtain ⟨a, b, c, d, e⟩ := h
 subst a
 exact ⟨h1, h2, h3, h4, c, e, b, (by decide : (1 : Int) ≤ 3), (by decide : (3 : Int) ≤ 100000), d⟩
theorem Mk.rows {s m : Nat} {dl : List (List UInt8)} {wl : List Int} {el : List Bool} (h : Mk s m dl wl el) {hs : List Hd} (hh : hs.length = m) : V0 hs s m = rowsV hs (B8 dl) := by
 refine List.ext_getElem? fun i => ?_
 by_cases hi : i < m
 · rw [V0_get hh hi, rows8_get (by rw [hh, h.d]) (by rw [h.d]; exact hi), h.r i hi]
 · rw [List.getElem?_eq_none (by rw [V0_len hh]; omega), List.getElem?_eq_none (by rw [rowsV_len (by rw [B8_len, h.d]; exact hh), B8_len, h.d]; omega)]

theorem Has.take {R H : List Pr} {A : Option Addr} {xs : List Value} (h : Has R H (Rd A xs)) (m : Nat) : Has R H (Rd A (xs.take m)) := by
 refine ⟨fun β w hw j u hu => h.1 β w hw j u ?_, fun k hk => h.2 k ⟨fun h0 => hk.1 (by rw [h0, List.take_nil]), hk.2⟩⟩
 rw [List.getElem?_take] at hu
 split at hu
 · exact hu
 · cases hu
theorem U8_take (l : List UInt8) (m : Nat) : (U8 l).take m = U8 (l.take m) := by simp [U8, List.map_take]
end Go.Sl
end
/-
  The plain laws of the Flash statements: what cut and whole operations do to a flash, with no program in sight.
-/
section
namespace Go.Sl

theorem bits8 {a b : UInt8} (h : ∀ i, (hi : i < 8) → a.toBitVec[i] = b.toBitVec[i]) : a = b := by
 apply UInt8.eq_of_toBitVec_eq
 ext i hi
 exact h i hi
theorem and_zero8 (a : UInt8) : a &&& 0 = 0 := by
 apply UInt8.eq_of_toBitVec_eq
 ext i hi
 simp

/-- An operation that is one, for a sector that is there. -/
structure GoodOp (f : Fl) (x : Fo) : Prop where
 k : x.kind = 1 ∨ x.kind = 2
 s : 0 ≤ x.sec ∧ x.sec ≤ (f.data.length : Int) - 1
 p : x.kind = 2 → 0 ≤ x.at_ ∧ x.at_ ≤ (f.size : Int) ∧ (x.data.length : Int) ≤ (f.size : Int) - x.at_

section
variable {f : Fl} {x : Fo} {mk : Nat → UInt8}
theorem GoodOp.lt (g : GoodOp f x) : x.sec.toNat < f.data.length := by have := g.s; omega
theorem GoodOp.dead (g : GoodOp f x) (h : f.dead.getD x.sec.toNat false = true) : checkE f x = 171 := checkE_3 g.k ⟨g.s.1, g.s.2, g.p⟩ h
theorem GoodOp.of0 (h : checkE f x = 0) : GoodOp f x := ⟨(checkE_ok h).1, ⟨(checkE_ok h).2.1.1, (checkE_ok h).2.1.2.1⟩, (checkE_ok h).2.1.2.2⟩
/-- The right operations of a flash are those of the flash after an operation. -/
theorem GoodOp.cut (g : GoodOp f x) (y : Fo) : GoodOp (cutF f y mk) x := ⟨g.k, by rw [cutF_data]; exact g.s, g.p⟩

theorem cutF_row (h : x.sec.toNat < f.data.length) : (cutF f x mk).data.getD x.sec.toNat [] = rowF f x mk := getD_set_eq h _ _
theorem cutF_other {i : Nat} (h : x.sec.toNat ≠ i) : (cutF f x mk).data.getD i [] = f.data.getD i [] := getD_set_ne h _ _
theorem rowF_get {i : Nat} (h : i < f.size) (d : UInt8) : (rowF f x mk).getD i d = rowB f x mk i := map_range_getD h d
theorem cutF_wear1 (hk : x.kind = 1) (h : x.sec.toNat < f.wear.length) : (cutF f x mk).wear.getD x.sec.toNat 0 = f.wear.getD x.sec.toNat 0 + 1 := by
 unfold cutF
 dsimp only
 rw [if_pos hk, getD_set_eq h]
theorem cutF_wear2 (hk : x.kind ≠ 1) : (cutF f x mk).wear = f.wear := by
 unfold cutF
 dsimp only
 rw [if_neg hk]
theorem cutF_wear3 {i : Nat} (h : x.sec.toNat ≠ i) : (cutF f x mk).wear.getD i 0 = f.wear.getD i 0 := by
 unfold cutF
 dsimp only
 split
 · exact getD_set_ne h _ _
 · rfl
theorem rowB_all {i : Nat} (h : mk i = 255) : rowB f x mk i = askB x i ((f.data.getD x.sec.toNat []).getD i 0) := by
 unfold rowB
 rw [h, mixB_ones]
theorem rowB_w (f : Fl) (x : Fo) (i : Nat) : rowB f x (fun _ => 255) i = askB x i ((f.data.getD x.sec.toNat []).getD i 0) := rowB_all rfl
/-- What an operation keeps. -/
structure Kept (f g : Fl) : Prop where
 ok : g.Ok
 n : g.data.length = f.data.length
 s : g.size = f.size
 l : g.limit = f.limit
 w : g.wear.length = f.data.length
 e : g.dead.length = f.data.length
 d : g.dead = f.dead
 r : ∀ i, i < f.data.length → (g.data.getD i []).length = f.size
theorem cutR_kept (ok : f.Ok) (hE : checkE f x = 0) (mk : Nat → UInt8) : Kept f (cutR f x mk) := by
 rw [cutR_ok hE]
 have h := cutF_ok ok hE mk
 exact ⟨h, cutF_data _ _, rfl, rfl, by rw [h.wl, cutF_data], by rw [h.dl, cutF_data], rfl, fun i hi => h.rows i (by rw [cutF_data]; exact hi)⟩
theorem cutR_other (hE : checkE f x = 0) {i : Nat} (h : x.sec.toNat ≠ i) : (cutR f x mk).data.getD i [] = f.data.getD i [] := by rw [cutR_ok hE]; exact cutF_other h
theorem cutR_wear1 (ok : f.Ok) (hE : checkE f x = 0) {k : Nat} (hk : x.kind = 1) (h : (k : Int) = x.sec) : f.wear.getD k 0 + 1 = (cutR f x mk).wear.getD k 0 := by
 obtain rfl : x.sec.toNat = k := by omega
 rw [cutR_ok hE, cutF_wear1 hk (by rw [ok.wl]; exact (GoodOp.of0 hE).lt)]
theorem cutR_wear2 (hE : checkE f x = 0) {k : Nat} (h : ¬(x.kind = 1 ∧ (k : Int) = x.sec)) : f.wear.getD k 0 = (cutR f x mk).wear.getD k 0 := by
 rw [cutR_ok hE]
 by_cases hk : x.kind = 1
 · have := (GoodOp.of0 hE).s
   rw [cutF_wear3 (fun e => h ⟨hk, by omega⟩)]
 · rw [cutF_wear2 hk]
end
end Go.Sl
end
