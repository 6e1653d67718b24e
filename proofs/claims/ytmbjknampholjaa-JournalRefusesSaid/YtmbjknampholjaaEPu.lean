/-
  Reading a record by its places, as the reference does, and restoring.
-/
import Derived.Test.YtmbjknampholjaaESlR
import Derived.Test.YtmbjknampholjaaEPm
import Derived.Test.YtmbjknampholjaaEWJoB
section
namespace Go.Sl

/-! ### Restore -/
def ResBad (b rec : List UInt8) : Prop := parseS rec (b.length : Int) = none ∨ b.length < 1 ∨ 4096 < b.length
instance (b rec : List UInt8) : Decidable (ResBad b rec) := by unfold ResBad; infer_instance
def resS (b rec : List UInt8) : List UInt8 := if ResBad b rec then [] else applyP b ((parseS rec (b.length : Int)).getD [])
def resE (b rec : List UInt8) : Int := if ResBad b rec then 210 else 0
theorem ResBad.no {b rec : List UInt8} {ps : List Pc} (h : parseS rec (b.length : Int) = some ps) (h1 : 1 ≤ b.length) (h2 : b.length ≤ 4096) : ¬ResBad b rec := by
 unfold ResBad
 rw [h]
 rintro (hx | hx)
 · cases hx
 · omega
theorem resS_ok {b rec : List UInt8} {ps : List Pc} (h : parseS rec (b.length : Int) = some ps) (h1 : 1 ≤ b.length) (h2 : b.length ≤ 4096) : resS b rec = applyP b ps := by
 unfold resS
 rw [if_neg (ResBad.no h h1 h2), h]
 rfl
theorem resE_ok {b rec : List UInt8} {ps : List Pc} (h : parseS rec (b.length : Int) = some ps) (h1 : 1 ≤ b.length) (h2 : b.length ≤ 4096) : resE b rec = 0 := by
 unfold resE
 rw [if_neg (ResBad.no h h1 h2)]
/-- The record of a change restores. -/
theorem res_rec {sec : Int} {a b : List UInt8} (h : ¬RecBad sec a b) : resS b (recS sec a b) = a ∧ resE b (recS sec a b) = 0 := by
 have h' := h
 unfold RecBad at h'
 have hx : (UInt8.ofInt sec).toNat < 64 := by
   simp [UInt8.ofInt, UInt8.toNat_ofNat']
   omega
 have hp := parse_rec (b := b) hx (a := a) (by omega) (size := b.length) (by omega) (by omega)
 rw [recS_ok h]
 rw [resS_ok hp (by omega) (by omega), resE_ok hp (by omega) (by omega)]
 exact ⟨apply_rec (by omega), rfl⟩
end Go.Sl
end
/-
  The undo area, Toward and Last, as plain data.
-/
section
namespace Go.Sl

structure UOk (f : Fl) (us : List Int) : Prop where
 l : us.length ≤ 64
 r : ∀ s, s < us.length → 0 ≤ us.getD s 0 ∧ us.getD s 0 < (f.data.length : Int)
/-- The capacities of the rows. -/
def Caps (f : Fl) (a : Fa) : Prop := ∀ i, i < f.data.length → f.size ≤ (a.hs.getD i (none, 0)).2
theorem UOk.mem {f : Fl} {us : List Int} (h : UOk f us) : ∀ u ∈ us, 0 ≤ u ∧ u < (f.data.length : Int) := by
 intro u hu
 obtain ⟨i, hi, rfl⟩ := List.mem_iff_getElem.1 hu
 have := h.r i hi
 simpa [List.getD_eq_getElem?_getD, hi] using this
def frm (p z s : Nat) : Nat := max p (s * z)
def too (p z n s : Nat) : Nat := min (p + n) ((s + 1) * z)
def chunk (b : List UInt8) (p z s : Nat) : List UInt8 := (b.drop (frm p z s - p)).take (too p z b.length s - frm p z s)
def diffB (A b : List UInt8) (p z s : Nat) : Bool := decide (frm p z s < too p z b.length s) && !((A.drop (frm p z s)).take (too p z b.length s - frm p z s) == chunk b p z s)
def TowBad (f : Fl) (us : List Int) (at_ : Int) (b : List UInt8) : Prop := at_ < 0 ∨ at_ > ((us.length * f.size : Nat) : Int) ∨ (b.length : Int) > ((us.length * f.size : Nat) : Int) - at_
instance (f : Fl) (us : List Int) (at_ : Int) (b : List UInt8) : Decidable (TowBad f us at_ b) := by unfold TowBad; infer_instance
section
variable {f : Fl} {us : List Int} {at_ : Int} {b : List UInt8}
end
/-- What the program has found. -/
def NextIs (A : List UInt8) (us : List Int) (b : List UInt8) (p z : Nat) (W : Option Addr) (wc s : Nat) (N : Option Addr) (n : Nat) (cs : List Value) : Prop :=
 ((List.range s).find? (diffB A b p z) = none ∧ N = none ∧ n = 0 ∧ cs = []) ∨
 ∃ t, (List.range s).find? (diffB A b p z) = some t ∧ N.isSome = true ∧ n = 1 ∧ cs = [.int .i64 2, .int .i64 (us.getD t 0), .int .i64 ((frm p z t - t * z : Nat) : Int), .slice (subA W wc (frm p z t - p) 1) (chunk b p z t).length (wc - (frm p z t - p))]
theorem NextIs.none {A : List UInt8} {us : List Int} {b : List UInt8} {p z : Nat} {W : Option Addr} {wc s : Nat} {N : Option Addr} {n : Nat} {cs : List Value} (h : NextIs A us b p z W wc s N n cs) (hN : N.isNone = true) : (List.range s).find? (diffB A b p z) = none ∧ N = none ∧ n = 0 ∧ cs = [] := by
 rcases h with h | ⟨t, _, h2, _⟩
 · exact h
 · rw [Option.isSome_iff_ne_none] at h2
   simp at hN
   exact absurd hN h2
theorem NextIs.some {A : List UInt8} {us : List Int} {b : List UInt8} {p z : Nat} {W : Option Addr} {wc s : Nat} {N : Option Addr} {n : Nat} {cs : List Value} (h : NextIs A us b p z W wc s N n cs) (hN : N.isNone = false) :
   ∃ t, (List.range s).find? (diffB A b p z) = some t ∧ n = 1 ∧ cs = [.int .i64 2, .int .i64 (us.getD t 0), .int .i64 ((frm p z t - t * z : Nat) : Int), .slice (subA W wc (frm p z t - p) 1) (chunk b p z t).length (wc - (frm p z t - p))] := by
 rcases h with ⟨_, h, _⟩ | ⟨t, h1, _, h2⟩
 · subst h; cases hN
 · exact ⟨t, h1, h2⟩
/-! ### Last -/
structure Fnd where
 b : List UInt8
 at_ : Int
 e : Int
 deriving DecidableEq
def lastB (A : List UInt8) (e : Nat) : List UInt8 := (A.drop (e - be2 (A.drop (e - 2)))).take (be2 (A.drop (e - 2)))
def LastBad (A : List UInt8) (z e : Int) : Prop := e < 2 ∨ e > (A.length : Int) ∨ ((be2 (A.drop (e.toNat - 2)) : Nat) : Int) > e ∨ parseS (lastB A e.toNat) z = none
instance (A : List UInt8) (z e : Int) : Decidable (LastBad A z e) := by unfold LastBad; infer_instance
section
variable {X : Cx} {β : Base} {n : Nat} {ds : List Deferred} {ops : Array Oper} {Q : Exit → Act → World → Prop} {Γ : Env} {R H : List Pr} {rest : List Oper}
end
end Go.Sl
end
/-
  What the laws of saved records say, as plain data.
-/
section
namespace Go.Sl

theorem recB_head (x : UInt8) (old : List UInt8) (s : List (Nat × Nat)) : (recB x old s).getD 0 0 = x := rfl
theorem ofInt_lt {sec : Nat} (h : sec < 64) : (UInt8.ofInt (sec : Int)).toNat = sec := by
 simp [UInt8.ofInt, UInt8.toNat_ofNat']
 omega
structure RecIs (sec : Nat) (a b r : List UInt8) : Prop where
 eq : recS (sec : Int) a b = r
 e : recE (sec : Int) a b = 0
 head : (r.getD 0 0).toNat = sec
 len : r.length = 5 + 4 * (chgN a b a.length).length + diffN a b a.length
 le : r.length ≤ 20485
 res : resS b r = a
 resE : resE b r = 0
theorem RecIs.of {sec : Nat} {a b r : List UInt8} (hr : r = recS (sec : Int) a b) (h : sec < 64) (hl : a.length = b.length) (h1 : 1 ≤ a.length) (h2 : a.length ≤ 4096) : RecIs sec a b r := by
 subst hr
 have hB : ¬RecBad (sec : Int) a b := by unfold RecBad; omega
 obtain ⟨h3, h4⟩ := res_rec hB
 refine ⟨rfl, recE_ok hB, ?_, ?_, recS_len _ _ _, h3, h4⟩
 · rw [recS_ok hB, recB_head, ofInt_lt h]
 · rw [recS_ok hB, recB_len]
theorem diffN_same (a : List UInt8) : ∀ k, diffN a a k = 0
 | 0 => rfl
 | k + 1 => by rw [diffN, if_pos rfl, diffN_same a k]
theorem chgN_same (a : List UInt8) : ∀ k, chgN a a k = []
 | 0 => rfl
 | k + 1 => by rw [chgN, if_pos rfl, chgN_same a k]
theorem RecIs.same {sec : Nat} {a r : List UInt8} (h : RecIs sec a a r) : r.length = 5 := by rw [h.len, chgN_same, diffN_same]; rfl
end Go.Sl
end
/-
  A flash whose first bytes of a sector are others; two elements of some cells.
-/
section
namespace Go.Sl

section
variable {X : Cx} {β : Base} {n : Nat} {ds : List Deferred} {ops : Array Oper} {Q : Exit → Act → World → Prop} {Γ : Env} {R H : List Pr} {rest : List Oper}
end

theorem UOk.of {f g : Fl} {us : List Int} (h : UOk f us) (hl : g.data.length = f.data.length) : UOk g us := ⟨h.l, fun s hs => by rw [hl]; exact h.r s hs⟩
theorem Caps.of {f g : Fl} {a : Fa} (h : Caps f a) (hl : g.data.length = f.data.length) (hz : g.size = f.size) : Caps g a := fun i hi => by rw [hz]; exact h i (by rwa [hl] at hi)
end Go.Sl
end
/-
  The contracts of generation, state, blank.
-/
section
namespace Go.Proofs.Ytmbjknampholjaa
open Go.Sl

theorem genP_c (f : Fl) (a : Fa) (ok : f.Ok) (hh : a.hs.length = f.data.length) (s : Int) (hs : 0 ≤ s ∧ s < (f.data.length : Int)) (h8 : 8 ≤ f.size) (hcap : Caps f a) :
   Ctr X 75 [.agg (List.toArray [.int .i64 (f.size : Int), .slice a.D f.data.length a.cD, .slice a.W f.wear.length a.cW, .int .i64 f.limit, .slice a.E f.dead.length a.cE]), .int .i64 s] [Rd a.D (rowsV a.hs (B8 f.data)), KidsR a.hs (B8 f.data), Rd a.W (I64 f.wear), Rd a.E (Bs f.dead)] [] (fun v R' H' => v = .int .i64 (genF (secR f s)) ∧ R' = [] ∧ H' = []) := by
 obtain ⟨os1, os2, on1, on2, owl, odl, orows, ol1, ol2, owear⟩ := ok
 have hrow := orows s.toNat (by omega)
 have hcp := hcap s.toNat (by omega)
 refine Ctr.of (X := X) (fn := Try.f75) Try.func75 rfl (by kernel_rfl) rfl ?_
 intro β
 refine C.seq (C.region ?_)
 refine L.boxA rfl rfl (fun A2 => ?_)
 refine Lpu rfl rfl ?_; refine L.nil (QE.seq (C.seq ?_)); refine C.freeze 0 rfl [] (by decide) (by decide) ?_; refine C.region ?_
 refine L.alloc rfl rfl rfl (fun A5 => ?_)
 refine L.store (j := 0) rfl rfl rfl rfl rfl rfl rfl rfl ?_; refine L.nil (QE.seq (C.seq (C.seq (C.region ?_)))); refine L.step (Ev.fieldAddr rfl rfl rfl rfl rfl rfl (Src.r 0 rfl) (Nat.zero_lt_succ _) rfl) rfl ?_; refine L.step (Ev.load rfl rfl rfl (Src.r 0 rfl) rfl) rfl ?_; refine Lpu rfl rfl ?_; refine L.step (Ev.idx1 (k := s.toNat) rfl rfl rfl rfl rfl rfl (by omega) (by omega) (Src.r 1 rfl) (by rw [rowsV_len (by rw [B8_len]; exact hh), B8_len]; omega)) rfl ?_; refine L.step (Ev.load rfl rfl rfl (Src.r 1 rfl) (rows8_get hh (by omega))) rfl ?_; refine L.step (Ev.cast (u := .slice (a.hs.getD s.toNat (none, 0)).1 ((f.data.getD s.toNat []).take 8).length (a.hs.getD s.toNat (none, 0)).2) (Ev.sliceH (h := 8) rfl rfl rfl rfl rfl rfl (by omega)) (by rw [List.length_take, Nat.min_eq_left (by omega)])) rfl ?_; refine Lpu rfl rfl ?_; refine L.call (js := [0]) (js' := []) (decode_c 84 #[ptrOf A5 0] (a.hs.getD s.toNat (none, 0)).1 ((f.data.getD s.toNat []).take 8) (a.hs.getD s.toNat (none, 0)).2 (Own 3 1 A5 1 1 [.int .i64 (-1)]) (fun p => codeTo ((f.data.getD s.toNat []).take 8) 4 = true ∧ p = Own 3 1 A5 1 1 [.int .i64 (valB (evenB ((f.data.getD s.toNat []).take 8) 4) : Int)]) (fun p => codeTo ((f.data.getD s.toNat []).take 8) 4 = false ∧ p = Own 3 1 A5 1 1 [.int .i64 (-1)]) (fun D => gen1_c D A5 _ _ _ (-1) (by rw [List.length_take]; omega) (by rw [List.length_take]; omega))) rfl rfl rfl (by decide) ⟨(((((Has.kid 2 rfl (by rw [B8_len]; exact hh) (s.toNat) (by rw [B8_len]; omega)).cast (B8_get _))).take 8).cast (U8_take _ _)), trivial⟩ rfl ?_
 rintro v _ _ ⟨p, rfl, rfl, hp⟩
 rw [codeTo_take (by decide), evenB_take (by decide)] at hp
 obtain ⟨n, rfl, rfl, hn⟩ : ∃ n : Int, p = Own 3 1 A5 1 1 [.int .i64 n] ∧ v = .bool (codeTo (f.data.getD s.toNat []) 4) ∧ (codeTo (f.data.getD s.toNat []) 4 = true → n = (valB (evenB (f.data.getD s.toNat []) 4) : Int)) := by
   rcases hp with ⟨⟨hk, rfl⟩, rfl⟩ | ⟨⟨hk, rfl⟩, rfl⟩
   · exact ⟨_, rfl, by rw [hk], fun _ => rfl⟩
   · exact ⟨_, rfl, by rw [hk], fun h => by rw [hk] at h; cases h⟩
 refine Lpu rfl rfl ?_; refine L.nil (QE.seq ?_)
 refine C.condB 14 rfl (fun hc14 => ?_) (fun hc14 => ?_)
 ·
  refine C.seq (C.region ?_); refine Lpu rfl rfl ?_; refine L.nil (QE.seq (C.ret (QE.tR ?_))); refine QE.ret (js := []) (hs := []) (vs := [_]) rfl ⟨rfl, trivial⟩ (by decide) ?_
  refine ⟨?_, rfl, rfl⟩
  unfold genF secR
  rw [if_neg (by simpa using hc14)]
  rfl
 ·
  refine C.skip (QE.seq (C.seq (C.region ?_))); refine L.step (Ev.load rfl rfl rfl (Src.o 0 rfl) rfl) rfl ?_; refine Lpu rfl rfl ?_; refine L.nil (QE.seq (C.ret ?_)); refine QE.ret (js := []) (hs := []) (vs := [_]) rfl ⟨rfl, trivial⟩ (by decide) ?_
  refine ⟨?_, rfl, rfl⟩
  have hk : codeTo (f.data.getD s.toNat []) 4 = true := by simpa using hc14
  unfold genF secR
  rw [if_pos hk, hn hk]
  rfl

theorem count_c (A B : Option Addr) (c bc : Nat) (l : List UInt8) (x : UInt8) :
   Ctr X 86 [.slice A l.length c, .slice B 1 bc] [Rd A (U8 l), Rd B (U8 [x])] [] (fun v R' H' => v = .int .i64 ((l.count x : Nat) : Int) ∧ R' = [] ∧ H' = []) := by
 refine Ctr.of (X := X) (fn := Try.f86) Try.func86 rfl (by kernel_rfl) rfl ?_
 intro β
 refine C.seq (C.region ?_); refine Lpu rfl rfl ?_; refine L.nil (QE.seq (C.seq (C.seq (C.region ?_)))); refine Lpu rfl rfl ?_; refine Lpu rfl rfl ?_; refine Lpu rfl rfl ?_; refine L.nil (QE.seq ?_)
 refine C.condB 9 rfl (fun hc9 => ?_) (fun hc9 => ?_)
 ·
  replace hc9 := i_eq hc9
  omega
 ·
  replace hc9 := i_ne hc9
  refine C.skip (QE.seq (C.seq (C.seq (C.region ?_)))); refine Lpu rfl rfl ?_; refine Lpu rfl rfl ?_; refine Lpu rfl rfl ?_; refine L.nil (QE.seq ?_)
  refine C.condB 15 rfl (fun hc15 => ?_) (fun hc15 => ?_)
  ·
   replace hc15 := i_eq hc15
   refine C.seq (C.region ?_); refine Lpu rfl rfl ?_; refine Lpu rfl rfl ?_; refine L.step (Ev.idx1 (k := 0) rfl rfl rfl rfl rfl rfl rfl (by decide) (Src.r 1 rfl) (by exact Nat.zero_lt_succ _)) rfl ?_; refine L.step (Ev.load rfl rfl rfl (Src.r 1 rfl) (U8_get (by exact Nat.zero_lt_succ _))) rfl ?_; refine L.step (Ev.count8 (fn := Try.f92) Try.func92 rfl rfl (by kernel_rfl) (by kernel_rfl) rfl (Src.r 0 rfl) rfl) rfl ?_; refine Lpu rfl rfl ?_; refine L.nil (QE.seq (C.ret (QE.tR ?_))); refine QE.ret (js := []) (hs := []) (vs := [_]) rfl ⟨rfl, trivial⟩ (by decide) ?_
   exact ⟨rfl, rfl, rfl⟩
  ·
   replace hc15 := i_ne hc15
   omega

theorem blankP_c (A : Option Addr) (c : Nat) (l : List UInt8) :
   Ctr X 76 [.slice A l.length c] [Rd A (U8 l)] [] (fun v R' H' => v = .bool (blankB l) ∧ R' = [] ∧ H' = []) := by
 refine Ctr.of (X := X) (fn := Try.f76) Try.func76 rfl (by kernel_rfl) rfl ?_
 intro β
 refine C.seq (C.region ?_); refine Lpu rfl rfl ?_; refine L.nil (QE.seq (C.seq (C.region ?_))); refine Lpu rfl rfl ?_
 refine L.lit rfl rfl rfl rfl rfl (by rfl) (by rfl) (by rfl) rfl rfl (fun A4 => ?_)
 refine L.freeze 0 rfl [] (by decide) (by decide) ?_; refine L.call (js := []) (js' := []) (count_c A A4 c 1 l 255) rfl rfl rfl (by decide) (Hq [1, 0] rfl) rfl ?_
 rintro _ _ _ ⟨rfl, rfl, rfl⟩
 refine Lpu rfl rfl ?_; refine Lpu rfl rfl ?_; refine Lpu rfl rfl ?_; refine Lpu rfl rfl ?_; refine L.nil (QE.seq (C.ret ?_)); refine QE.ret (js := []) (hs := []) (vs := [_]) rfl ⟨rfl, trivial⟩ (by decide) ?_
 refine ⟨congrArg Value.bool ?_, rfl, rfl⟩
 rw [← count_blank, Bool.eq_iff_iff, beq_iff_eq, beq_iff_eq]
 omega

theorem stP_c (A : Option Addr) (c : Nat) (l : List UInt8) (hc : l.length ≤ c) (hl : 30 ≤ l.length) :
   Ctr X 77 [.slice A l.length c] [Rd A (U8 l)] [] (fun v R' H' => v = .tuple #[.agg (List.toArray (st9 ((stateF l).getD (List.replicate 9 0)))), .bool (stateF l).isSome] ∧ R' = [] ∧ H' = []) := by
 refine Ctr.of (X := X) (fn := Try.f77) Try.func77 rfl (by kernel_rfl) rfl ?_
 intro β
 refine C.seq (C.region ?_)
 refine L.alloc rfl rfl rfl (fun A2 => ?_)
 refine Lpu rfl rfl ?_; refine L.nil (QE.seq (C.seq (C.region ?_))); refine Lpu rfl rfl ?_; refine Lpu rfl rfl ?_; refine L.call (js := [0]) (js' := []) (decode_c 87 #[ptrOf A2 0] A l c (Own 29 9 A2 1 1 (I64 (List.replicate 9 0))) (fun p => codeTo l 15 = true ∧ p = Own 29 9 A2 1 1 (I64 (decS (evenB l 15)))) (fun p => codeTo l 15 = false ∧ ∃ xs : List Int, xs.length = 9 ∧ p = Own 29 9 A2 1 1 (I64 xs)) (fun D => st1_c D A2 A l c hc hl)) rfl rfl rfl (by decide) (Hq [0] rfl) rfl ?_
 rintro v _ _ ⟨p, rfl, rfl, hp⟩
 obtain ⟨ys, hyl, rfl, rfl, hy⟩ : ∃ ys : List Int, ys.length = 9 ∧ p = Own 29 9 A2 1 1 (I64 ys) ∧ v = .bool (codeTo l 15) ∧ (codeTo l 15 = true → ys = decS (evenB l 15)) := by
   rcases hp with ⟨⟨hk, rfl⟩, rfl⟩ | ⟨⟨hk, xs, hx, rfl⟩, rfl⟩
   · exact ⟨_, decS_len _, rfl, by rw [hk], fun _ => rfl⟩
   · exact ⟨xs, hx, rfl, by rw [hk], fun h => by rw [hk] at h; cases h⟩
 have hall : (I64 ys).all Value.oneCell' = true := List.all_eq_true.2 (I64_one _)
 refine Lpu rfl rfl ?_; refine L.nil (QE.seq (C.seq (C.seq (C.region ?_)))); refine Lpu rfl rfl ?_; refine Lpu rfl rfl ?_; refine L.nil (QE.seq ?_)
 refine C.condB 8 rfl (fun hc8 => ?_) (fun hc8 => ?_)
 ·
  have hno : stateF l = none := by unfold stateF; rw [if_neg (by simpa using hc8)]
  refine C.seq (C.region ?_); refine L.step (Ev.build rfl rfl rfl rfl rfl rfl rfl) rfl ?_; refine L.storeA (j := 0) rfl rfl rfl rfl rfl (Nat.zero_lt_succ _) rfl (by rw [I64_len, hyl]; rfl) ?_; refine Lpu rfl rfl ?_; refine L.nil (QE.seq (C.ret (QE.tR ?_))); refine QE.ret (js := []) (hs := []) (vs := [_, _]) rfl ⟨⟨_, _, 0, _, rfl, rfl, Src.o 0 rfl, .inl ⟨rfl, by decide, _, rfl, rfl, rfl⟩⟩, rfl, trivial⟩ (by decide) ?_
  rw [hno]
  exact ⟨rfl, rfl, rfl⟩
 ·
  have hk : codeTo l 15 = true := by simpa using hc8
  have hyes : stateF l = some ys := by unfold stateF; rw [if_pos hk, hy hk]
  refine C.skip (QE.seq (C.seq (C.region ?_))); refine L.step (Ev.loadA rfl rfl rfl (Src.o 0 rfl) (vs := I64 ys) (by rw [List.drop_zero, List.take_of_length_le (by rw [I64_len, hyl]; decide)]) (by rw [I64_len, hyl]; rfl) (by decide)) rfl ?_; refine L.storeA (j := 0) (vs := I64 ys) rfl rfl rfl hall (by rw [I64_len, hyl]; rfl) (by rw [I64_len, hyl]; decide) rfl (by rw [I64_len, hyl]; rfl) ?_; refine Lpu rfl rfl ?_; refine L.nil (QE.seq (C.ret ?_)); refine QE.ret (js := []) (hs := []) (vs := [_, _]) rfl ⟨⟨_, _, 0, _, rfl, rfl, Src.o 0 rfl, .inl ⟨rfl, by decide, I64 ys, (by rw [List.drop_zero, List.take_zero, List.nil_append, List.take_append_of_le_length (by rw [I64_len, hyl]; decide), List.take_of_length_le (by rw [I64_len, hyl]; decide)]), (by rw [I64_len, hyl]; rfl), rfl⟩⟩, rfl, trivial⟩ (by decide) ?_
  rw [hyes, ← st9_eq (show ((some ys).getD (List.replicate 9 0)).length = 9 from hyl)]
  exact ⟨rfl, rfl, rfl⟩

end Go.Proofs.Ytmbjknampholjaa
end
