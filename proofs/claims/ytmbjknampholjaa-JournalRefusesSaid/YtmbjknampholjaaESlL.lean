/-
  The small separation logic: structs of numbers that are compared, equal or not.
-/
import Derived.Test.YtmbjknampholjaaESlK
import Derived.Test.YtmbjknampholjaaESlN
import Derived.Test.YtmbjknampholjaaEJd
import Derived.Test.YtmbjknampholjaaELi
section
namespace Go.Sl

section
variable {X : Cx} {β : Base} {Γ : Env} {R H : List Pr}
end

/-! ### Choices of a drawn region, told shortly -/
section
variable {X : Cx} {β : Base} {n : Nat} {ds : List Deferred} {Q : Exit → Act → World → Prop} {Γ : Env} {R H Rc : List Pr} {ops o : Array Oper} {fuel : Nat} {listed : Array Bool}
theorem LM.a2 (i j : Nat) {a b : Oper} (hr : Region.ready .any ops listed = [i, j]) (hc : Hass R H Rc) (h1 : ops[i]? = some a) (h2 : ops[j]? = some b)
   (k1 : L X β n ds ops (QM X β ops Rc Q fuel (listed.setIfInBounds i true)) [a] Γ R H) (k2 : L X β n ds ops (QM X β ops Rc Q fuel (listed.setIfInBounds j true)) [b] Γ R H) : LM X β n ds ops Rc Q (fuel + 1) listed Γ R H :=
 LM.alt [i, j] hr (by simp) hc ⟨⟨a, h1, k1⟩, ⟨b, h2, k2⟩, trivial⟩
theorem LM.a3 (i j k : Nat) {a b c : Oper} (hr : Region.ready .any ops listed = [i, j, k]) (hc : Hass R H Rc) (h1 : ops[i]? = some a) (h2 : ops[j]? = some b) (h3 : ops[k]? = some c)
   (k1 : L X β n ds ops (QM X β ops Rc Q fuel (listed.setIfInBounds i true)) [a] Γ R H) (k2 : L X β n ds ops (QM X β ops Rc Q fuel (listed.setIfInBounds j true)) [b] Γ R H) (k3 : L X β n ds ops (QM X β ops Rc Q fuel (listed.setIfInBounds k true)) [c] Γ R H) : LM X β n ds ops Rc Q (fuel + 1) listed Γ R H :=
 LM.alt [i, j, k] hr (by simp) hc ⟨⟨a, h1, k1⟩, ⟨b, h2, k2⟩, ⟨c, h3, k3⟩, trivial⟩
theorem LM.a4 (i j k l : Nat) {a b c d : Oper} (hr : Region.ready .any ops listed = [i, j, k, l]) (hc : Hass R H Rc) (h1 : ops[i]? = some a) (h2 : ops[j]? = some b) (h3 : ops[k]? = some c) (h4 : ops[l]? = some d)
   (k1 : L X β n ds ops (QM X β ops Rc Q fuel (listed.setIfInBounds i true)) [a] Γ R H) (k2 : L X β n ds ops (QM X β ops Rc Q fuel (listed.setIfInBounds j true)) [b] Γ R H) (k3 : L X β n ds ops (QM X β ops Rc Q fuel (listed.setIfInBounds k true)) [c] Γ R H) (k4 : L X β n ds ops (QM X β ops Rc Q fuel (listed.setIfInBounds l true)) [d] Γ R H) : LM X β n ds ops Rc Q (fuel + 1) listed Γ R H :=
 LM.alt [i, j, k, l] hr (by simp) hc ⟨⟨a, h1, k1⟩, ⟨b, h2, k2⟩, ⟨c, h3, k3⟩, ⟨d, h4, k4⟩, trivial⟩
theorem L.nm (hz : (listed.size == ops.size) = true) (h : LM X β n ds ops Rc Q fuel listed Γ R H) : L X β n ds o (QM X β ops Rc Q fuel listed) [] Γ R H := L.nil (QE.m hz h)
end
end Go.Sl
end
/-
  The journal as plain data: what is read behind formatting.
-/
section
namespace Go.Sl

/-- The first eight bytes of contents. -/
def headB (gen : Int) : List UInt8 := if 0 < gen then codeB (numB gen.toNat 4) else List.replicate 8 255
theorem headB_len (gen : Int) : (headB gen).length = 8 := by
 unfold headB
 split
 · exact code8_len _
 · exact List.length_replicate
theorem contF_head (n : Nat) (gen : Int) (slot : List UInt8) : contF n gen slot = headB gen ++ (slot ++ List.replicate (n - 8 - slot.length) 255) := List.append_assoc ..
theorem cont_take (n : Nat) (gen : Int) (slot : List UInt8) : (contF n gen slot).take 8 = headB gen := by
 rw [contF_head, List.take_append_of_le_length (by rw [headB_len]; decide), List.take_of_length_le (by rw [headB_len]; decide)]
theorem cont_drop (n : Nat) (gen : Int) (slot : List UInt8) : (contF n gen slot).drop 8 = slot ++ List.replicate (n - 8 - slot.length) 255 := by
 rw [contF_head, List.drop_append_of_le_length (by rw [headB_len]; decide), List.drop_of_length_le (by rw [headB_len]; decide), List.nil_append]
theorem slotAt_drop (row : List UInt8) (i : Nat) : slotAt row i = ((row.drop 8).drop (30 * i)).take 30 := by
 unfold slotAt
 rw [List.drop_drop]
theorem slotAt_cont0 {n : Nat} {gen : Int} {slot : List UInt8} (h : slot.length = 30) : slotAt (contF n gen slot) 0 = slot := by
 rw [slotAt_drop, cont_drop, Nat.mul_zero, List.drop_zero, List.take_append_of_le_length (by omega), List.take_of_length_le (by omega)]
theorem slotAt_contS {n i : Nat} {gen : Int} {slot : List UInt8} (h : slot.length = 30) (hi : 0 < i) (hn : 38 + 30 * i ≤ n) : slotAt (contF n gen slot) i = List.replicate 30 255 := by
 rw [slotAt_drop, cont_drop, List.drop_append, List.drop_of_length_le (by omega), List.nil_append, List.drop_replicate, List.take_replicate]
 congr 1
 omega
theorem genF_take {row h : List UInt8} (e : row.take 8 = h) : genF row = genF h := by
 unfold genF
 rw [← e, codeTo_take (by decide), evenB_take (by decide)]
theorem genF_code {g : Nat} (h : g < 4294967296) : genF (codeB (numB g 4)) = (g : Int) := by
 have hl := numB_len g 4
 have e : evenB (codeB (numB g 4)) 4 = numB g 4 := by
   have := evenB_code (numB g 4)
   rwa [hl] at this
 unfold genF
 rw [if_pos (codeB_to _ (by omega)), e, valB_numB 4 g h]
theorem genF_blank : genF (List.replicate 8 255) = -1 := by decide
theorem genF_cont {n g : Nat} {slot : List UInt8} (h0 : 0 < g) (h : g < 4294967296) : genF (contF n (g : Int) slot) = (g : Int) := by
 rw [genF_take (cont_take n (g : Int) slot)]
 unfold headB
 rw [if_pos (by omega), Int.toNat_natCast, genF_code h]
theorem genF_cont0 (n : Nat) (slot : List UInt8) : genF (contF n 0 slot) = -1 := by
 rw [genF_take (cont_take n 0 slot)]
 exact genF_blank
/-- One state, in a sector that is blank behind it. -/
theorem scan_one {f : Fl} {n : Nat} {gen : Int} {s : List Int} {x : Lg} (hn : f.size = n) (h38 : 38 ≤ n) (hs : s.length = 9) (hr : rightS s = true) : ∀ k, k < plcs f → scanL (contF n gen (slotF s)) x (k + 1) = { x with free := 1, s := s, found := true }
 | 0, _ => by
   have e := slotAt_cont0 (n := n) (gen := gen) (slotF_len hr)
   have hb : blankB (slotF s) = false := by
     cases hb : blankB (slotF s) with
     | false => rfl
     | true =>
       have := blank_none (by rw [slotF_len hr]; decide) hb
       rw [stateF_slot hs hr] at this
       cases this
   rw [scanL_succ, stepL_s (s := s) (by rw [e]; exact hb) (by rw [e]; exact stateF_slot hs hr)]
   rfl
 | k + 1, hk => by
   rw [scanL_succ, scan_one hn h38 hs hr k (by omega)]
   have h30 : 38 + 30 * (k + 1) ≤ n := by
     have := (slotAt_len (f := f) (row := List.replicate n 255) (i := k + 1) (by rw [List.length_replicate, hn]) hk).2
     omega
   rw [stepL_b (by rw [slotAt_contS (slotF_len hr) (Nat.succ_pos k) h30]; exact rep_blank 30)]
theorem fresh_find {f g : Fl} {a b : Int} {s : List Int} (hf : fitsF f a b = true) (hs : s.length = 9) (hr : rightS s = true) (F : Fresh f a b s g) : findF g a b = ⟨a, b, 1, s, true, 1, 0⟩ := by
 have hft := fitsF_ok hf
 have hg : fitsF g a b = true := decide_eq_true ⟨hft.1, hft.2.1, hft.2.2.1, by rw [F.n]; exact hft.2.2.2.1, by rw [F.n]; exact hft.2.2.2.2.1, by rw [F.sz]; exact hft.2.2.2.2.2⟩
 have ga : genF (secR g a) = 1 := by rw [F.ra]; exact genF_cont (g := 1) (by decide) (by decide)
 have gb : genF (secR g b) = -1 := by rw [F.rb]; exact genF_cont0 _ _
 have hp : pickL g a b = { lg0 with sec := a, oth := b, gen := 1 } := by
   unfold pickL
   rw [ga, gb, if_neg (by decide)]
 unfold findF
 rw [if_pos hg, hp, if_neg (by show ¬(1 : Int) < 0; decide)]
 have h1 : 0 < plcs g := plcs_pos (by rw [F.sz]; exact hft.2.2.2.2.2)
 obtain ⟨k, hk⟩ : ∃ k, plcs g = k + 1 := ⟨plcs g - 1, by omega⟩
 show scanL (secR g a) _ _ = _
 rw [hk, F.ra, scan_one (f := g) F.sz hft.2.2.2.2.2 hs hr k (by omega)]
 rfl
end Go.Sl
end
/-
  The journal as plain data: what holds between two states, and that each operation keeps it, interrupted or not.
-/
section
namespace Go.Sl

/-! ### Rows behind an operation -/
theorem mixB_same (o m : UInt8) : mixB o o m = o := by
 unfold mixB
 refine bits8 fun i hi => ?_
 simp
 cases o.toBitVec[i] <;> cases m.toBitVec[i] <;> rfl
theorem mix_above {o w c : UInt8} (m : UInt8) (h1 : o &&& c = c) (h2 : w &&& c = c) : mixB o w m &&& c = c := by
 unfold mixB
 refine bits8 fun i hi => ?_
 have g1 := congrArg (fun x : UInt8 => x.toBitVec[i]) h1
 have g2 := congrArg (fun x : UInt8 => x.toBitVec[i]) h2
 simp at g1 g2 ⊢
 cases ho : o.toBitVec[i] <;> cases hw : w.toBitVec[i] <;> cases hc : c.toBitVec[i] <;> cases hm : m.toBitVec[i] <;> simp_all
theorem and_self8 (c : UInt8) : c &&& c = c := by
 refine bits8 fun i hi => ?_
 simp
theorem aboveTo_of {b w : List UInt8} {n : Nat} (h : ∀ i, i < n → b.getD i 0 &&& w.getD i 0 = w.getD i 0) : aboveTo b w n = true := by
 unfold aboveTo
 rw [List.all_eq_true]
 intro i hi
 rw [h i (List.mem_range.1 hi)]
 exact beq_self_eq_true _
theorem aboveTo_takeL {b w : List UInt8} {k n : Nat} (h : k ≤ n) : aboveTo (b.take n) w k = aboveTo b w k := by
 induction k with
 | zero => rfl
 | succ k ih => rw [aboveTo_succ, aboveTo_succ, ih (by omega), getD_take (by omega)]
theorem towB_get {row want : List UInt8} {n i : Nat} (h : towB row want n = true) (hi : i < n) : row.getD i 0 &&& want.getD i 0 = want.getD i 0 := by
 unfold towB at h
 rw [List.all_eq_true] at h
 exact (andNot_zero _ _).2 (eq_of_beq (h i (List.mem_range.2 hi)))
section
variable {f : Fl} {x : Fo} {mk : Nat → UInt8}
theorem sec_row (hE : checkE f x = 0) : secR (cutR f x mk) x.sec = rowF f x mk := by
 unfold secR
 rw [cutR_ok hE]
 exact cutF_row (GoodOp.of0 hE).lt
theorem sec_other {b : Int} (hE : checkE f x = 0) (h : x.sec.toNat ≠ b.toNat) : secR (cutR f x mk) b = secR f b := cutR_other hE h
theorem row_out {i : Nat} (hi : i < f.size) (hk : x.kind ≠ 1) (ho : ¬(x.at_ ≤ (i : Int) ∧ (i : Int) - x.at_ < (x.data.length : Int))) : (rowF f x mk).getD i 0 = (secR f x.sec).getD i 0 := by
 rw [rowF_get hi]
 unfold rowB
 rw [askB_out hk ho, mixB_same]
 rfl
theorem row_in {i j : Nat} (hi : i < f.size) (hk : x.kind ≠ 1) (h0 : (i : Int) = x.at_ + (j : Int)) (hj : j < x.data.length) : (rowF f x mk).getD i 0 = mixB ((secR f x.sec).getD i 0) ((secR f x.sec).getD i 0 &&& x.data.getD j 0) (mk i) := by
 rw [rowF_get hi]
 unfold rowB
 rw [askB_in hk ⟨by omega, by omega⟩, show ((i : Int) - x.at_).toNat = j by omega]
 rfl
theorem row_erase {i : Nat} (hi : i < f.size) (hk : x.kind = 1) : (rowF f x mk).getD i 0 = mixB ((secR f x.sec).getD i 0) 255 (mk i) := by
 rw [rowF_get hi]
 unfold rowB
 rw [askB_1 hk]
 rfl
end

/-! ### Scans -/
theorem scan_congr {row row' : List UInt8} {x : Lg} : ∀ {k : Nat}, (∀ i, i < k → slotAt row' i = slotAt row i) → scanL row' x k = scanL row x k
 | 0, _ => rfl
 | k + 1, h => by
   rw [scanL_succ, scanL_succ, scan_congr (fun i hi => h i (by omega))]
   unfold stepL
   rw [h k (Nat.lt_succ_self k)]
theorem scan_blank {row : List UInt8} {x : Lg} {k : Nat} : ∀ {n : Nat}, k ≤ n → (∀ i, k ≤ i → i < n → blankB (slotAt row i) = true) → scanL row x n = scanL row x k
 | 0, hk, _ => by rw [Nat.le_zero.1 hk]
 | n + 1, hk, h => by
   by_cases e : k = n + 1
   · rw [e]
   · rw [scanL_succ, scan_blank (by omega) (fun i h1 h2 => h i h1 (by omega)), stepL_b (h n (by omega) (Nat.lt_succ_self n))]
theorem free_blank {row : List UInt8} {x : Lg} : ∀ {n i : Nat}, (scanL row x n).free ≤ i → i < n → blankB (slotAt row i) = true
 | 0, _, _, hi => absurd hi (Nat.not_lt_zero _)
 | n + 1, i, hf, hi => by
   rw [scanL_succ] at hf
   cases hb : blankB (slotAt row n) with
   | true =>
     by_cases e : i = n
     · rw [e, hb]
     · rw [stepL_b hb] at hf
       exact free_blank hf (by omega)
   | false =>
     exfalso
     have : (stepL row (scanL row x n) n).free = n + 1 := by
       cases hs : stateF (slotAt row n) with
       | none => rw [stepL_t hb hs]
       | some s => rw [stepL_s hb hs]
     omega

/-! ### What holds -/
def lgx (sec oth : Int) (g : Nat) : Lg := { lg0 with sec := sec, oth := oth, gen := (g : Int) }
def headG (g : Nat) : List UInt8 := codeB (numB g 4)
theorem headG_len (g : Nat) : (headG g).length = 8 := code8_len g
theorem headG_head {g : Nat} (h : 1 ≤ g) : headB (g : Int) = headG g := by
 unfold headB
 rw [if_pos (by omega), Int.toNat_natCast]
 rfl
theorem headG_to (g : Nat) : codeTo (headG g) 4 = true := codeB_to _ (by rw [numB_len]; decide)
def scJ (f : Fl) (sec oth : Int) (g : Nat) : Lg := scanL (secR f sec) (lgx sec oth g) (plcs f)
structure Jb (f : Fl) (sec oth : Int) (g : Nat) (s : List Int) (t : Nat) : Prop where
 ok : f.Ok
 ne : sec.toNat ≠ oth.toNat
 sr : 0 ≤ sec ∧ sec < (f.data.length : Int)
 tr : 0 ≤ oth ∧ oth < (f.data.length : Int)
 sz : 38 ≤ f.size
 sd : f.dead.getD sec.toNat false = false
 od : f.dead.getD oth.toNat false = false
 g0 : 1 ≤ g
 g1 : g < 4294967296
 head : (secR f sec).take 8 = headG g
 fnd : (scJ f sec oth g).found = true
 st : (scJ f sec oth g).s = s
 tn : (scJ f sec oth g).torn ≤ t
def O1 (f : Fl) (oth : Int) (g : Nat) : Prop := ∃ c, c < g ∧ aboveTo (secR f oth) (headG c) 8 = true
def O2 (f : Fl) (sec oth : Int) (g : Nat) (p : List Int) : Prop :=
 (scJ f sec oth g).free = plcs f ∧ aboveTo (secR f oth) (headG (g + 1)) 8 = true ∧ (secR f oth).take 8 ≠ headG (g + 1) ∧ (secR f oth).drop 8 = slotF p ++ List.replicate (f.size - 8 - (slotF p).length) 255
theorem gen_above {row : List UInt8} {c : Nat} (hl : 8 ≤ row.length) (hc : c < 4294967296) (h : aboveTo row (headG c) 8 = true) : genF row = -1 ∨ (row.take 8 = headG c ∧ genF row = (c : Int)) := by
 by_cases hk : codeTo row 4 = true
 · have e : row.take 8 = headG c := by
     refine above_code (n := 4) (by rw [List.length_take]; omega) (headG_len c) ?_ (headG_to c) ?_
     · rw [aboveTo_takeL (by decide)]; exact h
     · rw [codeTo_take (by decide)]; exact hk
   refine .inr ⟨e, ?_⟩
   rw [genF_take e]
   exact genF_code hc
 · refine .inl ?_
   unfold genF
   rw [if_neg hk]
section
variable {f : Fl} {sec oth a b : Int} {g t : Nat} {s p : List Int}
theorem Jb.ol (J : Jb f sec oth g s t) : (secR f oth).length = f.size := J.ok.rows _ (by have := J.tr; omega)
theorem Jb.sl (J : Jb f sec oth g s t) : (secR f sec).length = f.size := J.ok.rows _ (by have := J.sr; omega)
theorem Jb.gen (J : Jb f sec oth g s t) : genF (secR f sec) = (g : Int) := by
 rw [genF_take J.head]
 exact genF_code J.g1
theorem Jb.ogen (J : Jb f sec oth g s t) (h : O1 f oth g ∨ O2 f sec oth g p) (hg : g + 1 < 4294967296) : genF (secR f oth) < (g : Int) := by
 have hl := J.ol
 have := J.sz
 rcases h with ⟨c, hc, h⟩ | ⟨_, h, hn, _⟩
 · rcases gen_above (by omega) (by omega) h with e | ⟨_, e⟩ <;> omega
 · rcases gen_above (by omega) hg h with e | ⟨e, _⟩
   · omega
   · exact absurd e hn
theorem Jb.find (J : Jb f sec oth g s t) (ho : genF (secR f oth) < (g : Int)) (hp : sec = a ∧ oth = b ∨ sec = b ∧ oth = a) : findF f a b = scJ f sec oth g := by
 have hn := J.ne
 have h1 := J.sr
 have h2 := J.tr
 have hz := J.sz
 have hg := J.gen
 have hf : fitsF f a b = true := by
   refine decide_eq_true ?_
   rcases hp with ⟨rfl, rfl⟩ | ⟨rfl, rfl⟩
   · exact ⟨fun e => hn (by rw [e]), h1.1, h2.1, h1.2, h2.2, hz⟩
   · exact ⟨fun e => hn (by rw [e]), h2.1, h1.1, h2.2, h1.2, hz⟩
 have hpk : pickL f a b = lgx sec oth g := by
   unfold pickL lgx
   rcases hp with ⟨rfl, rfl⟩ | ⟨rfl, rfl⟩
   · rw [if_neg (by omega), hg]
   · rw [if_pos (by omega), hg]
 unfold findF
 rw [if_pos hf, hpk, if_neg (by show ¬((g : Int) < 0); omega)]
 rfl
theorem scJ_keep (f : Fl) (sec oth : Int) (g : Nat) : (scJ f sec oth g).sec = sec ∧ (scJ f sec oth g).oth = oth ∧ (scJ f sec oth g).gen = (g : Int) := scanL_keep _ _ _
theorem scJ_free (f : Fl) (sec oth : Int) (g : Nat) : (scJ f sec oth g).free ≤ plcs f := (scanL_free rfl rfl _).1
end
end Go.Sl
end
