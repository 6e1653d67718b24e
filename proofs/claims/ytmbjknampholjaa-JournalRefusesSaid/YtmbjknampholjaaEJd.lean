/-
  The journal as plain data: slots read back; what lies above a code is no other code.
-/
import Derived.Test.YtmbjknampholjaaEJc
section
namespace Go.Sl

/-! ### Codes read back -/
theorem codeB_get (l : List UInt8) : ∀ (i : Nat), i < l.length → (codeB l).getD (2 * i) 0 = l.getD i 0 ∧ (codeB l).getD (2 * i + 1) 0 = ~~~(l.getD i 0) := by
 induction l with
 | nil => intro i hi; cases hi
 | cons b l ih =>
   intro i hi
   have e : codeB (b :: l) = b :: ~~~b :: codeB l := rfl
   rw [e]
   cases i with
   | zero => exact ⟨rfl, rfl⟩
   | succ i =>
     have := ih i (by simpa using hi)
     rw [show 2 * (i + 1) = 2 * i + 1 + 1 by omega, show 2 * i + 1 + 1 + 1 = (2 * i + 1) + 1 + 1 by omega]
     simpa using this
theorem not_not8 (b : UInt8) : ~~~(~~~b) = b := by
 apply UInt8.eq_of_toBitVec_eq
 simp
theorem codeB_pair {l : List UInt8} {i : Nat} (h : i < l.length) : pairOk (codeB l) i = true := by
 unfold pairOk
 rw [(codeB_get l i h).1, (codeB_get l i h).2, not_not8]
 exact beq_self_eq_true _
theorem codeB_to (l : List UInt8) {k : Nat} (h : k ≤ l.length) : codeTo (codeB l) k = true := by
 unfold codeTo
 rw [List.all_eq_true]
 exact fun i hi => codeB_pair (by have := List.mem_range.1 hi; omega)
theorem evenB_code (l : List UInt8) : evenB (codeB l) l.length = l := by
 refine ext_getD (d := 0) (evenB_len _ _) fun i hi => ?_
 rw [evenB_len] at hi
 rw [evenB_get hi, (codeB_get l i hi).1]
theorem numB_snoc (n w : Nat) : numB n (w + 1) = numB (n / 256) w ++ [UInt8.ofNat n] := by
 unfold numB
 rw [List.range_succ, List.map_append, List.map_singleton, show w + 1 - 1 - w = 0 by omega, Nat.pow_zero, Nat.div_one]
 congr 1
 refine List.map_congr_left fun i hi => ?_
 have := List.mem_range.1 hi
 rw [Nat.div_div_eq_div_mul, ← Nat.pow_succ', show (w - 1 - i).succ = w + 1 - 1 - i by omega]
theorem valB_numB : ∀ (w n : Nat), n < 256 ^ w → valB (numB n w) = n
 | 0, n, h => by
   have : n = 0 := by simpa using h
   subst this
   rfl
 | w + 1, n, h => by
   rw [numB_snoc, valB_snoc, valB_numB w (n / 256) (by rw [Nat.div_lt_iff_lt_mul (by decide), ← Nat.pow_succ]; exact h)]
   rw [UInt8.toNat_ofNat']
   omega
theorem bytesTo_off (s : List Int) {k : Nat} (h : k ≤ 9) : (bytesTo s k).length = offK k := by
 have e : ∀ k, bytesTo s (k + 1) = bytesTo s k ++ numB (s.getD k 0).toNat (wds.getD k 0) := bytesTo_succ s
 match k, h with
 | 0, _ => rfl
 | 1, _ | 2, _ | 3, _ | 4, _ | 5, _ | 6, _ | 7, _ | 8, _ | 9, _ =>
   simp only [e, List.length_append, numB_len]
   rw [show (bytesTo s 0).length = 0 from rfl]
   rfl
theorem bytesTo_more (s : List Int) (k m : Nat) : ∃ r, bytesTo s (k + m) = bytesTo s k ++ r := by
 induction m with
 | zero => exact ⟨[], by simp⟩
 | succ m ih =>
   obtain ⟨r, hr⟩ := ih
   exact ⟨r ++ numB (s.getD (k + m) 0).toNat (wds.getD (k + m) 0), by rw [← Nat.add_assoc, bytesTo_succ, hr, List.append_assoc]⟩
theorem bytesTo_field (s : List Int) {k : Nat} (h : k < 9) : ((bytesTo s 9).drop (offK k)).take (wds.getD k 0) = numB (s.getD k 0).toNat (wds.getD k 0) := by
 obtain ⟨r, hr⟩ := bytesTo_more s (k + 1) (9 - (k + 1))
 rw [show k + 1 + (9 - (k + 1)) = 9 by omega, bytesTo_succ s k, List.append_assoc] at hr
 rw [hr, ← bytesTo_off s (show k ≤ 9 by omega), List.drop_append_of_le_length (Nat.le_refl _), List.drop_length, List.nil_append]
 have := numB_len (s.getD k 0).toNat (wds.getD k 0)
 rw [List.take_append_of_le_length (by omega), List.take_of_length_le (by omega)]
theorem decS_bytes {s : List Int} (hs : s.length = 9) (h : rightS s = true) : decS (bytesTo s 9) = s := by
 refine ext_getD (d := 0) (by rw [decS_len, hs]) fun i hi => ?_
 rw [decS_len] at hi
 have hr := rightS_get h hi
 rw [decS_get hi, bytesTo_field s hi, valB_numB _ _ (by omega)]
 omega
theorem stateF_slot {s : List Int} (hs : s.length = 9) (h : rightS s = true) : stateF (slotF s) = some s := by
 have hl := bytesTo_nine s
 have e : evenB (codeB (bytesTo s 9)) 15 = bytesTo s 9 := by
   have := evenB_code (bytesTo s 9)
   rwa [hl] at this
 rw [slotF_yes h]
 unfold stateF
 rw [if_pos (codeB_to _ (by omega)), e, decS_bytes hs h]
theorem slot_code {s : List Int} (h : rightS s = true) : codeTo (slotF s) 15 = true := by
 rw [slotF_yes h]
 exact codeB_to _ (by rw [bytesTo_nine]; exact Nat.le_refl _)

/-! ### What lies above a code -/
theorem above_pair {p q b : UInt8} (h1 : p = ~~~q) (h2 : p &&& ~~~b = ~~~b) (h3 : q &&& b = b) : q = b := by
 subst h1
 refine bits8 fun i hi => ?_
 have g2 := congrArg (fun x : UInt8 => x.toBitVec[i]) h2
 have g3 := congrArg (fun x : UInt8 => x.toBitVec[i]) h3
 simp at g2 g3 ⊢
 cases hq : q.toBitVec[i] <;> cases hb : b.toBitVec[i] <;> simp_all
theorem aboveTo_get {b w : List UInt8} {k n : Nat} (hk : k < n) (h : aboveTo b w n = true) : b.getD k 0 &&& w.getD k 0 = w.getD k 0 := by
 unfold aboveTo at h
 rw [List.all_eq_true] at h
 simpa [-List.getD_eq_getElem?_getD] using h k (List.mem_range.2 hk)
theorem above_code {l w : List UInt8} {n : Nat} (hl : l.length = 2 * n) (hw : w.length = 2 * n) (ha : aboveTo l w (2 * n) = true) (hc : codeTo w n = true) (h : codeTo l n = true) : l = w := by
 have get : ∀ i, i < n → l.getD (2 * i) 0 = w.getD (2 * i) 0 ∧ l.getD (2 * i + 1) 0 = w.getD (2 * i + 1) 0 := by
   intro i hi
   have c1 := codeTo_get hi hc
   have c2 := codeTo_get hi h
   unfold pairOk at c1 c2
   replace c1 := eq_of_beq c1
   replace c2 := eq_of_beq c2
   have a1 := aboveTo_get (k := 2 * i) (by omega) ha
   have a2 := aboveTo_get (k := 2 * i + 1) (by omega) ha
   have e := above_pair (p := l.getD (2 * i) 0) (q := l.getD (2 * i + 1) 0) (b := w.getD (2 * i + 1) 0) c2 (by rw [← c1]; exact a1) a2
   exact ⟨by rw [c2, c1, e], e⟩
 refine ext_getD (d := 0) (by omega) fun i hi => ?_
 rw [hl] at hi
 rcases Nat.mod_two_eq_zero_or_one i with h0 | h0
 · have := (get (i / 2) (by omega)).1
   rwa [show 2 * (i / 2) = i by omega] at this
 · have := (get (i / 2) (by omega)).2
   rwa [show 2 * (i / 2) + 1 = i by omega] at this

/-! ### The law of slots -/
theorem made_right (r : List UInt8) : rightS (madeS r) = true := by
 have h : ∀ i, (r.getD i 0).toNat < 256 := fun i => UInt8.toNat_lt _
 refine right_all.2 ⟨fun j hj => ?_, fun j hj => ?_, ?_⟩
 · match j, hj with
   | 0, _ => have := h 0; show 0 ≤ ((r.getD 0 0).toNat : Int) ∧ ((r.getD 0 0).toNat : Int) ≤ 255; omega
   | 1, _ => have := h 2; show 0 ≤ ((r.getD 2 0).toNat : Int) ∧ ((r.getD 2 0).toNat : Int) ≤ 255; omega
   | 2, _ => have := h 4; show 0 ≤ ((r.getD 4 0).toNat : Int) ∧ ((r.getD 4 0).toNat : Int) ≤ 255; omega
   | 3, _ => have := h 5; show 0 ≤ ((r.getD 5 0).toNat : Int) ∧ ((r.getD 5 0).toNat : Int) ≤ 255; omega
   | 4, _ => have := h 6; show 0 ≤ ((r.getD 6 0).toNat : Int) ∧ ((r.getD 6 0).toNat : Int) ≤ 255; omega
 · match j, hj with
   | 0, _ => have := h 1; show 0 ≤ 257 * ((r.getD 1 0).toNat : Int) ∧ 257 * ((r.getD 1 0).toNat : Int) ≤ 65535; omega
   | 1, _ => have := h 7; show 0 ≤ 256 + ((r.getD 7 0).toNat : Int) ∧ 256 + ((r.getD 7 0).toNat : Int) ≤ 65535; omega
   | 2, _ => have := h 8; show 0 ≤ ((r.getD 8 0).toNat : Int) ∧ ((r.getD 8 0).toNat : Int) ≤ 65535; omega
 · have := h 3
   show 0 ≤ 16777216 * ((r.getD 3 0).toNat : Int) ∧ 16777216 * ((r.getD 3 0).toNat : Int) ≤ 4294967295
   omega
theorem made_len (r : List UInt8) : (madeS r).length = 9 := rfl
theorem ones_and (b : UInt8) : (255 : UInt8) &&& b = b := by
 apply UInt8.eq_of_toBitVec_eq
 rw [UInt8.toBitVec_and]
 show BitVec.allOnes 8 &&& b.toBitVec = _
 rw [BitVec.allOnes_and]
end Go.Sl
end
/-
  The journal as plain data: the reference's flashes and the states that are written to them.
-/
section
namespace Go.Sl

def laA (p : UInt8) : Int := (p.toNat : Int) % 4
def laB (p q : UInt8) : Int := (laA p + 1 + (q.toNat : Int) % 3) % 4
def yJ (p q : UInt8) : Ly := ⟨0, laA p, laB p q, 0, 0, none, 0, 0, none, 0, 0, none, 0, 0⟩
def szJ (z : UInt8) : Nat := 38 + z.toNat % 100
def fl1 (z : UInt8) : Fl := ⟨szJ z, [(List.replicate (szJ z) 255).set 7 0, (List.replicate (szJ z) 255).set 0 3, List.replicate (szJ z) 255, (List.replicate (szJ z) 255).set 5 17], List.replicate 4 0, 60, List.replicate 4 false⟩
def flJ (z p q : UInt8) (r : List UInt8) : Fl := (formatF (fl1 z) (laA p) (laB p q) (madeS r)).1
def mkS (ts : List (List UInt8)) (i : Nat) : Nat → UInt8 := if i < ts.length ∧ i < 4 then fun j => (ts.getD i []).getD j 0 else fun _ => 255
def stepN (a b : Int) (s : List Int) (ts : List (List UInt8)) : Nat → Nat → Fl → Fl
 | 0, _, f => f
 | k + 1, i, f => if (nextF f a b s).e ≠ 0 ∨ (nextF f a b s).done = true ∨ checkE f (nextF f a b s).x ≠ 0 then f else stepN a b s ts k (i + 1) (cutR f (nextF f a b s).x (mkS ts i))
def stepF (f : Fl) (a b : Int) (s : List Int) (ts : List (List UInt8)) : Fl := stepN a b s ts 10 0 f
theorem stepN_end {a b : Int} {s : List Int} {ts : List (List UInt8)} {k i : Nat} {f : Fl} (h : (nextF f a b s).e ≠ 0 ∨ (nextF f a b s).done = true ∨ checkE f (nextF f a b s).x ≠ 0) : stepN a b s ts k i f = f := by
 cases k with
 | zero => rfl
 | succ k => exact if_pos h
theorem stepN_go {a b : Int} {s : List Int} {ts : List (List UInt8)} {k i : Nat} {f : Fl} (h : ¬((nextF f a b s).e ≠ 0 ∨ (nextF f a b s).done = true ∨ checkE f (nextF f a b s).x ≠ 0)) : stepN a b s ts (k + 1) i f = stepN a b s ts k (i + 1) (cutR f (nextF f a b s).x (mkS ts i)) := if_neg h
theorem szJ_le (z : UInt8) : 38 ≤ szJ z ∧ szJ z ≤ 137 := by unfold szJ; omega
theorem fl1_ok (z : UInt8) : (fl1 z).Ok := by
 have h := szJ_le z
 refine ⟨by show 1 ≤ szJ z; omega, by show szJ z ≤ 4096; omega, by show 1 ≤ 4; decide, by show 4 ≤ 64; decide, rfl, rfl, fun i hi => ?_, by show (1 : Int) ≤ 60; decide, by show (60 : Int) ≤ 100000; decide, fun i hi => ?_⟩
 · replace hi : i < 4 := hi
   match i, hi with
   | 0, _ => show ((List.replicate (szJ z) 255).set 7 0).length = szJ z; simp
   | 1, _ => show ((List.replicate (szJ z) 255).set 0 3).length = szJ z; simp
   | 2, _ => show (List.replicate (szJ z) 255).length = szJ z; simp
   | 3, _ => show ((List.replicate (szJ z) 255).set 5 17).length = szJ z; simp
 · replace hi : i < 4 := hi
   match i, hi with
   | 0, _ | 1, _ | 2, _ | 3, _ => show (0 : Int) ≤ 0 ∧ (0 : Int) ≤ 60; decide
theorem la_fits (z p q : UInt8) : fitsF (fl1 z) (laA p) (laB p q) = true := by
 have h := szJ_le z
 refine decide_eq_true ⟨?_, ?_, ?_, ?_, ?_, h.1⟩
 · unfold laB laA; omega
 · unfold laA; omega
 · unfold laB laA; omega
 · show laA p < 4; unfold laA; omega
 · show laB p q < 4; unfold laB laA; omega
end Go.Sl
end
/-
  The journal as plain data: what operations change; formatting succeeds.
-/
section
namespace Go.Sl

/-- g differs from f in one sector alone, which was erased at most w times. -/
structure Chg (f g : Fl) (sec : Int) (w : Int) : Prop where
 ok : g.Ok
 n : g.data.length = f.data.length
 s : g.size = f.size
 l : g.limit = f.limit
 d : g.dead = f.dead
 oth : ∀ i, i ≠ sec.toNat → g.data.getD i [] = f.data.getD i []
 wo : ∀ i, i ≠ sec.toNat → g.wear.getD i 0 = f.wear.getD i 0
 ws : f.wear.getD sec.toNat 0 ≤ g.wear.getD sec.toNat 0 ∧ g.wear.getD sec.toNat 0 ≤ f.wear.getD sec.toNat 0 + w
section
variable {f g h : Fl} {sec w v : Int}
theorem Chg.refl (ok : f.Ok) : Chg f f sec 0 := ⟨ok, rfl, rfl, rfl, rfl, fun _ _ => rfl, fun _ _ => rfl, by omega⟩
theorem Chg.trans (a : Chg f g sec w) (b : Chg g h sec v) : Chg f h sec (w + v) :=
 ⟨b.ok, b.n.trans a.n, b.s.trans a.s, b.l.trans a.l, b.d.trans a.d, fun i hi => (b.oth i hi).trans (a.oth i hi), fun i hi => (b.wo i hi).trans (a.wo i hi), by have := a.ws; have := b.ws; omega⟩
theorem Chg.mono (a : Chg f g sec w) (hv : w ≤ v) : Chg f g sec v := ⟨a.ok, a.n, a.s, a.l, a.d, a.oth, a.wo, by have := a.ws; omega⟩
theorem Chg.other {b : Int} (a : Chg f g sec w) (hb : b.toNat ≠ sec.toNat) : secR g b = secR f b := a.oth _ hb
/-- One operation. -/
theorem Chg.cut {x : Fo} (ok : f.Ok) (hE : checkE f x = 0) (mk : Nat → UInt8) : Chg f (cutR f x mk) x.sec (if x.kind = 1 then 1 else 0) := by
 have K := cutR_kept ok hE mk
 have hs := (checkE_ok hE).2.1
 refine ⟨K.ok, K.n, K.s, K.l, K.d, fun i hi => cutR_other hE (fun e => hi e.symm), fun i hi => ?_, ?_⟩
 · exact (cutR_wear2 hE (by omega)).symm
 · by_cases hk : x.kind = 1
   · have := cutR_wear1 (mk := mk) ok hE (k := x.sec.toNat) hk (by omega)
     rw [if_pos hk]
     omega
   · have := cutR_wear2 (mk := mk) hE (k := x.sec.toNat) (fun h => hk h.1)
     rw [if_neg hk]
     omega
theorem chk_prog {at_ : Int} {d : List UInt8} (hs : 0 ≤ sec ∧ sec < (f.data.length : Int)) (hd : f.dead.getD sec.toNat false = false) (ha : 0 ≤ at_ ∧ at_ + (d.length : Int) ≤ (f.size : Int)) : checkE f ⟨2, sec, at_, d⟩ = 0 :=
 checkE_0 (.inr rfl) ⟨hs.1, by dsimp only; omega, fun _ => by dsimp only; omega⟩ hd (fun h => by cases h.1)
theorem chk_erase (hs : 0 ≤ sec ∧ sec < (f.data.length : Int)) (hd : f.dead.getD sec.toNat false = false) (hw : f.wear.getD sec.toNat 0 ≠ f.limit) : checkE f ⟨1, sec, 0, []⟩ = 0 :=
 checkE_0 (.inl rfl) ⟨hs.1, by dsimp only; omega, fun h => by cases h⟩ hd (fun h => hw h.2)
variable {want : List UInt8}
theorem tow_is (hs : 0 ≤ sec ∧ sec < (f.data.length : Int)) (hw : want.length = f.size) (hne : secR f sec ≠ want) (hE : checkE f (towX f sec want) = 0) : towN f sec want = ⟨towX f sec want, false, 0⟩ := by
 have hin : ¬(¬(0 ≤ sec ∧ sec ≤ (f.data.length : Int) - 1) ∨ want.length ≠ f.size) := by omega
 exact towN_4 hin hne rfl (by rw [hE]; exact fun h => h rfl)
theorem tow_eq (hs : 0 ≤ sec ∧ sec < (f.data.length : Int)) (hw : want.length = f.size) (he : secR f sec = want) : towN f sec want = ⟨fo0, true, 0⟩ := by
 have hin : ¬(¬(0 ≤ sec ∧ sec ≤ (f.data.length : Int) - 1) ∨ want.length ≠ f.size) := by omega
 exact towN_2 hin he
theorem reach_stop {k : Nat} (hs : 0 ≤ sec ∧ sec < (f.data.length : Int)) (hw : want.length = f.size) (he : secR f sec = want) : reachF sec want k f = (f, 0) := by
 rw [reachF_end (.inl (by rw [tow_eq hs hw he])), tow_eq hs hw he]
theorem reach_prog {k : Nat} (ok : f.Ok) (hs : 0 ≤ sec ∧ sec < (f.data.length : Int)) (hw : want.length = f.size) (hd : f.dead.getD sec.toNat false = false) (hb : towB (secR f sec) want f.size = true) :
   ∃ g, reachF sec want (k + 1) f = (g, 0) ∧ secR g sec = want ∧ Chg f g sec 0 := by
 by_cases he : secR f sec = want
 · exact ⟨f, reach_stop hs hw he, he, Chg.refl ok⟩
 · have hx : towX f sec want = ⟨2, sec, 0, want⟩ := towX_1 hb
   have hE : checkE f (towX f sec want) = 0 := by rw [hx]; exact chk_prog hs hd ⟨Int.le_refl _, by omega⟩
   have ht := tow_is hs hw he hE
   have hr : secR (cutR f (towX f sec want) (fun _ => 255)) sec = want := by rw [cutR_ok hE]; exact tow_prog hs hw hb hx
   have C := Chg.cut ok hE (fun _ => 255)
   rw [towN_sec, hx, if_neg (by show ¬(2 : Int) = 1; decide), ← hx] at C
   refine ⟨cutR f (towX f sec want) (fun _ => 255), ?_, hr, C⟩
   rw [reachF_go (by rw [ht]; exact fun h => by rcases h with h | h; cases h; exact h rfl), ht]
   exact reach_stop (by rw [C.n]; exact hs) (by rw [C.s]; exact hw) hr
theorem reach_full {k : Nat} (ok : f.Ok) (hs : 0 ≤ sec ∧ sec < (f.data.length : Int)) (hw : want.length = f.size) (hd : f.dead.getD sec.toNat false = false) (hl : f.wear.getD sec.toNat 0 < f.limit) :
   ∃ g, reachF sec want (k + 2) f = (g, 0) ∧ secR g sec = want ∧ Chg f g sec 1 := by
 by_cases hb : towB (secR f sec) want f.size = true
 · obtain ⟨g, h1, h2, h3⟩ := reach_prog (k := k + 1) ok hs hw hd hb
   exact ⟨g, h1, h2, h3.mono (by decide)⟩
 · have hx : towX f sec want = ⟨1, sec, 0, []⟩ := towX_2 (show towB (secR f sec) want f.size = false by simpa using hb)
   have he : secR f sec ≠ want := by
     intro e
     apply hb
     rw [e]
     refine List.all_eq_true.2 fun i _ => ?_
     have : want.getD i 0 &&& ~~~(want.getD i 0) = 0 := (andNot_zero _ _).1 (by
       refine bits8 fun i hi => ?_
       simp)
     rw [this]
     rfl
   have hE : checkE f (towX f sec want) = 0 := by rw [hx]; exact chk_erase hs hd (by omega)
   have ht := tow_is hs hw he hE
   have hr : secR (cutR f (towX f sec want) (fun _ => 255)) sec = List.replicate f.size 255 := by rw [cutR_ok hE]; exact tow_erase hs hx
   have C := Chg.cut ok hE (fun _ => 255)
   rw [towN_sec, hx, if_pos (by show (1 : Int) = 1; rfl), ← hx] at C
   obtain ⟨g, h1, h2, h3⟩ := reach_prog (k := k) (f := cutR f (towX f sec want) (fun _ => 255)) C.ok (by rw [C.n]; exact hs) (by rw [C.s]; exact hw) (by rw [C.d]; exact hd) (by rw [hr, C.s]; exact blank_tow _ _)
   refine ⟨g, ?_, h2, (C.trans h3).mono (by decide)⟩
   rw [reachF_go (by rw [ht]; exact fun h => by rcases h with h | h; cases h; exact h rfl), ht]
   exact h1
end

theorem mkS_no {ts : List (List UInt8)} {i : Nat} (h : ¬(i < ts.length ∧ i < 4)) : mkS ts i = fun _ => 255 := if_neg h

/-- A journal that was just formatted. -/
structure Fresh (f : Fl) (a b : Int) (s : List Int) (g : Fl) : Prop where
 ok : g.Ok
 n : g.data.length = f.data.length
 sz : g.size = f.size
 l : g.limit = f.limit
 d : g.dead = f.dead
 ra : secR g a = contF f.size 1 (slotF s)
 rb : secR g b = contF f.size 0 []
 oth : ∀ i, i ≠ a.toNat → i ≠ b.toNat → g.data.getD i [] = f.data.getD i []
 w : ∀ i, g.wear.getD i 0 ≤ f.wear.getD i 0 + 1
theorem format_fresh {f : Fl} {a b : Int} {s : List Int} (ok : f.Ok) (hf : fitsF f a b = true) (hr : rightS s = true) (hd : f.dead.getD a.toNat false = false ∧ f.dead.getD b.toNat false = false) (hl : f.wear.getD a.toNat 0 < f.limit ∧ f.wear.getD b.toNat 0 < f.limit) :
   (formatF f a b s).2 = 0 ∧ Fresh f a b s (formatF f a b s).1 := by
 have hft := fitsF_ok hf
 have hsl : 8 + (slotF s).length ≤ f.size := by have := slotF_len hr; omega
 have hne : a.toNat ≠ b.toNat := by omega
 obtain ⟨g, g1, g2, g3⟩ := reach_full (k := 1) (sec := a) (want := contF f.size 1 (slotF s)) ok ⟨hft.2.1, hft.2.2.2.1⟩ (contF_len hsl) hd.1 hl.1
 obtain ⟨h, h1, h2, h3⟩ := reach_full (f := g) (k := 1) (sec := b) (want := contF f.size 0 []) g3.ok ⟨hft.2.2.1, by rw [g3.n]; exact hft.2.2.2.2.1⟩ (by rw [g3.s]; exact contF_len (by simp; omega)) (by rw [g3.d]; exact hd.2) (by rw [g3.wo _ (fun e => hne e.symm), g3.l]; exact hl.2)
 rw [formatF_4 hf hr g1 h1]
 dsimp only
 refine ⟨rfl, h3.ok, h3.n.trans g3.n, h3.s.trans g3.s, h3.l.trans g3.l, h3.d.trans g3.d, (h3.other hne).trans g2, h2, fun i hi hj => (h3.oth i hj).trans (g3.oth i hi), fun i => ?_⟩
 have e1 := g3.ws
 have e2 := h3.ws
 by_cases ha : i = a.toNat
 · subst ha
   rw [h3.wo _ hne]
   exact e1.2
 · by_cases hb : i = b.toNat
   · subst hb
     have := g3.wo b.toNat ha
     omega
   · rw [h3.wo i hb, g3.wo i ha]
     omega
theorem flJ_fresh (z p q : UInt8) (r : List UInt8) : (formatF (fl1 z) (laA p) (laB p q) (madeS r)).2 = 0 ∧ Fresh (fl1 z) (laA p) (laB p q) (madeS r) (flJ z p q r) := by
 have h4 : ∀ i, (fl1 z).dead.getD i false = false := fun i => by
   show (List.replicate 4 false).getD i false = false
   by_cases hi : i < 4
   · rw [getD_rep _ _ _ _ hi]
   · rw [getD_ge (by simp; omega)]
 have hw : ∀ i, (fl1 z).wear.getD i 0 = 0 := fun i => by
   show (List.replicate 4 (0 : Int)).getD i 0 = 0
   by_cases hi : i < 4
   · rw [getD_rep _ _ _ _ hi]
   · rw [getD_ge (by simp; omega)]
 exact format_fresh (fl1_ok z) (la_fits z p q) (made_right r) ⟨h4 _, h4 _⟩ ⟨by rw [hw]; show (0 : Int) < 60; decide, by rw [hw]; show (0 : Int) < 60; decide⟩
theorem flJ_ok (z p q : UInt8) (r : List UInt8) : (flJ z p q r).Ok ∧ (flJ z p q r).data.length = 4 ∧ (flJ z p q r).size = szJ z :=
 have h := (flJ_fresh z p q r).2
 ⟨h.ok, h.n, h.sz⟩
end Go.Sl
end
