/-
  The journal as plain data: from one state to the next one, with any interruptions.
-/
import Derived.Test.YtmbjknampholjaaEJj
section
namespace Go.Sl

def jmu (f : Fl) (sec oth : Int) (g : Nat) (s p : List Int) : Nat :=
 if s = p then 0 else if (scJ f sec oth g).free < plcs f then 1 else if readyB (secR f oth) (contF f.size ((g : Int) + 1) (slotF p)) = true then 1 else 1 + tMu f oth (contF f.size 0 (slotF p))
theorem jmu_le (f : Fl) (sec oth : Int) (g : Nat) (s p : List Int) : jmu f sec oth g s p ≤ 3 := by
 have := tMu_le f oth (contF f.size 0 (slotF p))
 unfold jmu
 split
 · omega
 · split
   · omega
   · split <;> omega
/-- On the way from s to p. -/
def JV (f : Fl) (a b : Int) (s p : List Int) (t G m : Nat) : Prop :=
 ∃ sec oth g, (sec = a ∧ oth = b ∨ sec = b ∧ oth = a) ∧ g ≤ G ∧ Jb f sec oth g s t ∧ (O1 f oth g ∨ O2 f sec oth g p) ∧ jmu f sec oth g s p ≤ m
/-- The state s is there. -/
def JC (f : Fl) (a b : Int) (s : List Int) (t G : Nat) : Prop :=
 ∃ sec oth g, (sec = a ∧ oth = b ∨ sec = b ∧ oth = a) ∧ g ≤ G ∧ Jb f sec oth g s t ∧ O1 f oth g
section
variable {f : Fl} {a b : Int} {s p : List Int} {t G m : Nat}
theorem Jb.mono {sec oth : Int} {g u : Nat} (J : Jb f sec oth g s t) (h : t ≤ u) : Jb f sec oth g s u :=
 ⟨J.ok, J.ne, J.sr, J.tr, J.sz, J.sd, J.od, J.g0, J.g1, J.head, J.fnd, J.st, Nat.le_trans J.tn h⟩
theorem JC.jv (h : JC f a b s t G) (p : List Int) : JV f a b s p t G 3 := by
 obtain ⟨sec, oth, g, hp, hg, J, O⟩ := h
 exact ⟨sec, oth, g, hp, hg, J, .inl O, jmu_le _ _ _ _ _ _⟩
theorem JV.mono {u H n : Nat} (h : JV f a b s p t G m) (ht : t ≤ u) (hG : G ≤ H) (hm : m ≤ n) : JV f a b s p u H n := by
 obtain ⟨sec, oth, g, hp, hg, J, O, hj⟩ := h
 exact ⟨sec, oth, g, hp, Nat.le_trans hg hG, J.mono ht, O, Nat.le_trans hj hm⟩
theorem JC.mono {u H : Nat} (h : JC f a b s t G) (ht : t ≤ u) (hG : G ≤ H) : JC f a b s u H := by
 obtain ⟨sec, oth, g, hp, hg, J, O⟩ := h
 exact ⟨sec, oth, g, hp, Nat.le_trans hg hG, J.mono ht, O⟩
theorem JV.find (h : JV f a b s p t G m) (hG : G + 1 < 4294967296) : (findF f a b).found = true ∧ (findF f a b).s = s ∧ (findF f a b).torn ≤ t := by
 obtain ⟨sec, oth, g, hp, hg, J, O, hj⟩ := h
 rw [J.find (J.ogen O (by omega)) hp]
 exact ⟨J.fnd, J.st, J.tn⟩
theorem JV.ok (h : JV f a b s p t G m) : f.Ok := by
 obtain ⟨sec, oth, g, hp, hg, J, O, hj⟩ := h
 exact J.ok
theorem JC.ok (h : JC f a b s t G) : f.Ok := (h.jv s).ok
theorem JC.find (h : JC f a b s t G) (hG : G + 1 < 4294967296) : (findF f a b).found = true ∧ (findF f a b).s = s ∧ (findF f a b).torn ≤ t := (h.jv s).find hG
theorem JV.done (h : JV f a b p p t G m) (hG : G + 1 < 4294967296) (hr : rightS p = true) : nextF f a b p = ⟨fo0, true, 0⟩ := by
 have hf := h.find hG
 exact nextF_2 rfl hf.1 hr hf.2.1
/-- One operation on the way. -/
theorem JV.go (h : JV f a b s p t G m) (hG : G + 1 < 4294967296) (hpl : p.length = 9) (hr : rightS p = true) (hsp : s ≠ p) (hw : ∀ i, f.wear.getD i 0 < f.limit) :
   (nextF f a b p).e = 0 ∧ (nextF f a b p).done = false ∧ checkE f (nextF f a b p).x = 0 ∧ ((nextF f a b p).x.sec = a ∨ (nextF f a b p).x.sec = b) ∧ ((nextF f a b p).x.kind = 1 → 3 ≤ m) ∧ 1 ≤ m ∧
   ∀ mk : Nat → UInt8, (JV (cutR f (nextF f a b p).x mk) a b s p (t + 1) G 3 ∨ JC (cutR f (nextF f a b p).x mk) a b p t (G + 1)) ∧
     ((∀ i, mk i = 255) → JV (cutR f (nextF f a b p).x mk) a b s p t G (m - 1) ∨ JC (cutR f (nextF f a b p).x mk) a b p t (G + 1)) := by
 obtain ⟨sec, oth, g, hp, hg, J, O, hj⟩ := h
 have hF := J.find (J.ogen O (by omega)) hp
 have hk := scJ_keep f sec oth g
 have hle := scJ_free f sec oth g
 have hpr : (oth = a ∧ sec = b ∨ oth = b ∧ sec = a) := by rcases hp with ⟨x, y⟩ | ⟨x, y⟩; exact .inr ⟨y, x⟩; exact .inl ⟨y, x⟩
 have hjm : jmu f sec oth g s p = if (scJ f sec oth g).free < plcs f then 1 else if readyB (secR f oth) (contF f.size ((g : Int) + 1) (slotF p)) = true then 1 else 1 + tMu f oth (contF f.size 0 (slotF p)) := if_neg hsp
 have hsl := slotF_len hr
 have hz := J.sz
 have hs1 : sec = a ∨ sec = b := by rcases hp with ⟨x, _⟩ | ⟨x, _⟩; exact .inl x; exact .inr x
 have hs2 : oth = a ∨ oth = b := by rcases hp with ⟨_, x⟩ | ⟨_, x⟩; exact .inr x; exact .inl x
 by_cases hfr : (scJ f sec oth g).free < plcs f
 · rw [if_pos hfr] at hjm
   have O' : O1 f oth g := by
     rcases O with O | O
     · exact O
     · have := O.1; omega
   have hx := nextF_3 (f := f) (a := a) (b := b) (s := p) hF.symm J.fnd hr (by rw [J.st]; exact hsp) hfr
   rw [hk.1] at hx
   have hn : nextF f a b p = ⟨⟨2, sec, 8 + 30 * ((scJ f sec oth g).free : Int), slotF p⟩, false, 0⟩ := by
     rw [hx]
     unfold progF
     rw [if_neg (by rw [J.sd]; exact Bool.false_ne_true)]
   have A := fun mk => case_a (mk := mk) J hpl hr rfl hfr
   rw [hn]
   refine ⟨rfl, rfl, (A (fun _ => 0)).1, hs1, fun h => absurd (show (2 : Int) = 1 from h) (by decide), by omega, fun mk => ?_⟩
   obtain ⟨_, h1, h2⟩ := A mk
   dsimp only
   rcases h1 with ⟨u, hu, hb, hnw⟩ | hb
   · refine ⟨.inl ⟨sec, oth, g, hp, hg, hb.mono (by omega), .inl ?_, jmu_le _ _ _ _ _ _⟩, fun hw => absurd hw hnw⟩
     unfold O1
     rw [h2]
     exact O'
   · have hc : JC (cutR f ⟨2, sec, 8 + 30 * ((scJ f sec oth g).free : Int), slotF p⟩ mk) a b p t (G + 1) := by
       refine ⟨sec, oth, g, hp, by omega, hb, ?_⟩
       unfold O1
       rw [h2]
       exact O'
     exact ⟨.inr hc, fun _ => .inr hc⟩
 · rw [if_neg hfr] at hjm
   have hfe : (scJ f sec oth g).free = plcs f := by omega
   cases hrd : readyB (secR f oth) (contF f.size ((g : Int) + 1) (slotF p)) with
   | true =>
     rw [if_pos hrd] at hjm
     have hx := nextF_4 (f := f) (a := a) (b := b) (s := p) hF.symm J.fnd hr (by rw [J.st]; exact hsp) hfr (by rw [hk.2.1, hk.2.2]; exact hrd)
     rw [hk.2.1, hk.2.2, cont_take, show ((g : Int) + 1) = ((g + 1 : Nat) : Int) by push_cast; rfl, headG_head (by omega)] at hx
     have hn : nextF f a b p = ⟨⟨2, oth, 0, headG (g + 1)⟩, false, 0⟩ := by
       rw [hx]
       unfold progF
       rw [if_neg (by rw [J.od]; exact Bool.false_ne_true)]
     unfold readyB at hrd
     rw [Bool.and_eq_true, cont_take, cont_drop, show ((g : Int) + 1) = ((g + 1 : Nat) : Int) by push_cast; rfl, headG_head (by omega)] at hrd
     have B := fun mk => case_b (mk := mk) J (by omega) hpl hr rfl hfe hrd.2 (eq_of_beq hrd.1)
     rw [hn]
     refine ⟨rfl, rfl, (B (fun _ => 0)).1, hs2, fun h => absurd (show (2 : Int) = 1 from h) (by decide), by omega, fun mk => ?_⟩
     dsimp only
     rcases (B mk).2 with ⟨h1, h2, hnw⟩ | ⟨h1, h2⟩
     · exact ⟨.inl ⟨sec, oth, g, hp, hg, h1.mono (by omega), .inr h2, jmu_le _ _ _ _ _ _⟩, fun hw => absurd hw hnw⟩
     · have hc : JC (cutR f ⟨2, oth, 0, headG (g + 1)⟩ mk) a b p t (G + 1) := ⟨oth, sec, g + 1, hpr, by omega, h1, h2⟩
       exact ⟨.inr hc, fun _ => .inr hc⟩
   | false =>
     rw [if_neg (by rw [hrd]; exact Bool.false_ne_true)] at hjm
     have O' : O1 f oth g := by
       rcases O with O | ⟨_, h1, _, h2⟩
       · exact O
       · exfalso
         unfold readyB at hrd
         rw [cont_take, cont_drop, show ((g : Int) + 1) = ((g + 1 : Nat) : Int) by push_cast; rfl, headG_head (by omega), h1, h2, beq_self_eq_true] at hrd
         cases hrd
     have hx := nextF_5 (f := f) (a := a) (b := b) (s := p) hF.symm J.fnd hr (by rw [J.st]; exact hsp) hfr (by rw [hk.2.1, hk.2.2]; exact hrd)
     rw [hk.2.1] at hx
     have hwl : (contF f.size 0 (slotF p)).length = f.size := contF_len (by omega)
     have hne : secR f oth ≠ contF f.size 0 (slotF p) := by
       intro e
       unfold readyB at hrd
       rw [e, cont_take, cont_drop, cont_drop, beq_self_eq_true, show ((g : Int) + 1) = ((g + 1 : Nat) : Int) by push_cast; rfl, headG_head (by omega)] at hrd
       rw [show aboveTo (contF f.size 0 (slotF p)) (headG (g + 1)) 8 = true from aboveTo_of fun i hi => by
         rw [← getD_take hi, cont_take, show headB 0 = List.replicate 8 255 from rfl, getD_rep _ _ _ _ hi]
         exact ones_and _] at hrd
       cases hrd
     have Cc := fun mk => case_c (mk := mk) J O' hr rfl (hw oth.toNat)
     have hn : nextF f a b p = ⟨towX f oth (contF f.size 0 (slotF p)), false, 0⟩ := by
       rw [hx]
       exact tow_is J.tr hwl hne (Cc (fun _ => 0)).1
     have htm : tMu f oth (contF f.size 0 (slotF p)) = if towB (secR f oth) (contF f.size 0 (slotF p)) f.size = true then 1 else 2 := if_neg hne
     rw [hn]
     refine ⟨rfl, rfl, (Cc (fun _ => 0)).1, by rw [towN_sec]; exact hs2, fun h => ?_, by omega, fun mk => ?_⟩
     · cases hb : towB (secR f oth) (contF f.size 0 (slotF p)) f.size with
       | true => rw [show (towX f oth (contF f.size 0 (slotF p))) = ⟨2, oth, 0, contF f.size 0 (slotF p)⟩ from towX_1 hb] at h; cases h
       | false => rw [hb] at htm; rw [if_neg Bool.false_ne_true] at htm; omega
     · obtain ⟨hE, h1, h2, h3⟩ := Cc mk
       dsimp only
       refine ⟨.inl ⟨sec, oth, g, hp, hg, h1.mono (by omega), .inl h2, jmu_le _ _ _ _ _ _⟩, fun hmk => .inl ⟨sec, oth, g, hp, hg, h1, .inl h2, ?_⟩⟩
       have K := cutR_kept J.ok hE mk
       have hpc : plcs (cutR f (towX f oth (contF f.size 0 (slotF p))) mk) = plcs f := by unfold plcs; rw [K.s]
       have hlt : tMu (cutR f (towX f oth (contF f.size 0 (slotF p))) mk) oth (contF f.size 0 (slotF p)) < tMu f oth (contF f.size 0 (slotF p)) := by
         have := tow_less (f := f) J.tr hwl (by rw [tow_is J.tr hwl hne hE]; exact fun h => by rcases h with h | h; cases h; exact h rfl)
         rw [tow_is J.tr hwl hne hE] at this
         rwa [cutR_congr (mk' := fun _ => 255) (fun i _ => hmk i)]
       have : jmu (cutR f (towX f oth (contF f.size 0 (slotF p))) mk) sec oth g s p ≤ 1 + tMu (cutR f (towX f oth (contF f.size 0 (slotF p))) mk) oth (contF f.size 0 (slotF p)) ∧ (tMu (cutR f (towX f oth (contF f.size 0 (slotF p))) mk) oth (contF f.size 0 (slotF p)) = 0 → jmu (cutR f (towX f oth (contF f.size 0 (slotF p))) mk) sec oth g s p ≤ 1) := by
         unfold jmu
         rw [if_neg hsp, h3, hpc, if_neg hfr, K.s]
         split
         · exact ⟨by omega, fun _ => Nat.le_refl _⟩
         · exact ⟨Nat.le_refl _, fun h => by rw [h]; exact Nat.le_refl _⟩
       omega

/-! ### Several operations -/
theorem wear_cut {f : Fl} {x : Fo} {W : Int} (ok : f.Ok) (hE : checkE f x = 0) (mk : Nat → UInt8) (h : ∀ i, f.wear.getD i 0 ≤ W) : ∀ i, (cutR f x mk).wear.getD i 0 ≤ W + 1 := by
 intro i
 have C := Chg.cut ok hE mk
 have := h i
 by_cases e : i = x.sec.toNat
 · subst e
   have := C.ws.2
   split at this <;> omega
 · rw [C.wo i e]
   omega
theorem stepN_done {ts : List (List UInt8)} (h : JC f a b p t G) (hG : G + 1 < 4294967296) (hr : rightS p = true) (k i : Nat) : stepN a b p ts k i f = f := by
 refine stepN_end (.inr (.inl ?_))
 rw [(h.jv p).done hG hr]
theorem stepN_fin {ts : List (List UInt8)} (hG : G + 2 < 4294967296) (hpl : p.length = 9) (hr : rightS p = true) : ∀ (k i : Nat) (f : Fl) (t m : Nat) (W : Int), JV f a b s p t G m → s ≠ p → m ≤ 3 → (if i < 4 then 7 - i else m) ≤ k → (∀ i, f.wear.getD i 0 ≤ W) →
   W + ((if i < 4 then 7 - i else m : Nat) : Int) ≤ f.limit →
   (∃ u, JC (stepN a b p ts k i f) a b p u (G + 1)) ∧ (∀ j, (stepN a b p ts k i f).wear.getD j 0 ≤ W + ((if i < 4 then 7 - i else m : Nat) : Int)) ∧ (stepN a b p ts k i f).limit = f.limit ∧ (stepN a b p ts k i f).size = f.size ∧ (stepN a b p ts k i f).data.length = f.data.length ∧ (stepN a b p ts k i f).dead = f.dead
 | 0, i, f, t, m, W, h, hsp, hm, hk, hW, hL => by
   have h1 : 1 ≤ m := by
     obtain ⟨sec, oth, g, hp, hg, J, O, hj⟩ := h
     have : 1 ≤ jmu f sec oth g s p := by
       unfold jmu
       rw [if_neg hsp]
       split
       · exact Nat.le_refl _
       · split
         · exact Nat.le_refl _
         · omega
     omega
   split at hk <;> omega
 | k + 1, i, f, t, m, W, h, hsp, hm, hk, hW, hL => by
   have hB1 : 1 ≤ m := by
     obtain ⟨sec, oth, g, hp, hg, J, O, hj⟩ := h
     have : 1 ≤ jmu f sec oth g s p := by
       unfold jmu
       rw [if_neg hsp]
       split
       · exact Nat.le_refl _
       · split
         · exact Nat.le_refl _
         · omega
     omega
   have hB : 1 ≤ (if i < 4 then 7 - i else m) := by split <;> omega
   obtain ⟨h1, h2, h3, h4, h5, h6, h7⟩ := h.go (by omega) hpl hr hsp (fun j => by have := hW j; omega)
   rw [stepN_go (by rw [h1, h2, h3]; exact fun h => by rcases h with h | h | h; exact h rfl; cases h; exact h rfl)]
   have K := cutR_kept h.ok h3 (mkS ts i)
   have hW2 := wear_cut h.ok h3 (mkS ts i) hW
   have fin : JC (cutR f (nextF f a b p).x (mkS ts i)) a b p t (G + 1) → (∃ u, JC (stepN a b p ts k (i + 1) (cutR f (nextF f a b p).x (mkS ts i))) a b p u (G + 1)) ∧ (∀ j, (stepN a b p ts k (i + 1) (cutR f (nextF f a b p).x (mkS ts i))).wear.getD j 0 ≤ W + ((if i < 4 then 7 - i else m : Nat) : Int)) ∧ (stepN a b p ts k (i + 1) (cutR f (nextF f a b p).x (mkS ts i))).limit = f.limit ∧ (stepN a b p ts k (i + 1) (cutR f (nextF f a b p).x (mkS ts i))).size = f.size ∧ (stepN a b p ts k (i + 1) (cutR f (nextF f a b p).x (mkS ts i))).data.length = f.data.length ∧ (stepN a b p ts k (i + 1) (cutR f (nextF f a b p).x (mkS ts i))).dead = f.dead := fun hc => by
     rw [stepN_done hc (by omega) hr]
     exact ⟨⟨t, hc⟩, fun j => by have := hW2 j; omega, K.l, K.s, K.n, K.d⟩
   by_cases hi : i < 4
   · rw [if_pos hi] at hk hL fin ⊢
     rcases (h7 (mkS ts i)).1 with hv | hc
     · have hx : (if i + 1 < 4 then 7 - (i + 1) else 3) = 7 - i - 1 := by split <;> omega
       obtain ⟨q1, q2, q3, q4, q5, q6⟩ := stepN_fin (ts := ts) hG hpl hr k (i + 1) _ (t + 1) 3 (W + 1) hv hsp (Nat.le_refl _) (by omega) hW2 (by rw [K.l, hx]; omega)
       rw [hx] at q2
       exact ⟨q1, fun j => by have := q2 j; omega, q3.trans K.l, q4.trans K.s, q5.trans K.n, q6.trans K.d⟩
     · exact fin hc
   · rw [if_neg hi] at hk hL fin ⊢
     rcases (h7 (mkS ts i)).2 (fun j => by rw [mkS_no (fun h => hi h.2)]) with hv | hc
     · have hx : (if i + 1 < 4 then 7 - (i + 1) else m - 1) = m - 1 := if_neg (by omega)
       obtain ⟨q1, q2, q3, q4, q5, q6⟩ := stepN_fin (ts := ts) hG hpl hr k (i + 1) _ t (m - 1) (W + 1) hv hsp (by omega) (by omega) hW2 (by rw [K.l, hx]; omega)
       rw [hx] at q2
       exact ⟨q1, fun j => by have := q2 j; omega, q3.trans K.l, q4.trans K.s, q5.trans K.n, q6.trans K.d⟩
     · exact fin hc
/-- A flash at rest. -/
structure JR (f0 f : Fl) (a b : Int) (s : List Int) (t G : Nat) (W : Int) : Prop where
 c : JC f a b s t G
 w : ∀ i, f.wear.getD i 0 ≤ W
 l : f.limit = f0.limit
 s : f.size = f0.size
 n : f.data.length = f0.data.length
 d : f.dead = f0.dead
theorem JR.step {f0 : Fl} {ts : List (List UInt8)} {W : Int} (h : JR f0 f a b s t G W) (hG : G + 2 < 4294967296) (hpl : p.length = 9) (hr : rightS p = true) (hL : W + 7 ≤ f0.limit) : ∃ u, JR f0 (stepF f a b p ts) a b p u (G + 1) (W + 7) := by
 by_cases hsp : s = p
 · subst hsp
   refine ⟨t, ?_⟩
   unfold stepF
   rw [stepN_done h.c (by omega) hr]
   exact ⟨h.c.mono (Nat.le_refl _) (by omega), fun i => by have := h.w i; omega, h.l, h.s, h.n, h.d⟩
 · obtain ⟨⟨u, h1⟩, h2, h3, h4, h5, h6⟩ := stepN_fin (ts := ts) hG hpl hr 10 0 f t 3 W (h.c.jv p) hsp (Nat.le_refl _) (by decide) h.w (by rw [h.l]; exact hL)
   exact ⟨u, h1, h2, h3.trans h.l, h4.trans h.s, h5.trans h.n, h6.trans h.d⟩
end
end Go.Sl
end
/-
  The journal as plain data: on the way from one state to the next one, as the laws walk it.
-/
section
namespace Go.Sl

/-- On the way from the state s to p: at most m whole operations are left, at most t places are torn. -/
structure Wy (f0 f : Fl) (a b : Int) (s p : List Int) (t G m : Nat) (W : Int) : Prop where
 c : (s ≠ p ∧ JV f a b s p t G m) ∨ JC f a b p t (G + 1)
 w : ∀ i, f.wear.getD i 0 ≤ W
 l : f.limit = f0.limit
 s : f.size = f0.size
 n : f.data.length = f0.data.length
 d : f.dead = f0.dead
section
variable {f0 f : Fl} {a b : Int} {s p : List Int} {t G m : Nat} {W : Int}
theorem JR.mono {V : Int} (h : JR f0 f a b s t G W) (hW : W ≤ V) : JR f0 f a b s t G V := ⟨h.c, fun i => by have := h.w i; omega, h.l, h.s, h.n, h.d⟩
theorem Wy.mono {t' n : Nat} {V : Int} (h : Wy f0 f a b s p t G m W) (ht : t ≤ t') (hm : m ≤ n) (hW : W ≤ V) : Wy f0 f a b s p t' G n V := by
 refine ⟨?_, fun i => by have := h.w i; omega, h.l, h.s, h.n, h.d⟩
 rcases h.c with ⟨h1, h2⟩ | h2
 · exact .inl ⟨h1, h2.mono ht (Nat.le_refl _) hm⟩
 · exact .inr (h2.mono ht (Nat.le_refl _))
theorem Wy.ok (h : Wy f0 f a b s p t G m W) : f.Ok := by
 rcases h.c with ⟨_, h⟩ | h
 · exact h.ok
 · exact h.ok
theorem Wy.find (h : Wy f0 f a b s p t G m W) (hG : G + 2 < 4294967296) : (findF f a b).found = true ∧ ((findF f a b).s = s ∨ (findF f a b).s = p) ∧ (findF f a b).torn ≤ t := by
 rcases h.c with ⟨_, h⟩ | h
 · have := h.find (by omega)
   exact ⟨this.1, .inl this.2.1, this.2.2⟩
 · have := h.find (by omega)
   exact ⟨this.1, .inr this.2.1, this.2.2⟩
theorem Wy.done (h : Wy f0 f a b s p t G m W) (hG : G + 2 < 4294967296) (hpl : p.length = 9) (hr : rightS p = true) (hW : W < f0.limit) (hd : (nextF f a b p).done = true) : JR f0 f a b p t (G + 1) W := by
 refine ⟨?_, h.w, h.l, h.s, h.n, h.d⟩
 rcases h.c with ⟨hsp, h1⟩ | h1
 · rw [(h1.go (by omega) hpl hr hsp (fun i => by have := h.w i; rw [h.l]; omega)).2.1] at hd
   cases hd
 · exact h1
theorem Wy.e (h : Wy f0 f a b s p t G m W) (hG : G + 2 < 4294967296) (hpl : p.length = 9) (hr : rightS p = true) (hW : W < f0.limit) : (nextF f a b p).e = 0 := by
 rcases h.c with ⟨hsp, h1⟩ | h1
 · exact (h1.go (by omega) hpl hr hsp (fun i => by have := h.w i; rw [h.l]; omega)).1
 · rw [(h1.jv p).done (by omega) hr]
theorem Wy.go (h : Wy f0 f a b s p t G m W) (hG : G + 2 < 4294967296) (hpl : p.length = 9) (hr : rightS p = true) (hW : W < f0.limit) (hd : (nextF f a b p).done = false) :
   checkE f (nextF f a b p).x = 0 ∧ ((nextF f a b p).x.sec = a ∨ (nextF f a b p).x.sec = b) ∧ ((nextF f a b p).x.kind = 1 → 3 ≤ m) ∧ 1 ≤ m ∧
   ∀ mk : Nat → UInt8, Wy f0 (cutR f (nextF f a b p).x mk) a b s p (t + 1) G 3 (W + 1) ∧ ((∀ i, mk i = 255) → Wy f0 (cutR f (nextF f a b p).x mk) a b s p t G (m - 1) (W + 1)) := by
 rcases h.c with ⟨hsp, h1⟩ | h1
 · obtain ⟨_, _, h3, h4, h5, h6, h7⟩ := h1.go (by omega) hpl hr hsp (fun i => by have := h.w i; rw [h.l]; omega)
   refine ⟨h3, h4, h5, h6, fun mk => ?_⟩
   have K := cutR_kept h.ok h3 mk
   have hW2 := wear_cut h.ok h3 mk h.w
   obtain ⟨q1, q2⟩ := h7 mk
   refine ⟨⟨?_, hW2, K.l.trans h.l, K.s.trans h.s, K.n.trans h.n, K.d.trans h.d⟩, fun hm => ⟨?_, hW2, K.l.trans h.l, K.s.trans h.s, K.n.trans h.n, K.d.trans h.d⟩⟩
   · rcases q1 with q | q
     · exact .inl ⟨hsp, q⟩
     · exact .inr (q.mono (by omega) (Nat.le_refl _))
   · rcases q2 hm with q | q
     · exact .inl ⟨hsp, q⟩
     · exact .inr q
 · rw [(h1.jv p).done (by omega) hr] at hd
   cases hd
theorem Wy.same (h : Wy f0 f a b s p t G m W) (hG : G + 2 < 4294967296) (hpl : p.length = 9) (hr : rightS p = true) (hW : W < f0.limit) (hd : (nextF f a b p).done = false) (mk : Nat → UInt8) {i : Nat} (h1 : i ≠ a.toNat) (h2 : i ≠ b.toNat) :
   (cutR f (nextF f a b p).x mk).data.getD i [] = f.data.getD i [] ∧ (cutR f (nextF f a b p).x mk).wear.getD i 0 = f.wear.getD i 0 := by
 obtain ⟨g1, g2, _⟩ := h.go hG hpl hr hW hd
 have C := Chg.cut h.ok g1 mk
 have hi : i ≠ (nextF f a b p).x.sec.toNat := by rcases g2 with e | e <;> rw [e] <;> assumption
 exact ⟨C.oth i hi, C.wo i hi⟩
end
end Go.Sl
end
