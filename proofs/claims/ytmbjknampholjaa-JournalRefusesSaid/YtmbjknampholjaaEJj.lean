/-
  The journal as plain data: each operation on the way to a state keeps what holds, interrupted or not.
-/
import Derived.Test.YtmbjknampholjaaESlL
namespace Go.Sl

section
variable {f : Fl} {sec oth : Int} {g t : Nat} {s p : List Int} {mk : Nat → UInt8}
/-- What a place holds that was programmed. -/
theorem slot_in {f' : Fl} {x : Fo} {k : Nat} (hE : checkE f x = 0) (hk : x.kind = 2) (ha : x.at_ = 8 + 30 * (k : Int)) (hd : x.data.length = 30) (hl : (secR f x.sec).length = f.size) (hp : k < plcs f) (hf : f' = cutR f x mk) :
   (∀ i, i < plcs f → i ≠ k → slotAt (secR f' x.sec) i = slotAt (secR f x.sec) i) ∧ (secR f' x.sec).take 8 = (secR f x.sec).take 8 ∧
   (blankB (slotAt (secR f x.sec) k) = true → ∀ j, j < 30 → (slotAt (secR f' x.sec) k).getD j 0 = mixB 255 (x.data.getD j 0) (mk (8 + 30 * k + j))) := by
 have hn : x.kind ≠ 1 := by omega
 have hr : secR f' x.sec = rowF f x mk := by rw [hf]; exact sec_row hE
 have hl' : (secR f' x.sec).length = f.size := by rw [hr, rowF_len]
 have hkl := (slotAt_len hl hp).2
 refine ⟨fun i hi hne => ?_, ?_, fun hb j hj => ?_⟩
 · have h1 := slotAt_len hl hi
   have h2 := slotAt_len (f := f) hl' hi
   refine ext_getD (d := 0) (by rw [h1.1, h2.1]) fun j hj => ?_
   rw [h2.1] at hj
   unfold slotAt
   rw [getD_take hj, getD_take hj, getD_drop, getD_drop, hr, row_out (by omega) hn]
   rw [ha, hd]
   omega
 · refine ext_getD (d := 0) (by rw [List.length_take, List.length_take, hl, hl']) fun j hj => ?_
   rw [List.length_take] at hj
   rw [getD_take (by omega), getD_take (by omega), hr, row_out (by omega) hn]
   rw [ha, hd]
   omega
 · have h1 := slotAt_len hl hp
   have ho : (secR f x.sec).getD (8 + 30 * k + j) 0 = 255 := by
     have := blank_get hb (i := j) (by rw [h1.1]; exact hj)
     unfold slotAt at this
     rwa [getD_take hj, getD_drop] at this
   have : (slotAt (secR f' x.sec) k).getD j 0 = (rowF f x mk).getD (8 + 30 * k + j) 0 := by
     unfold slotAt
     rw [getD_take hj, getD_drop, hr]
   rw [this, row_in (j := j) (by omega) hn (by rw [ha]; push_cast; omega) (by omega), ho, ones_and]

/-- A slot is programmed: the old state or the new one is there. -/
theorem case_a {x : Fo} (J : Jb f sec oth g s t) (hpl : p.length = 9) (hp : rightS p = true) (hx : x = ⟨2, sec, 8 + 30 * ((scJ f sec oth g).free : Int), slotF p⟩) (hfr : (scJ f sec oth g).free < plcs f) :
   checkE f x = 0 ∧ ((∃ u, (u = t ∨ u = t + 1 ∧ ¬ ∀ i, mk i = 255) ∧ Jb (cutR f x mk) sec oth g s u ∧ ¬ ∀ i, mk i = 255) ∨ Jb (cutR f x mk) sec oth g p t) ∧ secR (cutR f x mk) oth = secR f oth := by
 have hsl := slotF_len hp
 have hkl := (slotAt_len J.sl hfr).2
 have hE : checkE f x = 0 := by
   rw [hx]
   exact chk_prog J.sr J.sd ⟨by omega, by omega⟩
 have hxs : x.sec = sec := by rw [hx]
 have hot : secR (cutR f x mk) oth = secR f oth := sec_other hE (by rw [hxs]; exact J.ne)
 refine ⟨hE, ?_, hot⟩
 obtain ⟨h1, h2, h3⟩ := slot_in (f' := cutR f x mk) (mk := mk) (k := (scJ f sec oth g).free) hE (by rw [hx]) (by rw [hx]) (by rw [hx]; exact hsl) (by rw [hxs]; exact J.sl) hfr rfl
 rw [hxs] at h1 h2 h3
 have K := cutR_kept J.ok hE mk
 have hpc : plcs (cutR f x mk) = plcs f := by unfold plcs; rw [K.s]
 generalize hf' : cutR f x mk = f' at *
 have hb0 : ∀ i, (scJ f sec oth g).free ≤ i → i < plcs f → blankB (slotAt (secR f sec) i) = true := fun i hi hi2 => free_blank hi hi2
 generalize hk : (scJ f sec oth g).free = k at *
 have hbk := hb0 k (Nat.le_refl _) hfr
 replace h3 := h3 hbk
 rw [show x.data = slotF p by rw [hx]] at h3
 have hl' : (secR f' sec).length = f.size := by rw [← K.s]; exact K.ok.rows _ (by rw [K.n]; have := J.sr; omega)
 have hs30 := slotAt_len (f := f) hl' hfr
 -- the scan of the new row
 have hold : scJ f sec oth g = scanL (secR f sec) (lgx sec oth g) k := scan_blank (Nat.le_of_lt hfr) hb0
 have hnew : scJ f' sec oth g = stepL (secR f' sec) (scJ f sec oth g) k := by
   have e1 : scJ f' sec oth g = scanL (secR f' sec) (lgx sec oth g) (k + 1) := by
     unfold scJ
     rw [hpc]
     refine scan_blank hfr fun i hi hi2 => ?_
     rw [h1 i hi2 (by omega)]
     exact hb0 i (by omega) hi2
   rw [e1, scanL_succ, hold]
   congr 1
   exact scan_congr fun i hi => h1 i (by omega) (by omega)
 have base : ∀ (s' : List Int) (u : Nat), (scJ f' sec oth g).found = true → (scJ f' sec oth g).s = s' → (scJ f' sec oth g).torn ≤ u → Jb f' sec oth g s' u := fun s' u q1 q2 q3 =>
   ⟨K.ok, J.ne, by rw [K.n]; exact J.sr, by rw [K.n]; exact J.tr, by rw [K.s]; exact J.sz, by rw [K.d]; exact J.sd, by rw [K.d]; exact J.od, J.g0, J.g1, by rw [h2]; exact J.head, q1, q2, q3⟩
 have habove : aboveTo (slotAt (secR f' sec) k) (slotF p) 30 = true := aboveTo_of fun j hj => by
   rw [h3 j hj]
   exact mix_above _ (ones_and _) (and_self8 _)
 have hwhole : (∀ i, mk i = 255) → slotAt (secR f' sec) k = slotF p := fun hw => by
   refine ext_getD (d := 0) (by rw [hs30.1, hsl]) fun j hj => ?_
   rw [hs30.1] at hj
   rw [h3 j hj, hw, mixB_ones]
 have hsnb : blankB (slotF p) = false := by
   cases hb : blankB (slotF p) with
   | false => rfl
   | true =>
     have := blank_none (by rw [hsl]; decide) hb
     rw [stateF_slot hpl hp] at this
     cases this
 cases hb : blankB (slotAt (secR f' sec) k) with
 | true =>
   refine .inl ⟨t, .inl rfl, ?_, fun hw => by rw [hwhole hw, hsnb] at hb; cases hb⟩
   rw [stepL_b hb] at hnew
   exact base s t (by rw [hnew]; exact J.fnd) (by rw [hnew]; exact J.st) (by rw [hnew]; exact J.tn)
 | false =>
   cases hst : stateF (slotAt (secR f' sec) k) with
   | none =>
     have hnw : ¬ ∀ i, mk i = 255 := fun hw => by rw [hwhole hw, stateF_slot hpl hp] at hst; cases hst
     refine .inl ⟨t + 1, .inr ⟨rfl, hnw⟩, ?_, hnw⟩
     rw [stepL_t hb hst] at hnew
     exact base s (t + 1) (by rw [hnew]; exact J.fnd) (by rw [hnew]; exact J.st) (by rw [hnew]; have := J.tn; dsimp only; omega)
   | some q =>
     have hco : codeTo (slotAt (secR f' sec) k) 15 = true := by
       unfold stateF at hst
       split at hst
       · assumption
       · cases hst
     have he := above_code (n := 15) hs30.1 hsl habove (slot_code hp) hco
     have hq : q = p := by
       rw [he, stateF_slot hpl hp] at hst
       injection hst with hst
       exact hst.symm
     rw [hq] at hst
     rw [stepL_s hb hst] at hnew
     exact .inr (base p t (by rw [hnew]) (by rw [hnew]) (by rw [hnew]; exact J.tn))

/-- The generation is programmed. -/
theorem case_b {x : Fo} (J : Jb f sec oth g s t) (hg : g + 1 < 4294967296) (hpl : p.length = 9) (hp : rightS p = true) (hx : x = ⟨2, oth, 0, headG (g + 1)⟩) (hfr : (scJ f sec oth g).free = plcs f)
   (ha : aboveTo (secR f oth) (headG (g + 1)) 8 = true) (hdr : (secR f oth).drop 8 = slotF p ++ List.replicate (f.size - 8 - (slotF p).length) 255) :
   checkE f x = 0 ∧ ((Jb (cutR f x mk) sec oth g s t ∧ O2 (cutR f x mk) sec oth g p ∧ ¬ ∀ i, mk i = 255) ∨ (Jb (cutR f x mk) oth sec (g + 1) p t ∧ O1 (cutR f x mk) sec (g + 1))) := by
 have hz := J.sz
 have hE : checkE f x = 0 := by
   rw [hx]
   exact chk_prog J.tr J.od ⟨Int.le_refl _, by rw [headG_len]; omega⟩
 refine ⟨hE, ?_⟩
 have hxs : x.sec = oth := by rw [hx]
 have hn : x.kind ≠ 1 := by rw [hx]; show ¬(2 : Int) = 1; decide
 have hxd : x.data = headG (g + 1) := by rw [hx]
 have hse : secR (cutR f x mk) sec = secR f sec := sec_other hE (by rw [hxs]; exact fun e => J.ne e.symm)
 have hr : secR (cutR f x mk) oth = rowF f x mk := by rw [← hxs]; exact sec_row hE
 have K := cutR_kept J.ok hE mk
 have hol := J.ol
 have hin : ∀ i, i < 8 → (secR (cutR f x mk) oth).getD i 0 = mixB ((secR f oth).getD i 0) ((headG (g + 1)).getD i 0) (mk i) := fun i hi => by
   rw [hr, row_in (j := i) (by omega) hn (by rw [hx]; show (i : Int) = 0 + i; omega) (by rw [hxd, headG_len]; exact hi), hxs, hxd, aboveTo_get hi ha]
 have hout : (secR (cutR f x mk) oth).drop 8 = (secR f oth).drop 8 := by
   refine ext_getD (d := 0) (by rw [List.length_drop, List.length_drop, hr, rowF_len, hol]) fun i hi => ?_
   rw [List.length_drop, hr, rowF_len] at hi
   rw [getD_drop, getD_drop, hr, row_out (by omega) hn, hxs]
   rw [hxd, headG_len, show x.at_ = 0 by rw [hx]]
   omega
 have hpc : plcs (cutR f x mk) = plcs f := by unfold plcs; rw [K.s]
 have hsc : scJ (cutR f x mk) sec oth g = scJ f sec oth g := by unfold scJ; rw [hse, hpc]
 by_cases he : (secR (cutR f x mk) oth).take 8 = headG (g + 1)
 · refine .inr ⟨?_, g, Nat.lt_succ_self g, ?_⟩
   · have hrow : secR (cutR f x mk) oth = contF f.size ((g + 1 : Nat) : Int) (slotF p) := by
       rw [contF_head, headG_head (by omega), ← List.take_append_drop 8 (secR (cutR f x mk) oth), he, hout, hdr]
     have hgo : scJ (cutR f x mk) oth sec (g + 1) = { lgx oth sec (g + 1) with free := 1, s := p, found := true } := by
       unfold scJ
       rw [hpc, hrow]
       have h1 : 0 < plcs f := plcs_pos hz
       obtain ⟨k, hk⟩ : ∃ k, plcs f = k + 1 := ⟨plcs f - 1, by omega⟩
       rw [hk, scan_one (f := f) rfl hz hpl hp k (by omega)]
     exact ⟨K.ok, fun e => J.ne e.symm, by rw [K.n]; exact J.tr, by rw [K.n]; exact J.sr, by rw [K.s]; exact hz, by rw [K.d]; exact J.od, by rw [K.d]; exact J.sd, by omega, hg, he, by rw [hgo], by rw [hgo], by rw [hgo]; exact Nat.zero_le _⟩
   · rw [hse, ← aboveTo_takeL (Nat.le_refl 8), J.head]
     exact aboveTo_of fun i _ => and_self8 _
 · refine .inl ⟨⟨K.ok, J.ne, by rw [K.n]; exact J.sr, by rw [K.n]; exact J.tr, by rw [K.s]; exact hz, by rw [K.d]; exact J.sd, by rw [K.d]; exact J.od, J.g0, J.g1, by rw [hse]; exact J.head, by rw [hsc]; exact J.fnd, by rw [hsc]; exact J.st, by rw [hsc]; exact J.tn⟩, ⟨by rw [hsc, hpc]; exact hfr, ?_, he, by rw [hout, hdr, K.s]⟩, fun hw => he ?_⟩
   · exact aboveTo_of fun i hi => by
       rw [hin i hi]
       exact mix_above _ (aboveTo_get hi ha) (and_self8 _)
   · refine ext_getD (d := 0) (by rw [List.length_take, hr, rowF_len, headG_len]; omega) fun i hi => ?_
     rw [List.length_take] at hi
     rw [getD_take (by omega), hin i (by omega), hw, mixB_ones]

/-- The other sector is made ready. -/
theorem case_c {x : Fo} (J : Jb f sec oth g s t) (O : O1 f oth g) (hp : rightS p = true) (hx : x = towX f oth (contF f.size 0 (slotF p))) (hwr : f.wear.getD oth.toNat 0 < f.limit) :
   checkE f x = 0 ∧ Jb (cutR f x mk) sec oth g s t ∧ O1 (cutR f x mk) oth g ∧ (scJ (cutR f x mk) sec oth g) = scJ f sec oth g := by
 have hz := J.sz
 have hsl := slotF_len hp
 have hxs : x.sec = oth := by rw [hx]; exact towN_sec f oth _
 have hol := J.ol
 have hwl : (contF f.size 0 (slotF p)).length = f.size := contF_len (by omega)
 have hE : checkE f x = 0 := by
   rw [hx]
   cases hb : towB (f.data.getD oth.toNat []) (contF f.size 0 (slotF p)) f.size with
   | true => rw [towX_1 hb]; exact chk_prog J.tr J.od ⟨Int.le_refl _, by omega⟩
   | false => rw [towX_2 hb]; exact chk_erase J.tr J.od (by omega)
 have hse : secR (cutR f x mk) sec = secR f sec := sec_other hE (by rw [hxs]; exact fun e => J.ne e.symm)
 have hr : secR (cutR f x mk) oth = rowF f x mk := by rw [← hxs]; exact sec_row hE
 have K := cutR_kept J.ok hE mk
 have hpc : plcs (cutR f x mk) = plcs f := by unfold plcs; rw [K.s]
 have hsc : scJ (cutR f x mk) sec oth g = scJ f sec oth g := by unfold scJ; rw [hse, hpc]
 refine ⟨hE, ⟨K.ok, J.ne, by rw [K.n]; exact J.sr, by rw [K.n]; exact J.tr, by rw [K.s]; exact hz, by rw [K.d]; exact J.sd, by rw [K.d]; exact J.od, J.g0, J.g1, by rw [hse]; exact J.head, by rw [hsc]; exact J.fnd, by rw [hsc]; exact J.st, by rw [hsc]; exact J.tn⟩, ?_, hsc⟩
 cases hb : towB (f.data.getD oth.toNat []) (contF f.size 0 (slotF p)) f.size with
 | true =>
   have hx1 := towX_1 hb
   rw [← hx] at hx1
   have hn : x.kind ≠ 1 := by rw [hx1]; show ¬(2 : Int) = 1; decide
   refine ⟨0, J.g0, aboveTo_of fun i hi => ?_⟩
   have h255 : (contF f.size 0 (slotF p)).getD i 0 = 255 := by
     rw [← getD_take hi, cont_take]
     exact getD_rep _ _ _ _ hi
   have ho : (secR f oth).getD i 0 = 255 := by
     have := towB_get hb (i := i) (by omega)
     rw [h255] at this
     have e : (secR f oth).getD i 0 &&& 255 = (secR f oth).getD i 0 := by
       refine bits8 fun j hj => ?_
       have h1 : ((255 : UInt8).toBitVec)[j] = true := by
         have : ∀ j, (h : j < 8) → ((255 : UInt8).toBitVec)[j] = true := by decide
         exact this j hj
       rw [UInt8.toBitVec_and, BitVec.getElem_and, h1, Bool.and_true]
     exact e.symm.trans this
   rw [hr, row_in (j := i) (by omega) hn (by rw [hx1]; show (i : Int) = 0 + i; omega) (by rw [hx1]; dsimp only; omega), hxs, ho, ones_and]
   rw [show x.data = contF f.size 0 (slotF p) by rw [hx1], h255, mixB_same]
   exact ones_and _
 | false =>
   have hx1 := towX_2 hb
   rw [← hx] at hx1
   obtain ⟨c, hc, h⟩ := O
   refine ⟨c, hc, aboveTo_of fun i hi => ?_⟩
   rw [hr, row_erase (by omega) (by rw [hx1]), hxs]
   exact mix_above _ (aboveTo_get hi h) (ones_and _)
end
end Go.Sl
