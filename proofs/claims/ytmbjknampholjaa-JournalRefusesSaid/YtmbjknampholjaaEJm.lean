/-
  The journal as plain data: what is refused.
-/
import Derived.Test.YtmbjknampholjaaEJk
import Derived.Test.YtmbjknampholjaaELi
section
namespace Go.Sl

def yB (u v : Int) : Ly := ⟨0, u, v, 0, 0, none, 0, 0, none, 0, 0, none, 0, 0⟩
theorem checkE_vals (f : Fl) (x : Fo) : checkE f x = 0 ∨ checkE f x = 1 ∨ checkE f x = 170 ∨ checkE f x = 171 ∨ checkE f x = 172 := by
 unfold checkE
 split
 · exact .inr (.inl rfl)
 · split
   · exact .inr (.inr (.inl rfl))
   · split
     · exact .inr (.inr (.inr (.inl rfl)))
     · split
       · exact .inr (.inr (.inr (.inr rfl)))
       · exact .inl rfl
theorem towN_200 (f : Fl) (sec : Int) (want : List UInt8) : (towN f sec want).e ≠ 200 := by
 unfold towN
 split
 · show (170 : Int) ≠ 200; decide
 · split
   · show (0 : Int) ≠ 200; decide
   · split
     · have := checkE_vals f (towX f sec want)
       show checkE f (towX f sec want) ≠ 200
       omega
     · show (0 : Int) ≠ 200; decide
theorem reachF_200 (sec : Int) (want : List UInt8) : ∀ (k : Nat) (f : Fl), (reachF sec want k f).2 ≠ 200
 | 0, f => towN_200 f sec want
 | k + 1, f => by
   show (if (towN f sec want).done = true ∨ (towN f sec want).e ≠ 0 then (f, (towN f sec want).e) else reachF sec want k (cutR f (towN f sec want).x (fun _ => 255))).2 ≠ 200
   split
   · exact towN_200 f sec want
   · exact reachF_200 sec want k _
theorem formatF_bad {f : Fl} {a b : Int} {s : List Int} (hr : rightS s = true) : ((formatF f a b s).2 == 200) = !(fitsF f a b) := by
 cases hf : fitsF f a b with
 | false =>
   rw [formatF_1 (.inl hf)]
   rfl
 | true =>
   have : (formatF f a b s).2 ≠ 200 := by
     unfold formatF
     rw [if_neg (by rw [hf, hr]; rintro (h | h) <;> cases h)]
     split
     · exact fun h => reachF_200 _ _ _ _ h
     · split
       · exact fun h => reachF_200 _ _ _ _ h
       · show (0 : Int) ≠ 200; decide
   simpa using this
theorem findF_no {f : Fl} {a b : Int} (h : fitsF f a b = false) : (findF f a b).found = false := by
 unfold findF
 rw [if_neg (by rw [h]; exact Bool.false_ne_true)]
 rfl
theorem readF_bad {f : Fl} {a b : Int} (h : (findF f a b).found = false) : (readF f a b).2.2 = 200 := by rw [readF_no h]
theorem nextF_bad {f : Fl} {a b : Int} {s : List Int} (h : (findF f a b).found = false ∨ rightS s = false) : (nextF f a b s).e = 200 := by rw [nextF_1 h]

/-! ### One bit of a code, turned -/
theorem xor16 (x : UInt8) : x ^^^ 16 ≠ x := by
 intro h
 have := congrArg (fun y : UInt8 => y.toBitVec[4]) h
 have e : ((16 : UInt8).toBitVec)[4] = true := by decide
 rw [UInt8.toBitVec_xor, BitVec.getElem_xor, e] at this
 cases hx : x.toBitVec[4] <;> rw [hx] at this <;> cases this
theorem flip_pair {l : List UInt8} {j n : Nat} (hj : j < 2 * n) (hl : 2 * n ≤ l.length) (h : codeTo l n = true) : codeTo (l.set j (l.getD j 0 ^^^ 16)) n = false := by
 have hi : j / 2 < n := by omega
 have hp := codeTo_get hi h
 unfold pairOk at hp
 replace hp := eq_of_beq hp
 refine codeTo_no hi ?_
 unfold pairOk
 cases hb : ((l.set j (l.getD j 0 ^^^ 16)).getD (2 * (j / 2)) 0 == ~~~((l.set j (l.getD j 0 ^^^ 16)).getD (2 * (j / 2) + 1) 0)) with
 | false => rfl
 | true =>
   exfalso
   replace hb := eq_of_beq hb
   rcases Nat.mod_two_eq_zero_or_one j with h0 | h0
   · rw [show 2 * (j / 2) = j by omega] at hb hp
     rw [getD_set_eq (by omega), getD_set_ne (by omega), ← hp] at hb
     exact xor16 _ hb
   · have e : j = 2 * (j / 2) + 1 := by omega
     rw [← e] at hb hp
     rw [getD_set_ne (by omega), getD_set_eq (by omega), hp] at hb
     have := congrArg (fun x => ~~~x) hb
     simp only [not_not8] at this
     exact xor16 _ this.symm
section
variable {f g : Fl} {a b : Int} {s : List Int}
def flipF (g : Fl) (i j : Nat) : Fl := { g with data := g.data.set i ((g.data.getD i []).set j ((g.data.getD i []).getD j 0 ^^^ 16)) }
def deadF (g : Fl) (i j : Nat) : Fl := { g with dead := (g.dead.set i true).set j true }
theorem flipF_ok (ok : g.Ok) {i j : Nat} (hi : i < g.data.length) : (flipF g i j).Ok := by
 obtain ⟨h1, h2, h3, h4, h5, h6, h7, h8, h9, h10⟩ := ok
 have hl : (flipF g i j).data.length = g.data.length := List.length_set
 refine ⟨h1, h2, by rw [hl]; exact h3, by rw [hl]; exact h4, by rw [hl]; exact h5, by rw [hl]; exact h6, fun k hk => ?_, h8, h9, fun k hk => h10 k (by rwa [hl] at hk)⟩
 rw [hl] at hk
 show ((g.data.set i _).getD k []).length = g.size
 by_cases e : i = k
 · subst e
   rw [getD_set_eq hi, List.length_set]
   exact h7 i hi
 · rw [getD_set_ne e]
   exact h7 k hk
theorem deadF_ok (ok : g.Ok) {i j : Nat} : (deadF g i j).Ok := by
 obtain ⟨h1, h2, h3, h4, h5, h6, h7, h8, h9, h10⟩ := ok
 exact ⟨h1, h2, h3, h4, h5, by show ((g.dead.set i true).set j true).length = _; rw [List.length_set, List.length_set]; exact h6, h7, h8, h9, h10⟩
theorem flip_fits {i j : Nat} : fitsF (flipF g i j) a b = fitsF g a b := by
 unfold fitsF
 rw [show (flipF g i j).data.length = g.data.length from List.length_set]
 rfl
theorem flip_row {j : Nat} (ha : a.toNat < g.data.length) : secR (flipF g a.toNat j) a = (secR g a).set j ((secR g a).getD j 0 ^^^ 16) := by
 show (g.data.set a.toNat _).getD a.toNat [] = _
 rw [getD_set_eq ha]
 rfl
theorem flip_oth {i j : Nat} (h : i ≠ b.toNat) : secR (flipF g i j) b = secR g b := by
 show (g.data.set i _).getD b.toNat [] = _
 rw [getD_set_ne h]
 rfl
variable (hf : fitsF f a b = true) (hs : s.length = 9) (hr : rightS s = true) (F : Fresh f a b s g)
include hf hs hr F
omit hs hr in
theorem fresh_fits : fitsF g a b = true := by
 have hft := fitsF_ok hf
 exact decide_eq_true ⟨hft.1, hft.2.1, hft.2.2.1, by rw [F.n]; exact hft.2.2.2.1, by rw [F.n]; exact hft.2.2.2.2.1, by rw [F.sz]; exact hft.2.2.2.2.2⟩
omit hs hr in
/-- A byte of the generation is changed. -/
theorem refuse_gen {j : Nat} (hj : j < 8) : (readF (flipF g a.toNat j) a b).2.2 = 200 := by
 have hft := fitsF_ok hf
 have hg := fresh_fits hf F
 have han : a.toNat < g.data.length := by rw [F.n]; omega
 have hne : a.toNat ≠ b.toNat := by omega
 have ea : (secR g a).take 8 = headG 1 := by rw [F.ra, cont_take]; exact headG_head (Nat.le_refl 1)
 have hlen : (secR g a).length = g.size := F.ok.rows _ han
 have h38 : 38 ≤ g.size := by rw [F.sz]; exact hft.2.2.2.2.2
 have ga : genF (secR (flipF g a.toNat j) a) = -1 := by
   rw [flip_row han]
   unfold genF
   rw [if_neg]
   have : codeTo ((secR g a).set j ((secR g a).getD j 0 ^^^ 16)) 4 = false := flip_pair (by omega) (by omega) (by rw [← codeTo_take (n := 8) (by decide), ea]; exact headG_to 1)
   rw [this]
   exact Bool.false_ne_true
 have gb : genF (secR (flipF g a.toNat j) b) = -1 := by rw [flip_oth hne, F.rb]; exact genF_cont0 _ _
 refine readF_bad ?_
 unfold findF
 rw [if_pos (by rw [flip_fits]; exact hg)]
 have hp : pickL (flipF g a.toNat j) a b = { lg0 with sec := a, oth := b, gen := -1 } := by
   unfold pickL
   rw [ga, gb, if_neg (by decide)]
 rw [hp, if_pos (by show (-1 : Int) < 0; decide)]
 rfl
omit hs in
/-- A byte of the slot is changed. -/
theorem refuse_slot {j : Nat} (hj : j < 30) : (readF (flipF g a.toNat (8 + j)) a b).2.2 = 200 := by
 have hft := fitsF_ok hf
 have hg := fresh_fits hf F
 have han : a.toNat < g.data.length := by rw [F.n]; omega
 have hne : a.toNat ≠ b.toNat := by omega
 have h38 : 38 ≤ g.size := by rw [F.sz]; exact hft.2.2.2.2.2
 have hrow := flip_row (g := g) (a := a) (j := 8 + j) han
 have hlen : (secR g a).length = g.size := F.ok.rows _ han
 have hsl := slotF_len hr
 have ga : genF (secR (flipF g a.toNat (8 + j)) a) = 1 := by
   have : (secR (flipF g a.toNat (8 + j)) a).take 8 = (secR g a).take 8 := by
     rw [hrow, List.take_set_of_le (by omega)]
   rw [genF_take this, ← genF_take rfl, F.ra]
   exact genF_cont (g := 1) (by decide) (by decide)
 have gb : genF (secR (flipF g a.toNat (8 + j)) b) = -1 := by rw [flip_oth hne, F.rb]; exact genF_cont0 _ _
 have s0 : slotAt (secR (flipF g a.toNat (8 + j)) a) 0 = (slotF s).set j ((slotF s).getD j 0 ^^^ 16) := by
   have e0 : slotAt (secR g a) 0 = slotF s := by rw [F.ra]; exact slotAt_cont0 hsl
   have eg : (secR g a).getD (8 + j) 0 = (slotF s).getD j 0 := by
     rw [← e0]
     unfold slotAt
     rw [getD_take hj, getD_drop]
   rw [hrow, eg, ← e0]
   unfold slotAt
   rw [List.drop_set, if_neg (by omega), List.take_set, show 8 + j - (8 + 30 * 0) = j by omega]
 have st0 : stateF (slotAt (secR (flipF g a.toNat (8 + j)) a) 0) = none := by
   rw [s0]
   unfold stateF
   rw [if_neg]
   have := flip_pair (l := slotF s) (j := j) (n := 15) (by omega) (by omega) (slot_code hr)
   rw [this]
   exact Bool.false_ne_true
 have sk : ∀ i, 0 < i → i < plcs g → blankB (slotAt (secR (flipF g a.toNat (8 + j)) a) i) = true := fun i h0 hi => by
   have hz := (slotAt_len (f := f) (row := List.replicate f.size 255) (i := i) (by rw [List.length_replicate]) (by unfold plcs at hi ⊢; rwa [F.sz] at hi)).2
   have e : slotAt (secR (flipF g a.toNat (8 + j)) a) i = slotAt (secR g a) i := by
     rw [hrow]
     unfold slotAt
     rw [List.drop_set, if_pos (by omega)]
   rw [e, F.ra, slotAt_contS hsl h0 (by omega)]
   exact rep_blank 30
 have nf : ∀ (x : Lg) (k : Nat), x.found = false → k ≤ plcs g → (scanL (secR (flipF g a.toNat (8 + j)) a) x k).found = false := by
   intro x k hx
   induction k with
   | zero => exact fun _ => hx
   | succ k ih =>
     intro hk
     have h := ih (by omega)
     rw [scanL_succ]
     by_cases h0 : k = 0
     · subst h0
       cases hb : blankB (slotAt (secR (flipF g a.toNat (8 + j)) a) 0) with
       | true => rw [stepL_b hb]; exact h
       | false => rw [stepL_t hb st0]; exact h
     · rw [stepL_b (sk k (by omega) (by omega))]
       exact h
 refine readF_bad ?_
 unfold findF
 rw [if_pos (by rw [flip_fits]; exact hg)]
 have hp : pickL (flipF g a.toNat (8 + j)) a b = { lg0 with sec := a, oth := b, gen := 1 } := by
   unfold pickL
   rw [ga, gb, if_neg (by decide)]
 rw [hp, if_neg (by show ¬(1 : Int) < 0; decide)]
 exact nf _ _ rfl (Nat.le_refl _)
theorem dead_find : findF (deadF g a.toNat b.toNat) a b = ⟨a, b, 1, s, true, 1, 0⟩ := by
 show findF g a b = _
 exact fresh_find hf hs hr F
theorem dead_read : (readF (deadF g a.toNat b.toNat) a b).2.2 = 0 := by rw [readF_yes (by rw [dead_find hf hs hr F])]
theorem dead_next {p : List Int} (hpl : p.length = 9) (hp : rightS p = true) (hsp : s ≠ p) : (nextF (deadF g a.toNat b.toNat) a b p).e = 171 := by
 have hft := fitsF_ok hf
 have hfd := dead_find hf hs hr F
 have hdl := F.ok.dl
 have hn := F.n
 have hda : (deadF g a.toNat b.toNat).dead.getD a.toNat false = true := by
   show ((g.dead.set a.toNat true).set b.toNat true).getD a.toNat false = true
   rw [getD_set_ne (by omega), getD_set_eq (by omega)]
 have hdb : (deadF g a.toNat b.toNat).dead.getD b.toNat false = true := by
   show ((g.dead.set a.toNat true).set b.toNat true).getD b.toNat false = true
   rw [getD_set_eq (by rw [List.length_set]; omega)]
 by_cases h1 : 1 < plcs (deadF g a.toNat b.toNat)
 · rw [nextF_3 hfd.symm rfl hp hsp h1]
   unfold progF
   rw [if_pos hda]
 · cases hrd : readyB (secR (deadF g a.toNat b.toNat) b) (contF (deadF g a.toNat b.toNat).size ((1 : Int) + 1) (slotF p)) with
   | true =>
     rw [nextF_4 hfd.symm rfl hp hsp h1 hrd]
     unfold progF
     rw [if_pos hdb]
   | false =>
     rw [nextF_5 hfd.symm rfl hp hsp h1 hrd]
     have hsl := slotF_len hp
     have h38 : 38 ≤ g.size := by rw [F.sz]; exact hft.2.2.2.2.2
     have hin : ¬(¬(0 ≤ b ∧ b ≤ ((deadF g a.toNat b.toNat).data.length : Int) - 1) ∨ (contF (deadF g a.toNat b.toNat).size 0 (slotF p)).length ≠ (deadF g a.toNat b.toNat).size) := by
       have e : (contF (deadF g a.toNat b.toNat).size 0 (slotF p)).length = (deadF g a.toNat b.toNat).size := contF_len (by show 8 + (slotF p).length ≤ g.size; omega)
       have e2 : (deadF g a.toNat b.toNat).data.length = g.data.length := rfl
       omega
     have hne : (deadF g a.toNat b.toNat).data.getD b.toNat [] ≠ contF (deadF g a.toNat b.toNat).size 0 (slotF p) := by
       intro e
       have e1 : secR g b = contF g.size 0 (slotF p) := e
       rw [F.rb] at e1
       have e3 : slotAt (contF f.size 0 []) 0 = slotF p := by rw [e1]; exact slotAt_cont0 hsl
       have e4 : blankB (slotF p) = true := by
         rw [← e3]
         unfold slotAt
         rw [Nat.mul_zero, Nat.add_zero, cont_drop, List.nil_append, List.take_replicate]
         exact rep_blank _
       have := blank_none (by rw [hsl]; decide) e4
       rw [stateF_slot hpl hp] at this
       cases this
     have hE : checkE (deadF g a.toNat b.toNat) (towX (deadF g a.toNat b.toNat) b (contF (deadF g a.toNat b.toNat).size 0 (slotF p))) = 171 := by
       have hx : ∀ x : Fo, x.sec = b → (x.kind = 1 ∨ x.kind = 2) → (x.kind = 2 → 0 ≤ x.at_ ∧ x.at_ ≤ ((deadF g a.toNat b.toNat).size : Int) ∧ (x.data.length : Int) ≤ ((deadF g a.toNat b.toNat).size : Int) - x.at_) → checkE (deadF g a.toNat b.toNat) x = 171 := fun x h1 h2 h3 =>
         checkE_3 h2 (by rw [h1]; exact ⟨hft.2.2.1, by show b ≤ (g.data.length : Int) - 1; omega, h3⟩) (by rw [h1]; exact hdb)
       have hl := contF_len (n := (deadF g a.toNat b.toNat).size) (gen := 0) (slot := slotF p) (by show 8 + (slotF p).length ≤ g.size; omega)
       refine hx _ (towN_sec ..) ?_ ?_
       · unfold towX; split
         · exact .inr rfl
         · exact .inl rfl
       · unfold towX; split
         · intro _; dsimp only; omega
         · intro h; cases h
     rw [towN_3 hin hne rfl (by rw [hE]; decide), hE]
end
/-- The same state with another Sub. -/
def othR (r : List UInt8) : List UInt8 := [r.getD 0 0, r.getD 1 0, r.getD 2 0 |> fun x => 255 - x, r.getD 3 0, r.getD 4 0, r.getD 5 0, r.getD 6 0, r.getD 7 0, r.getD 8 0]
theorem sub_255 (x : UInt8) : ((255 - x : UInt8).toNat : Int) = 255 - (x.toNat : Int) := by
 have h := UInt8.toNat_lt x
 rw [UInt8.toNat_sub]
 show (((256 - x.toNat + 255) % 256 : Nat) : Int) = _
 omega
theorem othR_made (r : List UInt8) : madeS (othR r) = (madeS r).set 2 (255 - ((r.getD 2 0).toNat : Int)) := by
 have e : ((255 - r.getD 2 0 : UInt8).toNat : Int) = 255 - ((r.getD 2 0).toNat : Int) := sub_255 _
 show [((r.getD 0 0).toNat : Int), 257 * ((r.getD 1 0).toNat : Int), ((255 - r.getD 2 0 : UInt8).toNat : Int), 16777216 * ((r.getD 3 0).toNat : Int), ((r.getD 4 0).toNat : Int), ((r.getD 5 0).toNat : Int), ((r.getD 6 0).toNat : Int), 256 + ((r.getD 7 0).toNat : Int), ((r.getD 8 0).toNat : Int)] = _
 rw [e]
 rfl
theorem othR_ne (r : List UInt8) : madeS r ≠ madeS (othR r) := by
 intro h
 have := congrArg (fun l : List Int => l.getD 2 0) h
 have e : ((255 - r.getD 2 0 : UInt8).toNat : Int) = 255 - ((r.getD 2 0).toNat : Int) := sub_255 _
 have t : ((r.getD 2 0).toNat : Int) = ((255 - r.getD 2 0 : UInt8).toNat : Int) := this
 omega
theorem wrong_no {k : Nat} {v : Int} (r : List UInt8) (hk : k < 9) (h : fitW v (wds.getD k 0) = false) : rightS ((madeS r).set k v) = false :=
 rightTo_no hk (by rw [getD_set_eq (by rw [made_len]; exact hk)]; exact h)
end Go.Sl
end
/-
  From the readings of a call's arguments to facts: slices of arrays of nine bytes.
-/
section
namespace Go.Sl
open Go.ChangeShapes Go.WideShapes Go.RowKit Go.Deep Go.Joins

section
variable {H : Type} {enc : TypeId × Value → H} {P : Program} {w : World} {base : Nat} {spare : Nat → Bool} {held : Bool}
theorem wf_i16 {n : Int} (h : (Lit.int .i16 n).wf = true) : -32768 ≤ n ∧ n ≤ 32767 := by
 simp [Lit.wf, IntKind.min, IntKind.max, IntKind.signed, IntKind.bits] at h
 omega
theorem open_i16x2 {r : Reach} {b0 : Nat} {t e : TypeId} {v : Value} {d : DataW H} {ps : List MemPlace} (ht : P.underlying t = some (.array 2 e)) (he : P.underlying e = some (.int .i16)) (ce : P.cellsOf e = 1) (ct : P.cellsOf t = 2)
   (hv : Value.okWide P w r b0 t v) (h : DataW.Trod enc P w base spare held t v d ps) :
   ∃ x y : Int, v = .agg (List.toArray [.int .i16 x, .int .i16 y]) ∧ (-32768 ≤ x ∧ x ≤ 32767) ∧ (-32768 ≤ y ∧ y ≤ 32767) := by
 simp only [Value.okWide, ht] at hv
 obtain ⟨cs, rfl, hsz, -⟩ := hv
 rw [ct] at hsz
 obtain ⟨ls⟩ := cs
 obtain ⟨a0, a1, rfl⟩ : ∃ a0 a1, ls = [a0, a1] := by
   match ls, hsz with
   | [a, b], _ => exact ⟨a, b, rfl⟩
 obtain ⟨fuel, hf⟩ := h
 obtain ⟨xs, m2, -, -, -, hxl, hg⟩ := DataW.trod_array ht hf
 have g0 := hg 0 (by decide)
 have g1 := hg 1 (by decide)
 rw [ce, List.getElem?_eq_getElem (by rw [hxl]; decide)] at g0 g1
 obtain ⟨x, h0, -, w0⟩ := DataW.trod_int (cs := [a0]) he g0
 obtain ⟨y, h1, -, w1⟩ := DataW.trod_int (cs := [a1]) he g1
 obtain rfl := (List.cons.inj h0).1
 obtain rfl := (List.cons.inj h1).1
 exact ⟨x, y, rfl, wf_i16 w0, wf_i16 w1⟩
end
end Go.Sl
end
