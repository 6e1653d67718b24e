/-
  The small separation logic: methods behind interface values; numbers of 64 bits as sets.
-/
import Derived.Scope
import Derived.Test.YtbkmahjhhncfcaaGreatQSlR
import Derived.Test.YtbkmahjhhncfcaaGreatQSlI
namespace Go.Sl

section
variable {X : Cx} {β : Base} {n : Nat} {ds : List Deferred} {ops : Array Oper} {Q : Exit → Act → World → Prop} {Γ : Env} {R H : List Pr} {rest : List Oper}

theorem exec_invoke {ρ : Operand → Value} {f t : Nat} {r : Operand} {as : List Operand} {v : Value} {args : List Value} {name : String} {tys : Array TypeId} {w : World} (hok : FnOk X.P f) (hρ : ∀ x u, ev Γ x = some u → ρ x = u) (hr : ev Γ r = some (.iface t v)) (ha : evs Γ as = some args)
   (hm : ∀ w, (method (X.P.types.size + Made.depth) t v name).run X.P w = .ok (f, v) w) (o : Oper) (ho : o.op = .call ⟨.invoke r name, List.toArray as, tys⟩) : (execOp ρ o).run X.P w = .ok (.enter f (List.toArray (v :: args))) w := by
 obtain ⟨fn, hf, hb, hname⟩ := hok.ok
 have e1 := evs_eval hρ ha
 have hrv := hρ r _ hr
 have e2 : (List.toArray as).map ρ = List.toArray args := by apply Array.ext'; simpa using e1
 have e3 : #[v] ++ List.toArray args = List.toArray (v :: args) := by apply Array.ext'; simp
 have e4 : ((#[Value.iface t v] ++ List.toArray args).extract 1 (#[Value.iface t v] ++ List.toArray args).size) = List.toArray args := by apply Array.ext'; simp
 have e5 : (#[Value.iface t v] ++ List.toArray args)[0]? = some (.iface t v) := by simp
 simp only [beq_eq_false_iff_ne] at hname
 simp only [execOp, ho, resolve, hrv, invoke, callMethod, callFunc, Sem.run_bind, Sem.run_pure, Result.andThen_ok, e2, e4, e5, e3, run_program, hf, hb, hm]
 simp [hname]

/-- A call of a method behind an interface value. -/
theorem L.callI {d ty t : Nat} {pos : String} {af : Array Edge} {f : Nat} {r : Operand} {as : List Operand} {tys : Array TypeId} {name : String} {v : Value} {args : List Value} {Rf Hf Hr : List Pr} {js js' : List Nat} {Φ : Value → List Pr → List Pr → Prop} (hfn : Ctr X f (v :: args) Rf Hf Φ)
   (hr : ev Γ r = some (.iface t v)) (hm : ∀ w, (method (X.P.types.size + Made.depth) t v name).run X.P w = .ok (f, v) w) (ha : evs Γ as = some args) (hj : sel H js = Hf) (hj' : sel H js' = Hr) (hn : (js ++ js').Nodup) (hR : Hass R Hr Rf) (hd : Nat.blt d n = true)
   (k : ∀ v R' H', Φ v R' H' → L X β n ds ops Q rest ((d, v) :: Γ) R (H' ++ Hr)) : L X β n ds ops Q (⟨some d, .call ⟨.invoke r name, List.toArray as, tys⟩, ty, pos, af, none⟩ :: rest) Γ R H := by
 intro a w hf hs
 refine wpList_plain rfl fun K hK => ?_
 unfold Oper.wp
 rw [exec_invoke hfn.1 hf.agree hr ha hm _ rfl]
 refine (hfn.use hj hj' hn hR hs).mono ?_
 rintro e w' ⟨v, R', H', hΦ, rfl, hs'⟩
 exact hK _ _ (k v R' H' hΦ _ _ (hf.put (by simpa [Nat.blt_eq] using hd) v) hs')
end

section
variable {X : Cx} {β : Base} {Γ : Env} {R H : List Pr}
end

section
variable {X : Cx} {β : Base} {n : Nat} {ds : List Deferred} {Q : Exit → Act → World → Prop} {Γ : Env} {R H : List Pr}
end

section
variable {X : Cx} {β : Base} {n : Nat} {ds : List Deferred} {Q : Exit → Act → World → Prop} {Γ : Env} {R H : List Pr}
end

/-! ### An inner slice is put where none was -/
section
variable {X : Cx} {β : Base} {n : Nat} {ds : List Deferred} {ops : Array Oper} {Q : Exit → Act → World → Prop} {Γ : Env} {R H : List Pr} {rest : List Oper}
theorem Sat.repl {w : World} {c c' : Pr} (h : Sat β w R (c :: H)) (hp : c.p w → c'.p w) (hf : ∀ k, c'.fp k → c.fp k) : Sat β w R (c' :: H) := by
 have idx : ∀ (q : Nat) (d : Pr), (c' :: H)[q]? = some d → ∃ d', (c :: H)[q]? = some d' ∧ (d'.p w → d.p w) ∧ ∀ k, d.fp k → d'.fp k := by
   intro q d hd
   match q with
   | 0 =>
     simp at hd
     subst hd
     exact ⟨c, rfl, hp, hf⟩
   | q + 1 => exact ⟨d, hd, id, fun _ h => h⟩
 refine h.put (Stp.refl w fun _ => False) (fun _ hk => hk.elim) R _ (fun r hr => .inl hr) ?_ ?_ ?_
 · intro q d hd
   obtain ⟨d', hd', h1, h2⟩ := idx q d hd
   exact ⟨h1 (h.own q _ hd'), fun k hk => ⟨(h.ofp q _ hd' k (h2 k hk)).1, .inr ⟨q, _, hd', h2 k hk⟩⟩⟩
 · intro p q x y hx hy hne k hxk hyk
   obtain ⟨x', hx', _, h2⟩ := idx p x hx
   obtain ⟨y', hy', _, h3⟩ := idx q y hy
   exact h.dis p q _ _ hx' hy' hne k (h2 k hxk) (h3 k hyk)
 · intro r hr q d hd k hrk hdk
   obtain ⟨d', hd', _, h2⟩ := idx q d hd
   exact h.sep r hr q _ hd' k hrk (h2 k hdk)
/-- The last inner slice goes to a place where none was. -/
theorem OwnKids.move {w : World} {e i : Nat} {hs : List Hd} {vss : List (List Value)} {g : Hd} {v : List Value} (hl : hs.length = vss.length) (hi : i < vss.length) (h : (OwnKids e (hs ++ [g]) (vss ++ [v])).p w) : (OwnKids e (hs.set i g) (vss.set i v)).p w := by
 have gl : (hs ++ [g])[hs.length]? = some g := by simp
 have vl : (vss ++ [v])[hs.length]? = some v := by rw [hl]; simp
 have low : ∀ {q : Nat} {x : Hd}, hs[q]? = some x → (hs ++ [g])[q]? = some x := fun {q x} hq => by
   rw [List.getElem?_append_left (List.getElem?_eq_some_iff.1 hq).1]; exact hq
 have lov : ∀ {q : Nat} {x : List Value}, vss[q]? = some x → (vss ++ [v])[q]? = some x := fun {q x} hq => by
   rw [List.getElem?_append_left (List.getElem?_eq_some_iff.1 hq).1]; exact hq
 have src : ∀ (q : Nat) (x : Hd), (hs.set i g)[q]? = some x → ∃ q', (hs ++ [g])[q']? = some x ∧ (q' = hs.length ↔ q = i) ∧ (q ≠ i → q' = q) := by
   intro q x hx
   rw [List.getElem?_set] at hx
   by_cases hq : i = q
   · rw [if_pos hq, if_pos (by omega)] at hx
     injection hx with hx
     subst hx
     exact ⟨hs.length, gl, ⟨fun _ => hq.symm, fun _ => rfl⟩, fun h => absurd hq.symm h⟩
   · rw [if_neg hq] at hx
     have := (List.getElem?_eq_some_iff.1 hx).1
     exact ⟨q, low hx, ⟨fun h => by omega, fun h => absurd h.symm hq⟩, fun _ => rfl⟩
 refine ⟨by simp [hl], fun q x y hx hy => ?_, fun a b x y hx hy hab => ?_⟩
 · rw [List.getElem?_set] at hx hy
   by_cases hq : i = q
   · rw [if_pos hq, if_pos (by omega)] at hx
     rw [if_pos hq, if_pos hi] at hy
     injection hx with hx
     injection hy with hy
     subst hx hy
     exact h.2.1 _ _ _ gl vl
   · rw [if_neg hq] at hx hy
     exact h.2.1 _ _ _ (low hx) (lov hy)
 · obtain ⟨a', ha, ha2, ha3⟩ := src a x hx
   obtain ⟨b', hb, hb2, hb3⟩ := src b y hy
   refine h.2.2 a' b' x y ha hb (fun e => ?_)
   by_cases h1 : a = i
   · exact hab (h1.trans (hb2.1 (e ▸ ha2.2 h1)).symm)
   · by_cases h2 : b = i
     · exact h1 (ha2.1 (e ▸ hb2.2 h2))
     · rw [ha3 h1, hb3 h2] at e
       exact hab e
end

section
variable {X : Cx} {β : Base} {n : Nat} {ds : List Deferred} {ops : Array Oper} {Q : Exit → Act → World → Prop} {Γ : Env} {R H : List Pr} {rest : List Oper}
/-- make([]T, 0, m) -/
theorem L.make0 {d t e ty m : Nat} {pos : String} {af : Array Edge} {x y : Operand} {kl kc : IntKind} {i ei : Ti} (ht : tlook t X.tab = some i) (hdesc : i.desc = .slice e) (he : tlook e X.tab = some ei)
   (hx : ev Γ x = some (.int kl 0)) (hy : ev Γ y = some (.int kc (m : Int))) (hb : ei.bytes * m ≤ 281474976710656) (hm : m ≤ 9223372036854775807) (hd : Nat.blt d n = true)
   (k : ∀ A, L X β n ds ops Q rest ((d, .slice A 0 m) :: Γ) R (H ++ [Own e ei.size A 0 m []])) : L X β n ds ops Q (⟨some d, .makeSlice t x y, ty, pos, af, none⟩ :: rest) Γ R H := by
 intro a w hf hs
 refine wpList_plain rfl fun K hK => ?_
 unfold Oper.wp
 obtain ⟨e1, _⟩ := X.ok _ _ ht
 rw [hdesc] at e1
 obtain ⟨_, j, hj, h1, h2, h3⟩ := X.ok _ _ he
 have hr := run_make (P := X.P) w t e j ei.zero e1 hj h3 kl kc 0 (m : Int) (Int.le_refl _) (by omega) (by
   rw [h2]
   have : ((ei.bytes * m : Nat) : Int) ≤ 281474976710656 := by omega
   rwa [Int.natCast_mul] at this) (by omega)
 have hop : (execOp a.eval ⟨some d, .makeSlice t x y, ty, pos, af, none⟩).run X.P w = .ok (.value (.slice (some ⟨w.heap.size, 0, none⟩) 0 m)) (w.alloc (.cells (madeCells ei.zero.cells (m * j.size)) e)) := by
   simp only [Int.toNat_natCast, Int.toNat_zero] at hr
   simp only [execOp, hf.agree _ _ hx, hf.agree _ _ hy, Sem.run_bind, hr, Result.andThen_ok, Sem.run_pure]
 rw [hop]
 refine hK _ _ (k (some ⟨w.heap.size, 0, none⟩) _ _ (hf.put (by simpa [Nat.blt_eq] using hd) _) ?_)
 refine hs.snoc (Stp.alloc w _ fun _ => False) (fun _ h _ => h) _ ⟨by simp, .inr ⟨w.heap.size, m, madeCells ei.zero.cells (m * j.size), rfl, Nat.zero_le _, ?_, Nat.zero_le _, by unfold maxLen; omega, ?_, by simp⟩⟩ ?_
 · exact heap_alloc_new w _
 · simp [madeCells, h1]
 · intro k hk
   have := own_fp hk
   subst this
   exact ⟨by simp, Nat.le_refl _⟩
theorem Ev.shr8N {t ty : Nat} {x y : Operand} {yk : IntKind} {m k : Nat} (hx : ev Γ x = some (.int .u8 (m : Int))) (hy : ev Γ y = some (.int yk (k : Int))) (hk : k ≤ 8) : Ev X β Γ R H (.binOp .shr t x y ty) (.int .u8 ((m >>> k : Nat) : Int)) := by
 intro ρ w hρ hw o ho
 have hg : (eqGuard .shr t x y (.int .u8 (m : Int)) (.int yk (k : Int))).run X.P w = .ok () w := by unfold eqGuard; rfl
 have hb : ¬ (k : Int) < 0 := by omega
 have e : (m : Int).fdiv (2 ^ min (k : Int).toNat 8) = ((m >>> k : Nat) : Int) := by
   rw [Int.toNat_natCast, Nat.min_eq_left hk, Int.fdiv_eq_ediv_of_nonneg _ (Int.pow_nonneg (by decide)), Nat.shiftRight_eq_div_pow, Int.natCast_ediv, Int.natCast_pow]
   rfl
 simp only [execOp, ho, hρ _ _ hx, hρ _ _ hy, Sem.run_bind, hg, Result.andThen_ok, binOp_shr, Op.shift, if_neg hb, Sem.run_pure, IntKind.bits]
 rw [← e]
theorem bop8N {a b : Nat} (ha : a < 256) (hb : b < 256) : bop .and .u8 (a : Int) (b : Int) = ((a &&& b : Nat) : Int) := by
 show IntKind.u8.wrap ((BitVec.ofInt 8 (a : Int) &&& BitVec.ofInt 8 (b : Int)).toNat : Int) = _
 rw [BitVec.ofInt_natCast, BitVec.ofInt_natCast, BitVec.toNat_and, BitVec.toNat_ofNat, BitVec.toNat_ofNat, Nat.mod_eq_of_lt ha, Nat.mod_eq_of_lt hb, wrap_u8]
 have := @Nat.and_le_left a b
 omega
/-- A method of one of some types. -/
theorem L.callM {d ty t : Nat} {pos : String} {af : Array Edge} {r : Operand} {as : List Operand} {tys : Array TypeId} {name : String} {v : Value} {args : List Value} {Rf Hf Hr : List Pr} {js js' : List Nat} {Φ : Value → List Pr → List Pr → Prop}
   (hm : ∃ f, (∀ w, (method (X.P.types.size + Made.depth) t v name).run X.P w = .ok (f, v) w) ∧ Ctr X f (v :: args) Rf Hf Φ)
   (hr : ev Γ r = some (.iface t v)) (ha : evs Γ as = some args) (hj : sel H js = Hf) (hj' : sel H js' = Hr) (hn : (js ++ js').Nodup) (hR : Hass R Hr Rf) (hd : Nat.blt d n = true)
   (k : ∀ v R' H', Φ v R' H' → L X β n ds ops Q rest ((d, v) :: Γ) R (H' ++ Hr)) : L X β n ds ops Q (⟨some d, .call ⟨.invoke r name, List.toArray as, tys⟩, ty, pos, af, none⟩ :: rest) Γ R H := by
 obtain ⟨f, h1, h2⟩ := hm
 exact L.callI h2 hr h1 ha hj hj' hn hR hd k
end

section
variable {X : Cx} {β : Base} {n : Nat} {ds : List Deferred} {ops : Array Oper} {Q : Exit → Act → World → Prop} {Γ : Env} {R H : List Pr} {rest : List Oper}
theorem fold_putS : ∀ (cs : List Value) (k : Nat) (Z : Array Value), k + cs.length ≤ Z.size → ((cs.zipIdx k).foldl (fun (q : Array Value) (x : Value × Nat) => q.setIfInBounds x.2 x.1) Z).toList = Z.toList.take k ++ cs ++ Z.toList.drop (k + cs.length)
 | [], k, Z, _ => by simp
 | c :: cs, k, Z, h => by
   simp only [List.length_cons] at h
   simp only [List.zipIdx_cons, List.foldl_cons]
   rw [fold_putS cs (k + 1) (Z.setIfInBounds k c) (by simp; omega)]
   have hk : k < Z.toList.length := by simp; omega
   rw [Array.toList_setIfInBounds, List.take_set, List.drop_set]
   have e1 : ¬ (k + 1 + cs.length ≤ k) := by omega
   have e2 : (Z.toList.take (k + 1)).set k c = Z.toList.take k ++ [c] := by
     rw [List.take_succ_eq_append_getElem hk, List.set_append_right _ _ (by simp; omega)]
     have hk2 : k < Z.size := by simpa using hk
     simp [Nat.min_eq_left (Nat.le_of_lt hk2)]
   simp only [e2, List.length_cons]
   rw [show k + (cs.length + 1) = k + 1 + cs.length from by omega]
   simp
   omega
theorem fold_allS (cs : List Value) (Z : Array Value) (h : Z.size = cs.length) : (cs.zipIdx).foldl (fun (q : Array Value) (x : Value × Nat) => q.setIfInBounds x.2 x.1) Z = List.toArray cs := by
 apply Array.ext'
 rw [fold_putS cs 0 Z (by omega)]
 simp [← h]
theorem L.lit1S {d t e ty : Nat} {pos : String} {af : Array Edge} {x : Operand} {cs : List Value} {i ei : Ti} (ht : tlook t X.tab = some i) (hdesc : i.desc = .slice e) (he : tlook e X.tab = some ei) (hsz : ei.size = cs.length) (hpos : 0 < cs.length) (hsmall : Nat.ble cs.length 1000 = true)
   (hx : ev Γ x = some (.agg (List.toArray cs))) (hd : Nat.blt d n = true) (k : ∀ A, L X β n ds ops Q rest ((d, .slice A 1 1) :: Γ) R (H ++ [Own e cs.length A 1 1 cs])) : L X β n ds ops Q (⟨some d, .buildSlice t 1 #[(0, x)], ty, pos, af, none⟩ :: rest) Γ R H := by
 have hsm : cs.length ≤ 1000 := by simpa using hsmall
 refine L.mk hd e cs.length 1 cs one_le_maxLen (by simp) (fun A => .slice A 1 1) ?_ k
 intro ρ w hρ hs o ho
 obtain ⟨e1, _⟩ := X.ok _ _ ht
 rw [hdesc] at e1
 have hS := run_sizeOf' (P := X.P) w (X.ok _ _ he)
 obtain ⟨_, j, hj, h1, h2, h3⟩ := X.ok _ _ he
 have hz : (zeroValue e).run X.P w = .ok ei.zero w := by simp [zeroValue, typeInfo, hj, h3]
 have hbig : ¬ (1 * cs.length > 2 ^ 24) := by omega
 have hz1 : ¬ (1 * cs.length = 0) := by omega
 have hf : Instr.fill (fun i => some (i * cs.length, cs.length)) ((Array.range (1 * cs.length)).map (ei.zero.cells[· % ei.zero.cells.size]!)) [(0, .agg (List.toArray cs))] = some (List.toArray cs) := by
   have hsz : ((Array.range (1 * cs.length)).map (ei.zero.cells[· % ei.zero.cells.size]!)).size = cs.length := by simp
   generalize (Array.range (1 * cs.length)).map (ei.zero.cells[· % ei.zero.cells.size]!) = Z at hsz
   have := fold_allS cs Z hsz
   simp [Instr.fill, Value.cells, hsz, this]
 have hp : (#[(0, x)] : Array (Nat × Operand)).map (fun (i, x) => (i, ρ x)) = #[(0, .agg (List.toArray cs))] := by simp [hρ _ _ hx]
 simp only [execOp, ho, Instr.buildSlice, Sem.run_bind, run_underlying e1, Result.andThen_ok, hS, hsz, if_neg hbig, if_neg hz1, hz, Sem.run_pure, hp, hf]
 simp [newRow]
end
end Go.Sl
