/-
  The small separation logic: methods behind interface values; numbers of 64 bits as sets.
-/
import Derived.Scope
import Derived.Test.YtpccfdnmnnnboaaGreatQSlN
import Derived.Test.YtpccfdnmnnnboaaGreatQSlG
section
namespace Go.Sl

section
variable {X : Cx} {β : Base} {n : Nat} {ds : List Deferred} {ops : Array Oper} {Q : Exit → Act → World → Prop} {Γ : Env} {R H : List Pr} {rest : List Oper}

theorem exec_invoke {ρ : Operand → Value} {f t : Nat} {r : Operand} {as : List Operand} {v : Value} {args : List Value} {name : String} {tys : Array TypeId} {w : World} (hok : FnOk X.P f) (hρ : ∀ x u, ev Γ x = some u → ρ x = u) (hr : ev Γ r = some (.iface t v)) (ha : evs Γ as = some args)
   (hm : ∀ w, (method (X.P.types.size + Made.depth) t v name).run X.P w = .ok (f, v) w) (o : Oper) (ho : o.op = .call ⟨.invoke r name, List.toArray as, tys⟩) : (execOp ρ o).run X.P w = .ok (.enter f (List.toArray (v :: args))) w := by
 obtain ⟨fn, hf, hb, hname⟩ := hok.ok
 have e1 := evs_eval hρ ha
 have hrv := hρ r _ hr
 have e2 : (List.toArray as).map ρ = List.toArray args := by apply Array.ext'; simpa using e1
 have e3 : #[v] ++ List.toArray args = List.toArray (v :: args) := by apply Array.ext'; simp
 have e4 : ((#[Value.iface t v] ++ List.toArray args).extract 1 (#[Value.iface t v] ++ List.toArray args).size) = List.toArray args := by apply Array.ext'; simp
 have e5 : (#[Value.iface t v] ++ List.toArray args)[0]? = some (.iface t v) := by simp
 simp only [beq_eq_false_iff_ne] at hname
 simp only [execOp, ho, resolve, hrv, invoke, callMethod, callFunc, Sem.run_bind, Sem.run_pure, Result.andThen_ok, e2, e4, e5, e3, run_program, hf, hb, hm]
 simp [hname]

/-- A call of a method behind an interface value. -/
theorem L.callI {d ty t : Nat} {pos : String} {af : Array Edge} {f : Nat} {r : Operand} {as : List Operand} {tys : Array TypeId} {name : String} {v : Value} {args : List Value} {Rf Hf Hr : List Pr} {js js' : List Nat} {Φ : Value → List Pr → List Pr → Prop} (hfn : Ctr X f (v :: args) Rf Hf Φ)
   (hr : ev Γ r = some (.iface t v)) (hm : ∀ w, (method (X.P.types.size + Made.depth) t v name).run X.P w = .ok (f, v) w) (ha : evs Γ as = some args) (hj : sel H js = Hf) (hj' : sel H js' = Hr) (hn : (js ++ js').Nodup) (hR : Hass R Hr Rf) (hd : Nat.blt d n = true)
   (k : ∀ v R' H', Φ v R' H' → L X β n ds ops Q rest ((d, v) :: Γ) R (H' ++ Hr)) : L X β n ds ops Q (⟨some d, .call ⟨.invoke r name, List.toArray as, tys⟩, ty, pos, af, none⟩ :: rest) Γ R H := by
 intro a w hf hs
 refine wpList_plain rfl fun K hK => ?_
 unfold Oper.wp
 rw [exec_invoke hfn.1 hf.agree hr ha hm _ rfl]
 refine (hfn.use hj hj' hn hR hs).mono ?_
 rintro e w' ⟨v, R', H', hΦ, rfl, hs'⟩
 exact hK _ _ (k v R' H' hΦ _ _ (hf.put (by simpa [Nat.blt_eq] using hd) v) hs')
end

section
variable {X : Cx} {β : Base} {Γ : Env} {R H : List Pr}
theorem wrap_u64 {m : Nat} (h : m < 18446744073709551616) : IntKind.u64.wrap (m : Int) = (m : Int) := by
 unfold IntKind.wrap
 simp [IntKind.bits, IntKind.signed]
 omega
theorem Ev.shrU {t ty : Nat} {x y : Operand} {yk : IntKind} {m k : Nat} (hx : ev Γ x = some (.int .u64 (m : Int))) (hy : ev Γ y = some (.int yk (k : Int))) (hk : k ≤ 64) : Ev X β Γ R H (.binOp .shr t x y ty) (.int .u64 ((m >>> k : Nat) : Int)) := by
 intro ρ w hρ hw o ho
 have hg : (eqGuard .shr t x y (.int .u64 (m : Int)) (.int yk (k : Int))).run X.P w = .ok () w := by unfold eqGuard; rfl
 have hb : ¬ (k : Int) < 0 := by omega
 have e : (m : Int).fdiv (2 ^ min (k : Int).toNat 64) = ((m >>> k : Nat) : Int) := by
   rw [Int.toNat_natCast, Nat.min_eq_left hk, Int.fdiv_eq_ediv_of_nonneg _ (Int.pow_nonneg (by decide)), Nat.shiftRight_eq_div_pow, Int.natCast_ediv, Int.natCast_pow]
   rfl
 simp only [execOp, ho, hρ _ _ hx, hρ _ _ hy, Sem.run_bind, hg, Result.andThen_ok, binOp_shr, Op.shift, if_neg hb, Sem.run_pure, IntKind.bits]
 rw [← e]
theorem Ev.shlU {t ty : Nat} {x y : Operand} {yk : IntKind} {m k : Nat} (hx : ev Γ x = some (.int .u64 (m : Int))) (hy : ev Γ y = some (.int yk (k : Int))) (hk : k ≤ 64) (hm : m * 2 ^ k < 18446744073709551616) : Ev X β Γ R H (.binOp .shl t x y ty) (.int .u64 ((m * 2 ^ k : Nat) : Int)) := by
 intro ρ w hρ hw o ho
 have hg : (eqGuard .shl t x y (.int .u64 (m : Int)) (.int yk (k : Int))).run X.P w = .ok () w := by unfold eqGuard; rfl
 have hb : ¬ (k : Int) < 0 := by omega
 have e : IntKind.u64.wrap ((m : Int) * 2 ^ min (k : Int).toNat 64) = ((m * 2 ^ k : Nat) : Int) := by
   rw [Int.toNat_natCast, Nat.min_eq_left hk, ← wrap_u64 hm, Int.natCast_mul, Int.natCast_pow]
   rfl
 simp only [execOp, ho, hρ _ _ hx, hρ _ _ hy, Sem.run_bind, hg, Result.andThen_ok, binOp_shl, Op.shift, if_neg hb, Sem.run_pure, IntKind.bits]
 rw [← e]
theorem bopU_and {a b : Nat} (ha : a < 18446744073709551616) (hb : b < 18446744073709551616) : bop .and .u64 (a : Int) (b : Int) = ((a &&& b : Nat) : Int) := by
 show IntKind.u64.wrap ((BitVec.ofInt 64 (a : Int) &&& BitVec.ofInt 64 (b : Int)).toNat : Int) = _
 rw [BitVec.ofInt_natCast, BitVec.ofInt_natCast, BitVec.toNat_and, BitVec.toNat_ofNat, BitVec.toNat_ofNat, Nat.mod_eq_of_lt ha, Nat.mod_eq_of_lt hb, wrap_u64 (Nat.lt_of_le_of_lt Nat.and_le_left ha)]
theorem bopU_or {a b : Nat} (ha : a < 18446744073709551616) (hb : b < 18446744073709551616) : bop .or .u64 (a : Int) (b : Int) = ((a ||| b : Nat) : Int) := by
 show IntKind.u64.wrap ((BitVec.ofInt 64 (a : Int) ||| BitVec.ofInt 64 (b : Int)).toNat : Int) = _
 rw [BitVec.ofInt_natCast, BitVec.ofInt_natCast, BitVec.toNat_or, BitVec.toNat_ofNat, BitVec.toNat_ofNat, Nat.mod_eq_of_lt ha, Nat.mod_eq_of_lt hb, wrap_u64 (Nat.or_lt_two_pow (n := 64) ha hb)]
theorem bopU_andNot {a b : Nat} (ha : a < 18446744073709551616) (_hb : b < 18446744073709551616) : ∃ c : Nat, bop .andNot .u64 (a : Int) (b : Int) = (c : Int) ∧ c < 18446744073709551616 ∧ ∀ i, c.testBit i = (a.testBit i && !b.testBit i) := by
 refine ⟨(BitVec.ofNat 64 a &&& ~~~BitVec.ofNat 64 b).toNat, ?_, BitVec.isLt _, fun i => ?_⟩
 · show IntKind.u64.wrap ((BitVec.ofInt 64 (a : Int) &&& ~~~BitVec.ofInt 64 (b : Int)).toNat : Int) = _
   rw [BitVec.ofInt_natCast, BitVec.ofInt_natCast, wrap_u64 (BitVec.isLt _)]
 · rw [BitVec.testBit_toNat, BitVec.getLsbD_and, BitVec.getLsbD_not, BitVec.getLsbD_ofNat, BitVec.getLsbD_ofNat]
   by_cases hi : i < 64
   · simp [hi]
   · have h1 : a.testBit i = false := Nat.testBit_lt_two_pow (by
       have := Nat.pow_le_pow_right (n := 2) (by decide) (show 64 ≤ i by omega)
       omega)
     simp [hi, h1]
theorem Ev.andU {t ty : Nat} {x y : Operand} {a b : Nat} (hx : ev Γ x = some (.int .u64 (a : Int))) (hy : ev Γ y = some (.int .u64 (b : Int))) (ha : a < 18446744073709551616) (hb : b < 18446744073709551616) : Ev X β Γ R H (.binOp .and t x y ty) (.int .u64 ((a &&& b : Nat) : Int)) :=
 (Ev.pure (v := .int .u64 (bop .and .u64 (a : Int) (b : Int))) (by simp [pev, hx, hy, pint])).cast (by rw [bopU_and ha hb])
theorem Ev.orU {t ty : Nat} {x y : Operand} {a b : Nat} (hx : ev Γ x = some (.int .u64 (a : Int))) (hy : ev Γ y = some (.int .u64 (b : Int))) (ha : a < 18446744073709551616) (hb : b < 18446744073709551616) : Ev X β Γ R H (.binOp .or t x y ty) (.int .u64 ((a ||| b : Nat) : Int)) :=
 (Ev.pure (v := .int .u64 (bop .or .u64 (a : Int) (b : Int))) (by simp [pev, hx, hy, pint])).cast (by rw [bopU_or ha hb])
theorem bit_and1 (m t : Nat) : ((m >>> t) &&& 1 = 1) ↔ m.testBit t = true := by
 rw [Nat.testBit, Nat.and_comm]
 simp
theorem bit_and0 (m t : Nat) : ((m >>> t) &&& 1 = 0) ↔ m.testBit t = false := by
 rw [Nat.testBit, Nat.and_comm]
 simp
theorem shr_zero {m t : Nat} : m >>> t = 0 ↔ ∀ i, t ≤ i → m.testBit i = false := by
 constructor
 · intro h i hi
   have := congrArg (fun x => x.testBit (i - t)) h
   simpa [Nat.testBit_shiftRight, Nat.add_sub_cancel' hi] using this
 · intro h
   apply Nat.eq_of_testBit_eq
   intro i
   rw [Nat.testBit_shiftRight, h _ (Nat.le_add_right _ _), Nat.zero_testBit]
end

section
variable {X : Cx} {β : Base} {n : Nat} {ds : List Deferred} {Q : Exit → Act → World → Prop} {Γ : Env} {R H : List Pr}
theorem C.scope {c : Code} (h : C X β n ds (Exit.noGoto Q) c Γ R H) : C X β n ds Q (.scope c) Γ R H := fun a w hf hs => wp_scope_straight (h a w hf hs)
theorem C.label {l : Nat} (h : QE β n ds Q .normal Γ R H) : C X β n ds Q (.label l) Γ R H := fun a w hf hs => wp_label (h a w hf hs)
theorem QE.sR (h : QE β n ds Q .ret Γ R H) : QE β n ds (Exit.noGoto Q) .ret Γ R H := h
end

section
variable {X : Cx} {β : Base} {n : Nat} {ds : List Deferred} {Q : Exit → Act → World → Prop} {Γ : Env} {R H : List Pr}
theorem Ev.neS {t ty e n c n' c' : Nat} {x y : Operand} {A : Option Addr} {i : Ti} (ht : tlook t X.tab = some i) (hd : i.desc = .slice e) (hx : ev Γ x = some (.slice A n c)) (hy : ev Γ y = some (.slice none n' c')) : Ev X β Γ R H (.binOp .neq t x y ty) (.bool A.isSome) := by
 intro ρ w hρ hw o ho
 have e1 := (X.ok _ _ ht).und
 rw [hd] at e1
 have hg : (eqGuard .neq t x y (.slice A n c) (.slice none n' c')).run X.P w = .ok () w := by unfold eqGuard; rfl
 have hr : (Op.equal t (.slice A n c) (.slice none n' c')).run X.P w = .ok A.isNone w := run_equalIn_nilS w 9999 A n c n' c' e1
 have hb : (binOp .neq t (.slice A n c) (.slice none n' c')).run X.P w = .ok (.bool A.isSome) w := by
   simp only [binOp]
   cases A <;> simp [hr]
 simp [execOp, ho, hρ _ _ hx, hρ _ _ hy, hg, hb]
theorem C.someI {c : Code} (j : Nat) {e sz m cc : Nat} {A : Option Addr} {xs : List Value} (hj : H[j]? = some (Own e sz A m cc xs)) (h : (0 < xs.length → A.isSome = true) → C X β n ds Q c Γ R H) : C X β n ds Q c Γ R H := by
 intro a w hf hs
 refine h (fun h0 => ?_) a w hf hs
 obtain ⟨g, cur, rfl, _⟩ := Own.form (hs.own j _ hj) h0
 rfl
end

/-! ### An inner slice is put where none was -/
section
variable {X : Cx} {β : Base} {n : Nat} {ds : List Deferred} {ops : Array Oper} {Q : Exit → Act → World → Prop} {Γ : Env} {R H : List Pr} {rest : List Oper}
theorem Sat.repl {w : World} {c c' : Pr} (h : Sat β w R (c :: H)) (hp : c.p w → c'.p w) (hf : ∀ k, c'.fp k → c.fp k) : Sat β w R (c' :: H) := by
 have idx : ∀ (q : Nat) (d : Pr), (c' :: H)[q]? = some d → ∃ d', (c :: H)[q]? = some d' ∧ (d'.p w → d.p w) ∧ ∀ k, d.fp k → d'.fp k := by
   intro q d hd
   match q with
   | 0 =>
     simp at hd
     subst hd
     exact ⟨c, rfl, hp, hf⟩
   | q + 1 => exact ⟨d, hd, id, fun _ h => h⟩
 refine h.put (Stp.refl w fun _ => False) (fun _ hk => hk.elim) R _ (fun r hr => .inl hr) ?_ ?_ ?_
 · intro q d hd
   obtain ⟨d', hd', h1, h2⟩ := idx q d hd
   exact ⟨h1 (h.own q _ hd'), fun k hk => ⟨(h.ofp q _ hd' k (h2 k hk)).1, .inr ⟨q, _, hd', h2 k hk⟩⟩⟩
 · intro p q x y hx hy hne k hxk hyk
   obtain ⟨x', hx', _, h2⟩ := idx p x hx
   obtain ⟨y', hy', _, h3⟩ := idx q y hy
   exact h.dis p q _ _ hx' hy' hne k (h2 k hxk) (h3 k hyk)
 · intro r hr q d hd k hrk hdk
   obtain ⟨d', hd', _, h2⟩ := idx q d hd
   exact h.sep r hr q _ hd' k hrk (h2 k hdk)
/-- The last inner slice goes to a place where none was. -/
theorem OwnKids.move {w : World} {e i : Nat} {hs : List Hd} {vss : List (List Value)} {g : Hd} {v : List Value} (hl : hs.length = vss.length) (hi : i < vss.length) (h : (OwnKids e (hs ++ [g]) (vss ++ [v])).p w) : (OwnKids e (hs.set i g) (vss.set i v)).p w := by
 have gl : (hs ++ [g])[hs.length]? = some g := by simp
 have vl : (vss ++ [v])[hs.length]? = some v := by rw [hl]; simp
 have low : ∀ {q : Nat} {x : Hd}, hs[q]? = some x → (hs ++ [g])[q]? = some x := fun {q x} hq => by
   rw [List.getElem?_append_left (List.getElem?_eq_some_iff.1 hq).1]; exact hq
 have lov : ∀ {q : Nat} {x : List Value}, vss[q]? = some x → (vss ++ [v])[q]? = some x := fun {q x} hq => by
   rw [List.getElem?_append_left (List.getElem?_eq_some_iff.1 hq).1]; exact hq
 have src : ∀ (q : Nat) (x : Hd), (hs.set i g)[q]? = some x → ∃ q', (hs ++ [g])[q']? = some x ∧ (q' = hs.length ↔ q = i) ∧ (q ≠ i → q' = q) := by
   intro q x hx
   rw [List.getElem?_set] at hx
   by_cases hq : i = q
   · rw [if_pos hq, if_pos (by omega)] at hx
     injection hx with hx
     subst hx
     exact ⟨hs.length, gl, ⟨fun _ => hq.symm, fun _ => rfl⟩, fun h => absurd hq.symm h⟩
   · rw [if_neg hq] at hx
     have := (List.getElem?_eq_some_iff.1 hx).1
     exact ⟨q, low hx, ⟨fun h => by omega, fun h => absurd h.symm hq⟩, fun _ => rfl⟩
 refine ⟨by simp [hl], fun q x y hx hy => ?_, fun a b x y hx hy hab => ?_⟩
 · rw [List.getElem?_set] at hx hy
   by_cases hq : i = q
   · rw [if_pos hq, if_pos (by omega)] at hx
     rw [if_pos hq, if_pos hi] at hy
     injection hx with hx
     injection hy with hy
     subst hx hy
     exact h.2.1 _ _ _ gl vl
   · rw [if_neg hq] at hx hy
     exact h.2.1 _ _ _ (low hx) (lov hy)
 · obtain ⟨a', ha, ha2, ha3⟩ := src a x hx
   obtain ⟨b', hb, hb2, hb3⟩ := src b y hy
   refine h.2.2 a' b' x y ha hb (fun e => ?_)
   by_cases h1 : a = i
   · exact hab (h1.trans (hb2.1 (e ▸ ha2.2 h1)).symm)
   · by_cases h2 : b = i
     · exact h1 (ha2.1 (e ▸ hb2.2 h2))
     · rw [ha3 h1, hb3 h2] at e
       exact hab e
theorem OwnKids.move_fp {e i : Nat} {hs : List Hd} {vss : List (List Value)} {g : Hd} {v : List Value} (k : Nat) (h : (OwnKids e (hs.set i g) (vss.set i v)).fp k) : (OwnKids e (hs ++ [g]) (vss ++ [v])).fp k := by
 obtain ⟨q, x, hx, hk⟩ := h
 rw [List.getElem?_set] at hx
 by_cases hq : i = q
 · rw [if_pos hq] at hx
   split at hx
   · injection hx with hx
     subst hx
     exact ⟨hs.length, g, by simp, hk⟩
   · cases hx
 · rw [if_neg hq] at hx
   exact ⟨q, x, by rw [List.getElem?_append_left (List.getElem?_eq_some_iff.1 hx).1]; exact hx, hk⟩
theorem Sat.putKid {w : World} (h : Sat β w R H) {j q e m c i : Nat} {hs : List Hd} {vss : List (List Value)} {A : Option Addr} {xs : List Value} (hj : H[j]? = some (OwnKids e hs vss)) (hq : H[q]? = some (Own e 1 A m c xs)) (hi : i < vss.length) (js : List Nat) (hn : (j :: q :: js).Nodup) :
   Sat β w R (OwnKids e (hs.set i (A, c)) (vss.set i xs) :: Sl.sel H js) := by
 have hl := (h.own j _ hj).1
 exact (h.absorb hj hq js hn).repl (OwnKids.move hl hi) (fun k hk => OwnKids.move_fp k hk)
theorem C.putKid {x : Code} (j q i : Nat) {e m c : Nat} {hs : List Hd} {vss : List (List Value)} {A : Option Addr} {xs : List Value} (hj : H[j]? = some (OwnKids e hs vss)) (hq : H[q]? = some (Own e 1 A m c xs)) (hi : i < vss.length) (js : List Nat) (hn : (j :: q :: js).Nodup)
   (h : C X β n ds Q x Γ R (OwnKids e (hs.set i (A, c)) (vss.set i xs) :: Sl.sel H js)) : C X β n ds Q x Γ R H := fun a w hf hs' => h a w hf (hs'.putKid hj hq hi js hn)
theorem L.putKid (j q i : Nat) {e m c : Nat} {hs : List Hd} {vss : List (List Value)} {A : Option Addr} {xs : List Value} (hj : H[j]? = some (OwnKids e hs vss)) (hq : H[q]? = some (Own e 1 A m c xs)) (hi : i < vss.length) (js : List Nat) (hn : (j :: q :: js).Nodup)
   (h : L X β n ds ops Q rest Γ R (OwnKids e (hs.set i (A, c)) (vss.set i xs) :: Sl.sel H js)) : L X β n ds ops Q rest Γ R H := fun a w hf hs' => h a w hf (hs'.putKid hj hq hi js hn)
theorem L.takeKid (j i : Nat) {e : Nat} {hs : List Hd} {vss : List (List Value)} (hj : H[j]? = some (OwnKids e hs vss)) (hi : i < vss.length) (js : List Nat) (hn : (j :: js).Nodup)
   (h : L X β n ds ops Q rest Γ R (Own e 1 (hs.getD i (none, 0)).1 (vss.getD i []).length (hs.getD i (none, 0)).2 (vss.getD i []) :: OwnKids e (hs.set i (none, 0)) (vss.set i []) :: Sl.sel H js)) : L X β n ds ops Q rest Γ R H :=
 fun a w hf hs' => h a w hf (hs'.takeKid hj hi js hn)
end

section
variable {X : Cx} {β : Base} {n : Nat} {ds : List Deferred} {ops : Array Oper} {Q : Exit → Act → World → Prop} {Γ : Env} {R H : List Pr} {rest : List Oper}
/-- make([]T, 0, m) -/
theorem L.make0 {d t e ty m : Nat} {pos : String} {af : Array Edge} {x y : Operand} {kl kc : IntKind} {i ei : Ti} (ht : tlook t X.tab = some i) (hdesc : i.desc = .slice e) (he : tlook e X.tab = some ei)
   (hx : ev Γ x = some (.int kl 0)) (hy : ev Γ y = some (.int kc (m : Int))) (hb : ei.bytes * m ≤ 281474976710656) (hm : m ≤ 9223372036854775807) (hd : Nat.blt d n = true)
   (k : ∀ A, L X β n ds ops Q rest ((d, .slice A 0 m) :: Γ) R (H ++ [Own e ei.size A 0 m []])) : L X β n ds ops Q (⟨some d, .makeSlice t x y, ty, pos, af, none⟩ :: rest) Γ R H := by
 intro a w hf hs
 refine wpList_plain rfl fun K hK => ?_
 unfold Oper.wp
 obtain ⟨e1, _⟩ := X.ok _ _ ht
 rw [hdesc] at e1
 obtain ⟨_, j, hj, h1, h2, h3⟩ := X.ok _ _ he
 have hr := run_make (P := X.P) w t e j ei.zero e1 hj h3 kl kc 0 (m : Int) (Int.le_refl _) (by omega) (by
   rw [h2]
   have : ((ei.bytes * m : Nat) : Int) ≤ 281474976710656 := by omega
   rwa [Int.natCast_mul] at this) (by omega)
 have hop : (execOp a.eval ⟨some d, .makeSlice t x y, ty, pos, af, none⟩).run X.P w = .ok (.value (.slice (some ⟨w.heap.size, 0, none⟩) 0 m)) (w.alloc (.cells (madeCells ei.zero.cells (m * j.size)) e)) := by
   simp only [Int.toNat_natCast, Int.toNat_zero] at hr
   simp only [execOp, hf.agree _ _ hx, hf.agree _ _ hy, Sem.run_bind, hr, Result.andThen_ok, Sem.run_pure]
 rw [hop]
 refine hK _ _ (k (some ⟨w.heap.size, 0, none⟩) _ _ (hf.put (by simpa [Nat.blt_eq] using hd) _) ?_)
 refine hs.snoc (Stp.alloc w _ fun _ => False) (fun _ h _ => h) _ ⟨by simp, .inr ⟨w.heap.size, m, madeCells ei.zero.cells (m * j.size), rfl, Nat.zero_le _, ?_, Nat.zero_le _, by unfold maxLen; omega, ?_, by simp⟩⟩ ?_
 · exact heap_alloc_new w _
 · simp [madeCells, h1]
 · intro k hk
   have := own_fp hk
   subst this
   exact ⟨by simp, Nat.le_refl _⟩
/-- A method of one of some types. -/
theorem L.callM {d ty t : Nat} {pos : String} {af : Array Edge} {r : Operand} {as : List Operand} {tys : Array TypeId} {name : String} {v : Value} {args : List Value} {Rf Hf Hr : List Pr} {js js' : List Nat} {Φ : Value → List Pr → List Pr → Prop}
   (hm : ∃ f, (∀ w, (method (X.P.types.size + Made.depth) t v name).run X.P w = .ok (f, v) w) ∧ Ctr X f (v :: args) Rf Hf Φ)
   (hr : ev Γ r = some (.iface t v)) (ha : evs Γ as = some args) (hj : sel H js = Hf) (hj' : sel H js' = Hr) (hn : (js ++ js').Nodup) (hR : Hass R Hr Rf) (hd : Nat.blt d n = true)
   (k : ∀ v R' H', Φ v R' H' → L X β n ds ops Q rest ((d, v) :: Γ) R (H' ++ Hr)) : L X β n ds ops Q (⟨some d, .call ⟨.invoke r name, List.toArray as, tys⟩, ty, pos, af, none⟩ :: rest) Γ R H := by
 obtain ⟨f, h1, h2⟩ := hm
 exact L.callI h2 hr h1 ha hj hj' hn hR hd k
end

section
variable {X : Cx} {β : Base} {n : Nat} {ds : List Deferred} {ops : Array Oper} {Q : Exit → Act → World → Prop} {Γ : Env} {R H : List Pr} {rest : List Oper}
theorem fold_putS : ∀ (cs : List Value) (k : Nat) (Z : Array Value), k + cs.length ≤ Z.size → ((cs.zipIdx k).foldl (fun (q : Array Value) (x : Value × Nat) => q.setIfInBounds x.2 x.1) Z).toList = Z.toList.take k ++ cs ++ Z.toList.drop (k + cs.length)
 | [], k, Z, _ => by simp
 | c :: cs, k, Z, h => by
   simp only [List.length_cons] at h
   simp only [List.zipIdx_cons, List.foldl_cons]
   rw [fold_putS cs (k + 1) (Z.setIfInBounds k c) (by simp; omega)]
   have hk : k < Z.toList.length := by simp; omega
   rw [Array.toList_setIfInBounds, List.take_set, List.drop_set]
   have e1 : ¬ (k + 1 + cs.length ≤ k) := by omega
   have e2 : (Z.toList.take (k + 1)).set k c = Z.toList.take k ++ [c] := by
     rw [List.take_succ_eq_append_getElem hk, List.set_append_right _ _ (by simp; omega)]
     have hk2 : k < Z.size := by simpa using hk
     simp [Nat.min_eq_left (Nat.le_of_lt hk2)]
   simp only [e2, List.length_cons]
   rw [show k + (cs.length + 1) = k + 1 + cs.length from by omega]
   simp
   omega
theorem fold_allS (cs : List Value) (Z : Array Value) (h : Z.size = cs.length) : (cs.zipIdx).foldl (fun (q : Array Value) (x : Value × Nat) => q.setIfInBounds x.2 x.1) Z = List.toArray cs := by
 apply Array.ext'
 rw [fold_putS cs 0 Z (by omega)]
 simp [← h]
theorem L.lit1S {d t e ty : Nat} {pos : String} {af : Array Edge} {x : Operand} {cs : List Value} {i ei : Ti} (ht : tlook t X.tab = some i) (hdesc : i.desc = .slice e) (he : tlook e X.tab = some ei) (hsz : ei.size = cs.length) (hpos : 0 < cs.length) (hsmall : Nat.ble cs.length 1000 = true)
   (hx : ev Γ x = some (.agg (List.toArray cs))) (hd : Nat.blt d n = true) (k : ∀ A, L X β n ds ops Q rest ((d, .slice A 1 1) :: Γ) R (H ++ [Own e cs.length A 1 1 cs])) : L X β n ds ops Q (⟨some d, .buildSlice t 1 #[(0, x)], ty, pos, af, none⟩ :: rest) Γ R H := by
 have hsm : cs.length ≤ 1000 := by simpa using hsmall
 refine L.mk hd e cs.length 1 cs one_le_maxLen (by simp) (fun A => .slice A 1 1) ?_ k
 intro ρ w hρ hs o ho
 obtain ⟨e1, _⟩ := X.ok _ _ ht
 rw [hdesc] at e1
 have hS := run_sizeOf' (P := X.P) w (X.ok _ _ he)
 obtain ⟨_, j, hj, h1, h2, h3⟩ := X.ok _ _ he
 have hz : (zeroValue e).run X.P w = .ok ei.zero w := by simp [zeroValue, typeInfo, hj, h3]
 have hbig : ¬ (1 * cs.length > 2 ^ 24) := by omega
 have hz1 : ¬ (1 * cs.length = 0) := by omega
 have hf : Instr.fill (fun i => some (i * cs.length, cs.length)) ((Array.range (1 * cs.length)).map (ei.zero.cells[· % ei.zero.cells.size]!)) [(0, .agg (List.toArray cs))] = some (List.toArray cs) := by
   have hsz : ((Array.range (1 * cs.length)).map (ei.zero.cells[· % ei.zero.cells.size]!)).size = cs.length := by simp
   generalize (Array.range (1 * cs.length)).map (ei.zero.cells[· % ei.zero.cells.size]!) = Z at hsz
   have := fold_allS cs Z hsz
   simp [Instr.fill, Value.cells, hsz, this]
 have hp : (#[(0, x)] : Array (Nat × Operand)).map (fun (i, x) => (i, ρ x)) = #[(0, .agg (List.toArray cs))] := by simp [hρ _ _ hx]
 simp only [execOp, ho, Instr.buildSlice, Sem.run_bind, run_underlying e1, Result.andThen_ok, hS, hsz, if_neg hbig, if_neg hz1, hz, Sem.run_pure, hp, hf]
 simp [newRow]
theorem L.lit2S {d t e ty sz : Nat} {pos : String} {af : Array Edge} {x y : Operand} {cs cs' : List Value} {i ei : Ti} (ht : tlook t X.tab = some i) (hdesc : i.desc = .slice e) (he : tlook e X.tab = some ei) (hsz : ei.size = sz) (h1 : cs.length = sz) (h2 : cs'.length = sz) (hpos : 0 < sz) (hsmall : Nat.ble sz 1000 = true)
   (hx : ev Γ x = some (.agg (List.toArray cs))) (hy : ev Γ y = some (.agg (List.toArray cs'))) (hd : Nat.blt d n = true) (k : ∀ A, L X β n ds ops Q rest ((d, .slice A 2 2) :: Γ) R (H ++ [Own e sz A 2 2 (cs ++ cs')])) :
   L X β n ds ops Q (⟨some d, .buildSlice t 2 #[(0, x), (1, y)], ty, pos, af, none⟩ :: rest) Γ R H := by
 have hsm : sz ≤ 1000 := by simpa using hsmall
 refine L.mk hd e sz 2 (cs ++ cs') (by unfold maxLen; omega) (by rw [List.length_append]; omega) (fun A => .slice A 2 2) ?_ k
 intro ρ w hρ hs o ho
 obtain ⟨e1, _⟩ := X.ok _ _ ht
 rw [hdesc] at e1
 have hS := run_sizeOf' (P := X.P) w (X.ok _ _ he)
 obtain ⟨_, j, hj, q1, q2, q3⟩ := X.ok _ _ he
 have hz : (zeroValue e).run X.P w = .ok ei.zero w := by simp [zeroValue, typeInfo, hj, q3]
 have hbig : ¬ (2 * sz > 2 ^ 24) := by omega
 have hz1 : ¬ (2 * sz = 0) := by omega
 have hf : Instr.fill (fun i => some (i * sz, sz)) ((Array.range (2 * sz)).map (ei.zero.cells[· % ei.zero.cells.size]!)) [(0, .agg (List.toArray cs)), (1, .agg (List.toArray cs'))] = some (List.toArray (cs ++ cs')) := by
   have hZ : ((Array.range (2 * sz)).map (ei.zero.cells[· % ei.zero.cells.size]!)).toList.length = 2 * sz := by simp
   generalize (Array.range (2 * sz)).map (ei.zero.cells[· % ei.zero.cells.size]!) = Z at hZ
   rw [show Z = List.toArray Z.toList from by simp]
   refine bfill_ok _ _ _ ?_
   obtain ⟨ls, hls⟩ : ∃ ls, ls = Z.toList := ⟨_, rfl⟩
   rw [← hls] at hZ ⊢
   simp [bfill, putCells, h1, h2, hZ]
   refine ⟨by omega, by omega, ?_⟩
   omega
 have hp : (#[(0, x), (1, y)] : Array (Nat × Operand)).map (fun (i, x) => (i, ρ x)) = #[(0, .agg (List.toArray cs)), (1, .agg (List.toArray cs'))] := by simp [hρ _ _ hx, hρ _ _ hy]
 simp only [execOp, ho, Instr.buildSlice, Sem.run_bind, run_underlying e1, Result.andThen_ok, hS, hsz, if_neg hbig, if_neg hz1, hz, Sem.run_pure, hp, hf]
 simp [newRow]
end
end Go.Sl
end
/-
  Flashes as plain data, and how they lie in memory.
-/
section
namespace Go.Sl

structure Fl where
 size : Nat
 data : List (List UInt8)
 wear : List Int
 limit : Int
 dead : List Bool
 deriving DecidableEq

/-- Where its parts lie. -/
structure Fa where
 D : Option Addr
 cD : Nat
 hs : List Hd
 W : Option Addr
 cW : Nat
 E : Option Addr
 cE : Nat

structure Fl.Ok (f : Fl) : Prop where
 s1 : 1 ≤ f.size
 s2 : f.size ≤ 4096
 n1 : 1 ≤ f.data.length
 n2 : f.data.length ≤ 64
 wl : f.wear.length = f.data.length
 dl : f.dead.length = f.data.length
 rows : ∀ i, i < f.data.length → (f.data.getD i []).length = f.size
 l1 : 1 ≤ f.limit
 l2 : f.limit ≤ 100000
 wear : ∀ i, i < f.data.length → 0 ≤ f.wear.getD i 0 ∧ f.wear.getD i 0 ≤ f.limit

structure Fl.Sm (f : Fl) : Prop where
 n : f.data.length ≤ 1000000
 w : f.wear.length ≤ 1000000
 d : f.dead.length ≤ 1000000
 r : ∀ i, (f.data.getD i []).length ≤ 1000000
theorem getD_ge {α : Type} {l : List α} {i : Nat} {d : α} (h : l.length ≤ i) : l.getD i d = d := by simp [h]
theorem ext_getD {α : Type} {l m : List α} {d : α} (h : l.length = m.length) (he : ∀ i, i < l.length → l.getD i d = m.getD i d) : l = m := by
 refine List.ext_getElem h fun i h1 h2 => ?_
 have := he i h1
 simpa [List.getD_eq_getElem?_getD, h1, h2] using this

theorem rows8_app {hs : List Hd} {ls : List (List UInt8)} (h : hs.length = ls.length) (g : Hd) (l : List UInt8) : rowsV hs (B8 ls) ++ [.slice g.1 l.length g.2] = rowsV (hs ++ [g]) (B8 (ls ++ [l])) := by
 have := rowsV_app (hs := hs) (vss := B8 ls) (by rw [B8_len]; exact h) g (U8 l)
 rw [U8_len] at this
 rw [this, ← B8_app]
 rfl
theorem B8_snoc (ls : List (List UInt8)) (l : List UInt8) : B8 ls ++ [U8 l] = B8 (ls ++ [l]) := by simp [B8]
theorem Bs_rep (m : Nat) (x : Bool) : List.replicate m (Value.bool x) = Bs (List.replicate m x) := by simp [Bs]
theorem own_eq {e sz n n' c : Nat} {A : Option Addr} {xs ys : List Value} (hn : n = n') (h : xs = ys) : Own e sz A n c xs = Own e sz A n' c ys := by rw [h, hn]
theorem getD_rep {α : Type} (m i : Nat) (x d : α) (h : i < m) : (List.replicate m x).getD i d = x := by simp [h]

/-! ### Operations -/
structure Fo where
 kind : Int
 sec : Int
 at_ : Int
 data : List UInt8
 deriving DecidableEq

section
variable {f : Fl} {x : Fo}
end

theorem getD_set_eq {α : Type} {l : List α} {i : Nat} (h : i < l.length) (x d : α) : (l.set i x).getD i d = x := by simp [List.getD_eq_getElem?_getD, h]
theorem getD_set_ne {α : Type} {l : List α} {i j : Nat} (h : i ≠ j) (x d : α) : (l.set i x).getD j d = l.getD j d := by simp [List.getD_eq_getElem?_getD, h]
theorem map_range_getD {α : Type} {g : Nat → α} {n i : Nat} (h : i < n) (d : α) : ((List.range n).map g).getD i d = g i := by simp [List.getD_eq_getElem?_getD, h]

/-! ### What an operation asks for -/
/-! ### The flash after an operation -/
end Go.Sl
end
/-
  Readings of sectors, as plain data.
-/
section
namespace Go.Sl

/-! ### Rows of numbers -/
def J8 (ls : List (List Int)) : List (List Value) := ls.map I64
theorem J8_len (ls : List (List Int)) : (J8 ls).length = ls.length := by simp [J8]
theorem J8_get {ls : List (List Int)} (i : Nat) : (J8 ls).getD i [] = I64 (ls.getD i []) := by
 simp only [J8, List.getD_eq_getElem?_getD, List.getElem?_map]
 cases ls[i]? <;> rfl
theorem J8_snoc (ls : List (List Int)) (l : List Int) : J8 ls ++ [I64 l] = J8 (ls ++ [l]) := by simp [J8]
theorem rowsJ_get {hs : List Hd} {ls : List (List Int)} (h : hs.length = ls.length) {i : Nat} (hi : i < ls.length) : (rowsV hs (J8 ls))[i]? = some (.slice (hs.getD i (none, 0)).1 (ls.getD i []).length (hs.getD i (none, 0)).2) := by
 simp [rowsV, J8, hi, h, I64_len]
theorem rowsJ_app {hs : List Hd} {ls : List (List Int)} (h : hs.length = ls.length) (g : Hd) (l : List Int) : rowsV hs (J8 ls) ++ [.slice g.1 l.length g.2] = rowsV (hs ++ [g]) (J8 (ls ++ [l])) := by
 have := rowsV_app (hs := hs) (vss := J8 ls) (by rw [J8_len]; exact h) g (I64 l)
 rw [I64_len] at this
 rw [this, J8_snoc]
/-! ### Numbers and lists of them -/
theorem all_step {p : Nat → Prop} {k : Nat} (h : ∀ i, i < k → p i) (hk : p k) : ∀ i, i < k + 1 → p i := by
 intro i hi
 rcases Nat.lt_succ_iff_lt_or_eq.1 hi with h1 | rfl
 · exact h i h1
 · exact hk
theorem all_zero {p : Nat → Prop} : ∀ i, i < 0 → p i := fun _ h => absurd h (Nat.not_lt_zero _)
def cmpI (a b : Int) : Int := if a < b then -1 else if b < a then 1 else 0
theorem has_yes {l : List Int} {k : Nat} {n : Int} (hk : k < l.length) (h : l.getD k 0 = n) : l.contains n = true := by
 subst h
 rw [List.contains_iff_mem]
 simp only [List.getD_eq_getElem?_getD, List.getElem?_eq_getElem hk, Option.getD_some]
 exact List.getElem_mem hk
theorem has_no {l : List Int} {n : Int} (h : ∀ i, i < l.length → l.getD i 0 ≠ n) : l.contains n = false := by
 cases hc : l.contains n with
 | false => rfl
 | true =>
   obtain ⟨i, hi, e⟩ := List.mem_iff_getElem.1 (List.contains_iff_mem.1 hc)
   exact absurd (by simp [List.getD_eq_getElem?_getD, hi, e]) (h i hi)
def cmpL : List Int → List Int → Int
 | [], [] => 0
 | [], _ :: _ => -1
 | _ :: _, [] => 1
 | x :: xs, y :: ys => if cmpI x y = 0 then cmpL xs ys else cmpI x y
theorem cmpI_zero {x y : Int} : cmpI x y = 0 ↔ x = y := by
 unfold cmpI
 split
 · omega
 · split <;> omega
theorem drop_cons {l : List Int} {k : Nat} (h : k < l.length) : l.drop k = l.getD k 0 :: l.drop (k + 1) := by
 rw [List.drop_eq_getElem_cons h]
 simp [List.getD_eq_getElem?_getD, h]
theorem cmpL_step {a b : List Int} {k : Nat} (ha : k < a.length) (hb : k < b.length) : cmpL (a.drop k) (b.drop k) = if cmpI (a.getD k 0) (b.getD k 0) = 0 then cmpL (a.drop (k + 1)) (b.drop (k + 1)) else cmpI (a.getD k 0) (b.getD k 0) := by
 rw [drop_cons ha, drop_cons hb]
 rfl
theorem cmpL_gt {a b : List Int} {k : Nat} (ha : k < a.length) (hb : b.length ≤ k) : cmpL (a.drop k) (b.drop k) = 1 := by
 rw [drop_cons ha, List.drop_eq_nil_of_le hb]
 rfl
theorem cmpL_lt {a b : List Int} {k : Nat} (ha : a.length ≤ k) (hb : k < b.length) : cmpL (a.drop k) (b.drop k) = -1 := by
 rw [List.drop_eq_nil_of_le ha, drop_cons hb]
 rfl
theorem cmpL_eq {a b : List Int} {k : Nat} (ha : a.length ≤ k) (hb : b.length ≤ k) : cmpL (a.drop k) (b.drop k) = 0 := by
 rw [List.drop_eq_nil_of_le ha, List.drop_eq_nil_of_le hb]
 rfl
/-! ### Readings -/
def NotRd (n u : Nat) (row : List Int) (i : Nat) : Prop := row.getD i 0 < 0 ∨ (n : Int) ≤ row.getD i 0 ∨ row.getD i 0 = (u : Int) ∨ (0 < i ∧ row.getD i 0 ≤ row.getD (i - 1) 0)
instance (n u : Nat) (row : List Int) (i : Nat) : Decidable (NotRd n u row i) := by unfold NotRd; infer_instance
def rdRow (n u : Nat) (row : List Int) : Bool := (List.range row.length).all fun i => decide ¬NotRd n u row i
def readB (ls : List (List Int)) : Bool := (List.range ls.length).all fun u => rdRow ls.length u (ls.getD u [])
theorem rdRow_yes {n u : Nat} {row : List Int} (h : ∀ i, i < row.length → ¬NotRd n u row i) : rdRow n u row = true := by
 simp only [rdRow, List.all_eq_true, List.mem_range, decide_eq_true_eq]
 exact h
theorem rdRow_get {n u : Nat} {row : List Int} (h : rdRow n u row = true) {i : Nat} (hi : i < row.length) : ¬NotRd n u row i := by
 simp only [rdRow, List.all_eq_true, List.mem_range, decide_eq_true_eq] at h
 exact h i hi
theorem rdRow_no {n u i : Nat} {row : List Int} (hi : i < row.length) (h : NotRd n u row i) : rdRow n u row = false := by
 cases hc : rdRow n u row with
 | false => rfl
 | true => exact absurd h (rdRow_get hc hi)
theorem readB_yes {ls : List (List Int)} (h : ∀ u, u < ls.length → rdRow ls.length u (ls.getD u []) = true) : readB ls = true := by
 simp only [readB, List.all_eq_true, List.mem_range]
 exact h
theorem readB_get {ls : List (List Int)} (h : readB ls = true) {u : Nat} (hu : u < ls.length) : rdRow ls.length u (ls.getD u []) = true := by
 simp only [readB, List.all_eq_true, List.mem_range] at h
 exact h u hu
theorem readB_no {ls : List (List Int)} {u : Nat} (hu : u < ls.length) (h : rdRow ls.length u (ls.getD u []) = false) : readB ls = false := by
 cases hc : readB ls with
 | false => rfl
 | true => rw [readB_get hc hu] at h; cases h
/-- The number ahead of a place of a row. -/
def prevI (row : List Int) (j : Nat) : Int := if j = 0 then -1 else row.getD (j - 1) 0
theorem not_rd {n u j : Nat} {row : List Int} (h : ∀ i, i < j → ¬NotRd n u row i) : NotRd n u row j ↔ row.getD j 0 ≤ prevI row j ∨ (n : Int) ≤ row.getD j 0 ∨ row.getD j 0 = (u : Int) := by
 unfold NotRd prevI
 by_cases hj : j = 0
 · subst hj
   rw [if_pos rfl]
   omega
 · have h1 := h (j - 1) (by omega)
   unfold NotRd at h1
   rw [if_neg hj]
   omega
end Go.Sl
end
