/-
  Who reads whom in a patch, as plain data.
-/
import Derived.Lib.Overlaps
import Derived.Lib.AppendZeros
import Derived.Lib.BytesEntry
import Derived.Laws.StructEq
import Derived.Test.YtbkmahjhhncfcaaGreatQPl
import Derived.Test.YtbkmahjhhncfcaaGreatQSlV
import Derived.Test.YtbkmahjhhncfcaaGreatQMh
import Derived.Test.YtbkmahjhhncfcaaGreatQSlI
section
namespace Go.Sl

def Srt (x : List Int) : Prop := ∀ i j, i < j → j < x.length → x.getD i 0 < x.getD j 0
theorem Srt.snoc {x : List Int} {t : Int} (h : Srt x) (ht : ∀ q, q < x.length → x.getD q 0 < t) : Srt (x ++ [t]) := by
 intro i j hij hj
 rw [List.length_append] at hj
 have lo : ∀ q, q < x.length → (x ++ [t]).getD q 0 = x.getD q 0 := fun q hq => by simp only [List.getD_eq_getElem?_getD, List.getElem?_append_left hq]
 have hi : (x ++ [t]).getD x.length 0 = t := by simp [List.getD_eq_getElem?_getD]
 have hj' : j < x.length + 1 := hj
 by_cases hq : j < x.length
 · rw [lo i (by omega), lo j hq]
   exact h i j hij hq
 · obtain rfl : j = x.length := by omega
   rw [lo i hij, hi]
   exact ht i hij
/-! ### The readings of a patch -/
section
variable {ch : List Bool} {S n k : Nat} {l : List Sy}
end
section
variable {X : Cx} {β : Base} {n : Nat} {ds : List Deferred} {Q : Exit → Act → World → Prop} {Γ : Env} {R H : List Pr}
end
section
variable {lf : Bool} {inn out size : Int} {ops : List Po}
end
end Go.Sl
end
/-
  Right orders, as plain data.
-/
section
namespace Go.Sl

def atL (n : Nat) (seq : List Int) : Nat → List Int
 | 0 => List.replicate n (-1)
 | i + 1 => (atL n seq i).set (seq.getD i 0).toNat (i : Int)
def badS (n : Nat) (seq : List Int) (i : Nat) : Prop := seq.getD i 0 < 0 ∨ (n : Int) ≤ seq.getD i 0 ∨ 0 ≤ (atL n seq i).getD (seq.getD i 0).toNat 0
instance (n : Nat) (seq : List Int) (i : Nat) : Decidable (badS n seq i) := by unfold badS; infer_instance
end Go.Sl
end
/-
  Images made of parts of an old one and other bytes.
-/
section
namespace Go.Sl

structure Mx where
 out : List UInt8
 n0 : Nat
 n1 : Nat
 n2 : Nat
 oth : Bool
end Go.Sl
end
/-
  Shifts of a small number.
-/
section
namespace Go.Sl

section
variable {X : Cx} {β : Base} {Γ : Env} {R H : List Pr}
theorem Ev.shl8W {t ty : Nat} {x y : Operand} {yk : IntKind} {m k : Nat} (hx : ev Γ x = some (.int .u8 (m : Int))) (hy : ev Γ y = some (.int yk (k : Int))) (hk : k ≤ 8) (hm : m * 2 ^ k < 256) : Ev X β Γ R H (.binOp .shl t x y ty) (.int .u8 ((m * 2 ^ k : Nat) : Int)) := by
 intro ρ w hρ hw o ho
 have hg : (eqGuard .shl t x y (.int .u8 (m : Int)) (.int yk (k : Int))).run X.P w = .ok () w := by unfold eqGuard; rfl
 have hb : ¬ (k : Int) < 0 := by omega
 have e : IntKind.u8.wrap ((m : Int) * 2 ^ min (k : Int).toNat 8) = ((m * 2 ^ k : Nat) : Int) := by
   rw [Int.toNat_natCast, Nat.min_eq_left hk, wrap_u8, show (m : Int) * 2 ^ k = ((m * 2 ^ k : Nat) : Int) by rw [Int.natCast_mul, Int.natCast_pow]; rfl]
   omega
 simp only [execOp, ho, hρ _ _ hx, hρ _ _ hy, Sem.run_bind, hg, Result.andThen_ok, binOp_shl, Op.shift, if_neg hb, Sem.run_pure, IntKind.bits]
 rw [← e]
end
end Go.Sl
end
/-
  slices.Insert in the middle: room behind a slice, append of a made slice, slices.overlaps.
-/
section
namespace Go.Sl

section
variable {X : Cx} {β : Base} {n : Nat} {ds : List Deferred} {ops : Array Oper} {Q : Exit → Act → World → Prop} {rest : List Oper} {Γ : Env} {R H : List Pr}
theorem Ev.capS {t e : Nat} {i : Ti} {x : Operand} {A : Option Addr} {m c : Nat} (ht : tlook t X.tab = some i) (hd : i.desc = .slice e) (hx : ev Γ x = some (.slice A m c)) : Ev X β Γ R H (.call ⟨.builtin .cap, #[x], #[t]⟩) (.int .i64 (c : Int)) := by
 intro ρ w hρ hw o ho
 have e1 := (X.ok _ _ ht).und
 rw [hd] at e1
 simp [execOp, ho, resolve, invoke, builtin, hρ _ _ hx, Builtin.cap_, run_underlying e1]
 rfl
theorem Own.spare {w : World} {e m c : Nat} {A : Option Addr} {xs : List Value} (h : (Own e 1 A m c xs).p w) (hc : m + 1 ≤ c) : ∃ u, (Own e 1 A (m + 1) c (xs ++ [u])).p w := by
 rcases h.2 with ⟨hv, _⟩ | ⟨g, cap, cur, hv, hb, hh, h3, h4, h5, h6⟩
 · injection hv with _ _ h9
   omega
 · injection hv with h7 h8 h9
   subst h7 h9
   rw [Nat.mul_one] at h5 h6
   have hm : m < cur.toList.length := by rw [Array.length_toList]; omega
   refine ⟨cur.toList[m], by have := h.1; rw [List.length_append, this]; rfl, .inr ⟨g, c, cur, rfl, hb, hh, hc, h4, by omega, ?_⟩⟩
   rw [Nat.mul_one, List.take_succ_eq_append_getElem hm, h6]
/-- One place more of the room behind a slice. -/
theorem C.spare {x : Code} {e m c : Nat} {A : Option Addr} {xs : List Value} {H' : List Pr} (hc : m + 1 ≤ c) (h : ∀ u, C X β n ds Q x Γ R (Own e 1 A (m + 1) c (xs ++ [u]) :: H')) : C X β n ds Q x Γ R (Own e 1 A m c xs :: H') := by
 intro a w hf hs
 obtain ⟨u, hu⟩ := Own.spare (hs.own 0 _ rfl) hc
 exact h u a w hf (hs.repl (fun _ => hu) (fun k hk => hk))

theorem run_append_growZ {P : Program} (w : World) (t tn ty e : TypeId) (i : TypeInfo) (z : Value) (k kn : IntKind) (ht : P.underlying t = some (.slice e)) (htn : P.underlying tn = some (.int kn)) (hi : P.info? e = some i) (hz : i.zero = some z)
   (b : Addr) (sLen sCap : Nat) (olds : List Value) (hlo : olds.length = sLen * i.size) (holds : ∀ j v, olds[j]? = some v → w.cell? (b.add j) = some v)
   (q : Nat) (h0 : 0 < q) (hs : 0 < i.size) (hg : sCap < sLen + q) (h63 : ((sLen + q : Nat) : Int) ≤ 9223372036854775807) (h48 : q * i.bytes ≤ 281474976710656) (hfit : Builtin.nextslicecap (sLen + q) sCap * i.bytes ≤ 281474976710656) :
   (Builtin.append_ #[t, tn] ty #[.slice (some b) sLen sCap, .int k q]).run P w =
     .ok (.slice (some ⟨w.heap.size, 0, none⟩) (sLen + q) (grownCap w (sLen + q) sCap e))
       (w.drew.alloc (.cells (olds.toArray ++ Builtin.zeroCells z.cells q ++ Builtin.zeroCells z.cells (grownCap w (sLen + q) sCap e - (sLen + q))) e)) := by
 have hn : ¬ (sLen + q ≤ sCap) := by omega
 have hw : IntKind.i64.wrap (q : Int) = q := by rw [IntKind.wrap_i64]; omega
 have h63' : ¬ (9223372036854775807 < ((sLen : Int) + (q : Int))) := by omega
 have h48' : ¬ (281474976710656 < Builtin.nextslicecap (sLen + q) sCap * i.bytes) := by omega
 have h48i : ¬ (281474976710656 < (q : Int) * (i.bytes : Int)) := by
   rw [← Int.natCast_mul]
   omega
 have hneg : ¬ ((q : Int) < 0) := by omega
 have hns : ¬ (q * i.size = 0) := Nat.mul_ne_zero (by omega) (by omega)
 have hfo := run_firstCells_some (P := P) w.drew i.size sLen b sLen sCap olds hlo (by simpa using holds)
 simp [Builtin.append_, run_underlying ht, run_underlying htn, sizeOf, typeInfo, zeroValue, hi, hz, asInt, asIntOf, hw, hn, hneg, hns, h63', h48', h48i, Question.forced, hfo, newRow, grownCap]
theorem zeroCells_list {z : Value} (h : z.cells = #[z]) (q : Nat) : (Builtin.zeroCells z.cells q).toList = List.replicate q z := by
 rw [h]
 refine List.ext_getElem (by simp [Builtin.zeroCells]) fun i h1 h2 => ?_
 simp [Builtin.zeroCells, Nat.mod_one]
/-- append(s[:p], make([]T, q)...) where there is no room: a new row; the old one stays. -/
theorem L.appendZ {d t tn e ty j m c p q : Nat} {pos : String} {af : Array Edge} {x y : Operand} {A : Option Addr} {xs : List Value} {i ei it : Ti} {kn kq : IntKind} {z : Value} (ht : tlook t X.tab = some i) (hdesc : i.desc = .slice e) (he : tlook e X.tab = some ei) (hsz : ei.size = 1) (hz : ei.zero = z) (hzc : z.cells = #[z])
   (htn : tlook tn X.tab = some it) (hit : it.desc = .int kn) (hx : ev Γ x = some (.slice A p c)) (hy : ev Γ y = some (.int kq (q : Int))) (hj : H[j]? = some (Own e 1 A m c xs)) (hpm : p ≤ m) (hp0 : 0 < xs.length) (hq : 0 < q) (hg : c < p + q)
   (hml : p + q ≤ 9223372036854775807) (hb : (p + q) * ei.bytes ≤ 140737488355328) (hd : Nat.blt d n = true)
   (k : ∀ A' c', L X β n ds ops Q rest ((d, .slice A' (p + q) c') :: Γ) R (H ++ [Own e 1 A' (p + q) c' (xs.take p ++ List.replicate q z)])) :
   L X β n ds ops Q (⟨some d, .call ⟨.builtin .append, #[x, y], #[t, tn]⟩, ty, pos, af, none⟩ :: rest) Γ R H := by
 intro a w hf hsat
 refine wpList_plain rfl fun K hK => ?_
 obtain ⟨e1, _⟩ := X.ok _ _ ht
 rw [hdesc] at e1
 obtain ⟨e2, _⟩ := X.ok _ _ htn
 rw [hit] at e2
 obtain ⟨_, jf, hjf, g1, g2, g3⟩ := X.ok _ _ he
 have hown := hsat.own j _ hj
 have hlen := Own.len hown
 rw [Nat.mul_one] at hlen
 obtain ⟨g, cur, rfl, hgr, hmc, hcm, hcs, htake⟩ := Own.form hown hp0
 have hfit : Builtin.nextslicecap (p + q) c * jf.bytes ≤ 281474976710656 := by
   have h1 := nextslicecap_le hg
   have h2 := Nat.mul_le_mul_right jf.bytes h1
   rw [g2] at h2 ⊢
   have h3 : 2 * (p + q) * ei.bytes = 2 * ((p + q) * ei.bytes) := Nat.mul_assoc _ _ _
   omega
 have hqb : q * jf.bytes ≤ 281474976710656 := by
   have := Nat.mul_le_mul_right ei.bytes (Nat.le_add_left q p)
   rw [g2]
   omega
 have hrun := run_append_growZ (P := X.P) w t tn ty e jf ei.zero kq kn e1 e2 hjf g3 ⟨g, 0, none⟩ p c (xs.take p) (by rw [g1, hsz, List.length_take]; omega) (fun r u hu => by
   have hr : r < p := by
     have := (List.getElem?_eq_some_iff.1 hu).1
     rw [List.length_take] at this
     omega
   rw [List.getElem?_take, if_pos hr] at hu
   obtain ⟨g', hA, hc, _⟩ := Own.cell hown hu
   injection hA with hA
   injection hA with hA
   subst hA
   rw [adz]
   exact hc) q hq (by rw [g1, hsz]; decide) hg (by omega) hqb hfit
 have hrun' : (execOp a.eval ⟨some d, .call ⟨.builtin .append, #[x, y], #[t, tn]⟩, ty, pos, af, none⟩).run X.P w = .ok (.value (.slice (some ⟨w.heap.size, 0, none⟩) (p + q) (grownCap w (p + q) c e))) (w.drew.alloc (.cells ((xs.take p).toArray ++ Builtin.zeroCells ei.zero.cells q ++ Builtin.zeroCells ei.zero.cells (grownCap w (p + q) c e - (p + q))) e)) := by
   simp only [execOp, resolve, invoke, builtin, Sem.run_bind, Sem.run_pure, Result.andThen_ok, List.map_toArray, List.map_cons, List.map_nil, hf.eval hx, hf.eval hy, hrun]
 unfold Oper.wp
 rw [hrun']
 have hge := grownCap_ge w (p + q) c e
 have hle := grownCap_le_maxLen w (p + q) c e (by unfold maxLen; omega)
 have hz1 : ∀ r, (Builtin.zeroCells ei.zero.cells r).size = r := fun r => by rw [size_zeroCells, hz, hzc]; simp
 refine hK _ _ (k (some ⟨w.heap.size, 0, none⟩) _ _ _ (hf.put (by simpa [Nat.blt_eq] using hd) _) (hsat.snoc ((Stp.drew w _).trans (Stp.alloc _ _ _)) (fun _ h _ => h) _ ?_ ?_))
 · refine ⟨by rw [List.length_append, List.length_take, List.length_replicate]; omega, .inr ⟨w.heap.size, _, _, rfl, Nat.zero_le _, heap_alloc_new w.drew _, hge, hle, ?_, ?_⟩⟩
   · rw [Array.size_append, Array.size_append, hz1, hz1, List.size_toArray, List.length_take]
     omega
   · rw [Array.toList_append, Array.toList_append, hz, zeroCells_list hzc]
     have h1 : ((xs.take p).toArray.toList ++ List.replicate q z).length = (p + q) * 1 := by
       rw [List.length_append, List.length_replicate]
       simp
       omega
     rw [← h1, List.take_left]
 · intro k hk
   have := own_fp hk
   subst this
   exact ⟨by simp, Nat.le_refl _⟩
end
theorem subA_atX {g c l : Nat} (h : c ≠ l) : subA (some ⟨g, 0, none⟩) c l 1 = some ⟨g, l, none⟩ := by
 unfold subA
 rw [if_neg h]
 simp [Addr.add]
 exact fun h => h.symm
end Go.Sl
end
/-
  An empty slice of structs.
-/
section
namespace Go.Sl

section
variable {X : Cx} {β : Base} {n : Nat} {ds : List Deferred} {ops : Array Oper} {Q : Exit → Act → World → Prop} {rest : List Oper} {Γ : Env} {R H : List Pr}
theorem L.lit0S {d t e ty : Nat} {pos : String} {af : Array Edge} {i ei : Ti} (ht : tlook t X.tab = some i) (hdesc : i.desc = .slice e) (he : tlook e X.tab = some ei) (hd : Nat.blt d n = true)
   (k : ∀ A, L X β n ds ops Q rest ((d, .slice A 0 0) :: Γ) R (H ++ [Own e ei.size A 0 0 []])) : L X β n ds ops Q (⟨some d, .buildSlice t 0 #[], ty, pos, af, none⟩ :: rest) Γ R H := by
 refine L.mk hd e ei.size 0 [] (by unfold maxLen; omega) (by simp) (fun A => .slice A 0 0) ?_ k
 intro ρ w hρ hs o ho
 obtain ⟨e1, _⟩ := X.ok _ _ ht
 rw [hdesc] at e1
 have hS := run_sizeOf' (P := X.P) w (X.ok _ _ he)
 simp only [execOp, ho, Instr.buildSlice, Sem.run_bind, run_underlying e1, Result.andThen_ok, hS]
 simp [Instr.fill, newRow, Array.range_zero']
end
end Go.Sl
end
/-
  The small separation logic: shifts and or of whole numbers, structs of numbers that are compared, one byte that is counted, rows of structs, closures that may panic, a deferred closure over one cell.
-/
section
namespace Go.Sl

section
variable {X : Cx} {β : Base} {n : Nat} {ds : List Deferred} {ops : Array Oper} {Q : Exit → Act → World → Prop} {rest : List Oper} {Γ : Env} {R H : List Pr}

theorem wrap63 {m : Nat} (h : m < 9223372036854775808) : IntKind.i64.wrap (m : Int) = (m : Int) := by rw [IntKind.wrap_i64]; omega
theorem Ev.shlI {t ty : Nat} {x y : Operand} {yk : IntKind} {m k : Nat} (hx : ev Γ x = some (.int .i64 (m : Int))) (hy : ev Γ y = some (.int yk (k : Int))) (hk : k ≤ 64) (hm : m * 2 ^ k < 9223372036854775808) : Ev X β Γ R H (.binOp .shl t x y ty) (.int .i64 ((m * 2 ^ k : Nat) : Int)) := by
 intro ρ w hρ hw o ho
 have hg : (eqGuard .shl t x y (.int .i64 (m : Int)) (.int yk (k : Int))).run X.P w = .ok () w := by unfold eqGuard; rfl
 have hb : ¬ (k : Int) < 0 := by omega
 have e : IntKind.i64.wrap ((m : Int) * 2 ^ min (k : Int).toNat 64) = ((m * 2 ^ k : Nat) : Int) := by
   rw [Int.toNat_natCast, Nat.min_eq_left hk, show (m : Int) * 2 ^ k = ((m * 2 ^ k : Nat) : Int) by rw [Int.natCast_mul, Int.natCast_pow]; rfl, wrap63 hm]
 simp only [execOp, ho, hρ _ _ hx, hρ _ _ hy, Sem.run_bind, hg, Result.andThen_ok, binOp_shl, Op.shift, if_neg hb, Sem.run_pure, IntKind.bits]
 rw [← e]
theorem Ev.shrI {t ty : Nat} {x y : Operand} {yk : IntKind} {m k : Nat} (hx : ev Γ x = some (.int .i64 (m : Int))) (hy : ev Γ y = some (.int yk (k : Int))) (hk : k ≤ 64) : Ev X β Γ R H (.binOp .shr t x y ty) (.int .i64 ((m / 2 ^ k : Nat) : Int)) := by
 intro ρ w hρ hw o ho
 have hg : (eqGuard .shr t x y (.int .i64 (m : Int)) (.int yk (k : Int))).run X.P w = .ok () w := by unfold eqGuard; rfl
 have hb : ¬ (k : Int) < 0 := by omega
 have e : (m : Int).fdiv (2 ^ min (k : Int).toNat 64) = ((m / 2 ^ k : Nat) : Int) := by
   rw [Int.toNat_natCast, Nat.min_eq_left hk, Int.fdiv_eq_ediv_of_nonneg _ (Int.pow_nonneg (by decide)), Int.natCast_ediv, Int.natCast_pow]
   rfl
 simp only [execOp, ho, hρ _ _ hx, hρ _ _ hy, Sem.run_bind, hg, Result.andThen_ok, binOp_shr, Op.shift, if_neg hb, Sem.run_pure, IntKind.bits]
 rw [← e]
theorem bopI_or {a b : Nat} (ha : a < 9223372036854775808) (hb : b < 9223372036854775808) : bop .or .i64 (a : Int) (b : Int) = ((a ||| b : Nat) : Int) := by
 have e : ∀ m : Nat, m < 9223372036854775808 → (BitVec.ofInt 64 (m : Int)).toNat = m := by
   intro m hm
   rw [BitVec.ofInt_natCast, BitVec.toNat_ofNat]
   omega
 have e2 : (BitVec.ofInt 64 (a : Int) ||| BitVec.ofInt 64 (b : Int)).toNat = a ||| b := by rw [BitVec.toNat_or, e a ha, e b hb]
 show IntKind.i64.wrap ((BitVec.ofInt 64 (a : Int) ||| BitVec.ofInt 64 (b : Int)).toNat : Int) = _
 rw [e2]
 exact wrap63 (Nat.or_lt_two_pow (n := 63) (by omega) (by omega))
theorem Ev.orI {t ty : Nat} {x y : Operand} {a b : Nat} (hx : ev Γ x = some (.int .i64 (a : Int))) (hy : ev Γ y = some (.int .i64 (b : Int))) (ha : a < 9223372036854775808) (hb : b < 9223372036854775808) : Ev X β Γ R H (.binOp .or t x y ty) (.int .i64 ((a ||| b : Nat) : Int)) :=
 (Ev.pure (v := .int .i64 (bop .or .i64 (a : Int) (b : Int))) (by simp [pev, hx, hy, pint])).cast (by rw [bopI_or ha hb])
theorem or_byte {a b : Nat} (hb : b < 256) : (a * 2 ^ 8) ||| b = a * 256 + b := by
 rw [show a * 2 ^ 8 = 2 ^ 8 * a from Nat.mul_comm .., ← Nat.two_pow_add_eq_or_of_lt (by omega)]
theorem Ev.shrOr {t ty : Nat} {x y : Operand} {a b : Nat} (hx : ev Γ x = some (.int .i64 ((a * 2 ^ 8 : Nat) : Int))) (hy : ev Γ y = some (.int .i64 (b : Int))) (ha : a < 4294967296) (hb : b < 256) : Ev X β Γ R H (.binOp .or t x y ty) (.int .i64 ((a * 256 + b : Nat) : Int)) :=
 (Ev.orI hx hy (by omega) (by omega)).cast (by rw [or_byte hb])

/-! ### Structs of numbers, compared -/
def intFs (T : List (Nat × Ti)) : Nat → List Field → Bool
 | _, [] => true
 | k, f :: fs => f.offset == k && f.name != "_" && (match tlook f.type T with | some i => (match i.desc with | .int .i64 => true | _ => false) | none => false) && intFs T (k + 1) fs
theorem run_eqInts {w : World} {xs ys : List Int} (d : Nat) : ∀ (fs : List Field) (k : Nat), intFs X.tab k fs = true → xs.length = k + fs.length → ys.length = k + fs.length →
   (Op.eqFields (d + 1) (List.toArray (I64 xs)) (List.toArray (I64 ys)) fs).run X.P w = .ok (xs.drop k == ys.drop k) w
 | [], k, _, h1, h2 => by
   rw [List.drop_eq_nil_of_le (by simp at h1; omega), List.drop_eq_nil_of_le (by simp at h2; omega)]
   rfl
 | f :: fs, k, h, h1, h2 => by
   simp only [intFs, Bool.and_eq_true, beq_iff_eq, bne_iff_ne, ne_eq] at h
   obtain ⟨⟨⟨hk, hn⟩, ht⟩, hfs⟩ := h
   simp only [List.length_cons] at h1 h2
   split at ht
   · rename_i i hi
     split at ht
     · rename_i hdesc
       have hx := run_part (P := X.P) w (X.ok _ _ hi) (List.toArray (I64 xs)) f.offset (.int .i64 (xs.getD k 0)) (by rw [hdesc, hk, if_neg (by simp [aggD])]; exact I64_get (by omega))
       have hy := run_part (P := X.P) w (X.ok _ _ hi) (List.toArray (I64 ys)) f.offset (.int .i64 (ys.getD k 0)) (by rw [hdesc, hk, if_neg (by simp [aggD])]; exact I64_get (by omega))
       have hu := (X.ok _ _ hi).und
       rw [hdesc] at hu
       have ih := run_eqInts d fs (k + 1) hfs (by omega) (by omega) (w := w) (xs := xs) (ys := ys)
       have e1 : xs.drop k = xs.getD k 0 :: xs.drop (k + 1) := by rw [List.drop_eq_getElem_cons (by omega)]; simp [List.getD_eq_getElem?_getD, List.getElem?_eq_getElem (show k < xs.length by omega)]
       have e2 : ys.drop k = ys.getD k 0 :: ys.drop (k + 1) := by rw [List.drop_eq_getElem_cons (by omega)]; simp [List.getD_eq_getElem?_getD, List.getElem?_eq_getElem (show k < ys.length by omega)]
       rw [e1, e2]
       simp only [Op.eqFields, ne_eq, hn, not_false_eq_true, if_true, Sem.run_bind, hx, hy, Result.andThen_ok, run_equalIn_int w d f.type .i64 .i64 _ _ hu]
       cases hb : (xs.getD k 0 == ys.getD k 0)
       · simp only [Bool.not_false, if_true, Sem.run_pure, List.cons_beq_cons, hb, Bool.false_and]
       · simp only [Bool.not_true, Bool.false_eq_true, if_false, ih, List.cons_beq_cons, hb, Bool.true_and]
     · cases ht
   · cases ht
/-! ### One byte, counted -/
/-! ### Rows of structs -/
/-! ### Closures that may panic -/
/-! ### A deferred closure over one cell, which lays false there if it recovers -/
structure RecC (P : Program) (f : FuncId) (e : TypeId) (v : Value) : Prop where
 fn : ∀ p w, (invoke (.fn (.func f) #[p]) #[]).run P w = .ok (.enter f #[p]) w
 idle : ∀ p w, CallsD P f #[p] .returning w fun e u' w' => e = .returned (.tuple #[]) ∧ u' = .returning ∧ Stp w w' (fun _ => False)
 caught : ∀ A w, (Own e 1 A 1 1 [.bool false]).p w → CallsD P f #[ptrOf A 0] (.panicking [{ v := v, recovered := false }]) w fun e u' w' => e = .returned (.tuple #[]) ∧ u' = .panicking [{ v := v, recovered := true }] ∧ Stp w w' (fun _ => False)
end
end Go.Sl
end
