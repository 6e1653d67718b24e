/-
  slices.Insert in the middle: room behind a slice, append of a made slice, slices.overlaps.
-/
import Derived.Lib.Overlaps
import Derived.Lib.AppendZeros
import Derived.Test.YtdkilfnbilohmaaVSlV
import Derived.Test.YtdkilfnbilohmaaVSlJ
namespace Go.Sl

section
variable {X : Cx} {β : Base} {n : Nat} {ds : List Deferred} {ops : Array Oper} {Q : Exit → Act → World → Prop} {rest : List Oper} {Γ : Env} {R H : List Pr}
theorem Ev.capS {t e : Nat} {i : Ti} {x : Operand} {A : Option Addr} {m c : Nat} (ht : tlook t X.tab = some i) (hd : i.desc = .slice e) (hx : ev Γ x = some (.slice A m c)) : Ev X β Γ R H (.call ⟨.builtin .cap, #[x], #[t]⟩) (.int .i64 (c : Int)) := by
 intro ρ w hρ hw o ho
 have e1 := (X.ok _ _ ht).und
 rw [hd] at e1
 simp [execOp, ho, resolve, invoke, builtin, hρ _ _ hx, Builtin.cap_, run_underlying e1]
 rfl
theorem Own.spare {w : World} {e m c : Nat} {A : Option Addr} {xs : List Value} (h : (Own e 1 A m c xs).p w) (hc : m + 1 ≤ c) : ∃ u, (Own e 1 A (m + 1) c (xs ++ [u])).p w := by
 rcases h.2 with ⟨hv, _⟩ | ⟨g, cap, cur, hv, hb, hh, h3, h4, h5, h6⟩
 · injection hv with _ _ h9
   omega
 · injection hv with h7 h8 h9
   subst h7 h9
   rw [Nat.mul_one] at h5 h6
   have hm : m < cur.toList.length := by rw [Array.length_toList]; omega
   refine ⟨cur.toList[m], by have := h.1; rw [List.length_append, this]; rfl, .inr ⟨g, c, cur, rfl, hb, hh, hc, h4, by omega, ?_⟩⟩
   rw [Nat.mul_one, List.take_succ_eq_append_getElem hm, h6]
/-- One place more of the room behind a slice. -/
theorem C.spare {x : Code} {e m c : Nat} {A : Option Addr} {xs : List Value} {H' : List Pr} (hc : m + 1 ≤ c) (h : ∀ u, C X β n ds Q x Γ R (Own e 1 A (m + 1) c (xs ++ [u]) :: H')) : C X β n ds Q x Γ R (Own e 1 A m c xs :: H') := by
 intro a w hf hs
 obtain ⟨u, hu⟩ := Own.spare (hs.own 0 _ rfl) hc
 exact h u a w hf (hs.repl (fun _ => hu) (fun k hk => hk))

theorem run_append_growZ {P : Program} (w : World) (t tn ty e : TypeId) (i : TypeInfo) (z : Value) (k kn : IntKind) (ht : P.underlying t = some (.slice e)) (htn : P.underlying tn = some (.int kn)) (hi : P.info? e = some i) (hz : i.zero = some z)
   (b : Addr) (sLen sCap : Nat) (olds : List Value) (hlo : olds.length = sLen * i.size) (holds : ∀ j v, olds[j]? = some v → w.cell? (b.add j) = some v)
   (q : Nat) (h0 : 0 < q) (hs : 0 < i.size) (hg : sCap < sLen + q) (h63 : ((sLen + q : Nat) : Int) ≤ 9223372036854775807) (h48 : q * i.bytes ≤ 281474976710656) (hfit : Builtin.nextslicecap (sLen + q) sCap * i.bytes ≤ 281474976710656) :
   (Builtin.append_ #[t, tn] ty #[.slice (some b) sLen sCap, .int k q]).run P w =
     .ok (.slice (some ⟨w.heap.size, 0, none⟩) (sLen + q) (grownCap w (sLen + q) sCap e))
       (w.drew.alloc (.cells (olds.toArray ++ Builtin.zeroCells z.cells q ++ Builtin.zeroCells z.cells (grownCap w (sLen + q) sCap e - (sLen + q))) e)) := by
 have hn : ¬ (sLen + q ≤ sCap) := by omega
 have hw : IntKind.i64.wrap (q : Int) = q := by rw [IntKind.wrap_i64]; omega
 have h63' : ¬ (9223372036854775807 < ((sLen : Int) + (q : Int))) := by omega
 have h48' : ¬ (281474976710656 < Builtin.nextslicecap (sLen + q) sCap * i.bytes) := by omega
 have h48i : ¬ (281474976710656 < (q : Int) * (i.bytes : Int)) := by
   rw [← Int.natCast_mul]
   omega
 have hneg : ¬ ((q : Int) < 0) := by omega
 have hns : ¬ (q * i.size = 0) := Nat.mul_ne_zero (by omega) (by omega)
 have hfo := run_firstCells_some (P := P) w.drew i.size sLen b sLen sCap olds hlo (by simpa using holds)
 simp [Builtin.append_, run_underlying ht, run_underlying htn, sizeOf, typeInfo, zeroValue, hi, hz, asInt, asIntOf, hw, hn, hneg, hns, h63', h48', h48i, Question.forced, hfo, newRow, grownCap]
theorem zeroCells_list {z : Value} (h : z.cells = #[z]) (q : Nat) : (Builtin.zeroCells z.cells q).toList = List.replicate q z := by
 rw [h]
 refine List.ext_getElem (by simp [Builtin.zeroCells]) fun i h1 h2 => ?_
 simp [Builtin.zeroCells, Nat.mod_one]
/-- append(s[:p], make([]T, q)...) where there is no room: a new row; the old one stays. -/
theorem L.appendZ {d t tn e ty j m c p q : Nat} {pos : String} {af : Array Edge} {x y : Operand} {A : Option Addr} {xs : List Value} {i ei it : Ti} {kn kq : IntKind} {z : Value} (ht : tlook t X.tab = some i) (hdesc : i.desc = .slice e) (he : tlook e X.tab = some ei) (hsz : ei.size = 1) (hz : ei.zero = z) (hzc : z.cells = #[z])
   (htn : tlook tn X.tab = some it) (hit : it.desc = .int kn) (hx : ev Γ x = some (.slice A p c)) (hy : ev Γ y = some (.int kq (q : Int))) (hj : H[j]? = some (Own e 1 A m c xs)) (hpm : p ≤ m) (hp0 : 0 < xs.length) (hq : 0 < q) (hg : c < p + q)
   (hml : p + q ≤ 9223372036854775807) (hb : (p + q) * ei.bytes ≤ 140737488355328) (hd : Nat.blt d n = true)
   (k : ∀ A' c', L X β n ds ops Q rest ((d, .slice A' (p + q) c') :: Γ) R (H ++ [Own e 1 A' (p + q) c' (xs.take p ++ List.replicate q z)])) :
   L X β n ds ops Q (⟨some d, .call ⟨.builtin .append, #[x, y], #[t, tn]⟩, ty, pos, af, none⟩ :: rest) Γ R H := by
 intro a w hf hsat
 refine wpList_plain rfl fun K hK => ?_
 obtain ⟨e1, _⟩ := X.ok _ _ ht
 rw [hdesc] at e1
 obtain ⟨e2, _⟩ := X.ok _ _ htn
 rw [hit] at e2
 obtain ⟨_, jf, hjf, g1, g2, g3⟩ := X.ok _ _ he
 have hown := hsat.own j _ hj
 have hlen := Own.len hown
 rw [Nat.mul_one] at hlen
 obtain ⟨g, cur, rfl, hgr, hmc, hcm, hcs, htake⟩ := Own.form hown hp0
 have hfit : Builtin.nextslicecap (p + q) c * jf.bytes ≤ 281474976710656 := by
   have h1 := nextslicecap_le hg
   have h2 := Nat.mul_le_mul_right jf.bytes h1
   rw [g2] at h2 ⊢
   have h3 : 2 * (p + q) * ei.bytes = 2 * ((p + q) * ei.bytes) := Nat.mul_assoc _ _ _
   omega
 have hqb : q * jf.bytes ≤ 281474976710656 := by
   have := Nat.mul_le_mul_right ei.bytes (Nat.le_add_left q p)
   rw [g2]
   omega
 have hrun := run_append_growZ (P := X.P) w t tn ty e jf ei.zero kq kn e1 e2 hjf g3 ⟨g, 0, none⟩ p c (xs.take p) (by rw [g1, hsz, List.length_take]; omega) (fun r u hu => by
   have hr : r < p := by
     have := (List.getElem?_eq_some_iff.1 hu).1
     rw [List.length_take] at this
     omega
   rw [List.getElem?_take, if_pos hr] at hu
   obtain ⟨g', hA, hc, _⟩ := Own.cell hown hu
   injection hA with hA
   injection hA with hA
   subst hA
   rw [adz]
   exact hc) q hq (by rw [g1, hsz]; decide) hg (by omega) hqb hfit
 have hrun' : (execOp a.eval ⟨some d, .call ⟨.builtin .append, #[x, y], #[t, tn]⟩, ty, pos, af, none⟩).run X.P w = .ok (.value (.slice (some ⟨w.heap.size, 0, none⟩) (p + q) (grownCap w (p + q) c e))) (w.drew.alloc (.cells ((xs.take p).toArray ++ Builtin.zeroCells ei.zero.cells q ++ Builtin.zeroCells ei.zero.cells (grownCap w (p + q) c e - (p + q))) e)) := by
   simp only [execOp, resolve, invoke, builtin, Sem.run_bind, Sem.run_pure, Result.andThen_ok, List.map_toArray, List.map_cons, List.map_nil, hf.eval hx, hf.eval hy, hrun]
 unfold Oper.wp
 rw [hrun']
 have hge := grownCap_ge w (p + q) c e
 have hle := grownCap_le_maxLen w (p + q) c e (by unfold maxLen; omega)
 have hz1 : ∀ r, (Builtin.zeroCells ei.zero.cells r).size = r := fun r => by rw [size_zeroCells, hz, hzc]; simp
 refine hK _ _ (k (some ⟨w.heap.size, 0, none⟩) _ _ _ (hf.put (by simpa [Nat.blt_eq] using hd) _) (hsat.snoc ((Stp.drew w _).trans (Stp.alloc _ _ _)) (fun _ h _ => h) _ ?_ ?_))
 · refine ⟨by rw [List.length_append, List.length_take, List.length_replicate]; omega, .inr ⟨w.heap.size, _, _, rfl, Nat.zero_le _, heap_alloc_new w.drew _, hge, hle, ?_, ?_⟩⟩
   · rw [Array.size_append, Array.size_append, hz1, hz1, List.size_toArray, List.length_take]
     omega
   · rw [Array.toList_append, Array.toList_append, hz, zeroCells_list hzc]
     have h1 : ((xs.take p).toArray.toList ++ List.replicate q z).length = (p + q) * 1 := by
       rw [List.length_append, List.length_replicate]
       simp
       omega
     rw [← h1, List.take_left]
 · intro k hk
   have := own_fp hk
   subst this
   exact ⟨by simp, Nat.le_refl _⟩
/-- slices.overlaps of two slices that are owned apart: false. -/
theorem L.overlaps {d t e ty f i j m c m' c' o la ca lb cb : Nat} {pos : String} {af : Array Edge} {x y : Operand} {A B D : Option Addr} {xs ys : List Value} {it ei : Ti} {fn : Func} {tys : Array TypeId} {tR : TypeId} (hf : X.P.funcs[f]? = some fn) (hname : (fn.name == "runtime.NumGoroutine") = false) (hb : fn.body.isNone = true) (hn : Extern.findNext fn = none)
   (hex : Extern.find fn = some (Extern.SlicesOverlaps.overlaps #[t, t] #[tR])) (ht : tlook t X.tab = some it) (hdesc : it.desc = .slice e) (he : tlook e X.tab = some ei) (hsz : ei.size = 1) (hx : ev Γ x = some (.slice A la ca)) (hy : ev Γ y = some (.slice D lb cb))
   (hi : H[i]? = some (Own e 1 A m c xs)) (hj : H[j]? = some (Own e 1 B m' c' ys)) (hij : i ≠ j) (hD : ∀ g, B = some ⟨g, 0, none⟩ → D = some ⟨g, o, none⟩) (hx0 : 0 < xs.length) (hy0 : 0 < ys.length) (hd : Nat.blt d n = true)
   (k : L X β n ds ops Q rest ((d, .bool false) :: Γ) R H) : L X β n ds ops Q (⟨some d, .call ⟨.value (.func f), #[x, y], tys⟩, ty, pos, af, none⟩ :: rest) Γ R H := by
 intro a w hfr hs
 refine wpList_plain rfl fun K hK => ?_
 unfold Oper.wp
 obtain ⟨e1, _⟩ := X.ok _ _ ht
 rw [hdesc] at e1
 have hS : ∀ w, (Go.sizeOf e).run X.P w = .ok 1 w := fun w => by
   have := run_sizeOf' (P := X.P) w (X.ok _ _ he)
   rwa [hsz] at this
 obtain ⟨g, cur, rfl, hg, _, _, hcs, htk⟩ := Own.form (hs.own i _ hi) hx0
 obtain ⟨g', cur', rfl, hg', _, _, hcs', htk'⟩ := Own.form (hs.own j _ hj) hy0
 obtain rfl := hD g' rfl
 have hne : g ≠ g' := fun e => hs.dis i j _ _ hi hj hij g ⟨_, rfl, rfl⟩ ⟨_, rfl, e.symm⟩
 have hsz' : cur'.size ≠ 0 := fun h0 => by
   have : ys.length ≤ cur'.size := by rw [← htk', List.length_take, Array.length_toList]; exact Nat.min_le_right _ _
   omega
 have hr := Lib.run_overlaps_apart (P := X.P) w t tR e e1 1 hS ⟨g, 0, none⟩ ⟨g', o, none⟩ la ca lb cb hne e e cur.size cur'.size (by simp [World.shape?, hg]) (by simp [World.shape?, hg']) hsz' (frozen_of_row w g 0 cur e hg) (frozen_of_row w g cur.size cur e hg)
 have hex' : (execOp a.eval ⟨some d, .call ⟨.value (.func f), #[x, y], tys⟩, ty, pos, af, none⟩).run X.P w = .ok (.value (.bool false)) w := by
   have hev := hfr.agree x _ hx
   have hev2 := hfr.agree y _ hy
   have hfv := hfr.agree (.func f) (.func (.func f) #[] #[]) rfl
   have e2 : (#[x, y] : Array Operand).map a.eval = #[.slice (some ⟨g, 0, none⟩) la ca, .slice (some ⟨g', o, none⟩) lb cb] := by simp [hev, hev2]
   have hc := run_callFunc_extern hf hname hb hn hex #[.slice (some ⟨g, 0, none⟩) la ca, .slice (some ⟨g', o, none⟩) lb cb] w
   rw [hr] at hc
   simp only [execOp, resolve, hfv, Deferred.ofValue, invoke, Sem.run_bind, Sem.run_pure, Result.andThen_ok, e2]
   simpa using hc
 rw [hex']
 exact hK _ _ (k _ _ (hfr.put (by simpa [Nat.blt_eq] using hd) _) hs)
end
theorem subA_at {g c l : Nat} (h : c ≠ l) : subA (some ⟨g, 0, none⟩) c l 1 = some ⟨g, l, none⟩ := by
 unfold subA
 rw [if_neg h]
 simp [Addr.add]
 exact fun h => h.symm
theorem cut_list {α : Type} (x : List α) (k : Nat) (h : k ≤ x.length) : ∃ a b, x = a ++ b ∧ a.length = k :=
 ⟨x.take k, x.drop k, (List.take_append_drop k x).symm, by rw [List.length_take]; omega⟩
theorem ins_shift {α : Type} (x : List α) (k : Nat) (t u : α) (h : k < x.length) : (((x ++ [u]).take (k + 1) ++ x.drop k ++ (x ++ [u]).drop (k + 1 + (x.drop k).length)).take k ++ [t] ++ ((x ++ [u]).take (k + 1) ++ x.drop k ++ (x ++ [u]).drop (k + 1 + (x.drop k).length)).drop (k + [t].length)) = x.take k ++ [t] ++ x.drop k := by
 obtain ⟨a, b, rfl, rfl⟩ := cut_list x k (by omega)
 cases b with
 | nil => simp at h
 | cons y b =>
   have e1 : (a ++ y :: b ++ [u]).take (a.length + 1) = a ++ [y] := by
     rw [show a ++ y :: b ++ [u] = (a ++ [y]) ++ (b ++ [u]) by simp, show a.length + 1 = (a ++ [y]).length by simp, List.take_left]
   have e2 : (a ++ y :: b).drop a.length = y :: b := List.drop_left
   have e3 : (a ++ y :: b ++ [u]).drop (a.length + 1 + (y :: b).length) = [] := List.drop_eq_nil_of_le (by simp; omega)
   rw [e2, e1, e3]
   simp
theorem ins_grow {α : Type} (x : List α) (k : Nat) (t z : α) (h : k ≤ x.length) :
   (((x.take k ++ List.replicate (x.length + 1 - k) z).take k ++ [t] ++ (x.take k ++ List.replicate (x.length + 1 - k) z).drop (k + [t].length)).take (k + 1) ++ x.drop k ++ ((x.take k ++ List.replicate (x.length + 1 - k) z).take k ++ [t] ++ (x.take k ++ List.replicate (x.length + 1 - k) z).drop (k + [t].length)).drop (k + 1 + (x.drop k).length)) = x.take k ++ [t] ++ x.drop k := by
 obtain ⟨a, b, rfl, rfl⟩ := cut_list x k h
 have e0 : (a ++ b).length + 1 - a.length = b.length + 1 := by rw [List.length_append]; omega
 have e2 : (a ++ b).drop a.length = b := List.drop_left
 have e3 : (a ++ b).take a.length = a := List.take_left
 have e4 : (a ++ List.replicate (b.length + 1) z).take a.length = a := List.take_left
 have e5 : (a ++ List.replicate (b.length + 1) z).drop (a.length + [t].length) = List.replicate b.length z := by
   rw [List.replicate_succ, show a ++ z :: List.replicate b.length z = (a ++ [z]) ++ List.replicate b.length z by simp, show a.length + [t].length = (a ++ [z]).length by simp, List.drop_left]
 rw [e0, e2, e3, e4, e5]
 have e6 : (a ++ [t] ++ List.replicate b.length z).take (a.length + 1) = a ++ [t] := by rw [show a.length + 1 = (a ++ [t]).length by simp, List.take_left]
 have e7 : (a ++ [t] ++ List.replicate b.length z).drop (a.length + 1 + b.length) = [] := List.drop_eq_nil_of_le (by simp; omega)
 rw [e6, e7, List.append_nil]
end Go.Sl
