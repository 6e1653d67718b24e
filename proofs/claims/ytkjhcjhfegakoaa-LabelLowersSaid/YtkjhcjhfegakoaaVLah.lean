/-
  Moved code, as plain lists.
-/
import Derived.Lib.Overlaps
import Derived.Lib.AppendZeros
import Derived.Test.YtkjhcjhfegakoaaVLag
import Derived.Test.YtkjhcjhfegakoaaVSlI
import Derived.Test.YtkjhcjhfegakoaaVWLaL
section
namespace Go.Sl

def mvN (at_ by_ : Nat) (n : Int) : Int := if 4 * (at_ : Int) ≤ n then n + 4 * (by_ : Int) else n
def moveF (x : Lf) (at_ by_ : Nat) : Lf := ⟨x.ws.take at_ ++ List.replicate by_ 0 ++ x.ws.drop at_, x.ms.take at_ ++ List.replicate by_ false ++ x.ms.drop at_, x.ls.map (mvN at_ by_)⟩
def movOk (b : List UInt8) (p q : Int) : Prop := codeB b ∧ 0 ≤ p ∧ p ≤ ((liftR b).ws.length : Int) ∧ 0 ≤ q ∧ q ≤ 16384 - ((liftR b).ws.length : Int)
instance (b : List UInt8) (p q : Int) : Decidable (movOk b p q) := by unfold movOk; infer_instance
def movB (b : List UInt8) (p q : Int) : List UInt8 := if movOk b p q then lowB (moveF (liftR b) p.toNat q.toNat) else []
def movC (b : List UInt8) (p q : Int) : Int := if movOk b p q then lowC (moveF (liftR b) p.toNat q.toNat) else 30
theorem moveF_lens (x : Lf) {at_ by_ : Nat} (h : at_ ≤ x.ws.length) (hm : x.ms.length = x.ws.length) : (moveF x at_ by_).ws.length = x.ws.length + by_ ∧ (moveF x at_ by_).ms.length = x.ms.length + by_ ∧ (moveF x at_ by_).ls.length = x.ls.length := by
 unfold moveF
 refine ⟨?_, ?_, List.length_map _⟩
 · rw [List.length_append, List.length_append, List.length_take, List.length_replicate, List.length_drop]; omega
 · rw [List.length_append, List.length_append, List.length_take, List.length_replicate, List.length_drop]; omega
theorem moveF_w32 {x : Lf} (h : W32 x.ws) (at_ by_ : Nat) : W32 (moveF x at_ by_).ws := ((h.take at_).app (W32.rep by_)).app (h.drop at_)
/-- What a program has made of the labels so far. -/
def mvL (ls : List Int) (at_ by_ k : Nat) : List Int := (ls.take k).map (mvN at_ by_) ++ ls.drop k
theorem mvL_zero (ls : List Int) (at_ by_ : Nat) : mvL ls at_ by_ 0 = ls := by simp [mvL]
theorem mvL_all (ls : List Int) (at_ by_ : Nat) : mvL ls at_ by_ ls.length = ls.map (mvN at_ by_) := by simp [mvL]
theorem mvL_len (ls : List Int) (at_ by_ : Nat) {k : Nat} (h : k ≤ ls.length) : (mvL ls at_ by_ k).length = ls.length := by
 unfold mvL
 rw [List.length_append, List.length_map, List.length_take, List.length_drop]
 omega
theorem mvL_at (ls : List Int) (at_ by_ : Nat) {k : Nat} (h : k < ls.length) : (mvL ls at_ by_ k).getD k 0 = ls.getD k 0 := by
 unfold mvL
 rw [getD_app_right _ _ _ (show k = ((ls.take k).map (mvN at_ by_)).length + 0 by rw [List.length_map, List.length_take]; omega), getD_drop, Nat.add_zero]
theorem mvL_form (ls : List Int) (at_ by_ : Nat) {k : Nat} (h : k < ls.length) : mvL ls at_ by_ (k + 1) = (ls.take k).map (mvN at_ by_) ++ mvN at_ by_ (ls.getD k 0) :: ls.drop (k + 1) := by
 unfold mvL
 rw [take_snoc' ls 0 k h, List.map_append, List.append_assoc]
 rfl
theorem mvL_old (ls : List Int) (at_ by_ : Nat) {k : Nat} (h : k < ls.length) : mvL ls at_ by_ k = (ls.take k).map (mvN at_ by_) ++ ls.getD k 0 :: ls.drop (k + 1) := by
 unfold mvL
 rw [List.drop_eq_getElem_cons h]
 simp [h]
theorem mvL_set (ls : List Int) (at_ by_ : Nat) {k : Nat} (h : k < ls.length) : (mvL ls at_ by_ k).set k (mvN at_ by_ (ls.getD k 0)) = mvL ls at_ by_ (k + 1) := by
 rw [mvL_form ls at_ by_ h, mvL_old ls at_ by_ h]
 have hk : k = ((ls.take k).map (mvN at_ by_)).length := by rw [List.length_map, List.length_take]; omega
 conv => lhs; arg 2; rw [hk]
 rw [set_at]
theorem mvL_skip (ls : List Int) (at_ by_ : Nat) {k : Nat} (h : k < ls.length) (hn : mvN at_ by_ (ls.getD k 0) = ls.getD k 0) : mvL ls at_ by_ (k + 1) = mvL ls at_ by_ k := by
 rw [mvL_form ls at_ by_ h, mvL_old ls at_ by_ h, hn]
theorem liftR_range {b : List UInt8} {x : Int} (h : x ∈ (liftR b).ls) : 0 ≤ x ∧ x < 65536 := by
 unfold liftR at h
 split at h
 · rename_i hc
   have := labs_range h
   rw [wordsF_len] at this
   have := hc.2
   omega
 · cases h
theorem liftR_label {b : List UInt8} {k : Nat} (h : k < (liftR b).ls.length) : 0 ≤ (liftR b).ls.getD k 0 ∧ (liftR b).ls.getD k 0 < 65536 := by
 refine liftR_range (b := b) ?_
 rw [List.getD_eq_getElem?_getD, List.getElem?_eq_getElem h]
 exact List.getElem_mem h
theorem liftR_marks (b : List UInt8) : (liftR b).ms.length = (liftR b).ws.length := by
 unfold liftR
 split
 · have := liftF_lens (wordsF b); omega
 · rfl
theorem liftR_w32 (b : List UInt8) : W32 (liftR b).ws := by
 unfold liftR
 split
 · rename_i h
   exact liftF_w32 (by rw [wordsF_len]; have := h.2; omega) (wordsF_w32 b)
 · intro i; simp [Lf.zero]
theorem cut_at {α : Type} (x : List α) (k : Nat) (h : k ≤ x.length) : ∃ a b, x = a ++ b ∧ a.length = k :=
 ⟨x.take k, x.drop k, (List.take_append_drop k x).symm, by rw [List.length_take]; omega⟩
theorem ins_many {α : Type} (x y : List α) (k n m : Nat) (z : α) (hn : x.length = n) (hm : y.length = m) (h : k ≤ n) :
   ((x.take k ++ List.replicate (n + m - k) z).take k ++ y ++ (x.take k ++ List.replicate (n + m - k) z).drop (k + y.length)).take (k + m) ++ x.drop k ++ ((x.take k ++ List.replicate (n + m - k) z).take k ++ y ++ (x.take k ++ List.replicate (n + m - k) z).drop (k + y.length)).drop (k + m + (x.drop k).length) = x.take k ++ y ++ x.drop k := by
 subst hn hm
 obtain ⟨a, b, rfl, rfl⟩ := cut_at x k h
 have e2 : (a ++ b).drop a.length = b := List.drop_left
 have e3 : (a ++ b).take a.length = a := List.take_left
 have e0 : (a ++ b).length + y.length - a.length = y.length + b.length := by rw [List.length_append]; omega
 rw [e0, e2, e3]
 have e4 : (a ++ List.replicate (y.length + b.length) z).take a.length = a := List.take_left
 have e5 : (a ++ List.replicate (y.length + b.length) z).drop (a.length + y.length) = List.replicate b.length z := by
   rw [← List.replicate_append_replicate, ← List.append_assoc, show a.length + y.length = (a ++ List.replicate y.length z).length by simp, List.drop_left]
 rw [e4, e5]
 have e6 : (a ++ y ++ List.replicate b.length z).take (a.length + y.length) = a ++ y := by rw [show a.length + y.length = (a ++ y).length by simp, List.take_left]
 have e7 : (a ++ y ++ List.replicate b.length z).drop (a.length + y.length + b.length) = [] := List.drop_eq_nil_of_le (by simp; omega)
 rw [e6, e7, List.append_nil]
end Go.Sl
end
/-
  slices.Insert in the middle: room behind a slice, append of a made slice, slices.overlaps.
-/
section
namespace Go.Sl

section
variable {X : Cx} {β : Base} {n : Nat} {ds : List Deferred} {ops : Array Oper} {Q : Exit → Act → World → Prop} {rest : List Oper} {Γ : Env} {R H : List Pr}
theorem Ev.capS {t e : Nat} {i : Ti} {x : Operand} {A : Option Addr} {m c : Nat} (ht : tlook t X.tab = some i) (hd : i.desc = .slice e) (hx : ev Γ x = some (.slice A m c)) : Ev X β Γ R H (.call ⟨.builtin .cap, #[x], #[t]⟩) (.int .i64 (c : Int)) := by
 intro ρ w hρ hw o ho
 have e1 := (X.ok _ _ ht).und
 rw [hd] at e1
 simp [execOp, ho, resolve, invoke, builtin, hρ _ _ hx, Builtin.cap_, run_underlying e1]
 rfl
theorem Own.spare {w : World} {e m c : Nat} {A : Option Addr} {xs : List Value} (h : (Own e 1 A m c xs).p w) (hc : m + 1 ≤ c) : ∃ u, (Own e 1 A (m + 1) c (xs ++ [u])).p w := by
 rcases h.2 with ⟨hv, _⟩ | ⟨g, cap, cur, hv, hb, hh, h3, h4, h5, h6⟩
 · injection hv with _ _ h9
   omega
 · injection hv with h7 h8 h9
   subst h7 h9
   rw [Nat.mul_one] at h5 h6
   have hm : m < cur.toList.length := by rw [Array.length_toList]; omega
   refine ⟨cur.toList[m], by have := h.1; rw [List.length_append, this]; rfl, .inr ⟨g, c, cur, rfl, hb, hh, hc, h4, by omega, ?_⟩⟩
   rw [Nat.mul_one, List.take_succ_eq_append_getElem hm, h6]
/-- One place more of the room behind a slice. -/
theorem C.spare {x : Code} {e m c : Nat} {A : Option Addr} {xs : List Value} {H' : List Pr} (hc : m + 1 ≤ c) (h : ∀ u, C X β n ds Q x Γ R (Own e 1 A (m + 1) c (xs ++ [u]) :: H')) : C X β n ds Q x Γ R (Own e 1 A m c xs :: H') := by
 intro a w hf hs
 obtain ⟨u, hu⟩ := Own.spare (hs.own 0 _ rfl) hc
 exact h u a w hf (hs.repl (fun _ => hu) (fun k hk => hk))

theorem run_append_growZ {P : Program} (w : World) (t tn ty e : TypeId) (i : TypeInfo) (z : Value) (k kn : IntKind) (ht : P.underlying t = some (.slice e)) (htn : P.underlying tn = some (.int kn)) (hi : P.info? e = some i) (hz : i.zero = some z)
   (b : Addr) (sLen sCap : Nat) (olds : List Value) (hlo : olds.length = sLen * i.size) (holds : ∀ j v, olds[j]? = some v → w.cell? (b.add j) = some v)
   (q : Nat) (h0 : 0 < q) (hs : 0 < i.size) (hg : sCap < sLen + q) (h63 : ((sLen + q : Nat) : Int) ≤ 9223372036854775807) (h48 : q * i.bytes ≤ 281474976710656) (hfit : Builtin.nextslicecap (sLen + q) sCap * i.bytes ≤ 281474976710656) :
   (Builtin.append_ #[t, tn] ty #[.slice (some b) sLen sCap, .int k q]).run P w =
     .ok (.slice (some ⟨w.heap.size, 0, none⟩) (sLen + q) (grownCap w (sLen + q) sCap e))
       (w.drew.alloc (.cells (olds.toArray ++ Builtin.zeroCells z.cells q ++ Builtin.zeroCells z.cells (grownCap w (sLen + q) sCap e - (sLen + q))) e)) := by
 have hn : ¬ (sLen + q ≤ sCap) := by omega
 have hw : IntKind.i64.wrap (q : Int) = q := by rw [IntKind.wrap_i64]; omega
 have h63' : ¬ (9223372036854775807 < ((sLen : Int) + (q : Int))) := by omega
 have h48' : ¬ (281474976710656 < Builtin.nextslicecap (sLen + q) sCap * i.bytes) := by omega
 have h48i : ¬ (281474976710656 < (q : Int) * (i.bytes : Int)) := by
   rw [← Int.natCast_mul]
   omega
 have hneg : ¬ ((q : Int) < 0) := by omega
 have hns : ¬ (q * i.size = 0) := Nat.mul_ne_zero (by omega) (by omega)
 have hfo := run_firstCells_some (P := P) w.drew i.size sLen b sLen sCap olds hlo (by simpa using holds)
 simp [Builtin.append_, run_underlying ht, run_underlying htn, sizeOf, typeInfo, zeroValue, hi, hz, asInt, asIntOf, hw, hn, hneg, hns, h63', h48', h48i, Question.forced, hfo, newRow, grownCap]
theorem zeroCells_list {z : Value} (h : z.cells = #[z]) (q : Nat) : (Builtin.zeroCells z.cells q).toList = List.replicate q z := by
 rw [h]
 refine List.ext_getElem (by simp [Builtin.zeroCells]) fun i h1 h2 => ?_
 simp [Builtin.zeroCells, Nat.mod_one]
/-- append(s[:p], make([]T, q)...) where there is no room: a new row; the old one stays. -/
theorem L.appendZ {d t tn e ty j m c p q : Nat} {pos : String} {af : Array Edge} {x y : Operand} {A : Option Addr} {xs : List Value} {i ei it : Ti} {kn kq : IntKind} {z : Value} (ht : tlook t X.tab = some i) (hdesc : i.desc = .slice e) (he : tlook e X.tab = some ei) (hsz : ei.size = 1) (hz : ei.zero = z) (hzc : z.cells = #[z])
   (htn : tlook tn X.tab = some it) (hit : it.desc = .int kn) (hx : ev Γ x = some (.slice A p c)) (hy : ev Γ y = some (.int kq (q : Int))) (hj : H[j]? = some (Own e 1 A m c xs)) (hpm : p ≤ m) (hp0 : 0 < xs.length) (hq : 0 < q) (hg : c < p + q)
   (hml : p + q ≤ 9223372036854775807) (hb : (p + q) * ei.bytes ≤ 140737488355328) (hd : Nat.blt d n = true)
   (k : ∀ A' c', L X β n ds ops Q rest ((d, .slice A' (p + q) c') :: Γ) R (H ++ [Own e 1 A' (p + q) c' (xs.take p ++ List.replicate q z)])) :
   L X β n ds ops Q (⟨some d, .call ⟨.builtin .append, #[x, y], #[t, tn]⟩, ty, pos, af, none⟩ :: rest) Γ R H := by
 intro a w hf hsat
 refine wpList_plain rfl fun K hK => ?_
 obtain ⟨e1, _⟩ := X.ok _ _ ht
 rw [hdesc] at e1
 obtain ⟨e2, _⟩ := X.ok _ _ htn
 rw [hit] at e2
 obtain ⟨_, jf, hjf, g1, g2, g3⟩ := X.ok _ _ he
 have hown := hsat.own j _ hj
 have hlen := Own.len hown
 rw [Nat.mul_one] at hlen
 obtain ⟨g, cur, rfl, hgr, hmc, hcm, hcs, htake⟩ := Own.form hown hp0
 have hfit : Builtin.nextslicecap (p + q) c * jf.bytes ≤ 281474976710656 := by
   have h1 := nextslicecap_le hg
   have h2 := Nat.mul_le_mul_right jf.bytes h1
   rw [g2] at h2 ⊢
   have h3 : 2 * (p + q) * ei.bytes = 2 * ((p + q) * ei.bytes) := Nat.mul_assoc _ _ _
   omega
 have hqb : q * jf.bytes ≤ 281474976710656 := by
   have := Nat.mul_le_mul_right ei.bytes (Nat.le_add_left q p)
   rw [g2]
   omega
 have hrun := run_append_growZ (P := X.P) w t tn ty e jf ei.zero kq kn e1 e2 hjf g3 ⟨g, 0, none⟩ p c (xs.take p) (by rw [g1, hsz, List.length_take]; omega) (fun r u hu => by
   have hr : r < p := by
     have := (List.getElem?_eq_some_iff.1 hu).1
     rw [List.length_take] at this
     omega
   rw [List.getElem?_take, if_pos hr] at hu
   obtain ⟨g', hA, hc, _⟩ := Own.cell hown hu
   injection hA with hA
   injection hA with hA
   subst hA
   rw [adz]
   exact hc) q hq (by rw [g1, hsz]; decide) hg (by omega) hqb hfit
 have hrun' : (execOp a.eval ⟨some d, .call ⟨.builtin .append, #[x, y], #[t, tn]⟩, ty, pos, af, none⟩).run X.P w = .ok (.value (.slice (some ⟨w.heap.size, 0, none⟩) (p + q) (grownCap w (p + q) c e))) (w.drew.alloc (.cells ((xs.take p).toArray ++ Builtin.zeroCells ei.zero.cells q ++ Builtin.zeroCells ei.zero.cells (grownCap w (p + q) c e - (p + q))) e)) := by
   simp only [execOp, resolve, invoke, builtin, Sem.run_bind, Sem.run_pure, Result.andThen_ok, List.map_toArray, List.map_cons, List.map_nil, hf.eval hx, hf.eval hy, hrun]
 unfold Oper.wp
 rw [hrun']
 have hge := grownCap_ge w (p + q) c e
 have hle := grownCap_le_maxLen w (p + q) c e (by unfold maxLen; omega)
 have hz1 : ∀ r, (Builtin.zeroCells ei.zero.cells r).size = r := fun r => by rw [size_zeroCells, hz, hzc]; simp
 refine hK _ _ (k (some ⟨w.heap.size, 0, none⟩) _ _ _ (hf.put (by simpa [Nat.blt_eq] using hd) _) (hsat.snoc ((Stp.drew w _).trans (Stp.alloc _ _ _)) (fun _ h _ => h) _ ?_ ?_))
 · refine ⟨by rw [List.length_append, List.length_take, List.length_replicate]; omega, .inr ⟨w.heap.size, _, _, rfl, Nat.zero_le _, heap_alloc_new w.drew _, hge, hle, ?_, ?_⟩⟩
   · rw [Array.size_append, Array.size_append, hz1, hz1, List.size_toArray, List.length_take]
     omega
   · rw [Array.toList_append, Array.toList_append, hz, zeroCells_list hzc]
     have h1 : ((xs.take p).toArray.toList ++ List.replicate q z).length = (p + q) * 1 := by
       rw [List.length_append, List.length_replicate]
       simp
       omega
     rw [← h1, List.take_left]
 · intro k hk
   have := own_fp hk
   subst this
   exact ⟨by simp, Nat.le_refl _⟩
end
theorem subA_at {g c l : Nat} (h : c ≠ l) : subA (some ⟨g, 0, none⟩) c l 1 = some ⟨g, l, none⟩ := by
 unfold subA
 rw [if_neg h]
 simp [Addr.add]
 exact fun h => h.symm
end Go.Sl
end
/-
  Insert of several values.
-/
section
namespace Go.Proofs.Ytkjhcjhfegakoaa
open Go.Sl

set_option maxHeartbeats 1000000 in
theorem insertW_c (A V : Option Addr) (n m k : Nat) (xs ys : List Value) (h1 : ∀ v ∈ xs, v.oneCell' = true) (h2 : ∀ v ∈ ys, v.oneCell' = true) (hx : xs.length = n) (hy : ys.length = m) (hn : n + m ≤ 1000000) (hk : k ≤ n) :
   Ctr X 44 [.slice A n n, .int .i64 (k : Int), .slice V m m] [] [Own 53 1 A n n xs, Own 53 1 V m m ys] (fun v R' H' => ∃ (A' : Option Addr) (c' : Nat), v = .slice A' (n + m) c' ∧ R' = [] ∧ H' = [Own 53 1 A' (n + m) c' (xs.take k ++ ys ++ xs.drop k)]) := by
 refine Ctr.of (X := X) (fn := Try.f44) Try.func44 rfl (by kernel_rfl) rfl ?_
 intro β
 refine C.seq (C.region ?_); refine Lpu rfl rfl ?_; refine L.nil (QE.seq (C.seq (C.region ?_))); refine Lpu rfl rfl ?_; refine Lpu rfl rfl ?_; refine L.step (Ev.sliceL (l := k) rfl rfl rfl rfl rfl (by omega) (by omega)) rfl ?_; refine L.nil (QE.seq (C.seq (C.region ?_))); refine Lpu rfl rfl ?_; refine Lpu rfl rfl ?_; refine Lpu rfl rfl ?_; refine L.nil (QE.seq (C.seq (C.seq (C.region ?_)))); refine Lpu rfl rfl ?_; refine Lpu rfl rfl ?_; refine L.nil (QE.seq ?_)
 refine C.condB 16 rfl (fun hc16 => ?_) (fun hc16 => ?_)
 ·
  replace hc16 := i_eq hc16
  refine C.seq (C.region ?_); refine Lpu rfl rfl ?_; refine Lpu rfl rfl ?_; refine L.nil (QE.seq (C.ret (QE.tR ?_))); refine QE.ret (js := []) (hs := [0]) (vs := [_]) rfl ⟨rfl, trivial⟩ (by decide) ?_
  obtain rfl : m = 0 := by omega
  obtain rfl : ys = [] := List.length_eq_zero_iff.1 hy
  rw [List.append_nil, List.take_append_drop]
  exact ⟨A, n, rfl, rfl, rfl⟩
 ·
  replace hc16 := i_ne hc16
  refine C.skip (QE.seq (C.seq (C.region ?_))); refine Lpu rfl rfl ?_; refine Lpu rfl rfl ?_; refine Lpu rfl rfl ?_; refine L.nil (QE.seq (C.seq (C.seq (C.region ?_)))); refine Lpu rfl rfl ?_; refine Lpu rfl rfl ?_; refine Lpu rfl rfl ?_; refine L.nil (QE.seq ?_)
  refine C.condB 22 rfl (fun hc22 => ?_) (fun hc22 => ?_)
  ·
   replace hc22 := i_eq hc22
   refine C.seq (C.region ?_); refine Lpu rfl rfl ?_; refine Lpu rfl rfl ?_
   refine L.append (j := 0) rfl rfl rfl rfl (by decide) rfl rfl rfl rfl (Src.o 1 rfl) (by rw [hy]; exact (Nat.mul_one _).symm) h2 (by omega) (by show _ * 4 ≤ _; omega) rfl (fun A25 cc25 => ?_)
   refine Lpu rfl rfl ?_; refine L.nil (QE.seq (C.ret (QE.tR ?_))); refine QE.ret (js := []) (hs := [0]) (vs := [_]) rfl ⟨rfl, trivial⟩ (by decide) ?_
   have hkx : k = n := by omega
   rw [hkx, ← hx, List.take_length, List.drop_length, List.append_nil]
   rw [hx]
   exact ⟨A25, cc25, rfl, rfl, rfl⟩
  ·
   replace hc22 := i_ne hc22
   refine C.skip (QE.seq (C.seq (C.seq (C.region ?_)))); refine Lpu rfl rfl ?_; refine Lpu rfl rfl ?_; refine L.step (Ev.add rfl rfl (by omega) (by omega)) rfl ?_; refine Lpu rfl rfl ?_; refine L.step (Ev.capS rfl rfl rfl) rfl ?_; refine Lpu rfl rfl ?_; refine L.nil (QE.seq ?_)
   refine C.condB 31 rfl (fun hc31 => ?_) (fun hc31 => ?_)
   ·
    replace hc31 := of_decide_eq_true hc31
    refine C.seq (C.region ?_); refine Lpu rfl rfl ?_; refine Lpu rfl rfl ?_; refine L.step (Ev.sliceH (h := k) rfl rfl rfl rfl rfl rfl (by omega)) rfl ?_; refine Lpu rfl rfl ?_; refine Lpu rfl rfl ?_; refine L.step (Ev.add rfl rfl (by omega) (by omega)) rfl ?_; refine Lpu rfl rfl ?_; refine L.step (Ev.cast (u := .int .i64 (((n + m - k) : Nat) : Int)) (Ev.sub rfl rfl (by omega) (by omega)) (congrArg (Value.int .i64) (by omega))) rfl ?_
    refine L.appendZ (j := 0) (z := .int .u32 0) rfl rfl rfl rfl rfl rfl rfl rfl rfl rfl rfl (by omega) (by omega) (by omega) (by omega) (by omega) (by show _ * 4 ≤ _; omega) rfl (fun A40 cc40 => ?_)
    refine Lpu rfl rfl ?_; refine L.nil (QE.seq (C.seq ?_))
    refine C.cap 2 rfl (fun h40 => ?_)
    refine C.region ?_; refine Lpu rfl rfl ?_; refine Lpu rfl rfl ?_; refine L.step (Ev.sliceL (l := k) rfl rfl rfl rfl rfl (by omega) (by omega)) rfl ?_; refine Lpu rfl rfl ?_; refine L.copy (j := 2) (o := k) rfl rfl rfl rfl rfl (fun g h _ => by rw [h]; exact subA_at (by omega)) rfl rfl (Src.o 1 rfl) (by omega) h2 (by rw [List.length_append, List.length_take, List.length_replicate]; omega) rfl ?_; refine L.nil (QE.seq (C.seq ?_)); refine C.regionM [] trivial ?_; refine LM.q 0 rfl (by kernel_rfl) (Ev.pure rfl) rfl trivial ?_; refine LM.q 1 rfl (by kernel_rfl) (Ev.pure rfl) rfl trivial ?_; refine LM.q 2 rfl (by kernel_rfl) (Ev.pure rfl) rfl trivial ?_; refine LM.q 3 rfl (by kernel_rfl) (Ev.add rfl rfl (by omega) (by omega)) rfl trivial ?_; refine LM.q 4 rfl (by kernel_rfl) (Ev.sliceL (l := k + m) rfl rfl rfl rfl rfl (by omega) (by omega)) rfl trivial ?_; refine LM.q 5 rfl (by kernel_rfl) (Ev.pure rfl) rfl trivial ?_; refine LM.f 6 rfl (by kernel_rfl) trivial ?_; refine Lpu rfl rfl ?_
    refine L.nil (QE.m (by kernel_rfl) ?_)
    refine LM.f 7 rfl (by kernel_rfl) trivial ?_; refine L.step (Ev.sliceL (l := k) rfl rfl rfl rfl rfl (by omega) (by omega)) rfl ?_
    refine L.nil (QE.m (by kernel_rfl) ?_)
    refine LM.f 8 rfl (by kernel_rfl) trivial ?_; refine L.copy (j := 2) (o := k + m) rfl rfl rfl rfl rfl (fun g h _ => by rw [h]; exact subA_at (by omega)) rfl rfl ((Src.sub (Src.o 0 rfl) n k 1 (by omega)).cast (by rw [Nat.mul_one])) (by rw [List.length_drop]; omega) (fun v hv => h1 v (List.mem_of_mem_drop hv)) (by simp only [List.length_append, List.length_take, List.length_drop, List.length_replicate]; omega) rfl ?_
    refine L.nil (QE.m (by kernel_rfl) ?_)
    refine LM.nil (by kernel_rfl) trivial ?_; refine QE.seq (C.seq (C.region ?_)); refine Lpu rfl rfl ?_; refine Lpu rfl rfl ?_; refine L.nil (QE.seq (C.ret (QE.tR ?_))); refine QE.ret (js := []) (hs := [2]) (vs := [_]) rfl ⟨rfl, trivial⟩ (by decide) ?_
    have e := ins_many xs ys k n m (.int .u32 0) hx hy hk
    refine ⟨A40, cc40, congrArg (fun n => Value.slice A40 n cc40) (by omega), rfl, ?_⟩
    exact congrArg (fun z => [z]) (own_eq2 (by omega) e)
   ·
    replace hc31 := of_decide_eq_false hc31
    omega

set_option maxHeartbeats 1000000 in
theorem insertB_c (A V : Option Addr) (n m k : Nat) (xs ys : List Value) (h1 : ∀ v ∈ xs, v.oneCell' = true) (h2 : ∀ v ∈ ys, v.oneCell' = true) (hx : xs.length = n) (hy : ys.length = m) (hn : n + m ≤ 1000000) (hk : k ≤ n) :
   Ctr X 45 [.slice A n n, .int .i64 (k : Int), .slice V m m] [] [Own 4 1 A n n xs, Own 4 1 V m m ys] (fun v R' H' => ∃ (A' : Option Addr) (c' : Nat), v = .slice A' (n + m) c' ∧ R' = [] ∧ H' = [Own 4 1 A' (n + m) c' (xs.take k ++ ys ++ xs.drop k)]) := by
 refine Ctr.of (X := X) (fn := Try.f45) Try.func45 rfl (by kernel_rfl) rfl ?_
 intro β
 refine C.seq (C.region ?_); refine Lpu rfl rfl ?_; refine L.nil (QE.seq (C.seq (C.region ?_))); refine Lpu rfl rfl ?_; refine Lpu rfl rfl ?_; refine L.step (Ev.sliceL (l := k) rfl rfl rfl rfl rfl (by omega) (by omega)) rfl ?_; refine L.nil (QE.seq (C.seq (C.region ?_))); refine Lpu rfl rfl ?_; refine Lpu rfl rfl ?_; refine Lpu rfl rfl ?_; refine L.nil (QE.seq (C.seq (C.seq (C.region ?_)))); refine Lpu rfl rfl ?_; refine Lpu rfl rfl ?_; refine L.nil (QE.seq ?_)
 refine C.condB 16 rfl (fun hc16 => ?_) (fun hc16 => ?_)
 ·
  replace hc16 := i_eq hc16
  refine C.seq (C.region ?_); refine Lpu rfl rfl ?_; refine Lpu rfl rfl ?_; refine L.nil (QE.seq (C.ret (QE.tR ?_))); refine QE.ret (js := []) (hs := [0]) (vs := [_]) rfl ⟨rfl, trivial⟩ (by decide) ?_
  obtain rfl : m = 0 := by omega
  obtain rfl : ys = [] := List.length_eq_zero_iff.1 hy
  rw [List.append_nil, List.take_append_drop]
  exact ⟨A, n, rfl, rfl, rfl⟩
 ·
  replace hc16 := i_ne hc16
  refine C.skip (QE.seq (C.seq (C.region ?_))); refine Lpu rfl rfl ?_; refine Lpu rfl rfl ?_; refine Lpu rfl rfl ?_; refine L.nil (QE.seq (C.seq (C.seq (C.region ?_)))); refine Lpu rfl rfl ?_; refine Lpu rfl rfl ?_; refine Lpu rfl rfl ?_; refine L.nil (QE.seq ?_)
  refine C.condB 22 rfl (fun hc22 => ?_) (fun hc22 => ?_)
  ·
   replace hc22 := i_eq hc22
   refine C.seq (C.region ?_); refine Lpu rfl rfl ?_; refine Lpu rfl rfl ?_
   refine L.append (j := 0) rfl rfl rfl rfl (by decide) rfl rfl rfl rfl (Src.o 1 rfl) (by rw [hy]; exact (Nat.mul_one _).symm) h2 (by omega) (by show _ * 1 ≤ _; omega) rfl (fun A25 cc25 => ?_)
   refine Lpu rfl rfl ?_; refine L.nil (QE.seq (C.ret (QE.tR ?_))); refine QE.ret (js := []) (hs := [0]) (vs := [_]) rfl ⟨rfl, trivial⟩ (by decide) ?_
   have hkx : k = n := by omega
   rw [hkx, ← hx, List.take_length, List.drop_length, List.append_nil]
   rw [hx]
   exact ⟨A25, cc25, rfl, rfl, rfl⟩
  ·
   replace hc22 := i_ne hc22
   refine C.skip (QE.seq (C.seq (C.seq (C.region ?_)))); refine Lpu rfl rfl ?_; refine Lpu rfl rfl ?_; refine L.step (Ev.add rfl rfl (by omega) (by omega)) rfl ?_; refine Lpu rfl rfl ?_; refine L.step (Ev.capS rfl rfl rfl) rfl ?_; refine Lpu rfl rfl ?_; refine L.nil (QE.seq ?_)
   refine C.condB 31 rfl (fun hc31 => ?_) (fun hc31 => ?_)
   ·
    replace hc31 := of_decide_eq_true hc31
    refine C.seq (C.region ?_); refine Lpu rfl rfl ?_; refine Lpu rfl rfl ?_; refine L.step (Ev.sliceH (h := k) rfl rfl rfl rfl rfl rfl (by omega)) rfl ?_; refine Lpu rfl rfl ?_; refine Lpu rfl rfl ?_; refine L.step (Ev.add rfl rfl (by omega) (by omega)) rfl ?_; refine Lpu rfl rfl ?_; refine L.step (Ev.cast (u := .int .i64 (((n + m - k) : Nat) : Int)) (Ev.sub rfl rfl (by omega) (by omega)) (congrArg (Value.int .i64) (by omega))) rfl ?_
    refine L.appendZ (j := 0) (z := .bool false) rfl rfl rfl rfl rfl rfl rfl rfl rfl rfl rfl (by omega) (by omega) (by omega) (by omega) (by omega) (by show _ * 1 ≤ _; omega) rfl (fun A40 cc40 => ?_)
    refine Lpu rfl rfl ?_; refine L.nil (QE.seq (C.seq ?_))
    refine C.cap 2 rfl (fun h40 => ?_)
    refine C.region ?_; refine Lpu rfl rfl ?_; refine Lpu rfl rfl ?_; refine L.step (Ev.sliceL (l := k) rfl rfl rfl rfl rfl (by omega) (by omega)) rfl ?_; refine Lpu rfl rfl ?_; refine L.copy (j := 2) (o := k) rfl rfl rfl rfl rfl (fun g h _ => by rw [h]; exact subA_at (by omega)) rfl rfl (Src.o 1 rfl) (by omega) h2 (by rw [List.length_append, List.length_take, List.length_replicate]; omega) rfl ?_; refine L.nil (QE.seq (C.seq ?_)); refine C.regionM [] trivial ?_; refine LM.q 0 rfl (by kernel_rfl) (Ev.pure rfl) rfl trivial ?_; refine LM.q 1 rfl (by kernel_rfl) (Ev.pure rfl) rfl trivial ?_; refine LM.q 2 rfl (by kernel_rfl) (Ev.pure rfl) rfl trivial ?_; refine LM.q 3 rfl (by kernel_rfl) (Ev.add rfl rfl (by omega) (by omega)) rfl trivial ?_; refine LM.q 4 rfl (by kernel_rfl) (Ev.sliceL (l := k + m) rfl rfl rfl rfl rfl (by omega) (by omega)) rfl trivial ?_; refine LM.q 5 rfl (by kernel_rfl) (Ev.pure rfl) rfl trivial ?_; refine LM.f 6 rfl (by kernel_rfl) trivial ?_; refine Lpu rfl rfl ?_
    refine L.nil (QE.m (by kernel_rfl) ?_)
    refine LM.f 7 rfl (by kernel_rfl) trivial ?_; refine L.step (Ev.sliceL (l := k) rfl rfl rfl rfl rfl (by omega) (by omega)) rfl ?_
    refine L.nil (QE.m (by kernel_rfl) ?_)
    refine LM.f 8 rfl (by kernel_rfl) trivial ?_; refine L.copy (j := 2) (o := k + m) rfl rfl rfl rfl rfl (fun g h _ => by rw [h]; exact subA_at (by omega)) rfl rfl ((Src.sub (Src.o 0 rfl) n k 1 (by omega)).cast (by rw [Nat.mul_one])) (by rw [List.length_drop]; omega) (fun v hv => h1 v (List.mem_of_mem_drop hv)) (by simp only [List.length_append, List.length_take, List.length_drop, List.length_replicate]; omega) rfl ?_
    refine L.nil (QE.m (by kernel_rfl) ?_)
    refine LM.nil (by kernel_rfl) trivial ?_; refine QE.seq (C.seq (C.region ?_)); refine Lpu rfl rfl ?_; refine Lpu rfl rfl ?_; refine L.nil (QE.seq (C.ret (QE.tR ?_))); refine QE.ret (js := []) (hs := [2]) (vs := [_]) rfl ⟨rfl, trivial⟩ (by decide) ?_
    have e := ins_many xs ys k n m (.bool false) hx hy hk
    refine ⟨A40, cc40, congrArg (fun n => Value.slice A40 n cc40) (by omega), rfl, ?_⟩
    exact congrArg (fun z => [z]) (own_eq2 (by omega) e)
   ·
    replace hc31 := of_decide_eq_false hc31
    omega

end Go.Proofs.Ytkjhcjhfegakoaa
end
