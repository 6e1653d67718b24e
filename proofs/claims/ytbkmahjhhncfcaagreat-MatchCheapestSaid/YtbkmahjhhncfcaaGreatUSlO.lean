/-
  The small separation logic: rows of which only a later part is held on to: cut off ahead, written over, appended to.
-/
import Derived.ArgAppend
import Derived.Test.YtbkmahjhhncfcaaGreatUSlN
namespace Go.Sl

/-- The slice at A lies somewhere in a row that is owned as a whole. -/
def OwnW (e : TypeId) (A : Option Addr) (n c : Nat) (xs : List Value) : Pr where
 fp k := ∃ a, A = some a ∧ a.block = k
 p w := xs.length = n ∧ ((A = none ∧ n = 0 ∧ c = 0) ∨ ∃ (g o : Nat) (cur : Array Value), A = some ⟨g, o, none⟩ ∧ w.heap[g]? = some (.cells cur e (0, 0)) ∧ n ≤ c ∧ c ≤ maxLen ∧ o + c ≤ cur.size ∧ (cur.toList.drop o).take n = xs)
 st := by
   intro w w' hk h
   refine ⟨h.1, ?_⟩
   rcases h.2 with h2 | ⟨g, o, cur, hA, hh, r⟩
   · exact .inl h2
   · refine .inr ⟨g, o, cur, hA, ?_, r⟩
     rw [hk g ⟨_, hA, rfl⟩]
     exact hh

section
variable {X : Cx} {β : Base} {n : Nat} {ds : List Deferred} {ops : Array Oper} {Q : Exit → Act → World → Prop} {rest : List Oper} {Γ : Env} {R H : List Pr}

theorem OwnW.cell {w : World} {e m c : Nat} {A : Option Addr} {xs : List Value} (h : (OwnW e A m c xs).p w) {k : Nat} {v : Value} (hk : xs[k]? = some v) : ∃ a, A = some a ∧ w.cell? (a.add k) = some v := by
 have hlt := (List.getElem?_eq_some_iff.1 hk).1
 rcases h.2 with ⟨_, h0, _⟩ | ⟨g, o, cur, hA, hh, hnc, _, hoc, hx⟩
 · have := h.1; omega
 · refine ⟨_, hA, ?_⟩
   have e1 : (⟨g, o, none⟩ : Addr).add k = ⟨g, o + k, none⟩ := Addr.add_lit g o k
   rw [e1, cell_of_row w g (o + k) cur e (0, 0) hh]
   rw [← hx, List.getElem?_take] at hk
   split at hk
   · rw [List.getElem?_drop] at hk
     simpa using hk
   · cases hk
theorem Src.w (j : Nat) {e m c : Nat} {A : Option Addr} {xs : List Value} (h : H[j]? = some (OwnW e A m c xs)) : Src R H A xs := fun _ _ hs _ _ hu => OwnW.cell (hs.own j _ h) hu
theorem Has.w (j : Nat) {e m c : Nat} {A : Option Addr} {xs : List Value} (h : H[j]? = some (OwnW e A m c xs)) : Has R H (Rd A xs) :=
 ⟨fun β w hs => Src.w j h β w hs, fun _ hk => .inr ⟨j, _, h, hk.2⟩⟩
theorem Sat.nilW {w : World} (h : Sat β w R H) (e : TypeId) : Sat β w R (H ++ [OwnW e none 0 0 []]) := by
 refine h.snoc (Stp.refl w fun _ => False) (fun _ h _ => h) _ ⟨rfl, .inl ⟨rfl, rfl, rfl⟩⟩ ?_
 rintro k ⟨a, ha, _⟩
 cases ha
theorem C.nilW {c : Code} (e : TypeId) (h : C X β n ds Q c Γ R (H ++ [OwnW e none 0 0 []])) : C X β n ds Q c Γ R H := fun a w hf hs => h a w hf (hs.nilW e)
theorem L.nilW (e : TypeId) (h : L X β n ds ops Q rest Γ R (H ++ [OwnW e none 0 0 []])) : L X β n ds ops Q rest Γ R H := fun a w hf hs => h a w hf (hs.nilW e)
/-- Without its first element. -/
theorem Sat.tailW {w : World} (h : Sat β w R H) {j e m c : Nat} {A : Option Addr} {x : Value} {xs : List Value} (hj : H[j]? = some (OwnW e A (m + 1) c (x :: xs))) : Sat β w R (H.set j (OwnW e (subA A c 1 1) m (c - 1) xs)) := by
 have ho := h.own j _ hj
 rcases ho.2 with ⟨_, h0, _⟩ | ⟨g, o, cur, hA, hh, hnc, hcm, hoc, hx⟩
 · cases h0
 · subst hA
   have hl : xs.length = m := by have := ho.1; simpa using this
   have hlt : g < w.heap.size := (Array.getElem?_eq_some_iff.1 hh).1
   refine h.upd hj (Stp.refl w fun _ => False) (fun _ hk => hk.elim) _ ⟨hl, .inr ?_⟩ ?_
   · by_cases hc : c = 1
     · subst hc
       have hm0 : m = 0 := by omega
       subst hm0
       have : xs = [] := List.eq_nil_of_length_eq_zero hl
       subst this
       exact ⟨g, o, cur, by unfold subA; rw [if_pos rfl], hh, Nat.le_refl _, Nat.zero_le _, by omega, by simp⟩
     · refine ⟨g, o + 1, cur, ?_, hh, by omega, by omega, by omega, ?_⟩
       · unfold subA
         rw [if_neg hc]
         show some ((⟨g, o, none⟩ : Addr).add (1 * 1)) = _
         rw [Addr.add_lit]
       · have e1 : (cur.toList.drop o).take (m + 1) = ((cur.toList.drop o).take (m + 1)) := rfl
         have e2 := congrArg (List.drop 1) hx
         rw [List.drop_take, List.drop_drop] at e2
         simpa using e2
   · rintro k ⟨a, ha, hb⟩
     unfold subA at ha
     split at ha
     · obtain rfl := Option.some.inj ha
       exact ⟨by rw [← hb]; exact hlt, .inr ⟨_, rfl, hb⟩⟩
     · have ha' : a = (⟨g, o, none⟩ : Addr).add (1 * 1) := (Option.some.inj ha).symm
       subst ha'
       rw [addblock] at hb
       exact ⟨by rw [← hb]; exact hlt, .inr ⟨_, rfl, hb⟩⟩
theorem L.tailW (j : Nat) {e m c : Nat} {A : Option Addr} {x : Value} {xs : List Value} (hj : H[j]? = some (OwnW e A (m + 1) c (x :: xs))) (h : L X β n ds ops Q rest Γ R (H.set j (OwnW e (subA A c 1 1) m (c - 1) xs))) : L X β n ds ops Q rest Γ R H := fun a w hf hs => h a w hf (hs.tailW hj)

theorem QE.tailW {ex : Exit} (j : Nat) {e m c : Nat} {A : Option Addr} {x : Value} {xs : List Value} (hj : H[j]? = some (OwnW e A (m + 1) c (x :: xs))) (h : QE β n ds Q ex Γ R (H.set j (OwnW e (subA A c 1 1) m (c - 1) xs))) : QE β n ds Q ex Γ R H := fun a w hf hs => h a w hf (hs.tailW hj)
theorem C.capW {x : Code} (j : Nat) {e m c : Nat} {A : Option Addr} {xs : List Value} (hj : H[j]? = some (OwnW e A m c xs)) (h : m ≤ c → C X β n ds Q x Γ R H) : C X β n ds Q x Γ R H := fun a w hf hs => h (by
 rcases (hs.own j _ hj).2 with ⟨_, h1, h2⟩ | ⟨_, _, _, _, _, h3, _⟩
 · omega
 · exact h3) a w hf hs
theorem Own.capO {w : World} {e sz m c : Nat} {A : Option Addr} {xs : List Value} (h : (Own e sz A m c xs).p w) : m ≤ c := (Own.cap h).1
theorem C.capO {x : Code} (j : Nat) {e sz m c : Nat} {A : Option Addr} {xs : List Value} (hj : H[j]? = some (Own e sz A m c xs)) (h : m ≤ c → C X β n ds Q x Γ R H) : C X β n ds Q x Γ R H := fun a w hf hs => h (Own.capO (hs.own j _ hj)) a w hf hs
theorem L.capO (j : Nat) {e sz m c : Nat} {A : Option Addr} {xs : List Value} (hj : H[j]? = some (Own e sz A m c xs)) (h : m ≤ c → L X β n ds ops Q rest Γ R H) : L X β n ds ops Q rest Γ R H := fun a w hf hs => h (Own.capO (hs.own j _ hj)) a w hf hs
/-! ### Addresses that need no look at memory -/
theorem C.someA {x : Code} (j : Nat) {e sz m c : Nat} {A : Option Addr} {v : Value} {xs : List Value} (hj : H[j]? = some (Own e sz A m c (v :: xs))) (h : (∃ a, A = some a) → C X β n ds Q x Γ R H) : C X β n ds Q x Γ R H := fun a w hf hs => h (by
 obtain ⟨g, hA, _⟩ := Own.cell (hs.own j _ hj) (k := 0) (v := v) rfl
 exact ⟨_, hA⟩) a w hf hs
theorem Ev.nilP {k : Nat} {x : Operand} {A : Option Addr} (hA : ∃ a, A = some a) (hx : ev Γ x = some (ptrOf A k)) : Ev X β Γ R H (.nilCheck x) (ptrOf A k) := by
 intro ρ w hρ hw o ho
 obtain ⟨a, rfl⟩ := hA
 have hx' : ρ x = .pointer (some (a.add k)) := hρ _ _ hx
 simp [execOp, ho, hx', ptrOf]
theorem Ev.fieldP {t f k m : Nat} {x : Operand} {i fi : Ti} {fs : Array Field} {fd : Field} {A : Option Addr} (hA : ∃ a, A = some a) (ht : tlook t X.tab = some i) (hd : i.desc = .struct fs) (hf : fs[f]? = some fd)
   (hft : tlook fd.type X.tab = some fi) (hfs : Nat.blt 0 fi.size = true) (hx : ev Γ x = some (ptrOf A k)) (hm : k + fd.offset = m) : Ev X β Γ R H (.fieldAddr t x f) (ptrOf A m) := by
 intro ρ w hρ hw o ho
 obtain ⟨a, rfl⟩ := hA
 have hx' : ρ x = .pointer (some (a.add k)) := hρ _ _ hx
 have e1 := (X.ok _ _ ht).und
 rw [hd] at e1
 have hS := run_sizeOf' (P := X.P) w (X.ok _ _ hft)
 have hz : ¬ fi.size = 0 := by rw [Nat.blt_eq] at hfs; omega
 subst hm
 simp [execOp, ho, hx', Instr.fieldAt, Instr.sureAddr, run_underlying e1, hf, fieldPlace, hS, hz, addadd, ptrOf]
/-- One element behind the first m ones. -/
theorem L.appendW {d t e ty m' : Nat} (j : Nat) {m c q : Nat} {pos : String} {af : Array Edge} {x y : Operand} {A B : Option Addr} {xs : List Value} {v : Value} {i ei : Ti} (ht : tlook t X.tab = some i) (hdesc : i.desc = .slice e) (he : tlook e X.tab = some ei) (hsz : ei.size = 1) (hzc : ei.zero.cells.size = 1)
   (hx : ev Γ x = some (.slice A m c)) (hy : ev Γ y = some (.slice B 1 q)) (hj : H[j]? = some (OwnW e A m' c xs)) (hm : m ≤ m') (hs : Src R H B [v]) (h1 : v.oneCell' = true)
   (hml : m < 4294967296) (hb : ei.bytes ≤ 4096) (hd : Nat.blt d n = true)
   (k : ∀ A' c', L X β n ds ops Q rest ((d, .slice A' (m + 1) c') :: Γ) R (H.set j (OwnW e A' (m + 1) c' (xs.take m ++ [v])))) :
   L X β n ds ops Q (⟨some d, .call ⟨.builtin .append, #[x, y], #[t, t]⟩, ty, pos, af, none⟩ :: rest) Γ R H := by
 intro a w hf hsat
 refine wpList_plain rfl fun K hK => ?_
 obtain ⟨e1, _⟩ := X.ok _ _ ht
 rw [hdesc] at e1
 obtain ⟨_, jf, hjf, g1, g2, g3⟩ := X.ok _ _ he
 have ho := hsat.own j _ hj
 obtain ⟨b, rfl, hbc⟩ := hs β w hsat 0 v rfl
 have hbytes : (m + 1) * ei.bytes ≤ 140737488355328 := Nat.le_trans (Nat.mul_le_mul (show m + 1 ≤ 4294967296 by omega) hb) (by decide)
 have hbytes1 : (0 + 1) * ei.bytes ≤ 140737488355328 := Nat.le_trans (Nat.mul_le_mul (show 0 + 1 ≤ 1 by omega) hb) (by decide)
 have hnews : ∀ (r : Nat) u, [v][r]? = some u → w.cell? (b.add r) = some u := by
   intro r u hu
   have hr0 : r = 0 := by
     have := (List.getElem?_eq_some_iff.1 hu).1
     simpa using this
   subst hr0
   obtain rfl : v = u := by simpa using hu
   exact hbc
 have h1' : ∀ u ∈ [v], u.oneCell' = true := fun u hu => by rw [List.mem_singleton.1 hu]; exact h1
 have hlx : (xs.take m).length = m := by rw [List.length_take, ho.1, Nat.min_eq_left hm]
 have fresh : ∀ {v' : Value} {w' : World} {B0 : Nat}, w'.ownsRow B0 e 1 v' (m + 1) (xs.take m ++ [v]) → w.grownBy w' none → w.heap.size ≤ B0 →
     ∃ A' c', v' = .slice A' (m + 1) c' ∧ (OwnW e A' (m + 1) c' (xs.take m ++ [v])).p w' ∧ (∀ k, (OwnW e A' (m + 1) c' (xs.take m ++ [v])).fp k → k < w'.heap.size ∧ (w.heap.size ≤ k ∨ (OwnW e A m' c xs).fp k)) := by
   intro v' w' B0 ho' hg hB
   rcases ho'.2 with ⟨_, h0⟩ | ⟨g, cap, cur, rfl, hge, hh, hnc, hcm, hcs, htk⟩
   · have h0' : m + 1 = 0 := h0
     omega
   · refine ⟨_, _, rfl, ⟨by rw [List.length_append, hlx]; rfl, .inr ⟨g, 0, cur, rfl, hh, hnc, hcm, by omega, by simpa using htk⟩⟩, ?_⟩
     rintro k ⟨a0, ha0, hk0⟩
     obtain rfl := Option.some.inj ha0
     have hk1 : g = k := hk0
     subst hk1
     exact ⟨(Array.getElem?_eq_some_iff.1 hh).1, .inl (Nat.le_trans hB hge)⟩
 have main : ∃ A' c' w', (Builtin.append_ #[t, t] ty #[.slice A m c, .slice (some b) 1 q]).run X.P w = .ok (.slice A' (m + 1) c') w' ∧ (OwnW e A' (m + 1) c' (xs.take m ++ [v])).p w' ∧ Stp w w' (fun k => (OwnW e A m' c xs).fp k) ∧
     (∀ k, (OwnW e A' (m + 1) c' (xs.take m ++ [v])).fp k → k < w'.heap.size ∧ (w.heap.size ≤ k ∨ (OwnW e A m' c xs).fp k)) := by
   rcases ho.2 with ⟨rfl, h0, rfl⟩ | ⟨g, o, cur, rfl, hh, hnc, hcm, hoc, hxs⟩
   · obtain rfl : m = 0 := by omega
     obtain ⟨v', w', hr, hown', hgr, hiff⟩ := run_append_own (P := X.P) w w.heap.size t ty e jf ei.zero 1 ei.bytes e1 hjf g3 (by rw [g1, hsz]) g2 hzc (by omega) (.slice none 0 0) 0 [] (World.ownsRow_nil w w.heap.size e 1) b 1 q [v] rfl hnews h1' (by unfold maxLen; omega) hbytes1 (Nat.le_refl _)
     obtain ⟨A', c', rfl, p1, p2⟩ := fresh (B0 := w.heap.size) (by simpa using hown') (by simpa [Value.ownBlock] using hgr) (Nat.le_refl _)
     exact ⟨A', c', w', hr, p1, (Stp.grown hgr).mono fun k hk => by simp [Value.ownBlock] at hk, p2⟩
   · by_cases hr : m + 1 ≤ c
     · have hidx : o + m < cur.size := by omega
       have hcell : w.cell? ⟨g, o + m, none⟩ = some cur[o + m] := by
         rw [cell_of_row w g (o + m) cur e (0, 0) hh]
         exact Array.getElem?_eq_getElem hidx
       have hrun := run_append_room_cells (P := X.P) w t ty e jf e1 hjf g o m c b 1 q [v] (by rw [g1, hsz]; rfl) hnews h1' hr (fun r hr => by
         have : r = 0 := by simpa using hr
         subst this
         rw [g1, hsz, Nat.mul_one]
         exact Option.isSome_of_mem hcell) (fun r hr => frozen_of_row w g _ cur e hh)
       rw [g1, hsz, Nat.mul_one] at hrun
       have hset : w.setCells g (o + m) [v] = w.setCell ⟨g, o + m, none⟩ v := rfl
       rw [hset] at hrun
       have hh' := heap_setCell_same w g (o + m) cur e v hh
       refine ⟨_, _, _, hrun, ⟨by rw [List.length_append, hlx]; rfl, .inr ⟨g, o, cur.setIfInBounds (o + m) v, rfl, hh', hr, hcm, by simpa using hoc, ?_⟩⟩, (Stp.setCell w ⟨g, o + m, none⟩ v).mono fun k hk => ⟨_, rfl, hk.symm⟩, ?_⟩
       · have hx1 : xs.take m = (cur.toList.drop o).take m := by
           rw [← hxs, List.take_take, Nat.min_eq_left hm]
         rw [hx1, Array.toList_setIfInBounds]
         apply List.ext_getElem?
         intro r
         rw [List.getElem?_take]
         by_cases hrm : r < m
         · rw [if_pos (by omega), List.getElem?_drop, List.getElem?_set_ne (by omega), List.getElem?_append_left (by rw [List.length_take, List.length_drop, Array.length_toList]; omega), List.getElem?_take, if_pos hrm, List.getElem?_drop]
         · by_cases hre : r = m
           · subst hre
             rw [if_pos (by omega), List.getElem?_drop, List.getElem?_set_self (by rw [Array.length_toList]; omega), List.getElem?_append_right (by rw [List.length_take, List.length_drop, Array.length_toList]; omega)]
             have : r - ((cur.toList.drop o).take r).length = 0 := by rw [List.length_take, List.length_drop, Array.length_toList]; omega
             rw [this]
             rfl
           · rw [if_neg (by omega), List.getElem?_eq_none]
             rw [List.length_append, List.length_take, List.length_drop, Array.length_toList]
             show _ + 1 ≤ _
             omega
       · rintro k ⟨a0, ha0, hk0⟩
         refine ⟨?_, .inr ⟨a0, ha0, hk0⟩⟩
         obtain rfl := Option.some.inj ha0
         have hk1 : g = k := hk0
         subst hk1
         simpa using (Array.getElem?_eq_some_iff.1 hh).1
     · have holds : ∀ (r : Nat) u, (xs.take m)[r]? = some u → w.cell? ((⟨g, o, none⟩ : Addr).add r) = some u := by
         intro r u hu
         rw [List.getElem?_take] at hu
         split at hu
         · obtain ⟨a0, ha0, hc0⟩ := OwnW.cell ho hu
           obtain rfl := Option.some.inj ha0
           exact hc0
         · cases hu
       obtain ⟨v', w', hrun, hown', hgr⟩ := run_append_arg_grows (P := X.P) w t ty e jf ei.zero 1 ei.bytes e1 hjf g3 (by rw [g1, hsz]) g2 hzc (by omega) ⟨g, o, none⟩ m c (xs.take m) (by rw [hlx, Nat.mul_one]) holds b 1 q [v] rfl hnews (by omega) (by unfold maxLen; omega) hbytes
       obtain ⟨A', c', rfl, p1, p2⟩ := fresh hown' hgr (Nat.le_refl _)
       exact ⟨A', c', w', hrun, p1, (Stp.grown hgr).mono fun k hk => by simp at hk, p2⟩
 obtain ⟨A', c', w', hrun, hp, hst, hfp⟩ := main
 unfold Oper.wp
 have hrun' : (execOp a.eval ⟨some d, .call ⟨.builtin .append, #[x, y], #[t, t]⟩, ty, pos, af, none⟩).run X.P w = .ok (.value (.slice A' (m + 1) c')) w' := by
   simp only [execOp, resolve, invoke, builtin, Sem.run_bind, Sem.run_pure, Result.andThen_ok, List.map_toArray, List.map_cons, List.map_nil, hf.eval hx, hf.eval hy, hrun]
 rw [hrun']
 refine hK _ _ (k A' c' _ _ (hf.put (by simpa [Nat.blt_eq] using hd) _) ?_)
 exact hsat.upd hj hst (fun b hb _ => hb) _ hp hfp
end
end Go.Sl
