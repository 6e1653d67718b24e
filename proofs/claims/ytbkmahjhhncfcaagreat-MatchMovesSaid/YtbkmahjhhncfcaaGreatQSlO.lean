/-
  The small separation logic: rows of which only a later part is held on to: cut off ahead, written over, appended to.
-/
import Derived.ArgAppend
import Derived.Test.YtbkmahjhhncfcaaGreatQSlR
import Derived.Test.YtbkmahjhhncfcaaGreatQWMtA
import Derived.Test.YtbkmahjhhncfcaaGreatQMb
section
namespace Go.Sl

/-- The slice at A lies somewhere in a row that is owned as a whole. -/
def OwnW (e : TypeId) (A : Option Addr) (n c : Nat) (xs : List Value) : Pr where
 fp k := ∃ a, A = some a ∧ a.block = k
 p w := xs.length = n ∧ ((A = none ∧ n = 0 ∧ c = 0) ∨ ∃ (g o : Nat) (cur : Array Value), A = some ⟨g, o, none⟩ ∧ w.heap[g]? = some (.cells cur e (0, 0)) ∧ n ≤ c ∧ c ≤ maxLen ∧ o + c ≤ cur.size ∧ (cur.toList.drop o).take n = xs)
 st := by
   intro w w' hk h
   refine ⟨h.1, ?_⟩
   rcases h.2 with h2 | ⟨g, o, cur, hA, hh, r⟩
   · exact .inl h2
   · refine .inr ⟨g, o, cur, hA, ?_, r⟩
     rw [hk g ⟨_, hA, rfl⟩]
     exact hh

section
variable {X : Cx} {β : Base} {n : Nat} {ds : List Deferred} {ops : Array Oper} {Q : Exit → Act → World → Prop} {rest : List Oper} {Γ : Env} {R H : List Pr}

theorem OwnW.cell {w : World} {e m c : Nat} {A : Option Addr} {xs : List Value} (h : (OwnW e A m c xs).p w) {k : Nat} {v : Value} (hk : xs[k]? = some v) : ∃ a, A = some a ∧ w.cell? (a.add k) = some v := by
 have hlt := (List.getElem?_eq_some_iff.1 hk).1
 rcases h.2 with ⟨_, h0, _⟩ | ⟨g, o, cur, hA, hh, hnc, _, hoc, hx⟩
 · have := h.1; omega
 · refine ⟨_, hA, ?_⟩
   have e1 : (⟨g, o, none⟩ : Addr).add k = ⟨g, o + k, none⟩ := Addr.add_lit g o k
   rw [e1, cell_of_row w g (o + k) cur e (0, 0) hh]
   rw [← hx, List.getElem?_take] at hk
   split at hk
   · rw [List.getElem?_drop] at hk
     simpa using hk
   · cases hk
theorem Src.w (j : Nat) {e m c : Nat} {A : Option Addr} {xs : List Value} (h : H[j]? = some (OwnW e A m c xs)) : Src R H A xs := fun _ _ hs _ _ hu => OwnW.cell (hs.own j _ h) hu
theorem Has.w (j : Nat) {e m c : Nat} {A : Option Addr} {xs : List Value} (h : H[j]? = some (OwnW e A m c xs)) : Has R H (Rd A xs) :=
 ⟨fun β w hs => Src.w j h β w hs, fun _ hk => .inr ⟨j, _, h, hk.2⟩⟩
theorem Sat.nilW {w : World} (h : Sat β w R H) (e : TypeId) : Sat β w R (H ++ [OwnW e none 0 0 []]) := by
 refine h.snoc (Stp.refl w fun _ => False) (fun _ h _ => h) _ ⟨rfl, .inl ⟨rfl, rfl, rfl⟩⟩ ?_
 rintro k ⟨a, ha, _⟩
 cases ha
theorem C.nilW {c : Code} (e : TypeId) (h : C X β n ds Q c Γ R (H ++ [OwnW e none 0 0 []])) : C X β n ds Q c Γ R H := fun a w hf hs => h a w hf (hs.nilW e)
theorem L.nilW (e : TypeId) (h : L X β n ds ops Q rest Γ R (H ++ [OwnW e none 0 0 []])) : L X β n ds ops Q rest Γ R H := fun a w hf hs => h a w hf (hs.nilW e)
/-- Without its first element. -/
theorem Sat.tailW {w : World} (h : Sat β w R H) {j e m c : Nat} {A : Option Addr} {x : Value} {xs : List Value} (hj : H[j]? = some (OwnW e A (m + 1) c (x :: xs))) : Sat β w R (H.set j (OwnW e (subA A c 1 1) m (c - 1) xs)) := by
 have ho := h.own j _ hj
 rcases ho.2 with ⟨_, h0, _⟩ | ⟨g, o, cur, hA, hh, hnc, hcm, hoc, hx⟩
 · cases h0
 · subst hA
   have hl : xs.length = m := by have := ho.1; simpa using this
   have hlt : g < w.heap.size := (Array.getElem?_eq_some_iff.1 hh).1
   refine h.upd hj (Stp.refl w fun _ => False) (fun _ hk => hk.elim) _ ⟨hl, .inr ?_⟩ ?_
   · by_cases hc : c = 1
     · subst hc
       have hm0 : m = 0 := by omega
       subst hm0
       have : xs = [] := List.eq_nil_of_length_eq_zero hl
       subst this
       exact ⟨g, o, cur, by unfold subA; rw [if_pos rfl], hh, Nat.le_refl _, Nat.zero_le _, by omega, by simp⟩
     · refine ⟨g, o + 1, cur, ?_, hh, by omega, by omega, by omega, ?_⟩
       · unfold subA
         rw [if_neg hc]
         show some ((⟨g, o, none⟩ : Addr).add (1 * 1)) = _
         rw [Addr.add_lit]
       · have e1 : (cur.toList.drop o).take (m + 1) = ((cur.toList.drop o).take (m + 1)) := rfl
         have e2 := congrArg (List.drop 1) hx
         rw [List.drop_take, List.drop_drop] at e2
         simpa using e2
   · rintro k ⟨a, ha, hb⟩
     unfold subA at ha
     split at ha
     · obtain rfl := Option.some.inj ha
       exact ⟨by rw [← hb]; exact hlt, .inr ⟨_, rfl, hb⟩⟩
     · have ha' : a = (⟨g, o, none⟩ : Addr).add (1 * 1) := (Option.some.inj ha).symm
       subst ha'
       rw [addblock] at hb
       exact ⟨by rw [← hb]; exact hlt, .inr ⟨_, rfl, hb⟩⟩
theorem L.tailW (j : Nat) {e m c : Nat} {A : Option Addr} {x : Value} {xs : List Value} (hj : H[j]? = some (OwnW e A (m + 1) c (x :: xs))) (h : L X β n ds ops Q rest Γ R (H.set j (OwnW e (subA A c 1 1) m (c - 1) xs))) : L X β n ds ops Q rest Γ R H := fun a w hf hs => h a w hf (hs.tailW hj)

theorem QE.tailW {ex : Exit} (j : Nat) {e m c : Nat} {A : Option Addr} {x : Value} {xs : List Value} (hj : H[j]? = some (OwnW e A (m + 1) c (x :: xs))) (h : QE β n ds Q ex Γ R (H.set j (OwnW e (subA A c 1 1) m (c - 1) xs))) : QE β n ds Q ex Γ R H := fun a w hf hs => h a w hf (hs.tailW hj)
theorem C.capW {x : Code} (j : Nat) {e m c : Nat} {A : Option Addr} {xs : List Value} (hj : H[j]? = some (OwnW e A m c xs)) (h : m ≤ c → C X β n ds Q x Γ R H) : C X β n ds Q x Γ R H := fun a w hf hs => h (by
 rcases (hs.own j _ hj).2 with ⟨_, h1, h2⟩ | ⟨_, _, _, _, _, h3, _⟩
 · omega
 · exact h3) a w hf hs
theorem Own.capO {w : World} {e sz m c : Nat} {A : Option Addr} {xs : List Value} (h : (Own e sz A m c xs).p w) : m ≤ c := (Own.cap h).1
theorem C.capO {x : Code} (j : Nat) {e sz m c : Nat} {A : Option Addr} {xs : List Value} (hj : H[j]? = some (Own e sz A m c xs)) (h : m ≤ c → C X β n ds Q x Γ R H) : C X β n ds Q x Γ R H := fun a w hf hs => h (Own.capO (hs.own j _ hj)) a w hf hs
theorem L.capO (j : Nat) {e sz m c : Nat} {A : Option Addr} {xs : List Value} (hj : H[j]? = some (Own e sz A m c xs)) (h : m ≤ c → L X β n ds ops Q rest Γ R H) : L X β n ds ops Q rest Γ R H := fun a w hf hs => h (Own.capO (hs.own j _ hj)) a w hf hs
/-! ### Addresses that need no look at memory -/
theorem C.someA {x : Code} (j : Nat) {e sz m c : Nat} {A : Option Addr} {v : Value} {xs : List Value} (hj : H[j]? = some (Own e sz A m c (v :: xs))) (h : (∃ a, A = some a) → C X β n ds Q x Γ R H) : C X β n ds Q x Γ R H := fun a w hf hs => h (by
 obtain ⟨g, hA, _⟩ := Own.cell (hs.own j _ hj) (k := 0) (v := v) rfl
 exact ⟨_, hA⟩) a w hf hs
theorem Ev.nilP {k : Nat} {x : Operand} {A : Option Addr} (hA : ∃ a, A = some a) (hx : ev Γ x = some (ptrOf A k)) : Ev X β Γ R H (.nilCheck x) (ptrOf A k) := by
 intro ρ w hρ hw o ho
 obtain ⟨a, rfl⟩ := hA
 have hx' : ρ x = .pointer (some (a.add k)) := hρ _ _ hx
 simp [execOp, ho, hx', ptrOf]
theorem Ev.fieldP {t f k m : Nat} {x : Operand} {i fi : Ti} {fs : Array Field} {fd : Field} {A : Option Addr} (hA : ∃ a, A = some a) (ht : tlook t X.tab = some i) (hd : i.desc = .struct fs) (hf : fs[f]? = some fd)
   (hft : tlook fd.type X.tab = some fi) (hfs : Nat.blt 0 fi.size = true) (hx : ev Γ x = some (ptrOf A k)) (hm : k + fd.offset = m) : Ev X β Γ R H (.fieldAddr t x f) (ptrOf A m) := by
 intro ρ w hρ hw o ho
 obtain ⟨a, rfl⟩ := hA
 have hx' : ρ x = .pointer (some (a.add k)) := hρ _ _ hx
 have e1 := (X.ok _ _ ht).und
 rw [hd] at e1
 have hS := run_sizeOf' (P := X.P) w (X.ok _ _ hft)
 have hz : ¬ fi.size = 0 := by rw [Nat.blt_eq] at hfs; omega
 subst hm
 simp [execOp, ho, hx', Instr.fieldAt, Instr.sureAddr, run_underlying e1, hf, fieldPlace, hS, hz, addadd, ptrOf]
/-- One element behind the first m ones. -/
theorem L.appendW {d t e ty m' : Nat} (j : Nat) {m c q : Nat} {pos : String} {af : Array Edge} {x y : Operand} {A B : Option Addr} {xs : List Value} {v : Value} {i ei : Ti} (ht : tlook t X.tab = some i) (hdesc : i.desc = .slice e) (he : tlook e X.tab = some ei) (hsz : ei.size = 1) (hzc : ei.zero.cells.size = 1)
   (hx : ev Γ x = some (.slice A m c)) (hy : ev Γ y = some (.slice B 1 q)) (hj : H[j]? = some (OwnW e A m' c xs)) (hm : m ≤ m') (hs : Src R H B [v]) (h1 : v.oneCell' = true)
   (hml : m < 4294967296) (hb : ei.bytes ≤ 4096) (hd : Nat.blt d n = true)
   (k : ∀ A' c', L X β n ds ops Q rest ((d, .slice A' (m + 1) c') :: Γ) R (H.set j (OwnW e A' (m + 1) c' (xs.take m ++ [v])))) :
   L X β n ds ops Q (⟨some d, .call ⟨.builtin .append, #[x, y], #[t, t]⟩, ty, pos, af, none⟩ :: rest) Γ R H := by
 intro a w hf hsat
 refine wpList_plain rfl fun K hK => ?_
 obtain ⟨e1, _⟩ := X.ok _ _ ht
 rw [hdesc] at e1
 obtain ⟨_, jf, hjf, g1, g2, g3⟩ := X.ok _ _ he
 have ho := hsat.own j _ hj
 obtain ⟨b, rfl, hbc⟩ := hs β w hsat 0 v rfl
 have hbytes : (m + 1) * ei.bytes ≤ 140737488355328 := Nat.le_trans (Nat.mul_le_mul (show m + 1 ≤ 4294967296 by omega) hb) (by decide)
 have hbytes1 : (0 + 1) * ei.bytes ≤ 140737488355328 := Nat.le_trans (Nat.mul_le_mul (show 0 + 1 ≤ 1 by omega) hb) (by decide)
 have hnews : ∀ (r : Nat) u, [v][r]? = some u → w.cell? (b.add r) = some u := by
   intro r u hu
   have hr0 : r = 0 := by
     have := (List.getElem?_eq_some_iff.1 hu).1
     simpa using this
   subst hr0
   obtain rfl : v = u := by simpa using hu
   exact hbc
 have h1' : ∀ u ∈ [v], u.oneCell' = true := fun u hu => by rw [List.mem_singleton.1 hu]; exact h1
 have hlx : (xs.take m).length = m := by rw [List.length_take, ho.1, Nat.min_eq_left hm]
 have fresh : ∀ {v' : Value} {w' : World} {B0 : Nat}, w'.ownsRow B0 e 1 v' (m + 1) (xs.take m ++ [v]) → w.grownBy w' none → w.heap.size ≤ B0 →
     ∃ A' c', v' = .slice A' (m + 1) c' ∧ (OwnW e A' (m + 1) c' (xs.take m ++ [v])).p w' ∧ (∀ k, (OwnW e A' (m + 1) c' (xs.take m ++ [v])).fp k → k < w'.heap.size ∧ (w.heap.size ≤ k ∨ (OwnW e A m' c xs).fp k)) := by
   intro v' w' B0 ho' hg hB
   rcases ho'.2 with ⟨_, h0⟩ | ⟨g, cap, cur, rfl, hge, hh, hnc, hcm, hcs, htk⟩
   · have h0' : m + 1 = 0 := h0
     omega
   · refine ⟨_, _, rfl, ⟨by rw [List.length_append, hlx]; rfl, .inr ⟨g, 0, cur, rfl, hh, hnc, hcm, by omega, by simpa using htk⟩⟩, ?_⟩
     rintro k ⟨a0, ha0, hk0⟩
     obtain rfl := Option.some.inj ha0
     have hk1 : g = k := hk0
     subst hk1
     exact ⟨(Array.getElem?_eq_some_iff.1 hh).1, .inl (Nat.le_trans hB hge)⟩
 have main : ∃ A' c' w', (Builtin.append_ #[t, t] ty #[.slice A m c, .slice (some b) 1 q]).run X.P w = .ok (.slice A' (m + 1) c') w' ∧ (OwnW e A' (m + 1) c' (xs.take m ++ [v])).p w' ∧ Stp w w' (fun k => (OwnW e A m' c xs).fp k) ∧
     (∀ k, (OwnW e A' (m + 1) c' (xs.take m ++ [v])).fp k → k < w'.heap.size ∧ (w.heap.size ≤ k ∨ (OwnW e A m' c xs).fp k)) := by
   rcases ho.2 with ⟨rfl, h0, rfl⟩ | ⟨g, o, cur, rfl, hh, hnc, hcm, hoc, hxs⟩
   · obtain rfl : m = 0 := by omega
     obtain ⟨v', w', hr, hown', hgr, hiff⟩ := run_append_own (P := X.P) w w.heap.size t ty e jf ei.zero 1 ei.bytes e1 hjf g3 (by rw [g1, hsz]) g2 hzc (by omega) (.slice none 0 0) 0 [] (World.ownsRow_nil w w.heap.size e 1) b 1 q [v] rfl hnews h1' (by unfold maxLen; omega) hbytes1 (Nat.le_refl _)
     obtain ⟨A', c', rfl, p1, p2⟩ := fresh (B0 := w.heap.size) (by simpa using hown') (by simpa [Value.ownBlock] using hgr) (Nat.le_refl _)
     exact ⟨A', c', w', hr, p1, (Stp.grown hgr).mono fun k hk => by simp [Value.ownBlock] at hk, p2⟩
   · by_cases hr : m + 1 ≤ c
     · have hidx : o + m < cur.size := by omega
       have hcell : w.cell? ⟨g, o + m, none⟩ = some cur[o + m] := by
         rw [cell_of_row w g (o + m) cur e (0, 0) hh]
         exact Array.getElem?_eq_getElem hidx
       have hrun := run_append_room_cells (P := X.P) w t ty e jf e1 hjf g o m c b 1 q [v] (by rw [g1, hsz]; rfl) hnews h1' hr (fun r hr => by
         have : r = 0 := by simpa using hr
         subst this
         rw [g1, hsz, Nat.mul_one]
         exact Option.isSome_of_mem hcell) (fun r hr => frozen_of_row w g _ cur e hh)
       rw [g1, hsz, Nat.mul_one] at hrun
       have hset : w.setCells g (o + m) [v] = w.setCell ⟨g, o + m, none⟩ v := rfl
       rw [hset] at hrun
       have hh' := heap_setCell_same w g (o + m) cur e v hh
       refine ⟨_, _, _, hrun, ⟨by rw [List.length_append, hlx]; rfl, .inr ⟨g, o, cur.setIfInBounds (o + m) v, rfl, hh', hr, hcm, by simpa using hoc, ?_⟩⟩, (Stp.setCell w ⟨g, o + m, none⟩ v).mono fun k hk => ⟨_, rfl, hk.symm⟩, ?_⟩
       · have hx1 : xs.take m = (cur.toList.drop o).take m := by
           rw [← hxs, List.take_take, Nat.min_eq_left hm]
         rw [hx1, Array.toList_setIfInBounds]
         apply List.ext_getElem?
         intro r
         rw [List.getElem?_take]
         by_cases hrm : r < m
         · rw [if_pos (by omega), List.getElem?_drop, List.getElem?_set_ne (by omega), List.getElem?_append_left (by rw [List.length_take, List.length_drop, Array.length_toList]; omega), List.getElem?_take, if_pos hrm, List.getElem?_drop]
         · by_cases hre : r = m
           · subst hre
             rw [if_pos (by omega), List.getElem?_drop, List.getElem?_set_self (by rw [Array.length_toList]; omega), List.getElem?_append_right (by rw [List.length_take, List.length_drop, Array.length_toList]; omega)]
             have : r - ((cur.toList.drop o).take r).length = 0 := by rw [List.length_take, List.length_drop, Array.length_toList]; omega
             rw [this]
             rfl
           · rw [if_neg (by omega), List.getElem?_eq_none]
             rw [List.length_append, List.length_take, List.length_drop, Array.length_toList]
             show _ + 1 ≤ _
             omega
       · rintro k ⟨a0, ha0, hk0⟩
         refine ⟨?_, .inr ⟨a0, ha0, hk0⟩⟩
         obtain rfl := Option.some.inj ha0
         have hk1 : g = k := hk0
         subst hk1
         simpa using (Array.getElem?_eq_some_iff.1 hh).1
     · have holds : ∀ (r : Nat) u, (xs.take m)[r]? = some u → w.cell? ((⟨g, o, none⟩ : Addr).add r) = some u := by
         intro r u hu
         rw [List.getElem?_take] at hu
         split at hu
         · obtain ⟨a0, ha0, hc0⟩ := OwnW.cell ho hu
           obtain rfl := Option.some.inj ha0
           exact hc0
         · cases hu
       obtain ⟨v', w', hrun, hown', hgr⟩ := run_append_arg_grows (P := X.P) w t ty e jf ei.zero 1 ei.bytes e1 hjf g3 (by rw [g1, hsz]) g2 hzc (by omega) ⟨g, o, none⟩ m c (xs.take m) (by rw [hlx, Nat.mul_one]) holds b 1 q [v] rfl hnews (by omega) (by unfold maxLen; omega) hbytes
       obtain ⟨A', c', rfl, p1, p2⟩ := fresh hown' hgr (Nat.le_refl _)
       exact ⟨A', c', w', hrun, p1, (Stp.grown hgr).mono fun k hk => by simp at hk, p2⟩
 obtain ⟨A', c', w', hrun, hp, hst, hfp⟩ := main
 unfold Oper.wp
 have hrun' : (execOp a.eval ⟨some d, .call ⟨.builtin .append, #[x, y], #[t, t]⟩, ty, pos, af, none⟩).run X.P w = .ok (.value (.slice A' (m + 1) c')) w' := by
   simp only [execOp, resolve, invoke, builtin, Sem.run_bind, Sem.run_pure, Result.andThen_ok, List.map_toArray, List.map_cons, List.map_nil, hf.eval hx, hf.eval hy, hrun]
 rw [hrun']
 refine hK _ _ (k A' c' _ _ (hf.put (by simpa [Nat.blt_eq] using hd) _) ?_)
 exact hsat.upd hj hst (fun b hb _ => hb) _ hp hfp
end
end Go.Sl
end
/-
  The longest pieces that end at each place.
-/
section
namespace Go.Proofs.YtbkmahjhhncfcaaGreat
open Go.Sl

set_option maxHeartbeats 2000000 in
theorem ends_c (A B : Option Addr) (z : List Au) (gs : List Nat) (ac bc : Nat) (b w : List UInt8) (Lw : Nat → List UInt8) (last : Nat) (hb : b.length ≤ 65536) (hgl : gs.length = z.length) (_hw : w.length ≤ 65536) (hA : AuOk w (Dn z) (Ag z) Lw last) :
   Ctr X 84 [.slice A z.length ac, .slice B b.length bc] [Rd A (auV gs z), MapsR gs (z.map Au.nx), Rd B (U8 b)] [] (fun v R' H' => ∃ (F : Option Addr) (fs : List (Nat × Nat)), v = .slice F (b.length + 1) (b.length + 1) ∧ R' = [] ∧ H' = [Own 149 2 F (b.length + 1) (b.length + 1) (fdV fs)] ∧ fs.length = (b.length + 1) ∧ ∀ i, i ≤ b.length → FdOk w b i (fs.getD i (0, 0))) := by
 refine Ctr.of (X := X) (fn := Tryz.f84) Tryz.func84 rfl (by kernel_rfl) rfl ?_
 intro β
 refine C.seq (C.region ?_); refine Lpu rfl rfl ?_; refine L.nil (QE.seq (C.seq (C.region ?_))); refine Lpu rfl rfl ?_; refine Lpu rfl rfl ?_; refine L.step (Ev.add rfl rfl (by omega) (by omega)) rfl ?_
 refine L.makeSt (m := (b.length + 1)) (cs := [.int .i64 0, .int .i64 0]) rfl rfl rfl rfl rfl rfl rfl rfl rfl rfl (by show 16 * _ ≤ _; omega) (by omega) rfl (fun A17 => ?_)
 refine Lpu rfl rfl ?_; refine L.nil (QE.seq (C.seq (C.region ?_))); refine Lpu rfl rfl ?_; refine Lpu rfl rfl ?_; refine L.nil (QE.seq (C.seq (C.seq (C.region ?_)))); refine Lpu rfl rfl ?_; refine Lpu rfl rfl ?_; refine Lpu rfl rfl ?_; refine L.nil (QE.seq (C.block ?_)); refine C.loop (fun s : Nat × Nat × Nat × List (Nat × Nat) => [(0, .slice A z.length ac), (18, .slice B b.length bc), (19, .int .i64 (b.length : Int)), (5, .slice A17 (b.length + 1) (b.length + 1)), (20, .int .i64 (s.1 : Int)), (6, .int .i64 (s.2.1 : Int)), (7, .int .i64 (s.2.2.1 : Int))]) (fun s : Nat × Nat × Nat × List (Nat × Nat) => [Rd A (auV gs z), MapsR gs (z.map Au.nx), Rd B (U8 b)]) (fun s : Nat × Nat × Nat × List (Nat × Nat) => [Own 149 2 A17 (b.length + 1) (b.length + 1) (fdV s.2.2.2)]) (fun s : Nat × Nat × Nat × List (Nat × Nat) => s.1 ≤ b.length ∧ s.2.2.2.length = (b.length + 1) ∧ (∀ j, j ≤ s.1 → FdOk w b j (s.2.2.2.getD j (0, 0))) ∧ EnI w (b.take s.1) z Lw s.2.1 s.2.2.1) (fun s : Nat × Nat × Nat × List (Nat × Nat) => b.length - s.1) (0, 0, 0, List.replicate (b.length + 1) (0, 0)) ⟨Nat.zero_le _, List.length_replicate, fun j hj => (by have hj0 : j = 0 := Nat.le_zero.1 hj; subst hj0; exact FdOk.zero w b), EnI.start hA⟩ (by exact Le.mk' (rs := [0, 1, 2]) (hs := [0]) ⟨rfl, rfl, rfl, rfl, rfl, rfl, rfl, trivial⟩ ⟨rfl, rfl, rfl, trivial⟩ ⟨(congrArg some (congrArg (Own 149 2 A17 (b.length + 1) (b.length + 1)) (flat_rep fdC (b.length + 1) (0, 0)).symm)), trivial⟩ (by decide)) ?_
 rintro ⟨i, at0, n0, fs⟩ ⟨hi, hfl, hfd, hen⟩
 dsimp only at hi hfl hfd hen ⊢
 obtain ⟨c, hc⟩ : ∃ c, c = b.getD i 0 := ⟨_, rfl⟩
 have hwl : (b.take i).length = i := by rw [List.length_take]; omega
 refine C.seq (C.region ?_); refine Lpu rfl rfl ?_; refine L.nil (QE.seq (C.seq ?_))
 refine C.condB 21 rfl (fun hc21 => ?_) (fun hc21 => ?_)
 · skip
   replace hc21 := of_decide_eq_true hc21
   refine C.skip (QE.seq (C.seq (C.block (C.seq (C.region ?_))))); refine Lpu rfl rfl ?_; refine L.step (Ev.idx1 (k := i) rfl rfl rfl rfl rfl rfl rfl (by omega) (Src.r 2 rfl) (by rw [U8_len]; omega)) rfl ?_; refine L.step (Ev.cast (u := .int .u8 (c.toNat : Int)) (Ev.load rfl rfl rfl (Src.r 2 rfl) (U8_get (by omega))) (by rw [hc])) rfl ?_; refine Lpu rfl rfl ?_; refine Lpu rfl rfl ?_; refine L.nil (QE.seq ?_); refine C.seqJ (fun s : Nat × Nat => [(0, .slice A z.length ac), (18, .slice B b.length bc), (19, .int .i64 (b.length : Int)), (5, .slice A17 (b.length + 1) (b.length + 1)), (20, .int .i64 (i : Int)), (8, .int .i64 (i : Int)), (9, .int .u8 (c.toNat : Int)), (6, .int .i64 (s.1 : Int)), (7, .int .i64 (s.2 : Int))]) (fun s : Nat × Nat => [Rd A (auV gs z), MapsR gs (z.map Au.nx), Rd B (U8 b)]) (fun s : Nat × Nat => [Own 149 2 A17 (b.length + 1) (b.length + 1) (fdV fs)]) (fun s : Nat × Nat => SkI w (b.take i) z Lw c s.1 s.2 ∧ (s.1 = 0 ∨ ((Ag z s.1).nx c).isSome = true)) ?_ ?_
   · skip
     refine C.block ?_; refine C.loop (fun s : Nat × Nat => [(0, .slice A z.length ac), (18, .slice B b.length bc), (19, .int .i64 (b.length : Int)), (5, .slice A17 (b.length + 1) (b.length + 1)), (20, .int .i64 (i : Int)), (8, .int .i64 (i : Int)), (9, .int .u8 (c.toNat : Int)), (6, .int .i64 (s.1 : Int)), (7, .int .i64 (s.2 : Int))]) (fun s : Nat × Nat => [Rd A (auV gs z), MapsR gs (z.map Au.nx), Rd B (U8 b)]) (fun s : Nat × Nat => [Own 149 2 A17 (b.length + 1) (b.length + 1) (fdV fs)]) (fun s : Nat × Nat => SkI w (b.take i) z Lw c s.1 s.2) (fun s : Nat × Nat => (Lw s.1).length) (at0, n0) (hen.seek c) (by exact Le.mk' (rs := [0, 1, 2]) (hs := [0]) ⟨rfl, rfl, rfl, rfl, rfl, rfl, rfl, rfl, rfl, trivial⟩ ⟨rfl, rfl, rfl, trivial⟩ ⟨rfl, trivial⟩ (by decide)) ?_
     rintro ⟨at_, n⟩ hsk
     dsimp only at hsk ⊢
     have hat := hsk.lt.1
     refine C.seq (C.seq (C.region ?_)); refine Lpu rfl rfl ?_; refine Lpu rfl rfl ?_; refine L.nil (QE.seq ?_)
     refine C.condB 26 rfl (fun hc26 => ?_) (fun hc26 => ?_)
     · skip
       replace hc26 := of_decide_eq_true hc26
       refine C.skip (QE.seq (C.block (C.seq (C.seq (C.region ?_))))); refine Lpu rfl rfl ?_; refine Lpu rfl rfl ?_; refine L.step (Ev.idx (k := at_) (m := at_ * 4) rfl rfl rfl rfl rfl rfl hat (Src.r 0 rfl) (auV_pos hgl hat) rfl) rfl ?_; refine L.step (Ev.fieldAddr rfl rfl rfl rfl rfl rfl (Src.r 0 rfl) (auV_pos hgl hat) rfl) rfl ?_; refine L.step (Ev.load rfl rfl rfl (Src.r 0 rfl) (auV_get (k := at_) (q := 0) hgl hat (by decide))) rfl ?_; refine Lpu rfl rfl ?_; refine L.step (Ev.cast (Ev.lookF (q' := c) rfl rfl rfl rfl rfl rfl rfl rfl rfl (HasF.msr 1 rfl at_ (by rw [List.length_map]; exact hat) (by rw [List.length_map]; exact hgl))) (congrArg (fun f : UInt8 → Option Nat => lkV (f c)) (nxs_get hat))) rfl ?_; refine Lpu rfl rfl ?_; refine Lpu rfl rfl ?_; refine Lpu rfl rfl ?_; refine Lpu rfl rfl ?_; refine Lpu rfl rfl ?_; refine L.nil (QE.seq (C.seq (C.region ?_))); refine Lpu rfl rfl ?_; refine L.nil (QE.seq ?_)
       refine C.condB 37 rfl (fun hc37 => ?_) (fun hc37 => ?_)
       · skip
         refine C.exit ?_; refine QE.tX ?_; refine QE.blkX rfl ?_; refine QE.tX ?_; refine QE.blk ?_
         refine QE.join ((at_, n)) (by exact ⟨hsk, .inr hc37⟩) (by exact Le.mk' (rs := [0, 1, 2]) (hs := [0]) ⟨rfl, rfl, rfl, rfl, rfl, rfl, rfl, rfl, rfl, trivial⟩ ⟨rfl, rfl, rfl, trivial⟩ ⟨rfl, trivial⟩ (by decide))
       · skip
         have hnn : (Ag z at_).nx c = none := Option.not_isSome_iff_eq_none.1 (by rw [hc37]; decide)
         obtain ⟨u, hlk, hu, hsk2, hlt⟩ := hsk.back hA hnn (by omega)
         refine C.skip (QE.seq (C.seq (C.region ?_))); refine Lpu rfl rfl ?_; refine Lpu rfl rfl ?_; refine L.step (Ev.idx (k := at_) (m := at_ * 4) rfl rfl rfl rfl rfl rfl hat (Src.r 0 rfl) (auV_pos hgl hat) rfl) rfl ?_; refine L.step (Ev.fieldAddr rfl rfl rfl rfl rfl rfl (Src.r 0 rfl) (auV_pos hgl hat) rfl) rfl ?_; refine L.step (Ev.cast (u := .int .i64 (u : Int)) (Ev.load rfl rfl rfl (Src.r 0 rfl) (auV_get (k := at_) (q := 1) hgl hat (by decide))) (congrArg (Value.int .i64) hlk)) rfl ?_; refine Lpu rfl rfl ?_; refine L.nil (QE.seq (C.region ?_)); refine Lpu rfl rfl ?_; refine Lpu rfl rfl ?_; refine L.step (Ev.idx (k := u) (m := u * 4) rfl rfl rfl rfl rfl rfl hu (Src.r 0 rfl) (auV_pos hgl hu) rfl) rfl ?_; refine L.step (Ev.fieldAddr rfl rfl rfl rfl rfl rfl (Src.r 0 rfl) (auV_pos hgl hu) rfl) rfl ?_; refine L.step (Ev.load rfl rfl rfl (Src.r 0 rfl) (auV_get (k := u) (q := 2) hgl hu (by decide))) rfl ?_; refine Lpu rfl rfl ?_; refine L.nil ?_; refine QE.blkN ?_
         refine QE.round (i := (at_, n)) ((u, (Ag z u).ln)) (by exact hsk2) hlt (by exact Le.mk' (rs := [0, 1, 2]) (hs := [0]) ⟨rfl, rfl, rfl, rfl, rfl, rfl, rfl, rfl, rfl, trivial⟩ ⟨rfl, rfl, rfl, trivial⟩ ⟨rfl, trivial⟩ (by decide))
     · skip
       replace hc26 := of_decide_eq_false hc26
       refine C.exit ?_; refine QE.tX ?_; refine QE.tX ?_; refine QE.blk ?_
       refine QE.join ((at_, n)) (by exact ⟨hsk, .inl (by dsimp only; omega)⟩) (by exact Le.mk' (rs := [0, 1, 2]) (hs := [0]) ⟨rfl, rfl, rfl, rfl, rfl, rfl, rfl, rfl, rfl, trivial⟩ ⟨rfl, rfl, rfl, trivial⟩ ⟨rfl, trivial⟩ (by decide))
   · skip
     rintro ⟨at_, n⟩ ⟨hsk, hor⟩
     dsimp only at hsk hor ⊢
     have hat := hsk.lt.1
     have hnb := hsk.lt.2
     rw [hwl] at hnb
     refine C.seqJ (fun s : Nat × Nat => [(0, .slice A z.length ac), (18, .slice B b.length bc), (19, .int .i64 (b.length : Int)), (5, .slice A17 (b.length + 1) (b.length + 1)), (20, .int .i64 (i : Int)), (8, .int .i64 (i : Int)), (9, .int .u8 (c.toNat : Int)), (6, .int .i64 (s.1 : Int)), (7, .int .i64 (s.2 : Int))]) (fun s : Nat × Nat => [Rd A (auV gs z), MapsR gs (z.map Au.nx), Rd B (U8 b)]) (fun s : Nat × Nat => [Own 149 2 A17 (b.length + 1) (b.length + 1) (fdV fs)]) (fun s : Nat × Nat => EnI w (b.take i ++ [c]) z Lw s.1 s.2) ?_ ?_
     · skip
       refine C.seq (C.region ?_); refine Lpu rfl rfl ?_; refine Lpu rfl rfl ?_; refine L.step (Ev.idx (k := at_) (m := at_ * 4) rfl rfl rfl rfl rfl rfl hat (Src.r 0 rfl) (auV_pos hgl hat) rfl) rfl ?_; refine L.step (Ev.fieldAddr rfl rfl rfl rfl rfl rfl (Src.r 0 rfl) (auV_pos hgl hat) rfl) rfl ?_; refine L.step (Ev.load rfl rfl rfl (Src.r 0 rfl) (auV_get (k := at_) (q := 0) hgl hat (by decide))) rfl ?_; refine Lpu rfl rfl ?_; refine L.step (Ev.cast (Ev.lookF (q' := c) rfl rfl rfl rfl rfl rfl rfl rfl rfl (HasF.msr 1 rfl at_ (by rw [List.length_map]; exact hat) (by rw [List.length_map]; exact hgl))) (congrArg (fun f : UInt8 → Option Nat => lkV (f c)) (nxs_get hat))) rfl ?_; refine Lpu rfl rfl ?_; refine Lpu rfl rfl ?_; refine Lpu rfl rfl ?_; refine Lpu rfl rfl ?_; refine Lpu rfl rfl ?_; refine L.nil (QE.seq (C.seq (C.region ?_))); refine Lpu rfl rfl ?_; refine L.nil (QE.seq ?_)
       refine C.condB 58 rfl (fun hc58 => ?_) (fun hc58 => ?_)
       · skip
         obtain ⟨u, hu⟩ := Option.isSome_iff_exists.1 hc58
         refine C.seq (C.region ?_); refine Lpu rfl rfl ?_; refine Lpu rfl rfl ?_; refine L.nil (QE.seq (C.region ?_)); refine Lpu rfl rfl ?_; refine L.step (Ev.add rfl rfl (by omega) (by omega)) rfl ?_; refine Lpu rfl rfl ?_; refine L.nil ?_
         have hnx := Option.eq_some_of_isSome hc58
         refine QE.join ((u, n + 1)) (by exact (hsk.yes hA hu)) (by exact Le.mk' (rs := [0, 1, 2]) (hs := [0]) ⟨rfl, rfl, rfl, rfl, rfl, rfl, rfl, (by dsimp only; rw [hu]; rfl), rfl, trivial⟩ ⟨rfl, rfl, rfl, trivial⟩ ⟨rfl, trivial⟩ (by decide))
       · skip
         refine C.skip ?_
         have hnn : (Ag z at_).nx c = none := Option.not_isSome_iff_eq_none.1 (by rw [hc58]; decide)
         have h0 : at_ = 0 := by rcases hor with h | h; exact h; rw [hnn] at h; cases h
         subst h0
         refine QE.join ((0, n)) (by exact (hsk.none hA hnn)) (by exact Le.mk' (rs := [0, 1, 2]) (hs := [0]) ⟨rfl, rfl, rfl, rfl, rfl, rfl, rfl, rfl, rfl, trivial⟩ ⟨rfl, rfl, rfl, trivial⟩ ⟨rfl, trivial⟩ (by decide))
     · skip
       rintro ⟨at_, n⟩ hen
       dsimp only at hen ⊢
       have hat := hen.lt.1
       have htk : b.take (i + 1) = b.take i ++ [c] := by rw [hc]; exact take_snoc' b 0 i (by omega)
       have hfdn : FdOk w b (i + 1) ((Ag z at_).en, n) := EnI.fd hA (by rw [htk]; exact hen)
       refine C.region ?_; refine Lpu rfl rfl ?_; refine Lpu rfl rfl ?_; refine L.step (Ev.add rfl rfl (by omega) (by omega)) rfl ?_; refine Lpu rfl rfl ?_; refine Lpu rfl rfl ?_; refine L.step (Ev.idx (k := at_) (m := at_ * 4) rfl rfl rfl rfl rfl rfl hat (Src.r 0 rfl) (auV_pos hgl hat) rfl) rfl ?_; refine L.step (Ev.fieldAddr rfl rfl rfl rfl rfl rfl (Src.r 0 rfl) (auV_pos hgl hat) rfl) rfl ?_; refine L.step (Ev.load rfl rfl rfl (Src.r 0 rfl) (auV_get (k := at_) (q := 3) hgl hat (by decide))) rfl ?_; refine Lpu rfl rfl ?_; refine L.step (Ev.build rfl rfl rfl rfl rfl rfl rfl) rfl ?_; refine L.step (Ev.idx (k := i + 1) (m := (i + 1) * 2) rfl rfl rfl rfl rfl rfl (by omega) (Src.o 0 rfl) (flat_pos fdC_len (by decide) (k := i + 1) (by omega)) rfl) rfl ?_; refine L.storeA (j := 0) (k := (i + 1) * 2) (vs := fdC ((Ag z at_).en, n)) rfl rfl rfl rfl rfl (Nat.zero_lt_succ _) rfl (Nat.ble_eq_true_of_le (by unfold fdV; rw [flat_len fdC_len, hfl]; show _ + 2 ≤ _; omega)) ?_; refine L.nil ?_; refine QE.blkN ?_; refine QE.seq (C.region ?_); refine L.step (Ev.add rfl rfl (by omega) (by omega)) rfl ?_; refine Lpu rfl rfl ?_; refine L.nil ?_
       refine QE.round (i := (i, at0, n0, fs)) ((i + 1, at_, n, fs.set (i + 1) ((Ag z at_).en, n))) (by exact ⟨by dsimp only; omega, by dsimp only; rw [List.length_set]; exact hfl, fun j hj => fd_set hfl (by omega) hfd hfdn j hj, by dsimp only; rw [htk]; exact hen⟩) (by dsimp only; omega) (by exact Le.mk' (rs := [0, 1, 2]) (hs := [0]) ⟨rfl, rfl, rfl, rfl, rfl, rfl, rfl, trivial⟩ ⟨rfl, rfl, rfl, trivial⟩ ⟨(congrArg some (congrArg (Own 149 2 A17 (b.length + 1) (b.length + 1)) (flat_put fdC_len fs (i + 1) ((Ag z at_).en, n) (by omega)))), trivial⟩ (by decide))
 · skip
   replace hc21 := of_decide_eq_false hc21
   refine C.exit ?_; refine QE.tX ?_; refine QE.tX ?_; refine QE.blk ?_; refine QE.seq (C.seq (C.region ?_)); refine Lpu rfl rfl ?_; refine Lpu rfl rfl ?_; refine L.nil (QE.seq (C.ret ?_)); refine QE.ret (js := []) (hs := [0]) (vs := [_]) rfl ⟨rfl, trivial⟩ (by decide) ?_
   obtain rfl : i = b.length := by omega
   exact ⟨A17, fs, rfl, rfl, rfl, hfl, hfd⟩

end Go.Proofs.YtbkmahjhhncfcaaGreat
end
