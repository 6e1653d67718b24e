/-
  The small separation logic: maps with whole numbers as keys: made, written, looked up.
-/
import Derived.MapKept
import Derived.Test.YtbkmahjhhncfcaaGreatUSlS
namespace Go.Sl

/-- What a map holds, in the order in which its keys came. -/
def mget (m : List (Int × Value)) (k : Int) : Option Value := match m with
 | [] => none
 | (a, v) :: m => if a = k then some v else mget m k
def mset (m : List (Int × Value)) (k : Int) (v : Value) : List (Int × Value) := match m with
 | [] => [(k, v)]
 | (a, u) :: m => if a = k then (a, v) :: m else (a, u) :: mset m k v
def mapK (kd : IntKind) (m : List (Int × Value)) : List (Value × Value) := m.map fun q => (.int kd q.1, q.2)
/-- The map in block g. -/
def MapP (kd : IntKind) (g : Nat) (m : List (Int × Value)) : Pr where
 fp k := k = g
 p w := ∃ (es : Array MapEntry) (clock : Nat), w.heap[g]? = some (.map es clock) ∧ es.toList.map (fun e => (e.key, e.val)) = mapK kd m
 st := by
   rintro w w' hk ⟨es, c, h, e⟩
   exact ⟨es, c, by rw [hk g rfl]; exact h, e⟩

theorem mfind {kd : IntKind} (k : Int) : ∀ (es : List MapEntry) (m : List (Int × Value)) (i : Nat), es.map (fun e => (e.key, e.val)) = mapK kd m →
   (mget m k = none ∧ Instr.findNow (.int kd) (.int kd k) es i = some none) ∨
   (∃ j e v, mget m k = some v ∧ Instr.findNow (.int kd) (.int kd k) es i = some (some (i + j, v)) ∧ es[j]? = some e ∧ e.key = .int kd k)
 | [], m, i, h => by
   have : m = [] := by simpa [mapK] using h.symm
   subst this
   exact .inl ⟨rfl, rfl⟩
 | e :: es, [], i, h => by simp [mapK] at h
 | e :: es, (a, u) :: m, i, h => by
   simp only [mapK, List.map_cons, List.cons.injEq, Prod.mk.injEq] at h
   obtain ⟨⟨h1, h2⟩, h3⟩ := h
   by_cases ha : a = k
   · subst ha
     refine .inr ⟨0, e, u, by simp [mget], ?_, rfl, h1⟩
     simp [Instr.findNow, h1, Instr.sameNow, h2]
   · have hs : Instr.sameNow (.int kd) (.int kd k) e.key = some false := by
       rw [h1]
       simp [Instr.sameNow]
       exact fun q => ha q.symm
     rcases mfind k es m (i + 1) h3 with ⟨g1, g2⟩ | ⟨j, e', v, g1, g2, g3, g4⟩
     · exact .inl ⟨by simp [mget, ha, g1], by simp [Instr.findNow, hs, g2]⟩
     · exact .inr ⟨j + 1, e', v, by simp [mget, ha, g1], by simp [Instr.findNow, hs, g2]; omega, by simpa using g3, g4⟩

theorem mset_new {m : List (Int × Value)} {k : Int} {v : Value} (h : mget m k = none) : mset m k v = m ++ [(k, v)] := by
 induction m with
 | nil => rfl
 | cons p m ih =>
   obtain ⟨a, u⟩ := p
   by_cases ha : a = k
   · simp [mget, ha] at h
   · simp only [mget, if_neg ha] at h
     simp [mset, if_neg ha, ih h]

theorem mset_at {kd : IntKind} {k : Int} {v : Value} : ∀ (es : List MapEntry) (m : List (Int × Value)) (i j : Nat) (u : Value), es.map (fun e => (e.key, e.val)) = mapK kd m →
   Instr.findNow (.int kd) (.int kd k) es i = some (some (i + j, u)) → (es.modify j fun e => { e with key := .int kd k, val := v }).map (fun e => (e.key, e.val)) = mapK kd (mset m k v)
 | [], m, i, j, u, _, hf => by simp [Instr.findNow] at hf
 | e :: es, [], i, j, u, h, _ => by simp [mapK] at h
 | e :: es, (a, x) :: m, i, j, u, h, hf => by
   simp only [mapK, List.map_cons, List.cons.injEq, Prod.mk.injEq] at h
   obtain ⟨⟨h1, h2⟩, h3⟩ := h
   by_cases ha : a = k
   · subst ha
     simp [Instr.findNow, h1, Instr.sameNow] at hf
     have : j = 0 := by omega
     subst this
     simp [mset, mapK, h3]
   · have hs : Instr.sameNow (.int kd) (.int kd k) e.key = some false := by
       rw [h1]
       simp [Instr.sameNow]
       exact fun q => ha q.symm
     simp only [Instr.findNow, hs] at hf
     cases j with
     | zero =>
       exfalso
       rcases mfind k es m (i + 1) h3 with ⟨g1, g2⟩ | ⟨j', e', v', g1, g2, g3, g4⟩
       · rw [g2] at hf; cases hf
       · rw [g2] at hf
         simp at hf
         omega
     | succ j =>
       have ih := mset_at es m (i + 1) j u h3 (v := v) (by rw [hf]; congr 3; omega)
       simp only [List.modify_succ_cons, List.map_cons, mset, if_neg ha, mapK, List.cons.injEq]
       exact ⟨by rw [h1, h2], ih⟩

section
variable {X : Cx} {β : Base} {n : Nat} {ds : List Deferred} {ops : Array Oper} {Q : Exit → Act → World → Prop} {rest : List Oper} {Γ : Env} {R H : List Pr}

theorem L.makeMap {d t ty : Nat} {pos : String} {af : Array Edge} (kd : IntKind) (hd : Nat.blt d n = true)
   (k : ∀ g, L X β n ds ops Q rest ((d, .map (some g)) :: Γ) R (H ++ [MapP kd g []])) : L X β n ds ops Q (⟨some d, .makeMap t none, ty, pos, af, none⟩ :: rest) Γ R H := by
 intro a w hf hs
 refine wpList_plain rfl fun K hK => ?_
 unfold Oper.wp
 have he : (execOp a.eval (⟨some d, .makeMap t none, ty, pos, af, none⟩ : Oper)).run X.P w = .ok (.value (.map (some w.heap.size))) (w.alloc (.map #[] 0)) := rfl
 rw [he]
 refine hK _ _ (k w.heap.size _ _ (hf.put (by simpa [Nat.blt_eq] using hd) _) ?_)
 refine hs.snoc (Stp.alloc w _ fun _ => False) (fun _ h _ => h) _ ⟨#[], 0, (MapKept.heap_alloc w _).1, rfl⟩ ?_
 intro k hk
 have hk' : k = w.heap.size := hk
 subst hk'
 exact ⟨by simp, Nat.le_refl _⟩

def HasMap (R H : List Pr) (kd : IntKind) (g : Nat) (m : List (Int × Value)) : Prop := ∀ β w, Sat β w R H → (MapP kd g m).p w
theorem HasMap.r (j : Nat) {kd : IntKind} {g : Nat} {m : List (Int × Value)} (h : R[j]? = some (MapP kd g m)) : HasMap R H kd g m := fun _ _ hs => hs.rd _ (List.mem_of_getElem? h)
theorem HasMap.o (j : Nat) {kd : IntKind} {g : Nat} {m : List (Int × Value)} (h : H[j]? = some (MapP kd g m)) : HasMap R H kd g m := fun _ _ hs => hs.own j _ h

theorem Ev.lookup {t kt et g : Nat} {x y : Operand} {c : Bool} {kd : IntKind} {q : Int} {m : List (Int × Value)} {i ki ei : Ti} (ht : tlook t X.tab = some i) (hdesc : i.desc = .map kt et) (hk : tlook kt X.tab = some ki) (hkd : ki.desc = .int kd) (he : tlook et X.tab = some ei)
   (hx : ev Γ x = some (.map (some g))) (hy : ev Γ y = some (.int kd q)) (hm : HasMap R H kd g m) :
   Ev X β Γ R H (.lookup t x y c) (if c = true then .tuple #[(mget m q).getD ei.zero, .bool (mget m q).isSome] else (mget m q).getD ei.zero) := by
 intro ρ w hρ hs o ho
 obtain ⟨e1, _⟩ := X.ok _ _ ht
 rw [hdesc] at e1
 obtain ⟨e2, _⟩ := X.ok _ _ hk
 rw [hkd] at e2
 obtain ⟨_, j, hj, _, _, h3⟩ := X.ok _ _ he
 have hz : (zeroValue et).run X.P w = .ok ei.zero w := by simp [zeroValue, typeInfo, hj, h3]
 obtain ⟨es, clock, hh, hes⟩ := hm β w hs
 have hck := MapKept.run_checkKey (P := X.P) (w := w) (k := .int kd q) e2 rfl es.isEmpty 9999
 rcases mfind q es.toList m 0 hes with ⟨g1, g2⟩ | ⟨j, e, v, g1, g2, _, _⟩
 · cases c <;> simp [execOp, ho, hρ _ _ hx, hρ _ _ hy, Instr.lookup, run_underlying e1, MapKept.run_getObj_map hh, hck, MapKept.run_findKey e2 g2, hz, g1, Result.andThen]
 · cases c <;> simp [execOp, ho, hρ _ _ hx, hρ _ _ hy, Instr.lookup, run_underlying e1, MapKept.run_getObj_map hh, hck, MapKept.run_findKey e2 g2, g1, Result.andThen]

/-- A map that is only read from now on. -/
theorem Sat.freezeAny {w : World} (h : Sat β w R H) {j : Nat} {c : Pr} (hj : H[j]? = some c) {js : List Nat} (hn : js.Nodup) (hjj : js.contains j = false) : Sat β w (c :: R) (Sl.sel H js) := by
 have hjn : j ∉ js := by simpa using hjj
 have hh := h.sel hn
 refine ⟨hh.ext, ?_, ?_, hh.own, hh.ofp, hh.dis, ?_⟩
 · intro r hr
   rcases List.mem_cons.1 hr with rfl | hr
   · exact h.own j _ hj
   · exact h.rd r hr
 · intro r hr k hk
   rcases List.mem_cons.1 hr with rfl | hr
   · have := h.ofp j _ hj k hk
     exact ⟨this.1, by rcases this.2 with x | x; exact .inl x; exact .inr (.inl x)⟩
   · exact h.rfp r hr k hk
 · intro r hr i d hd k hk hk'
   rcases List.mem_cons.1 hr with rfl | hr
   · obtain ⟨q, hq, hq2⟩ := sel_mem (List.mem_of_getElem? hd)
     exact h.dis j q _ _ hj hq2 (fun e => hjn (e ▸ hq)) k hk hk'
   · exact hh.sep r hr i d hd k hk hk'
theorem L.freezeAny (j : Nat) {c : Pr} (hj : H[j]? = some c) (js : List Nat) (hn : js.Nodup) (hjj : js.contains j = false) (h : L X β n ds ops Q rest Γ (c :: R) (sel H js)) : L X β n ds ops Q rest Γ R H := fun a w hf hs => h a w hf (hs.freezeAny hj hn hjj)
theorem C.freezeAny {x : Code} (j : Nat) {c : Pr} (hj : H[j]? = some c) (js : List Nat) (hn : js.Nodup) (hjj : js.contains j = false) (h : C X β n ds Q x Γ (c :: R) (sel H js)) : C X β n ds Q x Γ R H := fun a w hf hs => h a w hf (hs.freezeAny hj hn hjj)
theorem QE.freezeAny {x : Exit} (j : Nat) {c : Pr} (hj : H[j]? = some c) (js : List Nat) (hn : js.Nodup) (hjj : js.contains j = false) (h : QE β n ds Q x Γ (c :: R) (sel H js)) : QE β n ds Q x Γ R H := fun a w hf hs => h a w hf (hs.freezeAny hj hn hjj)
end
end Go.Sl
