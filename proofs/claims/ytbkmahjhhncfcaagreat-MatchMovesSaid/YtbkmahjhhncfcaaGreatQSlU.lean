/-
  The small separation logic: maps from bytes to numbers, known by what they answer: one, many of them, handed out in any order.
-/
import Derived.Maps.RangeRun
import Derived.Test.YtbkmahjhhncfcaaGreatQSlS
import Derived.Test.YtbkmahjhhncfcaaGreatQMa
namespace Go.Sl

def alook : List (UInt8 × Nat) → UInt8 → Option Nat
 | [], _ => none
 | (a, v) :: m, c => if a = c then some v else alook m c
def aset : List (UInt8 × Nat) → UInt8 → Nat → List (UInt8 × Nat)
 | [], c, v => [(c, v)]
 | (a, u) :: m, c, v => if a = c then (a, v) :: m else (a, u) :: aset m c v
def amap (m : List (UInt8 × Nat)) : List (Int × Value) := m.map fun q => ((q.1.toNat : Int), .int .i64 (q.2 : Int))
theorem mget_amap (m : List (UInt8 × Nat)) (c : UInt8) : mget (amap m) (c.toNat : Int) = (alook m c).map fun n => .int .i64 (n : Int) := by
 induction m with
 | nil => rfl
 | cons p m ih =>
   obtain ⟨a, v⟩ := p
   rw [show amap ((a, v) :: m) = ((a.toNat : Int), .int .i64 (v : Int)) :: amap m from rfl]
   unfold mget alook
   by_cases h : a = c
   · subst h
     simp
   · rw [if_neg (fun e => h (u8_eq.1 e)), if_neg h]
     exact ih
theorem mset_amap (m : List (UInt8 × Nat)) (c : UInt8) (v : Nat) : mset (amap m) (c.toNat : Int) (.int .i64 (v : Int)) = amap (aset m c v) := by
 induction m with
 | nil => rfl
 | cons p m ih =>
   obtain ⟨a, u⟩ := p
   rw [show amap ((a, u) :: m) = ((a.toNat : Int), .int .i64 (u : Int)) :: amap m from rfl]
   unfold mset aset
   by_cases h : a = c
   · subst h
     rw [if_pos rfl, if_pos rfl]
     rfl
   · rw [if_neg (fun e => h (u8_eq.1 e)), if_neg h, ih]
     rfl
theorem alook_aset (m : List (UInt8 × Nat)) (c : UInt8) (v : Nat) (d : UInt8) : alook (aset m c v) d = if d = c then some v else alook m d := by
 induction m with
 | nil =>
   show (if c = d then some v else none) = _
   by_cases h : d = c
   · subst h; simp
   · rw [if_neg h, if_neg (fun e => h e.symm)]; rfl
 | cons p m ih =>
   obtain ⟨a, u⟩ := p
   unfold aset
   by_cases h : a = c
   · subst h
     rw [if_pos rfl]
     unfold alook
     by_cases h2 : a = d
     · subst h2; simp
     · rw [if_neg h2, if_neg h2, if_neg (fun e => h2 e.symm)]
   · rw [if_neg h]
     unfold alook
     by_cases h2 : a = d
     · subst h2
       rw [if_pos rfl, if_pos rfl, if_neg h]
     · rw [if_neg h2, if_neg h2]
       exact ih
theorem alook_in {c : UInt8} : ∀ {m : List (UInt8 × Nat)}, c ∈ m.map (·.1) → alook m c ≠ none
 | [], h => by cases h
 | (a, v) :: m, h => by
   unfold alook
   split
   · simp
   · rename_i hne
     rcases List.mem_cons.1 h with h | h
     · exact absurd h.symm hne
     · exact alook_in h
theorem nodup_inj {α : Type} {l : List α} (h : l.Nodup) {i j : Nat} {x : α} (hi : l[i]? = some x) (hj : l[j]? = some x) : i = j := by
 obtain ⟨l1, e1⟩ := List.getElem?_eq_some_iff.1 hi
 obtain ⟨l2, e2⟩ := List.getElem?_eq_some_iff.1 hj
 have hp := List.pairwise_iff_getElem.1 h
 rcases Nat.lt_trichotomy i j with g | g | g
 · exact absurd (e1.trans e2.symm) (hp i j l1 l2 g)
 · exact g
 · exact absurd (e2.trans e1.symm) (hp j i l2 l1 g)
/-- What the entries of a map answer. -/
structure MapIs (f : UInt8 → Option Nat) (m : List (UInt8 × Nat)) (es : Array MapEntry) (clock : Nat) : Prop where
 stamp : MapKept.Stamped es clock
 ents : es.toList.map (fun e => (e.key, e.val)) = mapK .u8 (amap m)
 look : ∀ c, f c = alook m c
def MapF (g : Nat) (f : UInt8 → Option Nat) : Pr where
 fp k := k = g
 p w := ∃ (m : List (UInt8 × Nat)) (es : Array MapEntry) (clock : Nat), w.heap[g]? = some (.map es clock) ∧ MapIs f m es clock
 st := by
   rintro w w' hk ⟨m, es, c, h, r⟩
   exact ⟨m, es, c, by rw [hk g rfl]; exact h, r⟩
/-- The map as it is. -/
def MapE (g : Nat) (es : Array MapEntry) (clock : Nat) : Pr where
 fp k := k = g
 p w := w.heap[g]? = some (.map es clock)
 st := by
   intro w w' hk h
   show w'.heap[g]? = _
   rw [hk g rfl]
   exact h
/-- An iterator. -/
def ItP (r g clock : Nat) (seen : Array Nat) : Pr where
 fp k := k = r
 p w := w.heap[r]? = some (.mapIter (some g) clock seen clock)
 st := by
   intro w w' hk h
   show w'.heap[r]? = _
   rw [hk r rfl]
   exact h
def HasF (R H : List Pr) (g : Nat) (f : UInt8 → Option Nat) : Prop := ∀ β w, Sat β w R H → (MapF g f).p w
/-- Many maps, each in a block of its own. -/
def OwnMs (gs : List Nat) (fs : List (UInt8 → Option Nat)) : Pr where
 fp k := k ∈ gs
 p w := gs.Nodup ∧ gs.length = fs.length ∧ ∀ (i g : Nat) (f : UInt8 → Option Nat), gs[i]? = some g → fs[i]? = some f → (MapF g f).p w
 st := by
   intro w w' hk hp
   exact ⟨hp.1, hp.2.1, fun i g f hg hf => (MapF g f).st w w' (fun k hkk => hk k (hkk ▸ List.mem_of_getElem? hg)) (hp.2.2 i g f hg hf)⟩
def MapsR (gs : List Nat) (fs : List (UInt8 → Option Nat)) : Pr where
 fp k := k ∈ gs
 p w := ∀ (i g : Nat) (f : UInt8 → Option Nat), gs[i]? = some g → fs[i]? = some f → (MapF g f).p w
 st := by
   intro w w' hk hp i g f hg hf
   exact (MapF g f).st w w' (fun k hkk => hk k (hkk ▸ List.mem_of_getElem? hg)) (hp i g f hg hf)

section
variable {X : Cx} {β : Base} {n : Nat} {ds : List Deferred} {ops : Array Oper} {Q : Exit → Act → World → Prop} {rest : List Oper} {Γ : Env} {R H : List Pr}

theorem HasF.r (j : Nat) {g : Nat} {f : UInt8 → Option Nat} (h : R[j]? = some (MapF g f)) : HasF R H g f := fun _ _ hs => hs.rd _ (List.mem_of_getElem? h)
theorem HasF.o (j : Nat) {g : Nat} {f : UInt8 → Option Nat} (h : H[j]? = some (MapF g f)) : HasF R H g f := fun _ _ hs => hs.own j _ h
theorem HasF.ms (j : Nat) {gs : List Nat} {fs : List (UInt8 → Option Nat)} (h : H[j]? = some (OwnMs gs fs)) (i : Nat) (hi : i < fs.length) (hl : gs.length = fs.length) : HasF R H (gs.getD i 0) (fs.getD i fun _ => none) := fun _ _ hs =>
 (hs.own j _ h).2.2 i _ _ (getD_some (by omega)) (getD_some hi)
theorem HasF.msr (j : Nat) {gs : List Nat} {fs : List (UInt8 → Option Nat)} (h : R[j]? = some (MapsR gs fs)) (i : Nat) (hi : i < fs.length) (hl : gs.length = fs.length) : HasF R H (gs.getD i 0) (fs.getD i fun _ => none) := fun _ _ hs =>
 (hs.rd _ (List.mem_of_getElem? h)) i _ _ (getD_some (by omega)) (getD_some hi)
theorem Has.ms (j : Nat) {gs : List Nat} {fs : List (UInt8 → Option Nat)} (h : H[j]? = some (OwnMs gs fs)) : Has R H (MapsR gs fs) :=
 ⟨fun _ _ hs => (hs.own j _ h).2.2, fun _ hk => .inr ⟨j, _, h, hk⟩⟩
theorem Has.msOne (j : Nat) {gs : List Nat} {fs : List (UInt8 → Option Nat)} (h : H[j]? = some (OwnMs gs fs)) (i : Nat) (hi : i < fs.length) (hl : gs.length = fs.length) : Has R H (MapF (gs.getD i 0) (fs.getD i fun _ => none)) :=
 ⟨fun β w hs => HasF.ms (R := R) j h i hi hl β w hs, fun k hk => .inr ⟨j, _, h, by
   show k ∈ gs
   rw [show k = gs.getD i 0 from hk]
   exact List.mem_of_getElem? (getD_some (by omega) : gs[i]? = some (gs.getD i 0))⟩⟩

theorem HasF.has {g : Nat} {f : UInt8 → Option Nat} (h : HasF R H g f) {w : World} (hs : Sat β w R H) : ∃ (m : List (UInt8 × Nat)) (es : Array MapEntry) (clock : Nat), w.heap[g]? = some (.map es clock) ∧ MapIs f m es clock := h β w hs

theorem L.makeMapF {d t ty : Nat} {pos : String} {af : Array Edge} (hd : Nat.blt d n = true)
   (k : ∀ g, L X β n ds ops Q rest ((d, .map (some g)) :: Γ) R (H ++ [MapF g fun _ => none])) : L X β n ds ops Q (⟨some d, .makeMap t none, ty, pos, af, none⟩ :: rest) Γ R H := by
 intro a w hf hs
 refine wpList_plain rfl fun K hK => ?_
 unfold Oper.wp
 have he : (execOp a.eval (⟨some d, .makeMap t none, ty, pos, af, none⟩ : Oper)).run X.P w = .ok (.value (.map (some w.heap.size))) (w.alloc (.map #[] 0)) := rfl
 rw [he]
 refine hK _ _ (k w.heap.size _ _ (hf.put (by simpa [Nat.blt_eq] using hd) _) ?_)
 refine hs.snoc (Stp.alloc w _ fun _ => False) (fun _ h _ => h) _ ⟨[], #[], 0, (MapKept.heap_alloc w _).1, MapKept.stamped_empty 0, rfl, fun _ => rfl⟩ ?_
 intro k hk
 have hk' : k = w.heap.size := hk
 subst hk'
 exact ⟨by simp, Nat.le_refl _⟩
theorem L.makeMapN {d t ty kt et : Nat} {pos : String} {af : Array Edge} {x : Operand} {kd : IntKind} {q : Int} {i : Ti} (ht : tlook t X.tab = some i) (hdesc : i.desc = .map kt et) (hx : ev Γ x = some (.int kd q)) (hd : Nat.blt d n = true)
   (k : ∀ g, L X β n ds ops Q rest ((d, .map (some g)) :: Γ) R (H ++ [MapF g fun _ => none])) : L X β n ds ops Q (⟨some d, .makeMap t (some x), ty, pos, af, none⟩ :: rest) Γ R H := by
 intro a w hf hs
 refine wpList_plain rfl fun K hK => ?_
 unfold Oper.wp
 obtain ⟨e1, _⟩ := X.ok _ _ ht
 rw [hdesc] at e1
 have he : (execOp a.eval (⟨some d, .makeMap t (some x), ty, pos, af, none⟩ : Oper)).run X.P w = .ok (.value (.map (some w.heap.size))) (w.alloc (.map #[] 0)) := by
   simp [execOp, Instr.makeMap, hf.agree _ _ hx, run_underlying e1, asInt, asIntOf, newObj, Result.andThen]
   rfl
 rw [he]
 refine hK _ _ (k w.heap.size _ _ (hf.put (by simpa [Nat.blt_eq] using hd) _) ?_)
 refine hs.snoc (Stp.alloc w _ fun _ => False) (fun _ h _ => h) _ ⟨[], #[], 0, (MapKept.heap_alloc w _).1, MapKept.stamped_empty 0, rfl, fun _ => rfl⟩ ?_
 intro k hk
 have hk' : k = w.heap.size := hk
 subst hk'
 exact ⟨by simp, Nat.le_refl _⟩

/-- What a look into the map gives. -/
def lkV (o : Option Nat) : Value := .tuple #[.int .i64 ((o.getD 0 : Nat) : Int), .bool o.isSome]
theorem Ev.lookF {t kt et g : Nat} {x y : Operand} {q : Int} {q' : UInt8} {f : UInt8 → Option Nat} {i ki ei : Ti} (ht : tlook t X.tab = some i) (hdesc : i.desc = .map kt et) (hk : tlook kt X.tab = some ki) (hkd : ki.desc = .int .u8) (he : tlook et X.tab = some ei) (hez : ei.zero = .int .i64 0)
   (hx : ev Γ x = some (.map (some g))) (hy : ev Γ y = some (.int .u8 q)) (hq : q = (q'.toNat : Int)) (hm : HasF R H g f) : Ev X β Γ R H (.lookup t x y true) (lkV (f q')) := by
 intro ρ w hρ hs o ho
 subst hq
 obtain ⟨m, es, clock, hh, hm'⟩ := hm.has hs
 have hp : HasMap [MapP .u8 g (amap m)] [] .u8 g (amap m) := HasMap.r 0 rfl
 obtain ⟨e1, _⟩ := X.ok _ _ ht
 rw [hdesc] at e1
 obtain ⟨e2, _⟩ := X.ok _ _ hk
 rw [hkd] at e2
 obtain ⟨_, j, hj, _, _, h3⟩ := X.ok _ _ he
 have hz : (zeroValue et).run X.P w = .ok ei.zero w := by simp [zeroValue, typeInfo, hj, h3]
 have hck := MapKept.run_checkKey (P := X.P) (w := w) (k := .int .u8 (q'.toNat : Int)) e2 rfl es.isEmpty 9999
 have hg := mget_amap m q'
 rw [← hm'.look] at hg
 rcases mfind (q'.toNat : Int) es.toList (amap m) 0 hm'.ents with ⟨g1, g2⟩ | ⟨j, e, v, g1, g2, _, _⟩
 · rw [hg] at g1
   have hn : f q' = none := by
     cases hf : f q' with
     | none => rfl
     | some u => rw [hf] at g1; cases g1
   simp [execOp, ho, hρ _ _ hx, hρ _ _ hy, Instr.lookup, run_underlying e1, MapKept.run_getObj_map hh, hck, MapKept.run_findKey e2 g2, hz, hn, hez, lkV, Result.andThen]
 · rw [hg] at g1
   cases hf : f q' with
   | none => rw [hf] at g1; cases g1
   | some u =>
     rw [hf] at g1
     have hv : v = .int .i64 (u : Int) := (Option.some.inj g1).symm
     subst hv
     simp [execOp, ho, hρ _ _ hx, hρ _ _ hy, Instr.lookup, run_underlying e1, MapKept.run_getObj_map hh, hck, MapKept.run_findKey e2 g2, lkV, Result.andThen]
theorem Ev.lookF1 {t kt et g : Nat} {x y : Operand} {q : Int} {q' : UInt8} {f : UInt8 → Option Nat} {i ki ei : Ti} (ht : tlook t X.tab = some i) (hdesc : i.desc = .map kt et) (hk : tlook kt X.tab = some ki) (hkd : ki.desc = .int .u8) (he : tlook et X.tab = some ei) (hez : ei.zero = .int .i64 0)
   (hx : ev Γ x = some (.map (some g))) (hy : ev Γ y = some (.int .u8 q)) (hq : q = (q'.toNat : Int)) (hm : HasF R H g f) : Ev X β Γ R H (.lookup t x y false) (.int .i64 (((f q').getD 0 : Nat) : Int)) := by
 intro ρ w hρ hs o ho
 subst hq
 obtain ⟨m, es, clock, hh, hm'⟩ := hm.has hs
 obtain ⟨e1, _⟩ := X.ok _ _ ht
 rw [hdesc] at e1
 obtain ⟨e2, _⟩ := X.ok _ _ hk
 rw [hkd] at e2
 obtain ⟨_, j, hj, _, _, h3⟩ := X.ok _ _ he
 have hz : (zeroValue et).run X.P w = .ok ei.zero w := by simp [zeroValue, typeInfo, hj, h3]
 have hck := MapKept.run_checkKey (P := X.P) (w := w) (k := .int .u8 (q'.toNat : Int)) e2 rfl es.isEmpty 9999
 have hg := mget_amap m q'
 rw [← hm'.look] at hg
 rcases mfind (q'.toNat : Int) es.toList (amap m) 0 hm'.ents with ⟨g1, g2⟩ | ⟨j, e, v, g1, g2, _, _⟩
 · rw [hg] at g1
   have hn : f q' = none := by
     cases hf : f q' with
     | none => rfl
     | some u => rw [hf] at g1; cases g1
   simp [execOp, ho, hρ _ _ hx, hρ _ _ hy, Instr.lookup, run_underlying e1, MapKept.run_getObj_map hh, hck, MapKept.run_findKey e2 g2, hz, hn, hez, Result.andThen]
 · rw [hg] at g1
   cases hf : f q' with
   | none => rw [hf] at g1; cases g1
   | some u =>
     rw [hf] at g1
     have hv : v = .int .i64 (u : Int) := (Option.some.inj g1).symm
     subst hv
     simp [execOp, ho, hρ _ _ hx, hρ _ _ hy, Instr.lookup, run_underlying e1, MapKept.run_getObj_map hh, hck, MapKept.run_findKey e2 g2, Result.andThen]

/-- An entry is laid into a map: what the block holds then. -/
theorem run_setF {P : Program} {w : World} {ρ : Operand → Value} {t kt et ty g : Nat} {pos : String} {af : Array Edge} {x y z : Operand} {q' : UInt8} {v : Nat} {f : UInt8 → Option Nat} (e1 : P.underlying t = some (.map kt et)) (e2 : P.underlying kt = some (.int .u8))
   (hx : ρ x = .map (some g)) (hy : ρ y = .int .u8 (q'.toNat : Int)) (hz : ρ z = .int .i64 (v : Int)) (h : (MapF g f).p w) :
   ∃ es' clock', (execOp ρ (⟨none, .mapUpdate t x y z, ty, pos, af, none⟩ : Oper)).run P w = .ok .skip { w with heap := w.heap.setIfInBounds g (.map es' clock') } ∧ g < w.heap.size ∧ ∃ m', MapIs (updA f q' v) m' es' clock' := by
 obtain ⟨m, es, clock, hh, hm'⟩ := h
 have hck := MapKept.run_checkKey (P := P) (w := w) (k := .int .u8 (q'.toNat : Int)) e2 rfl false 9999
 have hlt : g < w.heap.size := (Array.getElem?_eq_some_iff.1 hh).1
 have hlk : ∀ c, updA f q' v c = alook (aset m q' v) c := fun c => by
   rw [alook_aset, updA, hm'.look]
 have hmap : ∀ x ∈ es.toList, ∃ c ∈ m.map (·.1), x.key = .int .u8 (c.toNat : Int) := by
   intro x hx
   have : (x.key, x.val) ∈ es.toList.map (fun e => (e.key, e.val)) := List.mem_map.2 ⟨x, hx, rfl⟩
   rw [hm'.ents] at this
   simp only [mapK, amap, List.map_map, List.mem_map, Function.comp] at this
   obtain ⟨p, hp, e⟩ := this
   exact ⟨p.1, List.mem_map.2 ⟨p, hp, rfl⟩, (Prod.mk.inj e).1.symm⟩
 rcases mfind (q'.toNat : Int) es.toList (amap m) 0 hm'.ents with ⟨g1, g2⟩ | ⟨j', e, u, g1, g2, g3, g4⟩
 · refine ⟨es.push ⟨.int .u8 (q'.toNat : Int), .int .i64 (v : Int), clock⟩, clock + 1, ?_, hlt, aset m q' v, ?_, ?_, hlk⟩
   · simp [execOp, hx, hy, hz, Instr.mapUpdate, run_underlying e1, MapKept.run_getObj_map hh, hck, MapKept.run_findKey e2 g2, MapKept.run_setObj_map _ hh, Result.andThen]
   · refine MapKept.stamped_push hm'.stamp fun x hx => ?_
     obtain ⟨c, hc, e⟩ := hmap x hx
     rw [e]
     intro h
     injection h with _ h
     have hcq : c = q' := u8_eq.1 h
     subst hcq
     rw [mget_amap] at g1
     have : alook m c ≠ none := alook_in hc
     cases ha : alook m c with
     | none => exact this ha
     | some u => rw [ha] at g1; cases g1
   · rw [Array.toList_push, List.map_append, hm'.ents, ← mset_amap, mset_new g1]
     simp [mapK]
 · have hj' : es[j']? = some e := by simpa using g3
   have hkk := MapKept.run_keyThatStays (P := P) (w := w) (k := .int .u8 (q'.toNat : Int)) (d := .int .u8) rfl
   refine ⟨es.modify j' fun e => { e with key := .int .u8 (q'.toNat : Int), val := .int .i64 (v : Int) }, clock, ?_, hlt, aset m q' v, ?_, ?_, hlk⟩
   · simp [execOp, hx, hy, hz, Instr.mapUpdate, run_underlying e1, MapKept.run_getObj_map hh, hck, MapKept.run_findKey e2 g2, hj', g4, hkk, MapKept.run_setObj_map _ hh, Result.andThen]
   · refine MapKept.stamped_modify hm'.stamp j' _ (fun _ _ => rfl) fun x _ hx => ?_
     rw [hj'] at hx
     obtain rfl := Option.some.inj hx
     exact g4.symm
   · rw [Array.toList_modify, ← mset_amap]
     exact mset_at es.toList (amap m) 0 j' u hm'.ents g2

theorem heap_set_self (w : World) {g : Nat} (o : Obj) (h : g < w.heap.size) : (w.heap.setIfInBounds g o)[g]? = some o := by simp [h]
theorem Stp.setObj (w : World) (g : Nat) (o : Obj) : Stp w { w with heap := w.heap.setIfInBounds g o } (· = g) := ⟨rfl, rfl, rfl, by simp, fun b _ hb => by
 show (w.heap.setIfInBounds g _)[b]? = _
 rw [Array.getElem?_setIfInBounds_ne (fun e => hb e.symm)]⟩

theorem L.setF {t kt et ty g j : Nat} {pos : String} {af : Array Edge} {x y z : Operand} {q u : Int} {q' : UInt8} {v : Nat} {f : UInt8 → Option Nat} {i ki : Ti} (ht : tlook t X.tab = some i) (hdesc : i.desc = .map kt et) (hk : tlook kt X.tab = some ki) (hkd : ki.desc = .int .u8)
   (hx : ev Γ x = some (.map (some g))) (hy : ev Γ y = some (.int .u8 q)) (hz : ev Γ z = some (.int .i64 u)) (hq : q = (q'.toNat : Int)) (hu : u = (v : Int)) (hj : H[j]? = some (MapF g f))
   (k : L X β n ds ops Q rest Γ R (H.set j (MapF g (updA f q' v)))) : L X β n ds ops Q (⟨none, .mapUpdate t x y z, ty, pos, af, none⟩ :: rest) Γ R H := by
 intro a w hf hs
 subst hq hu
 refine wpList_plain rfl fun K hK => ?_
 unfold Oper.wp
 obtain ⟨e1, _⟩ := X.ok _ _ ht
 rw [hdesc] at e1
 obtain ⟨e2, _⟩ := X.ok _ _ hk
 rw [hkd] at e2
 obtain ⟨es', clock', hr, hlt, m', hm⟩ := run_setF (ρ := a.eval) (ty := ty) (pos := pos) (af := af) e1 e2 (hf.agree _ _ hx) (hf.agree _ _ hy) (hf.agree _ _ hz) (hs.own j _ hj)
 rw [hr]
 refine hK _ _ (k _ _ hf ?_)
 refine hs.upd hj (Stp.setObj w g _) (fun b hb _ => hb) _ ⟨m', es', clock', by simp [hlt], hm⟩ ?_
 intro b hb
 have hb' : b = g := hb
 subst hb'
 exact ⟨by simpa using hlt, .inr rfl⟩
theorem L.setMs {t kt et ty j : Nat} (s : Nat) {pos : String} {af : Array Edge} {x y z : Operand} {q u : Int} {q' : UInt8} {v : Nat} {gs : List Nat} {fs : List (UInt8 → Option Nat)} {i ki : Ti} (ht : tlook t X.tab = some i) (hdesc : i.desc = .map kt et) (hk : tlook kt X.tab = some ki) (hkd : ki.desc = .int .u8)
   (hx : ev Γ x = some (.map (some (gs.getD s 0)))) (hy : ev Γ y = some (.int .u8 q)) (hz : ev Γ z = some (.int .i64 u)) (hq : q = (q'.toNat : Int)) (hu : u = (v : Int)) (hj : H[j]? = some (OwnMs gs fs)) (hsl : s < fs.length) (hl : gs.length = fs.length)
   (k : L X β n ds ops Q rest Γ R (H.set j (OwnMs gs (fs.set s (updA (fs.getD s fun _ => none) q' v))))) : L X β n ds ops Q (⟨none, .mapUpdate t x y z, ty, pos, af, none⟩ :: rest) Γ R H := by
 intro a w hf hs
 subst hq hu
 refine wpList_plain rfl fun K hK => ?_
 unfold Oper.wp
 obtain ⟨e1, _⟩ := X.ok _ _ ht
 rw [hdesc] at e1
 obtain ⟨e2, _⟩ := X.ok _ _ hk
 rw [hkd] at e2
 have ho := hs.own j _ hj
 have hgs : gs[s]? = some (gs.getD s 0) := getD_some (by omega)
 have hfs : fs[s]? = some (fs.getD s fun _ => none) := getD_some hsl
 obtain ⟨es', clock', hr, hlt, m', hm⟩ := run_setF (ρ := a.eval) (ty := ty) (pos := pos) (af := af) e1 e2 (hf.agree _ _ hx) (hf.agree _ _ hy) (hf.agree _ _ hz) (ho.2.2 s _ _ hgs hfs)
 rw [hr]
 refine hK _ _ (k _ _ hf ?_)
 have hst := Stp.setObj w (gs.getD s 0) (.map es' clock')
 refine hs.upd hj hst (fun b hb _ => by rw [show b = gs.getD s 0 from hb]; exact List.mem_of_getElem? hgs) _ ⟨ho.1, by rw [List.length_set]; exact ho.2.1, fun i g f hg hf => ?_⟩ ?_
 · by_cases e : s = i
   · subst e
     rw [hgs] at hg
     obtain rfl := Option.some.inj hg
     rw [List.getElem?_set, if_pos rfl, if_pos hsl] at hf
     obtain rfl := Option.some.inj hf
     exact ⟨m', es', clock', heap_set_self w _ hlt, hm⟩
   · rw [List.getElem?_set_ne e] at hf
     refine (MapF g f).st w _ (fun b hb => hst.block b (hs.ofp j _ hj b (by rw [show b = g from hb]; exact List.mem_of_getElem? hg)).1 fun hb' => ?_) (ho.2.2 i g f hg hf)
     have h1 : b = g := hb
     have h2 : b = gs.getD s 0 := hb'
     exact e (nodup_inj ho.1 hgs (by rw [← h2, h1]; exact hg))
 · intro b hb
   exact ⟨by simpa using (hs.ofp j _ hj b hb).1, .inr hb⟩

theorem Sat.ms0 {w : World} (h : Sat β w R H) : Sat β w R (H ++ [OwnMs [] []]) := by
 refine h.snoc (Stp.refl w fun _ => False) (fun _ h _ => h) _ ⟨List.nodup_nil, rfl, fun i g f hg => by simp at hg⟩ ?_
 intro k hk
 cases hk
theorem L.ms0 (h : L X β n ds ops Q rest Γ R (H ++ [OwnMs [] []])) : L X β n ds ops Q rest Γ R H := fun a w hf hs => h a w hf hs.ms0
theorem C.ms0 {c : Code} (h : C X β n ds Q c Γ R (H ++ [OwnMs [] []])) : C X β n ds Q c Γ R H := fun a w hf hs => h a w hf hs.ms0

/-- A map becomes one of the many. -/
theorem Sat.absorbF {w : World} (h : Sat β w R H) {j q g : Nat} {gs : List Nat} {fs : List (UInt8 → Option Nat)} {f : UInt8 → Option Nat} (hj : H[j]? = some (OwnMs gs fs)) (hq : H[q]? = some (MapF g f))
   (js : List Nat) (hn : (j :: q :: js).Nodup) : Sat β w R (OwnMs (gs ++ [g]) (fs ++ [f]) :: Sl.sel H js) := by
 have hjq : j ≠ q := fun e => by subst e; simp at hn
 have hjs : j ∉ js := fun e => by simp [e] at hn
 have hqs : q ∉ js := fun e => by simp [e] at hn
 have nd : js.Nodup := (List.nodup_cons.1 (List.nodup_cons.1 hn).2).2
 have ok := h.own j _ hj
 have oq := h.own q _ hq
 have hfp : ∀ k, (OwnMs (gs ++ [g]) (fs ++ [f])).fp k → (OwnMs gs fs).fp k ∨ (MapF g f).fp k := by
   intro k hk
   rcases List.mem_append.1 (show k ∈ gs ++ [g] from hk) with x | x
   · exact .inl x
   · exact .inr (List.mem_singleton.1 x)
 refine h.put (Stp.refl w fun _ => False) (fun _ hk => hk.elim) R _ (fun r hr => .inl hr) ?_ ?_ ?_
 · intro i d hd
   cases i with
   | zero =>
     simp at hd
     subst hd
     refine ⟨⟨?_, by simp [ok.2.1], ?_⟩, fun k hk => ?_⟩
     · rw [List.nodup_append]
       refine ⟨ok.1, by simp, fun a ha b hb => ?_⟩
       obtain rfl := List.mem_singleton.1 hb
       intro e
       subst e
       exact h.dis j q _ _ hj hq hjq a ha rfl
     · intro i g' f' hg hf
       rw [List.getElem?_append] at hg hf
       split at hg
       · rename_i hlt
         rw [if_pos (by rw [← ok.2.1]; exact hlt)] at hf
         exact ok.2.2 i g' f' hg hf
       · rename_i hge
         rw [if_neg (by rw [← ok.2.1]; exact hge), ← ok.2.1] at hf
         cases hi : i - gs.length with
         | zero =>
           rw [hi] at hg hf
           simp at hg hf
           subst hg hf
           exact oq
         | succ i => rw [hi] at hg; simp at hg
     · rcases hfp k hk with y | y
       · exact ⟨(h.ofp j _ hj k y).1, .inr ⟨j, _, hj, y⟩⟩
       · exact ⟨(h.ofp q _ hq k y).1, .inr ⟨q, _, hq, y⟩⟩
   | succ i =>
     simp at hd
     obtain ⟨p, _, hp⟩ := sel_mem (List.mem_of_getElem? hd)
     exact ⟨h.own p d hp, fun k hk => ⟨(h.ofp p d hp k hk).1, .inr ⟨p, d, hp, hk⟩⟩⟩
 · have cross : ∀ (d : Pr), d ∈ Sl.sel H js → ∀ k, (OwnMs (gs ++ [g]) (fs ++ [f])).fp k → ¬ d.fp k := by
     intro d hd k hk hk'
     obtain ⟨p, hp, hpd⟩ := sel_mem hd
     rcases hfp k hk with y | y
     · exact h.dis j p _ d hj hpd (fun e => hjs (e ▸ hp)) k y hk'
     · exact h.dis q p _ d hq hpd (fun e => hqs (e ▸ hp)) k y hk'
   intro i i' d d' hd hd' hne k hk hk'
   cases i with
   | zero =>
     simp at hd
     subst hd
     cases i' with
     | zero => exact hne rfl
     | succ i' => simp at hd'; exact cross d' (List.mem_of_getElem? hd') k hk hk'
   | succ i =>
     simp at hd
     cases i' with
     | zero => simp at hd'; subst hd'; exact cross d (List.mem_of_getElem? hd) k hk' hk
     | succ i' =>
       simp at hd'
       obtain ⟨p, q, _, _, hpq, hp, hq⟩ := sel_inj nd i i' d d' hd hd' (by omega)
       exact h.dis p q d d' hp hq hpq k hk hk'
 · intro r hr i d hd k hk hk'
   cases i with
   | zero =>
     simp at hd
     subst hd
     rcases hfp k hk' with y | y
     · exact h.sep r hr j _ hj k hk y
     · exact h.sep r hr q _ hq k hk y
   | succ i =>
     simp at hd
     obtain ⟨p, _, hp⟩ := sel_mem (List.mem_of_getElem? hd)
     exact h.sep r hr p d hp k hk hk'
theorem L.absorbF (j q : Nat) {g : Nat} {gs : List Nat} {fs : List (UInt8 → Option Nat)} {f : UInt8 → Option Nat} (hj : H[j]? = some (OwnMs gs fs)) (hq : H[q]? = some (MapF g f)) (js : List Nat) (hn : (j :: q :: js).Nodup)
   (h : L X β n ds ops Q rest Γ R (OwnMs (gs ++ [g]) (fs ++ [f]) :: Sl.sel H js)) : L X β n ds ops Q rest Γ R H := fun a w hf hs' => h a w hf (hs'.absorbF hj hq js hn)
theorem C.absorbF {c : Code} (j q : Nat) {g : Nat} {gs : List Nat} {fs : List (UInt8 → Option Nat)} {f : UInt8 → Option Nat} (hj : H[j]? = some (OwnMs gs fs)) (hq : H[q]? = some (MapF g f)) (js : List Nat) (hn : (j :: q :: js).Nodup)
   (h : C X β n ds Q c Γ R (OwnMs (gs ++ [g]) (fs ++ [f]) :: Sl.sel H js)) : C X β n ds Q c Γ R H := fun a w hf hs' => h a w hf (hs'.absorbF hj hq js hn)
/-! ### Handing out the entries -/
theorem C.openF {c : Code} (j : Nat) {g : Nat} {f : UInt8 → Option Nat} (hj : R[j]? = some (MapF g f)) (h : ∀ m es clock, MapIs f m es clock → C X β n ds Q c Γ (MapE g es clock :: R) H) : C X β n ds Q c Γ R H := by
 intro a w hf hs
 have hm := List.mem_of_getElem? hj
 obtain ⟨m, es, clock, hh, hi⟩ := hs.rd _ hm
 refine h m es clock hi a w hf (hs.reads _ fun r hr => ?_)
 rcases List.mem_cons.1 hr with rfl | hr
 · exact .inr ⟨hh, fun k hk => ⟨_, hm, hk⟩⟩
 · exact .inl hr
theorem L.rangeF {d t kt et ty g clock : Nat} {es : Array MapEntry} {pos : String} {af : Array Edge} {x : Operand} {i : Ti} (ri : Nat) (ht : tlook t X.tab = some i) (hdesc : i.desc = .map kt et) (hx : ev Γ x = some (.map (some g))) (hm : R[ri]? = some (MapE g es clock)) (hd : Nat.blt d n = true)
   (k : ∀ r, L X β n ds ops Q rest ((d, .pointer (some ⟨r, 0, none⟩)) :: Γ) R (H ++ [ItP r g clock #[]])) : L X β n ds ops Q (⟨some d, .range t x, ty, pos, af, none⟩ :: rest) Γ R H := by
 intro a w hf hs
 refine wpList_plain rfl fun K hK => ?_
 unfold Oper.wp
 obtain ⟨e1, _⟩ := X.ok _ _ ht
 rw [hdesc] at e1
 have hh : w.heap[g]? = some (.map es clock) := hs.rd _ (List.mem_of_getElem? hm)
 have he : (execOp a.eval (⟨some d, .range t x, ty, pos, af, none⟩ : Oper)).run X.P w = .ok (.value (.pointer (some ⟨w.heap.size, 0, none⟩))) (w.alloc (.mapIter (some g) clock #[] clock)) := by
   have := run_range_map (P := X.P) w t kt et g es clock e1 hh
   simp [execOp, hf.agree _ _ hx, this]
 rw [he]
 refine hK _ _ (k w.heap.size _ _ (hf.put (by simpa [Nat.blt_eq] using hd) _) ?_)
 refine hs.snoc (Stp.alloc w _ fun _ => False) (fun _ h _ => h) _ (MapKept.heap_alloc w _).1 ?_
 intro k hk
 have hk' : k = w.heap.size := hk
 subst hk'
 exact ⟨by simp, Nat.le_refl _⟩
theorem L.nextF {d ty g r clock : Nat} {es : Array MapEntry} {seen : Array Nat} {pos : String} {af : Array Edge} {x : Operand} (ri j : Nat) (hx : ev Γ x = some (.pointer (some ⟨r, 0, none⟩))) (hm : R[ri]? = some (MapE g es clock)) (hj : H[j]? = some (ItP r g clock seen)) (hst : MapKept.Stamped es clock) (hd : Nat.blt d n = true)
   (ko : (leftOf es seen).size = 0 → L X β n ds ops Q rest ((d, .tuple #[.bool false]) :: Γ) R H)
   (km : ∀ e ∈ (leftOf es seen).toList, L X β n ds ops Q rest ((d, .tuple #[.bool true, e.key, e.val]) :: Γ) R (H.set j (ItP r g clock (seen.push e.born)))) : L X β n ds ops Q (⟨some d, .next x false, ty, pos, af, none⟩ :: rest) Γ R H := by
 intro a w hf hs
 refine wpList_plain rfl fun K hK => ?_
 unfold Oper.wp
 have hh : w.heap[g]? = some (.map es clock) := hs.rd _ (List.mem_of_getElem? hm)
 have hr : w.heap[r]? = some (.mapIter (some g) clock seen clock) := hs.own j _ hj
 have hlt : r < w.heap.size := (Array.getElem?_eq_some_iff.1 hr).1
 rcases run_next_at (P := X.P) w ty r g clock clock seen es clock hr hh hst.1 (Nat.le_refl _) with ⟨h0, hrun⟩ | ⟨e, he, w1, hw1, hrun⟩
 · have h2 : (execOp a.eval (⟨some d, .next x false, ty, pos, af, none⟩ : Oper)).run X.P w = .ok (.value (.tuple #[.bool false])) w := by
     simp [execOp, hf.agree _ _ hx, hrun]
   rw [h2]
   exact hK _ _ (ko h0 _ _ (hf.put (by simpa [Nat.blt_eq] using hd) _) hs)
 · have h2 : (execOp a.eval (⟨some d, .next x false, ty, pos, af, none⟩ : Oper)).run X.P w = .ok (.value (.tuple #[.bool true, e.key, e.val])) (ChangeMaps.setBlock w1 r (.mapIter (some g) clock (seen.push e.born) clock)) := by
     simp [execOp, hf.agree _ _ hx, hrun]
   rw [h2]
   have hs1 : Sat β w1 R H := by
     rcases hw1 with rfl | rfl
     · exact hs
     · exact hs.same (Stp.drew _ _)
   have hlt1 : r < w1.heap.size := by rcases hw1 with rfl | rfl <;> exact hlt
   refine hK _ _ (km e he _ _ (hf.put (by simpa [Nat.blt_eq] using hd) _) ?_)
   refine hs1.upd hj (Stp.setObj w1 r _) (fun b hb _ => hb) _ (by show (w1.heap.setIfInBounds r _)[r]? = _; simp [hlt1]) ?_
   intro b hb
   have hb' : b = r := hb
   subst hb'
   exact ⟨by simpa using hlt1, .inr rfl⟩
theorem Ev.entryF {g r clock : Nat} {es : Array MapEntry} {seen : Array Nat} {e : MapEntry} {x : Operand} (ri j : Nat) (hx : ev Γ x = some (.pointer (some ⟨r, 0, none⟩))) (hm : R[ri]? = some (MapE g es clock)) (hj : H[j]? = some (ItP r g clock (seen.push e.born))) (hst : MapKept.Stamped es clock) (he : e ∈ es.toList) : Ev X β Γ R H (.entry x) (.tuple #[e.key, e.val]) := by
 intro ρ w hρ hs o ho
 have hh : w.heap[g]? = some (.map es clock) := hs.rd _ (List.mem_of_getElem? hm)
 have hr : w.heap[r]? = some (.mapIter (some g) clock (seen.push e.born) clock) := hs.own j _ hj
 have := run_entry_at (P := X.P) w r g clock seen es clock e hr hh he hst.2.1
 simp [execOp, ho, hρ _ _ hx, this]
end

/-! ### A copy, entry by entry -/
/-- The copy holds what was handed out. -/
def CopOk (m : List (UInt8 × Nat)) (es : Array MapEntry) (seen : Array Nat) (fo : UInt8 → Option Nat) : Prop :=
 (∀ (i : Nat) (c : UInt8) (v : Nat) (e : MapEntry), m[i]? = some (c, v) → es[i]? = some e → fo c = if seen.contains e.born = true then some v else none) ∧ ∀ c, alook m c = none → fo c = none
section
variable {f : UInt8 → Option Nat} {m : List (UInt8 × Nat)} {es : Array MapEntry} {clock : Nat} {seen : Array Nat} {fo : UInt8 → Option Nat}
theorem CopOk.start : CopOk m es #[] fun _ => none := ⟨fun i c v e _ _ => by simp, fun _ _ => rfl⟩
theorem MapIs.get (h : MapIs f m es clock) {i : Nat} {e : MapEntry} (he : es[i]? = some e) : ∃ (c : UInt8) (v : Nat), m[i]? = some (c, v) ∧ e.key = .int .u8 (c.toNat : Int) ∧ e.val = .int .i64 (v : Int) := by
 have h1 : (es.toList.map (fun e => (e.key, e.val)))[i]? = some (e.key, e.val) := by
   rw [List.getElem?_map, Array.getElem?_toList, he]
   rfl
 rw [h.ents] at h1
 simp only [mapK, amap, List.map_map, List.getElem?_map] at h1
 cases hm : m[i]? with
 | none => rw [hm] at h1; cases h1
 | some p =>
   rw [hm] at h1
   obtain ⟨h2, h3⟩ := Prod.mk.inj (Option.some.inj h1)
   exact ⟨p.1, p.2, rfl, h2.symm, h3.symm⟩
theorem MapIs.len (h : MapIs f m es clock) : m.length = es.size := by
 have := congrArg List.length h.ents
 simpa [mapK, amap] using this.symm
theorem MapIs.mem (h : MapIs f m es clock) {e : MapEntry} (he : e ∈ es.toList) : ∃ (c : UInt8) (v : Nat), e.key = .int .u8 (c.toNat : Int) ∧ e.val = .int .i64 (v : Int) := by
 obtain ⟨i, hi⟩ := List.getElem?_of_mem he
 obtain ⟨c, v, _, h2, h3⟩ := h.get (i := i) (by simpa using hi)
 exact ⟨c, v, h2, h3⟩
theorem alook_mem {c : UInt8} {v : Nat} : ∀ {m : List (UInt8 × Nat)}, alook m c = some v → ∃ i : Nat, m[i]? = some (c, v)
 | [], h => by cases h
 | (a, u) :: m, h => by
   unfold alook at h
   split at h
   · rename_i e
     subst e
     exact ⟨0, by rw [← Option.some.inj h]; rfl⟩
   · obtain ⟨i, hi⟩ := alook_mem h
     exact ⟨i + 1, hi⟩
theorem alook_has {c : UInt8} {v : Nat} : ∀ {m : List (UInt8 × Nat)} {i : Nat}, m[i]? = some (c, v) → alook m c ≠ none
 | [], i, h => by simp at h
 | (a, u) :: m, 0, h => by
   have : (a, u) = (c, v) := by simpa using h
   obtain ⟨rfl, rfl⟩ := Prod.mk.inj this
   simp [alook]
 | (a, u) :: m, i + 1, h => by
   unfold alook
   split
   · simp
   · exact alook_has (i := i) (by simpa using h)
theorem CopOk.step (h : CopOk m es seen fo) (hm : MapIs f m es clock) {e : MapEntry} (he : e ∈ es.toList) {c : UInt8} {v : Nat} (hk : e.key = .int .u8 (c.toNat : Int)) (hv : e.val = .int .i64 (v : Int)) : CopOk m es (seen.push e.born) (updA fo c v) := by
 obtain ⟨i, hi⟩ := List.getElem?_of_mem he
 have hi' : es[i]? = some e := by simpa using hi
 obtain ⟨c', v', g1, g2, g3⟩ := hm.get hi'
 rw [hk] at g2
 rw [hv] at g3
 injection g2 with _ g2
 injection g3 with _ g3
 obtain rfl := u8_eq.1 g2
 obtain rfl : v = v' := by omega
 refine ⟨fun j d u x hj hx => ?_, fun d hd => ?_⟩
 · obtain ⟨d', u', k1, k2, k3⟩ := hm.get hx
   rw [hj] at k1
   obtain ⟨rfl, rfl⟩ := Prod.mk.inj (Option.some.inj k1)
   unfold updA
   by_cases hij : i = j
   · subst hij
     rw [hi'] at hx
     obtain rfl := Option.some.inj hx
     rw [g1] at hj
     obtain ⟨rfl, rfl⟩ := Prod.mk.inj (Option.some.inj hj)
     rw [if_pos rfl, if_pos (by simp)]
   · have hne : d ≠ c := by
       rintro rfl
       refine hij (nodup_inj hm.stamp.2.2 (x := e.key) (by rw [List.getElem?_map, hi]; rfl) ?_)
       rw [List.getElem?_map, show es.toList[j]? = some x by simpa using hx, hk, ← k2]
       rfl
     have hnb : x.born ≠ e.born := by
       intro hb
       refine hij (nodup_inj hm.stamp.2.1 (x := e.born) (by rw [List.getElem?_map, hi]; rfl) ?_)
       rw [List.getElem?_map, show es.toList[j]? = some x by simpa using hx, ← hb]
       rfl
     rw [if_neg hne, h.1 j d u x hj hx]
     have : (seen.push e.born).contains x.born = seen.contains x.born := by
       simp [hnb]
     rw [this]
 · unfold updA
   rw [if_neg (by
     rintro rfl
     exact alook_has g1 hd)]
   exact h.2 d hd
theorem CopOk.done (h : CopOk m es seen fo) (hm : MapIs f m es clock) (h0 : (leftOf es seen).size = 0) : fo = f := by
 funext c
 rw [hm.look]
 cases hc : alook m c with
 | none => exact h.2 c hc
 | some v =>
   obtain ⟨i, hi⟩ := alook_mem hc
   have hlt : i < es.size := by rw [← hm.len]; exact (List.getElem?_eq_some_iff.1 hi).1
   have he : es[i]? = some es[i] := Array.getElem?_eq_getElem hlt
   rw [h.1 i c v _ hi he, if_pos (all_seen es seen h0 _ (by simp))]
end
end Go.Sl
