/-
  The small separation logic: a range over a function.
-/
import Derived.RangeFuncLeaves
import Derived.RangeFuncRecord
import Derived.RangeFuncSeq
import Derived.TacticsIn
import Derived.Test.YtbkmahjhhncfcaaGreatQSlI
import Derived.Test.YtbkmahjhhncfcaaGreatQSlG
section
namespace Go.Sl

/-- The loop's record. -/
def LoopP (l : Nat) (r : Loop) : Pr where
 fp k := k = l
 p w := w.heap[l]? = some (.loop r)
 st := fun _ _ hk h => by rw [hk l rfl]; exact h
/-- The block for the rounds' deferred calls: there are none. -/
def DefP (d : Nat) : Pr where
 fp k := k = d
 p w := w.heap[d]? = some (.deferred (some []))
 st := fun _ _ hk h => by rw [hk d rfl]; exact h

section
variable {X : Cx} {β : Base} {n : Nat} {ds : List Deferred} {ops : Array Oper} {Q : Exit → Act → World → Prop} {rest : List Oper} {Γ : Env} {R H : List Pr}

theorem Sat.newObj {w : World} (h : Sat β w R H) (o : Obj) (c : Pr) (hp : c.p (w.alloc o)) (hf : ∀ k, c.fp k → k = w.heap.size) : Sat β (w.alloc o) R (H ++ [c]) :=
 h.snoc (Stp.alloc w o fun _ => False) (fun _ hk _ => hk) c hp (fun k hk => by have := hf k hk; subst this; simp)
theorem Stp.putObj (w : World) (l : Nat) (o : Obj) : Stp w (w.putObj l o) (· = l) := ⟨rfl, rfl, rfl, by simp, fun _ _ hk => World.putObj_heap_other hk⟩
theorem Sat.setLoop {w : World} {j l : Nat} {r r' : Loop} (h : Sat β w R H) (hj : H[j]? = some (LoopP l r)) : Sat β (w.putObj l (.loop r')) R (H.set j (LoopP l r')) := by
 have hp : w.heap[l]? = some (.loop r) := h.own j _ hj
 have hlt : l < w.heap.size := (Array.getElem?_eq_some_iff.1 hp).1
 refine h.upd hj (Stp.putObj w l _) (fun k hk _ => hk) (LoopP l r') (World.putObj_heap_same hlt) (fun k hk => ?_)
 have hk' : k = l := hk
 subst hk'
 exact ⟨by simpa using hlt, .inr rfl⟩

/-! ### One round -/
theorem callsIn_inRound {m l : Nat} {P : Program} {f : FuncId} {args : Array Value} {w : World} {T : Ending → World → Prop} : CallsIn (Fence.wide.inRound l) m P f args w T ↔ CallsIn Fence.wide m P f args w T := Iff.rfl
/-- A part of the state, changed by itself, put back into the whole. -/
theorem frame_sat {Rf Hf Hr : List Pr} {js js' : List Nat} (hj : sel H js = Hf) (hj' : sel H js' = Hr) (hn : (js ++ js').Nodup) (hR : Hass R Hr Rf) {w : World} (hs : Sat β w R H) :
   Sat (ownBase w Rf Hf) w Rf Hf ∧ ∀ w' R' H', Sat (ownBase w Rf Hf) w' R' H' → Sat β w' R (H' ++ Hr) := by
 subst hj hj'
 have nj := (List.nodup_append.1 hn).1
 have nj' := (List.nodup_append.1 hn).2.1
 have njj : ∀ p ∈ js, ∀ q ∈ js', p ≠ q := fun p hp q hq => (List.nodup_append.1 hn).2.2 p hp q hq
 have hx : ∀ c ∈ sel H js, ∀ d ∈ sel H js', ∀ k, c.fp k → ¬ d.fp k := by
   intro c hc d hd k hk hk'
   obtain ⟨p, hp, hpc⟩ := sel_mem hc
   obtain ⟨q, hq, hqd⟩ := sel_mem hd
   exact hs.dis p q c d hpc hqd (njj p hp q hq) k hk hk'
 have hfp : ∀ r ∈ Rf, ∀ k, r.fp k → k < w.heap.size ∧ (∀ c ∈ sel H js, ¬ c.fp k) := by
   intro r hr k hk
   rcases (hR.all r hr).2 k hk with ⟨r', hr', hk'⟩ | ⟨i, d, hd, hk'⟩
   · refine ⟨(hs.rfp r' hr' k hk').1, fun c hc => ?_⟩
     obtain ⟨p, _, hpc⟩ := sel_mem hc
     exact hs.sep r' hr' p c hpc k hk'
   · have hmd := List.mem_of_getElem? hd
     obtain ⟨q, _, hqd⟩ := sel_mem hmd
     exact ⟨(hs.ofp q d hqd k hk').1, fun c hc hck => hx c hc d hmd k hck hk'⟩
 have hsr : Sat β w R (sel H js') := hs.sel nj'
 have hsf : Sat β w R (sel H js) := hs.sel nj
 have h0 : Sat (ownBase w Rf (sel H js)) w Rf (sel H js) := by
   refine ⟨⟨rfl, rfl, rfl, Nat.le_refl _, fun _ _ _ => rfl⟩, fun r hr => (hR.all r hr).1 β w hsr, fun r hr k hk => ⟨(hfp r hr k hk).1, .inr (.inr ⟨r, hr, hk⟩)⟩, hsf.own, ?_, hsf.dis, ?_⟩
   · intro i c hc k hk
     exact ⟨(hsf.ofp i c hc k hk).1, .inr ⟨i, c, hc, hk⟩⟩
   · intro r hr j c hc k hk hk'
     exact (hfp r hr k hk).2 c (List.mem_of_getElem? hc) hk'
 refine ⟨h0, fun w' R' H' hs' => ?_⟩
 have hst : Stp w w' (fun k => ∃ (i : Nat) (c : Pr), (sel H js)[i]? = some c ∧ c.fp k) := ⟨hs'.ext.os, hs'.ext.tape, hs'.ext.output, hs'.ext.size, hs'.ext.block⟩
 have hmt : ∀ k, (∃ (i : Nat) (c : Pr), (sel H js)[i]? = some c ∧ c.fp k) → ∃ (i : Nat) (c : Pr), H[i]? = some c ∧ c.fp k := by
   rintro k ⟨i, c, hc, hk⟩
   obtain ⟨p, _, hp⟩ := sel_mem (List.mem_of_getElem? hc)
   exact ⟨p, c, hp, hk⟩
 have hget : ∀ (i : Nat) (c : Pr), (H' ++ sel H js')[i]? = some c → (i < H'.length ∧ H'[i]? = some c) ∨ (H'.length ≤ i ∧ (sel H js')[i - H'.length]? = some c) := by
   intro i c hc
   rw [List.getElem?_append] at hc
   split at hc
   · rename_i hlt; exact .inl ⟨hlt, hc⟩
   · rename_i hge; exact .inr ⟨by omega, hc⟩
 have cross : ∀ (i : Nat) (c : Pr), H'[i]? = some c → ∀ (j : Nat) (d : Pr), (sel H js')[j]? = some d → ∀ k, c.fp k → ¬ d.fp k := by
   intro i c hc j d hd k hk hk'
   have hlt := (hsr.ofp j d hd k hk').1
   rcases (hs'.ofp i c hc k hk).2 with y | ⟨p, x, hx1, hx2⟩
   · have y' : w.heap.size ≤ k := y; omega
   · exact hx x (List.mem_of_getElem? hx1) d (List.mem_of_getElem? hd) k hx2 hk'
 refine hs.put hst (fun k hk _ => hmt k hk) R (H' ++ sel H js') (fun r hr => .inl hr) ?_ ?_ ?_
 · intro i c hc
   rcases hget i c hc with ⟨_, hc⟩ | ⟨_, hc⟩
   · refine ⟨hs'.own i c hc, fun k hk => ⟨(hs'.ofp i c hc k hk).1, ?_⟩⟩
     rcases (hs'.ofp i c hc k hk).2 with y | y
     · exact .inl y
     · exact .inr (hmt k y)
   · refine ⟨c.st w w' (fun k hk => hst.block k (hsr.ofp _ c hc k hk).1 ?_) (hsr.own _ c hc), fun k hk => ⟨Nat.lt_of_lt_of_le (hsr.ofp _ c hc k hk).1 hst.size, .inr ?_⟩⟩
     · rintro ⟨p, x, hx1, hx2⟩
       exact hx x (List.mem_of_getElem? hx1) c (List.mem_of_getElem? hc) k hx2 hk
     · obtain ⟨q, _, hq⟩ := sel_mem (List.mem_of_getElem? hc)
       exact ⟨q, c, hq, hk⟩
 · intro i j c d hc hd hne k hk hk'
   rcases hget i c hc with ⟨_, hc⟩ | ⟨hi, hc⟩ <;> rcases hget j d hd with ⟨_, hd⟩ | ⟨hj, hd⟩
   · exact hs'.dis i j c d hc hd hne k hk hk'
   · exact cross i c hc _ d hd k hk hk'
   · exact cross j d hd _ c hc k hk' hk
   · exact hsr.dis _ _ c d hc hd (by omega) k hk hk'
 · intro r hr j c hc k hk hk'
   rcases hget j c hc with ⟨_, hc⟩ | ⟨_, hc⟩
   · have hlt := (hs.rfp r hr k hk).1
     rcases (hs'.ofp j c hc k hk').2 with y | ⟨p, x, hx1, hx2⟩
     · have y' : w.heap.size ≤ k := y; omega
     · obtain ⟨q, _, hq⟩ := sel_mem (List.mem_of_getElem? hx1)
       exact hs.sep r hr q x hq k hk hx2
   · exact hsr.sep r hr _ c hc k hk hk'

/-- What a call of yield does: one round, which goes on. -/
def YieldOk (X : Cx) (l : Nat) (r : Loop) {σ α : Type} (encs : α → List Value) (St : σ → List Pr) (nxt : σ → α → σ → Prop) (good : σ → α → Prop) : Prop :=
 ∀ (β : Base) (w : World) (s : σ) (x : α), good s x → Sat β w [] (LoopP l r :: St s) → YieldAt Fence.wide 0 X.P l (List.toArray (encs x)) w (fun e w' => e = .returned (.bool true) ∧ ∃ s', nxt s x s' ∧ Sat β w' [] (LoopP l r :: St s'))

/-- A list of operations of which one may call yield. -/
def LY (X : Cx) (β : Base) (n : Nat) (ds : List Deferred) (ops : Array Oper) (Q : Exit → Act → World → Prop) (rest : List Oper) (Γ : Env) (R H : List Pr) : Prop :=
 ∀ a w, Fr n ds a Γ → Sat β w R H → wpListIn Fence.wide 0 X.P ops Q rest a w
theorem C.regionY {id : Nat} {l : List Oper} (h : LY X β n ds (List.toArray l) Q l Γ R H) : C X β n ds Q (.region id (List.toArray l) false) Γ R H :=
 fun a w hf hs => (wpIn_wide (n := 0)).1 (wpIn_region_lit (h a w hf hs))
theorem LY.nil (h : QE β n ds Q .normal Γ R H) : LY X β n ds ops Q [] Γ R H := fun a w hf hs => h a w hf hs
theorem LY.step {op : Op} {v : Value} {d ty : Nat} {pos : String} {af : Array Edge} (h : Ev X β Γ R H op v) (hd : Nat.blt d n = true) (k : LY X β n ds ops Q rest ((d, v) :: Γ) R H) : LY X β n ds ops Q (⟨some d, op, ty, pos, af, none⟩ :: rest) Γ R H := by
 intro a w hf hs
 refine wpListIn_plain rfl fun K hK => ⟨fun f _ => trivial, ?_⟩
 show Oper.uponIn _ _ _ _ _ _ _ ((execOp a.eval _).run X.P w)
 rw [h a.eval w hf.agree hs _ rfl]
 exact hK _ _ (k _ _ (hf.put (by simpa [Nat.blt_eq] using hd) v) hs)
theorem LY.yield {d ty l : Nat} {r : Loop} {pos : String} {af : Array Edge} {x : Operand} {ags : List Operand} {tys : Array TypeId} {σ α : Type} {encs : α → List Value} {St : σ → List Pr} {nxt : σ → α → σ → Prop} {good : σ → α → Prop} {Hr : List Pr} {js js' : List Nat}
   (hy : YieldOk X l r encs St nxt good) (s : σ) (e : α) (hg : good s e) (hx : ev Γ x = some (.func (.yield l) #[] #[])) (ha : evs Γ ags = some (encs e)) (hj : sel H js = LoopP l r :: St s) (hj' : sel H js' = Hr) (hn : (js ++ js').Nodup) (hd : Nat.blt d n = true)
   (k : ∀ s', nxt s e s' → LY X β n ds ops Q rest ((d, .bool true) :: Γ) R (LoopP l r :: (St s' ++ Hr))) : LY X β n ds ops Q (⟨some d, .call ⟨.value x, List.toArray ags, tys⟩, ty, pos, af, none⟩ :: rest) Γ R H := by
 intro a w hf hs
 refine wpListIn_plain rfl fun K hK => ⟨fun f _ => trivial, ?_⟩
 obtain ⟨h0, hback⟩ := frame_sat hj hj' hn (Rf := []) trivial hs
 obtain ⟨fn, tmps, assign, body, hrun, hround⟩ := hy _ w s e hg h0
 have e1 := evs_eval hf.agree ha
 have hfv := hf.agree x _ hx
 have e2 : (List.toArray ags).map a.eval = List.toArray (encs e) := by apply Array.ext'; simpa using e1
 have hex : (execOp a.eval ⟨some d, .call ⟨.value x, List.toArray ags, tys⟩, ty, pos, af, none⟩).run X.P w = .ok (.round l fn tmps assign body) w := by
   simp only [execOp, resolve, hfv, Deferred.ofValue, invoke, Sem.run_bind, Sem.run_pure, Result.andThen_ok, e2]
   simp [hrun]
 rw [Fence.wide_round, Oper.semAt_none, hex]
 refine ⟨fun hd => by simp [Fence.wide] at hd, hround.mono ?_⟩
 rintro en w' ⟨rfl, s', hn', hs'⟩
 exact hK _ _ (k s' hn' _ _ (hf.put (by simpa [Nat.blt_eq] using hd) _) (hback w' _ _ hs'))
theorem LY.yes {dst : Option Nat} {op : Op} {ty : Nat} {pos : String} {af : Array Edge} {g : Nat} {b : Bool} (hg : gval ops Γ g = some (.bool b)) (h : LY X β n ds ops Q (⟨dst, op, ty, pos, af, none⟩ :: rest) Γ R H) :
   LY X β n ds ops Q (⟨dst, op, ty, pos, af, some (g, b)⟩ :: rest) Γ R H := by
 intro a w hf hs
 have := h a w hf hs
 have hy := gval_yielded (ops := ops) hf hg
 simp only [wpListIn, Region.wanted, hy, beq_self_eq_true, if_true] at this ⊢
 exact this
theorem LY.no {d : Nat} {op : Op} {ty : Nat} {pos : String} {af : Array Edge} {g : Nat} {b : Bool} {v : Value} (hg : gval ops Γ g = some v) (hv : (match v with | .bool c => c == b | _ => false) = false) (hd : Nat.blt d n = true)
   (h : LY X β n ds ops Q rest ((d, undef) :: Γ) R H) : LY X β n ds ops Q (⟨some d, op, ty, pos, af, some (g, b)⟩ :: rest) Γ R H := by
 intro a w hf hs
 have hy := gval_yielded (ops := ops) hf hg
 have hw : Region.wanted ⟨some d, op, ty, pos, af, some (g, b)⟩ (yielded ops a.tmps) = false := by
   simp only [Region.wanted, hy]
   cases v <;> simp_all
 simp only [wpListIn, hw]
 exact ⟨fun f _ => trivial, h _ _ (hf.put (by simpa [Nat.blt_eq] using hd) undef) hs⟩
theorem LY.bool (s : Nat) {b : Bool} (hb : look s Γ = some (.bool b)) (ht : b = true → LY X β n ds ops Q rest ((s, .bool true) :: Γ) R H) (he : b = false → LY X β n ds ops Q rest ((s, .bool false) :: Γ) R H) : LY X β n ds ops Q rest Γ R H := by
 intro a w hf hs
 have h1 : ∀ c : Bool, b = c → Fr n ds a ((s, .bool c) :: Γ) := by
   rintro c rfl
   refine ⟨hf.size, hf.dfs, fun t u hu => ?_⟩
   simp only [look] at hu
   cases hbq : Nat.beq t s with
   | true =>
     rw [hbq] at hu
     obtain rfl := Nat.eq_of_beq_eq_true hbq
     simp only [cond_true, Option.some.injEq] at hu
     subst hu
     exact hf.vals t _ hb
   | false =>
     rw [hbq] at hu
     exact hf.vals t u hu
 cases b with
 | true => exact ht rfl a w (h1 true rfl) hs
 | false => exact he rfl a w (h1 false rfl) hs

/-- The end of a piece of a round: it has run off its end, in a state of this form. -/
def RQ (T : Act → World → Prop) : Exit → Act → World → Prop := fun e a w => e = .normal ∧ T a w
theorem RQ.out {T : Act → World → Prop} : ¬LetsOut (RQ T) := fun ⟨_, _, h, _⟩ => by cases h
/-! ### The statement -/
theorem Sat.rot {w : World} {c : Pr} (h : Sat β w R (H ++ [c])) : Sat β w R (c :: H) := by
 refine h.pick (c :: H) (fun i => if i = 0 then H.length else i - 1) (fun i d hd => ?_) (fun i j hi hj e => ?_)
 · cases i with
   | zero => simp at hd; subst hd; simp
   | succ i =>
     have hd' : H[i]? = some d := by simpa using hd
     have hlt := (List.getElem?_eq_some_iff.1 hd').1
     simp [List.getElem?_append_left hlt, hd']
 · simp only [List.length_cons] at hi hj
   split at e <;> split at e <;> omega
theorem Sat.tail {w : World} {c : Pr} (h : Sat β w R (c :: H)) : Sat β w R H :=
 h.pick H (fun i => i + 1) (fun i d hd => by simpa using hd) (fun i j _ _ e => by omega)
theorem sel_cons0 (c : Pr) (H : List Pr) (js : List Nat) : sel (c :: H) (0 :: js) = c :: sel (c :: H) js := rfl
theorem sel_cons1 (c d : Pr) (H : List Pr) (js : List Nat) : sel (c :: d :: H) (1 :: js) = d :: sel (c :: d :: H) js := rfl
theorem sel_shift2 (c d : Pr) (H : List Pr) : ∀ js : List Nat, sel (c :: d :: H) (js.map (· + 2)) = sel H js
 | [] => rfl
 | j :: js => by
   have ih := sel_shift2 c d H js
   have e : (c :: d :: H)[j + 2]? = H[j]? := by simp
   simp only [List.map_cons, sel, e, ih]
theorem Has.wk {r c : Pr} (h : Has R H r) : Has R (c :: H) r :=
 ⟨fun β w hs => h.1 β w hs.tail, fun k hk => (h.2 k hk).elim .inl fun ⟨i, d, hd, hk'⟩ => .inr ⟨i + 1, d, by simpa using hd, hk'⟩⟩
theorem Hass.wk (c : Pr) : ∀ {rs : List Pr}, Hass R H rs → Hass R (c :: H) rs
 | [], _ => trivial
 | _ :: _, h => ⟨h.1.wk, Hass.wk c h.2⟩
/-- A row in the midst to the front. -/
theorem Sat.front {w : World} {c : Pr} {H1 H2 : List Pr} (h : Sat β w R (H1 ++ c :: H2)) : Sat β w R (c :: (H1 ++ H2)) := by
 refine h.pick (c :: (H1 ++ H2)) (fun i => if i = 0 then H1.length else if i ≤ H1.length then i - 1 else i) (fun i d hd => ?_) (fun i j hi hj e => ?_)
 · cases i with
   | zero => simp at hd; subst hd; simp
   | succ i =>
     have hd' : (H1 ++ H2)[i]? = some d := by simpa using hd
     by_cases hi : i < H1.length
     · have hle : i + 1 ≤ H1.length := hi
       rw [List.getElem?_append_left hi] at hd'
       simp [hle, List.getElem?_append_left hi, hd']
     · rw [List.getElem?_append_right (by omega)] at hd'
       have hle : ¬ i + 1 ≤ H1.length := by omega
       rw [if_neg (by omega), if_neg hle, List.getElem?_append_right (by omega), show i + 1 - H1.length = (i - H1.length) + 1 from by omega]
       simpa using hd'
 · simp only [List.length_cons] at hi hj
   split at e <;> split at e <;> (try split at e) <;> (try split at e) <;> omega
theorem C.rangeF {g : Operand} {ps : Array Tmp} {assign body : Code} {f : FuncId} {cap : Array Value} {Rf Hf Hr : List Pr} {js js' : List Nat} {ι : Type} {He : ι → List Pr} (hg : ev Γ g = some (.func (.func f) #[] cap)) (hj : sel H js = Hf) (hj' : sel H js' = Hr) (hn : (js ++ js').Nodup) (hR : Hass R Hr Rf)
   (hcall : ∀ (l d fn : Nat) (tmps : Array Value), Fr n [] { tmps := tmps, defers := [] } Γ →
     Ctr X f (Value.func (.yield l) #[] #[] :: cap.toList) Rf (LoopP l { state := .ready, pending := none, fn := fn, tmps := tmps, params := ps, assign := assign, body := body, defers := d } :: Hf)
       (fun _ R' H' => R' = [] ∧ ∃ i, H' = LoopP l { state := .ready, pending := none, fn := fn, tmps := tmps, params := ps, assign := assign, body := body, defers := d } :: He i))
   (k : ∀ d i, QE β n ({ target := .collected d, args := #[] } :: ds) Q .normal Γ R (DefP d :: (He i ++ Hr))) : C X β n ds Q (.rangeFunc g ps assign body) Γ R H := by
 intro a w hf hs
 refine (wpIn_wide (n := 0)).1 (wpIn_rangeFunc fun fn _ => ?_)
 have hfr : Fr n [] { tmps := a.tmps, defers := [] } Γ := ⟨hf.size, rfl, hf.vals⟩
 have hc := hcall (w.heap.size + 1) w.heap.size fn a.tmps hfr
 have hgv := hf.agree g _ hg
 have s1 := (hs.newObj (.deferred (some [])) (DefP w.heap.size) (World.alloc_heap_new w _) (fun k hk => hk)).rot
 have s2 := (s1.newObj (.loop { state := .ready, pending := none, fn := fn, tmps := a.tmps, params := ps, assign := assign, body := body, defers := w.heap.size }) (LoopP (w.heap.size + 1) { state := .ready, pending := none, fn := fn, tmps := a.tmps, params := ps, assign := assign, body := body, defers := w.heap.size })
   (by have := World.alloc_heap_new (w.alloc (.deferred (some []))) (.loop { state := .ready, pending := none, fn := fn, tmps := a.tmps, params := ps, assign := assign, body := body, defers := w.heap.size }); rw [World.size_alloc] at this; exact this) (fun k hk => by have : k = w.heap.size + 1 := hk; simpa using this)).rot
 obtain ⟨fnv, hfv, hbv, hname⟩ := hc.1.ok
 refine ⟨w.heap.size + 1, _, ((w.alloc (.deferred (some []))).alloc (.loop { state := .ready, pending := none, fn := fn, tmps := a.tmps, params := ps, assign := assign, body := body, defers := w.heap.size })), { target := .fn (.func f) cap, args := #[.func (.yield (w.heap.size + 1)) #[] #[]] }, ((w.alloc (.deferred (some []))).alloc (.loop { state := .ready, pending := none, fn := fn, tmps := a.tmps, params := ps, assign := assign, body := body, defers := w.heap.size })), f, #[.func (.yield (w.heap.size + 1)) #[] #[]] ++ cap, ((w.alloc (.deferred (some []))).alloc (.loop { state := .ready, pending := none, fn := fn, tmps := a.tmps, params := ps, assign := assign, body := body, defers := w.heap.size })), run_enterLoop_outer _ _ _ _ _, ?_, fun _ _ => trivial, ?_, fun hd => by simp [Fence.wide] at hd, ?_⟩
 · simp only [resolve, hgv]
   simp [go_sem]
 · simp only [beq_eq_false_iff_ne] at hname
   simp [invoke, callFunc, run_program, hfv, hname]
   intro h
   rw [h] at hbv
   cases hbv
 · refine callsIn_wide.2 ?_
   rw [show #[Value.func (.yield (w.heap.size + 1)) #[] #[]] ++ cap = List.toArray (Value.func (.yield (w.heap.size + 1)) #[] #[] :: cap.toList) from by apply Array.ext'; simp]
   refine (hc.use (js := 0 :: js.map (· + 2)) (js' := 1 :: js'.map (· + 2)) (Hr := DefP w.heap.size :: Hr) (by rw [sel_cons0, sel_shift2, hj]) (by rw [sel_cons1, sel_shift2, hj']) ?_ (hR.wk _) s2).mono ?_
   · have hm : ∀ (l : List Nat) (q : Nat), q < 2 → q ∉ l.map (· + 2) := by
       intro l q hq hm
       obtain ⟨p, _, hp⟩ := List.mem_map.1 hm
       omega
     have e : js.map (· + 2) ++ js'.map (· + 2) = (js ++ js').map (· + 2) := by simp
     have hnd : ((js ++ js').map (· + 2)).Nodup := by
       exact List.pairwise_map.2 (List.Pairwise.imp (fun h e => h (Nat.add_right_cancel e)) hn)
     have h1 := hm (js ++ js') 0 (by decide)
     have h2 := hm (js ++ js') 1 (by decide)
     rw [← e] at h1 h2 hnd
     rw [List.nodup_append] at hnd
     rw [List.mem_append] at h1 h2
     show (0 :: (js.map (· + 2) ++ 1 :: js'.map (· + 2))).Nodup
     rw [List.nodup_cons, List.nodup_append, List.nodup_cons]
     refine ⟨fun h => ?_, hnd.1, ⟨fun h => h2 (.inr h), hnd.2.1⟩, fun p hp q hq => ?_⟩
     · rcases List.mem_append.1 h with h | h
       · exact h1 (.inl h)
       · rcases List.mem_cons.1 h with h | h
         · cases h
         · exact h1 (.inr h)
     · rcases List.mem_cons.1 hq with rfl | hq
       · exact fun e => h2 (.inl (e ▸ hp))
       · exact hnd.2.2 p hp q hq
   · rintro e w' ⟨v, R', H', ⟨-, i, rfl⟩, rfl, hs'⟩
     have hrec : w'.heap[w.heap.size + 1]? = some (.loop _) := hs'.own 0 _ rfl
     refine ⟨_, _, run_endLoop hrec (by simp), ?_⟩
     have hs3 := (hs'.setLoop (j := 0) (r' := { state := .exhausted, pending := none, fn := fn, tmps := a.tmps, params := ps, assign := assign, body := body, defers := w.heap.size }) rfl).tail
     refine k w.heap.size i _ _ ⟨hf.size, by simp [hf.dfs], hf.vals⟩ hs3.front

/-! ### A function that holds such a loop -/
def GoneP (d : Nat) : Pr where
 fp k := k = d
 p _ := True
 st := fun _ _ _ _ => trivial
def postM (X : Cx) (β : Base) (fn : Func) (Φ : Value → List Pr → List Pr → Prop) : Exit → Act → World → Prop :=
 bodyPostM Fence.wide 0 X.P fn fun e w' => ∃ v R' H', Φ v R' H' ∧ e = .returned v ∧ Sat β w' R' H'
theorem Ctr.ofM {f : FuncId} {fn : Func} {c : Code} {args : List Value} {Φ : Value → List Pr → List Pr → Prop} (hf : X.P.funcs[f]? = some fn) (hb : fn.body = some c) (hname : (fn.name == "runtime.NumGoroutine") = false)
   (hn : Nat.ble args.length fn.ntmps = true) (h : ∀ β, C X β fn.ntmps [] (postM X β fn Φ) c (params 0 args) R H) : Ctr X f args R H Φ := by
 have hn : args.length ≤ fn.ntmps := by simpa using hn
 refine ⟨⟨fn, hf, by rw [hb]; rfl, hname⟩, fun w hs => ?_⟩
 refine callsIn_wide.1 (callsIn_of_wp_marks (n := 0) hf hb trivial ((wpIn_wide (n := 0)).2 (h _ _ w ⟨by simp; omega, rfl, fun s v hv => ?_⟩ hs)))
 obtain ⟨_, h2⟩ := look_params args 0 s v hv
 have hlt := (List.getElem?_eq_some_iff.1 h2).1
 simp only [Nat.sub_zero] at h2 hlt
 rw [Array.getElem?_append_left (by simpa using hlt)]
 simpa using h2
theorem QE.retM {fn : Func} {Φ : Value → List Pr → List Pr → Prop} {rs : List ResultVar} {vs : List Value} {js hs : List Nat} {d j : Nat} (hj : H[j]? = some (DefP d)) (hrs : fn.results = List.toArray rs) (hr : Ress X Γ R (H.set j (GoneP d)) rs vs) (hn : hs.Nodup)
   (hΦ : Φ (tup vs) (sel R js) (sel (H.set j (GoneP d)) hs)) : QE β n [{ target := .collected d, args := #[] }] (postM X β fn Φ) .ret Γ R H := by
 intro a w hf hsat
 have hd : w.heap[d]? = some (.deferred (some [])) := hsat.own j _ hj
 have hlt : d < w.heap.size := (Array.getElem?_eq_some_iff.1 hd).1
 have hs' : Sat β (w.putObj d (.deferred none)) R (H.set j (GoneP d)) := hsat.upd hj (Stp.putObj w d _) (fun k hk _ => hk) (GoneP d) trivial (fun k hk => by
   have hk' : k = d := hk
   subst hk'
   exact ⟨by simpa using hlt, .inr rfl⟩)
 show LeavesInM _ _ _ _ a.tmps _ a.defers .returning w
 rw [hf.dfs]
 exact ⟨by simp, .inl ⟨d, _, rfl, run_takeDeferred hd, tup vs, run_results hrs hf hs' hr, tup vs, _, _, hΦ, rfl, (hs'.selR js).sel hn⟩⟩
/-! ### Slices of structs -/
theorem C.own0 {c : Code} (e : TypeId) (sz : Nat) (h : C X β n ds Q c Γ R (H ++ [Own e sz none 0 0 []])) : C X β n ds Q c Γ R H :=
 fun a w hf hs => h a w hf (hs.snoc (Stp.refl w fun _ => False) (fun _ h _ => h) _ (World.ownsRow_nil w 0 e sz) (fun k hk => by obtain ⟨a, ha, _⟩ := hk; cases ha))
end
end Go.Sl
end
/-
  The owned things, written out anew: what is nested in choices is told once.
-/
section
namespace Go.Sl
section
variable {X : Cx} {β : Base} {n : Nat} {ds : List Deferred} {ops : Array Oper} {Q : Exit → Act → World → Prop} {Γ : Env} {R H : List Pr} {rest : List Oper}
theorem C.norm {c : Code} {H' : List Pr} (hs : List Nat) (hp : Pk H hs H') (hn : hs.Nodup) (h : C X β n ds Q c Γ R H') : C X β n ds Q c Γ R H := fun a w hf hw => h a w hf (hw.pk hp hn)
theorem L.norm {H' : List Pr} (hs : List Nat) (hp : Pk H hs H') (hn : hs.Nodup) (h : L X β n ds ops Q rest Γ R H') : L X β n ds ops Q rest Γ R H := fun a w hf hw => h a w hf (hw.pk hp hn)
theorem QE.norm {x : Exit} {H' : List Pr} (hs : List Nat) (hp : Pk H hs H') (hn : hs.Nodup) (h : QE β n ds Q x Γ R H') : QE β n ds Q x Γ R H := fun a w hf hw => h a w hf (hw.pk hp hn)
end
end Go.Sl
end
