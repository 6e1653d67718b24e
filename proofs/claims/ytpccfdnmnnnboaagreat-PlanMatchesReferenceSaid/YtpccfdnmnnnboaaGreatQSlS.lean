/-
  The small separation logic: the rounds of a range over a function, whatever straight code they hold; several such loops in one function.
-/
import Derived.OrdersIn
import Derived.MapKept
import Derived.Test.YtpccfdnmnnnboaaGreatQSlR
import Derived.Test.YtpccfdnmnnnboaaGreatQSlN
import Derived.Test.YtpccfdnmnnnboaaGreatQWOyB
section
namespace Go.Sl

/-! ### Code by its form -/
def rwp (P : Program) : Code → (Exit → Act → World → Prop) → Act → World → Prop
 | .region _ ops false, Q, a, w => wpList P ops Q ops.toList a w
 | .region _ ops true, Q, a, w => ∀ t, wpOps P ops Q (Region.schedule (P.follows .mixedOrders) ops t) a w.drew
 | .seq x y, Q, a, w => rwp P x (Exit.then (rwp P y Q) Q) a w
 | .block id c, Q, a, w => rwp P c (Exit.inBlock id Q) a w
 | .cond c x y, Q, a, w => ∃ t, a.eval c = .bool t ∧ (if t = true then rwp P x Q a w else rwp P y Q a w)
 | .loop c, Q, a, w => ∃ (I : Act → World → Prop) (μ : Act → World → Nat), I a w ∧ ∀ a1 w1, I a1 w1 → rwp P c (Exit.then (fun a2 w2 => I a2 w2 ∧ μ a2 w2 < μ a1 w1) Q) a1 w1
 | .skip, Q, a, w => Q .normal a w
 | .exit id, Q, a, w => Q (.exit id) a w
 | _, _, _, _ => False
section
variable {P : Program} {m l : Nat} {ops : Array Oper} {Q : Exit → Act → World → Prop}
theorem rwp_mono : ∀ (c : Code) {Q Q' : Exit → Act → World → Prop} (a : Act) (w : World), (∀ e a w, Q e a w → Q' e a w) → rwp P c Q a w → rwp P c Q' a w
 | .region id ops false, Q, Q', a, w, hq, h => wpList_mono2 hq _ _ _ h
 | .region id ops true, Q, Q', a, w, hq, h => fun t => wpOps_mono2 hq _ _ _ (h t)
 | .seq x y, Q, Q', a, w, hq, h => rwp_mono x a w (fun e a w he => by
     cases e with
     | normal => exact rwp_mono y a w hq he
     | _ => exact hq _ _ _ he) h
 | .block id c, Q, Q', a, w, hq, h => rwp_mono c a w (fun e a w he => by
     cases e with
     | exit j =>
       simp only [Exit.inBlock] at he ⊢
       split
       · rename_i e
         rw [if_pos e] at he
         exact hq _ _ _ he
       · rename_i e
         rw [if_neg e] at he
         exact hq _ _ _ he
     | _ => exact hq _ _ _ he) h
 | .cond c x y, Q, Q', a, w, hq, ⟨t, ht, h⟩ => ⟨t, ht, by
     cases t with
     | true => exact rwp_mono x a w hq h
     | false => exact rwp_mono y a w hq h⟩
 | .loop c, Q, Q', a, w, hq, ⟨I, μ, h0, hr⟩ => ⟨I, μ, h0, fun a1 w1 h1 => rwp_mono c a1 w1 (fun e a w he => by
     cases e with
     | normal => exact he
     | _ => exact hq _ _ _ he) (hr a1 w1 h1)⟩
 | .skip, _, _, _, _, hq, h => hq _ _ _ h
 | .exit id, _, _, _, _, hq, h => hq _ _ _ h
where
 wpUpon {o : Oper} {a : Act} {w : World} {K K' : Act → World → Prop} {Q Q' : Exit → Act → World → Prop} (hq : ∀ e a w, Q e a w → Q' e a w) (hK : ∀ a w, K a w → K' a w) (h : o.wp P a w K Q) : o.wp P a w K' Q' := by
   unfold Oper.wp at h ⊢
   generalize (execOp a.eval o).run P w = res at h ⊢
   cases res with
   | ok nx w' =>
     cases nx with
     | value v => exact hK _ _ h
     | skip => exact hK _ _ h
     | defer d => exact hK _ _ h
     | enter f args =>
       refine Calls.mono h fun e w'' he => ?_
       cases e with
       | returned v => exact hK _ _ he
       | panicked ch => exact hq _ _ _ he
       | outgrown => obtain ⟨a0, w0, h0⟩ := he; exact ⟨a0, w0, hq _ _ _ h0⟩
     | row r args =>
       simp only [Oper.upon] at h ⊢
       intro c cs
       obtain ⟨v, w'', hv, hs⟩ := h c cs
       exact ⟨v, w'', hK _ _ hv, hs⟩
     | _ => exact h.elim
   | halt x w' => cases x <;> first | exact hq _ _ _ h | exact h.elim
 wpList_mono2 {ops : Array Oper} {Q Q' : Exit → Act → World → Prop} (hq : ∀ e a w, Q e a w → Q' e a w) : ∀ (ls : List Oper) (a : Act) (w : World), wpList P ops Q ls a w → wpList P ops Q' ls a w
   | [], _, _, h => hq _ _ _ h
   | o :: ls, a, w, h => by
     have ih := wpList_mono2 (ops := ops) hq ls
     simp only [wpList] at h ⊢
     split
     · rename_i hw
       simp only [hw, if_true] at h
       exact h.imp (wpUpon hq ih) (fun ⟨g, a0, w0, h0⟩ => ⟨g, a0, w0, hq _ _ _ h0⟩)
     · rename_i hw
       simp only [hw] at h
       exact ih _ _ h
 wpOps_mono2 {ops : Array Oper} {Q Q' : Exit → Act → World → Prop} (hq : ∀ e a w, Q e a w → Q' e a w) : ∀ (is : List Nat) (a : Act) (w : World), wpOps P ops Q is a w → wpOps P ops Q' is a w
   | [], _, _, h => hq _ _ _ h
   | i :: is, a, w, h => by
     have ih := wpOps_mono2 (ops := ops) hq is
     simp only [wpOps] at h ⊢
     cases ho : ops[i]? with
     | none =>
       simp only [ho] at h ⊢
       exact ih _ _ h
     | some o =>
       simp only [ho] at h ⊢
       split
       · rename_i hw
         simp only [hw, if_true] at h
         exact h.imp (wpUpon hq ih) (fun ⟨g, a0, w0, h0⟩ => ⟨g, a0, w0, hq _ _ _ h0⟩)
       · rename_i hw
         simp only [hw] at h
         exact ih _ _ h
end

/-! ### The rules once more, in a round -/
def Rn (X : Cx) (β : Base) (n : Nat) (ds : List Deferred) (Q : Exit → Act → World → Prop) (c : Code) (Γ : Env) (R H : List Pr) : Prop := ∀ a w, Fr n ds a Γ → Sat β w R H → rwp X.P c Q a w

section
variable {X : Cx} {β : Base} {n : Nat} {ds : List Deferred} {ops : Array Oper} {Q : Exit → Act → World → Prop} {rest : List Oper} {Γ : Env} {R H : List Pr}
theorem Rn.seq {x y : Code} (h : Rn X β n ds (Exit.then (rwp X.P y Q) Q) x Γ R H) : Rn X β n ds Q (.seq x y) Γ R H := fun a w hf hs => h a w hf hs
theorem Rn.skip (h : QE β n ds Q .normal Γ R H) : Rn X β n ds Q .skip Γ R H := fun a w hf hs => h a w hf hs
theorem Rn.exit {id : Nat} (h : QE β n ds Q (.exit id) Γ R H) : Rn X β n ds Q (.exit id) Γ R H := fun a w hf hs => h a w hf hs
theorem Rn.block {id : Nat} {c : Code} (h : Rn X β n ds (Exit.inBlock id Q) c Γ R H) : Rn X β n ds Q (.block id c) Γ R H := fun a w hf hs => h a w hf hs
theorem Rn.cond {c : Operand} {x y : Code} {b : Bool} (hc : ev Γ c = some (.bool b)) (ht : b = true → Rn X β n ds Q x Γ R H) (he : b = false → Rn X β n ds Q y Γ R H) : Rn X β n ds Q (.cond c x y) Γ R H := by
 intro a w hf hs
 refine ⟨b, hf.eval hc, ?_⟩
 cases b with
 | true => exact ht rfl a w hf hs
 | false => exact he rfl a w hf hs
theorem Rn.condB (s : Nat) {x y : Code} {b : Bool} (hc : look s Γ = some (.bool b)) (ht : b = true → Rn X β n ds Q x ((s, .bool true) :: Γ) R H) (he : b = false → Rn X β n ds Q y ((s, .bool false) :: Γ) R H) : Rn X β n ds Q (.cond (.tmp s) x y) Γ R H := by
 have h1 : ∀ (a : Act) (c : Bool), b = c → Fr n ds a Γ → Fr n ds a ((s, .bool c) :: Γ) := by
   rintro a c rfl hf
   refine ⟨hf.size, hf.dfs, fun t u hu => ?_⟩
   simp only [look] at hu
   cases hbq : Nat.beq t s with
   | true =>
     rw [hbq] at hu
     obtain rfl := Nat.eq_of_beq_eq_true hbq
     simp only [cond_true, Option.some.injEq] at hu
     subst hu
     exact hf.vals t _ hc
   | false =>
     rw [hbq] at hu
     exact hf.vals t u hu
 exact Rn.cond hc (fun e a w hf hs => ht e a w (h1 a true e hf) hs) (fun e a w hf hs => he e a w (h1 a false e hf) hs)
theorem Rn.region {id : Nat} {l : List Oper} (h : L X β n ds (List.toArray l) Q l Γ R H) : Rn X β n ds Q (.region id (List.toArray l) false) Γ R H := fun a w hf hs => h a w hf hs
theorem Rn.regionM {id : Nat} {l : List Oper} (Rc : List Pr) (_hc : Hass R H Rc) (h : LM X β n ds (List.toArray l) Rc Q l.length (Array.replicate l.length false) Γ R H) : Rn X β n ds Q (.region id (List.toArray l) true) Γ R H := by
 intro a w hf hs t
 simp only [Region.schedule, X.mixed, Bool.true_or, if_true]
 refine wpAny_sound _ t _ a _ (wpAny_of_C (Cl := fun w => Sat β w Rc []) (Qn := fun a w => Q .normal a w) (fun _ _ h => h) _ _ _ _ ?_)
 have := h a w.drew (by simp) hf (hs.same (Stp.drew w _))
 simpa using this
theorem Rn.regionQ {id : Nat} {l : List Oper} (hB : Region.lexB .any (List.toArray l) = true) (h : LQ X β n ds (List.toArray l) Q R H l Γ) : Rn X β n ds Q (.region id (List.toArray l) true) Γ R H := by
 intro a w hf hs t
 simp only [Region.schedule, X.mixed, Bool.true_or, if_true]
 refine wpAny_sound _ t _ a _ ?_
 simp only [Region.lexB, Bool.and_eq_true] at hB
 refine wpAny_of_quiet (C := fun w' => Sat β w' R H) (Q := fun a' => ∀ w', Sat β w' R H → Q .normal a' w') (fun _ w' hw' h => h w' hw') _ _ _ _ (hs.same (Stp.drew w _)) ?_
 have := wpAnyQ_lex (C := fun w' => Sat β w' R H) (md := .any) hB.1 l 0 (Array.replicate l.length false) a (by simp) (by simpa using hB.2) (h a hf)
 simpa using this
theorem Rn.le {c : Code} {Γ' : Env} {R' H' : List Pr} (hl : Le β Γ R H Γ' R' H') (h : Rn X β n ds Q c Γ' R' H') : Rn X β n ds Q c Γ R H := fun a w hf hs => h a w (hf.le hl.env) (hl.sat w hs)
theorem Rn.norm {c : Code} {H' : List Pr} (hs : List Nat) (hp : Pk H hs H') (hn : hs.Nodup) (h : Rn X β n ds Q c Γ R H') : Rn X β n ds Q c Γ R H := fun a w hf hw => h a w hf (hw.pk hp hn)
theorem Rn.freeze {x : Code} (j : Nat) {e sz m c : Nat} {A : Option Addr} {xs : List Value} (hj : H[j]? = some (Own e sz A m c xs)) (js : List Nat) (hn : js.Nodup) (hjj : js.contains j = false) (h : Rn X β n ds Q x Γ (Rd A xs :: R) (sel H js)) : Rn X β n ds Q x Γ R H :=
 fun a w hf hs => h a w hf (hs.freeze hj hn hjj)
theorem Rn.more {x : Code} {r : Pr} (hr : Has R [] r) (h : Rn X β n ds Q x Γ (r :: R) H) : Rn X β n ds Q x Γ R H := fun a w hf hs => h a w hf (hs.more hr)
theorem Rn.seqJ {x y : Code} {ι : Type} (G : ι → Env) (Rs Hs : ι → List Pr) (pre : ι → Prop) (h : Rn X β n ds (Exit.then (fun a w => ∃ j, pre j ∧ Fr n ds a (G j) ∧ Sat β w (Rs j) (Hs j)) Q) x Γ R H) (h2 : ∀ j, pre j → Rn X β n ds Q y (G j) (Rs j) (Hs j)) :
   Rn X β n ds Q (.seq x y) Γ R H := by
 intro a w hf hs
 refine rwp_mono x a w (fun e a' w' he => ?_) (h a w hf hs)
 cases e with
 | normal =>
   obtain ⟨j, hp, hfj, hsj⟩ := he
   exact h2 j hp a' w' hfj hsj
 | _ => exact he
theorem Rn.join {c : Code} {ι : Type} (G : ι → Env) (Rs Hs : ι → List Pr) (pre : ι → Prop) (h : Rn X β n ds (fun e a w => (e = .normal ∧ ∃ j, pre j ∧ Fr n ds a (G j) ∧ Sat β w (Rs j) (Hs j)) ∨ (e ≠ .normal ∧ Q e a w)) c Γ R H) (h2 : ∀ j, pre j → QE β n ds Q .normal (G j) (Rs j) (Hs j)) :
   Rn X β n ds Q c Γ R H := by
 intro a w hf hs
 refine rwp_mono c a w (fun e a' w' he => ?_) (h a w hf hs)
 rcases he with ⟨rfl, j, hp, hfj, hsj⟩ | ⟨_, he⟩
 · exact h2 j hp a' w' hfj hsj
 · exact he
theorem Rn.loop {c : Code} {ι : Type} (G : ι → Env) (Rs Hs : ι → List Pr) (pre : ι → Prop) (μ : ι → Nat) (i0 : ι) (h0 : pre i0) (hle : Le β Γ R H (G i0) (Rs i0) (Hs i0))
   (round : ∀ i, pre i → Rn X β n ds (Exit.then (fun a w => ∃ j, pre j ∧ μ j < μ i ∧ Fr n ds a (G j) ∧ Sat β w (Rs j) (Hs j)) Q) c (G i) (Rs i) (Hs i)) : Rn X β n ds Q (.loop c) Γ R H := by
 intro a w hf hs
 have key : ∀ (a : Act) (w : World), ∃ k : Nat, ∀ m, (∃ i, μ i = m ∧ pre i ∧ Fr n ds a (G i) ∧ Sat β w (Rs i) (Hs i)) → k ≤ m := fun a w => ⟨0, fun _ _ => Nat.zero_le _⟩
 clear key
 classical
 let S : Act → World → Nat → Prop := fun a w m => ∃ i, μ i = m ∧ pre i ∧ Fr n ds a (G i) ∧ Sat β w (Rs i) (Hs i)
 have least : ∀ a w, (∃ m, S a w m) → ∃ m, S a w m ∧ ∀ k, S a w k → m ≤ k := by
   intro a w ⟨m, hm⟩
   induction m using Nat.strongRecOn with
   | _ m ih =>
     by_cases hx : ∃ k, k < m ∧ S a w k
     · obtain ⟨k, hk, hsk⟩ := hx
       exact ih k hk hsk
     · exact ⟨m, hm, fun k hk => Nat.le_of_not_lt fun hlt => hx ⟨k, hlt, hk⟩⟩
 let ν : Act → World → Nat := fun a w => if h : ∃ m, S a w m then Classical.choose (least a w h) else 0
 have hν : ∀ a w, (∃ m, S a w m) → S a w (ν a w) ∧ ∀ k, S a w k → ν a w ≤ k := by
   intro a w h
   have e : ν a w = Classical.choose (least a w h) := dif_pos h
   rw [e]
   exact Classical.choose_spec (least a w h)
 refine ⟨fun a w => ∃ m, S a w m, ν, ⟨_, i0, rfl, h0, hf.le hle.env, hle.sat w hs⟩, fun a1 w1 h1 => ?_⟩
 obtain ⟨⟨i, hm, hp, hfi, hsi⟩, _⟩ := hν a1 w1 h1
 refine rwp_mono c a1 w1 (fun e a2 w2 he => ?_) (round i hp a1 w1 hfi hsi)
 cases e with
 | normal =>
   obtain ⟨j, hpj, hlt, hfj, hsj⟩ := he
   have hx : S a2 w2 (μ j) := ⟨j, rfl, hpj, hfj, hsj⟩
   exact ⟨⟨_, hx⟩, Nat.lt_of_le_of_lt ((hν a2 w2 ⟨_, hx⟩).2 _ hx) (hm ▸ hlt)⟩
 | _ => exact he

/-! ### One round, with read facts, of several values -/
theorem LY.call {d ty : Nat} {pos : String} {af : Array Edge} {f : Nat} {ags : List Operand} {tys : Array TypeId} {args : List Value} {Rf Hf Hr : List Pr} {js js' : List Nat} {Φ : Value → List Pr → List Pr → Prop} (hfn : Ctr X f args Rf Hf Φ)
   (ha : evs Γ ags = some args) (hj : sel H js = Hf) (hj' : sel H js' = Hr) (hn : (js ++ js').Nodup) (hR : Hass R Hr Rf) (hd : Nat.blt d n = true)
   (k : ∀ v R' H', Φ v R' H' → LY X β n ds ops Q rest ((d, v) :: Γ) R (H' ++ Hr)) : LY X β n ds ops Q (⟨some d, .call ⟨.value (.func f), List.toArray ags, tys⟩, ty, pos, af, none⟩ :: rest) Γ R H := by
 intro a w hf hs
 refine wpListIn_plain rfl fun K hK => ⟨fun f _ => trivial, ?_⟩
 rw [Fence.wide_round, Oper.semAt_none, exec_call hfn.1 hf.agree ha _ rfl]
 refine ⟨fun hd => by simp [Fence.wide] at hd, callsIn_wide.2 ((hfn.use hj hj' hn hR hs).mono ?_)⟩
 rintro e w' ⟨v, R', H', hv, rfl, hs'⟩
 exact hK _ _ (k v R' H' hv _ _ (hf.put (by simpa [Nat.blt_eq] using hd) v) hs')
theorem LY.norm {H' : List Pr} (hs : List Nat) (hp : Pk H hs H') (hn : hs.Nodup) (h : LY X β n ds ops Q rest Γ R H') : LY X β n ds ops Q rest Γ R H := fun a w hf hw => h a w hf (hw.pk hp hn)
/-! ### The end of a function with no such loop behind it, or two -/
end
end Go.Sl
end
/-
  The small separation logic: maps with whole numbers as keys: made, written, looked up.
-/
section
namespace Go.Sl

/-- What a map holds, in the order in which its keys came. -/
def mget (m : List (Int × Value)) (k : Int) : Option Value := match m with
 | [] => none
 | (a, v) :: m => if a = k then some v else mget m k
def mset (m : List (Int × Value)) (k : Int) (v : Value) : List (Int × Value) := match m with
 | [] => [(k, v)]
 | (a, u) :: m => if a = k then (a, v) :: m else (a, u) :: mset m k v
def mapK (kd : IntKind) (m : List (Int × Value)) : List (Value × Value) := m.map fun q => (.int kd q.1, q.2)
/-- The map in block g. -/
def MapP (kd : IntKind) (g : Nat) (m : List (Int × Value)) : Pr where
 fp k := k = g
 p w := ∃ (es : Array MapEntry) (clock : Nat), w.heap[g]? = some (.map es clock) ∧ es.toList.map (fun e => (e.key, e.val)) = mapK kd m
 st := by
   rintro w w' hk ⟨es, c, h, e⟩
   exact ⟨es, c, by rw [hk g rfl]; exact h, e⟩

theorem mfind {kd : IntKind} (k : Int) : ∀ (es : List MapEntry) (m : List (Int × Value)) (i : Nat), es.map (fun e => (e.key, e.val)) = mapK kd m →
   (mget m k = none ∧ Instr.findNow (.int kd) (.int kd k) es i = some none) ∨
   (∃ j e v, mget m k = some v ∧ Instr.findNow (.int kd) (.int kd k) es i = some (some (i + j, v)) ∧ es[j]? = some e ∧ e.key = .int kd k)
 | [], m, i, h => by
   have : m = [] := by simpa [mapK] using h.symm
   subst this
   exact .inl ⟨rfl, rfl⟩
 | e :: es, [], i, h => by simp [mapK] at h
 | e :: es, (a, u) :: m, i, h => by
   simp only [mapK, List.map_cons, List.cons.injEq, Prod.mk.injEq] at h
   obtain ⟨⟨h1, h2⟩, h3⟩ := h
   by_cases ha : a = k
   · subst ha
     refine .inr ⟨0, e, u, by simp [mget], ?_, rfl, h1⟩
     simp [Instr.findNow, h1, Instr.sameNow, h2]
   · have hs : Instr.sameNow (.int kd) (.int kd k) e.key = some false := by
       rw [h1]
       simp [Instr.sameNow]
       exact fun q => ha q.symm
     rcases mfind k es m (i + 1) h3 with ⟨g1, g2⟩ | ⟨j, e', v, g1, g2, g3, g4⟩
     · exact .inl ⟨by simp [mget, ha, g1], by simp [Instr.findNow, hs, g2]⟩
     · exact .inr ⟨j + 1, e', v, by simp [mget, ha, g1], by simp [Instr.findNow, hs, g2]; omega, by simpa using g3, g4⟩

theorem mset_new {m : List (Int × Value)} {k : Int} {v : Value} (h : mget m k = none) : mset m k v = m ++ [(k, v)] := by
 induction m with
 | nil => rfl
 | cons p m ih =>
   obtain ⟨a, u⟩ := p
   by_cases ha : a = k
   · simp [mget, ha] at h
   · simp only [mget, if_neg ha] at h
     simp [mset, if_neg ha, ih h]

theorem mset_at {kd : IntKind} {k : Int} {v : Value} : ∀ (es : List MapEntry) (m : List (Int × Value)) (i j : Nat) (u : Value), es.map (fun e => (e.key, e.val)) = mapK kd m →
   Instr.findNow (.int kd) (.int kd k) es i = some (some (i + j, u)) → (es.modify j fun e => { e with key := .int kd k, val := v }).map (fun e => (e.key, e.val)) = mapK kd (mset m k v)
 | [], m, i, j, u, _, hf => by simp [Instr.findNow] at hf
 | e :: es, [], i, j, u, h, _ => by simp [mapK] at h
 | e :: es, (a, x) :: m, i, j, u, h, hf => by
   simp only [mapK, List.map_cons, List.cons.injEq, Prod.mk.injEq] at h
   obtain ⟨⟨h1, h2⟩, h3⟩ := h
   by_cases ha : a = k
   · subst ha
     simp [Instr.findNow, h1, Instr.sameNow] at hf
     have : j = 0 := by omega
     subst this
     simp [mset, mapK, h3]
   · have hs : Instr.sameNow (.int kd) (.int kd k) e.key = some false := by
       rw [h1]
       simp [Instr.sameNow]
       exact fun q => ha q.symm
     simp only [Instr.findNow, hs] at hf
     cases j with
     | zero =>
       exfalso
       rcases mfind k es m (i + 1) h3 with ⟨g1, g2⟩ | ⟨j', e', v', g1, g2, g3, g4⟩
       · rw [g2] at hf; cases hf
       · rw [g2] at hf
         simp at hf
         omega
     | succ j =>
       have ih := mset_at es m (i + 1) j u h3 (v := v) (by rw [hf]; congr 3; omega)
       simp only [List.modify_succ_cons, List.map_cons, mset, if_neg ha, mapK, List.cons.injEq]
       exact ⟨by rw [h1, h2], ih⟩

section
variable {X : Cx} {β : Base} {n : Nat} {ds : List Deferred} {ops : Array Oper} {Q : Exit → Act → World → Prop} {rest : List Oper} {Γ : Env} {R H : List Pr}

theorem L.makeMap {d t ty : Nat} {pos : String} {af : Array Edge} (kd : IntKind) (hd : Nat.blt d n = true)
   (k : ∀ g, L X β n ds ops Q rest ((d, .map (some g)) :: Γ) R (H ++ [MapP kd g []])) : L X β n ds ops Q (⟨some d, .makeMap t none, ty, pos, af, none⟩ :: rest) Γ R H := by
 intro a w hf hs
 refine wpList_plain rfl fun K hK => ?_
 unfold Oper.wp
 have he : (execOp a.eval (⟨some d, .makeMap t none, ty, pos, af, none⟩ : Oper)).run X.P w = .ok (.value (.map (some w.heap.size))) (w.alloc (.map #[] 0)) := rfl
 rw [he]
 refine hK _ _ (k w.heap.size _ _ (hf.put (by simpa [Nat.blt_eq] using hd) _) ?_)
 refine hs.snoc (Stp.alloc w _ fun _ => False) (fun _ h _ => h) _ ⟨#[], 0, (MapKept.heap_alloc w _).1, rfl⟩ ?_
 intro k hk
 have hk' : k = w.heap.size := hk
 subst hk'
 exact ⟨by simp, Nat.le_refl _⟩

def HasMap (R H : List Pr) (kd : IntKind) (g : Nat) (m : List (Int × Value)) : Prop := ∀ β w, Sat β w R H → (MapP kd g m).p w
theorem HasMap.r (j : Nat) {kd : IntKind} {g : Nat} {m : List (Int × Value)} (h : R[j]? = some (MapP kd g m)) : HasMap R H kd g m := fun _ _ hs => hs.rd _ (List.mem_of_getElem? h)
theorem HasMap.o (j : Nat) {kd : IntKind} {g : Nat} {m : List (Int × Value)} (h : H[j]? = some (MapP kd g m)) : HasMap R H kd g m := fun _ _ hs => hs.own j _ h

theorem Ev.lookup {t kt et g : Nat} {x y : Operand} {c : Bool} {kd : IntKind} {q : Int} {m : List (Int × Value)} {i ki ei : Ti} (ht : tlook t X.tab = some i) (hdesc : i.desc = .map kt et) (hk : tlook kt X.tab = some ki) (hkd : ki.desc = .int kd) (he : tlook et X.tab = some ei)
   (hx : ev Γ x = some (.map (some g))) (hy : ev Γ y = some (.int kd q)) (hm : HasMap R H kd g m) :
   Ev X β Γ R H (.lookup t x y c) (if c = true then .tuple #[(mget m q).getD ei.zero, .bool (mget m q).isSome] else (mget m q).getD ei.zero) := by
 intro ρ w hρ hs o ho
 obtain ⟨e1, _⟩ := X.ok _ _ ht
 rw [hdesc] at e1
 obtain ⟨e2, _⟩ := X.ok _ _ hk
 rw [hkd] at e2
 obtain ⟨_, j, hj, _, _, h3⟩ := X.ok _ _ he
 have hz : (zeroValue et).run X.P w = .ok ei.zero w := by simp [zeroValue, typeInfo, hj, h3]
 obtain ⟨es, clock, hh, hes⟩ := hm β w hs
 have hck := MapKept.run_checkKey (P := X.P) (w := w) (k := .int kd q) e2 rfl es.isEmpty 9999
 rcases mfind q es.toList m 0 hes with ⟨g1, g2⟩ | ⟨j, e, v, g1, g2, _, _⟩
 · cases c <;> simp [execOp, ho, hρ _ _ hx, hρ _ _ hy, Instr.lookup, run_underlying e1, MapKept.run_getObj_map hh, hck, MapKept.run_findKey e2 g2, hz, g1, Result.andThen]
 · cases c <;> simp [execOp, ho, hρ _ _ hx, hρ _ _ hy, Instr.lookup, run_underlying e1, MapKept.run_getObj_map hh, hck, MapKept.run_findKey e2 g2, g1, Result.andThen]

theorem Ev.lookup1 {t kt et g : Nat} {x y : Operand} {kd : IntKind} {q : Int} {m : List (Int × Value)} {v : Value} {i ki ei : Ti} (ht : tlook t X.tab = some i) (hdesc : i.desc = .map kt et) (hk : tlook kt X.tab = some ki) (hkd : ki.desc = .int kd) (he : tlook et X.tab = some ei)
   (hx : ev Γ x = some (.map (some g))) (hy : ev Γ y = some (.int kd q)) (hm : HasMap R H kd g m) (hv : mget m q = some v) : Ev X β Γ R H (.lookup t x y false) v :=
 (Ev.lookup ht hdesc hk hkd he hx hy hm).cast (by simp [hv])

theorem L.mapSet {t kt et ty g j : Nat} {pos : String} {af : Array Edge} {x y z : Operand} {kd : IntKind} {q : Int} {v : Value} {m : List (Int × Value)} {i ki : Ti} (ht : tlook t X.tab = some i) (hdesc : i.desc = .map kt et) (hk : tlook kt X.tab = some ki) (hkd : ki.desc = .int kd)
   (hx : ev Γ x = some (.map (some g))) (hy : ev Γ y = some (.int kd q)) (hz : ev Γ z = some v) (hj : H[j]? = some (MapP kd g m))
   (k : L X β n ds ops Q rest Γ R (H.set j (MapP kd g (mset m q v)))) : L X β n ds ops Q (⟨none, .mapUpdate t x y z, ty, pos, af, none⟩ :: rest) Γ R H := by
 intro a w hf hs
 refine wpList_plain rfl fun K hK => ?_
 unfold Oper.wp
 have hρ := hf.agree
 obtain ⟨e1, _⟩ := X.ok _ _ ht
 rw [hdesc] at e1
 obtain ⟨e2, _⟩ := X.ok _ _ hk
 rw [hkd] at e2
 obtain ⟨es, clock, hh, hes⟩ := hs.own j _ hj
 have hck := MapKept.run_checkKey (P := X.P) (w := w) (k := .int kd q) e2 rfl false 9999
 have hlt : g < w.heap.size := (Array.getElem?_eq_some_iff.1 hh).1
 have fin : ∀ es' clock', es'.toList.map (fun e : MapEntry => (e.key, e.val)) = mapK kd (mset m q v) → Sat β { w with heap := w.heap.setIfInBounds g (.map es' clock') } R (H.set j (MapP kd g (mset m q v))) := by
   intro es' clock' he
   have hst : Stp w { w with heap := w.heap.setIfInBounds g (.map es' clock') } (· = g) := ⟨rfl, rfl, rfl, by simp, fun b _ hb => by
     show (w.heap.setIfInBounds g _)[b]? = _
     rw [Array.getElem?_setIfInBounds_ne (fun e => hb e.symm)]⟩
   refine hs.upd hj hst (fun b hb _ => hb) _ ⟨es', clock', by simp [hlt], he⟩ ?_
   intro b hb
   have hb' : b = g := hb
   subst hb'
   exact ⟨by simpa using hlt, .inr rfl⟩
 rcases mfind q es.toList m 0 hes with ⟨g1, g2⟩ | ⟨j', e, u, g1, g2, g3, g4⟩
 · have hr : (execOp a.eval (⟨none, .mapUpdate t x y z, ty, pos, af, none⟩ : Oper)).run X.P w = .ok .skip { w with heap := w.heap.setIfInBounds g (.map (es.push ⟨.int kd q, v, clock⟩) (clock + 1)) } := by
     simp [execOp, hρ _ _ hx, hρ _ _ hy, hρ _ _ hz, Instr.mapUpdate, run_underlying e1, MapKept.run_getObj_map hh, hck, MapKept.run_findKey e2 g2, MapKept.run_setObj_map _ hh, Result.andThen]
   rw [hr]
   refine hK _ _ (k _ _ hf (fin _ _ ?_))
   rw [Array.toList_push, List.map_append, hes, mset_new g1]
   simp [mapK]
 · have hj' : es[j']? = some e := by simpa using g3
   have hkk := MapKept.run_keyThatStays (P := X.P) (w := w) (k := .int kd q) (d := .int kd) rfl
   have hr : (execOp a.eval (⟨none, .mapUpdate t x y z, ty, pos, af, none⟩ : Oper)).run X.P w = .ok .skip { w with heap := w.heap.setIfInBounds g (.map (es.modify j' fun e => { e with key := .int kd q, val := v }) clock) } := by
     simp [execOp, hρ _ _ hx, hρ _ _ hy, hρ _ _ hz, Instr.mapUpdate, run_underlying e1, MapKept.run_getObj_map hh, hck, MapKept.run_findKey e2 g2, hj', g4, hkk, MapKept.run_setObj_map _ hh, Result.andThen]
   rw [hr]
   refine hK _ _ (k _ _ hf (fin _ _ ?_))
   rw [Array.toList_modify]
   exact mset_at es.toList m 0 j' u hes g2

/-- A map that is only read from now on. -/
theorem Sat.freezeAny {w : World} (h : Sat β w R H) {j : Nat} {c : Pr} (hj : H[j]? = some c) {js : List Nat} (hn : js.Nodup) (hjj : js.contains j = false) : Sat β w (c :: R) (Sl.sel H js) := by
 have hjn : j ∉ js := by simpa using hjj
 have hh := h.sel hn
 refine ⟨hh.ext, ?_, ?_, hh.own, hh.ofp, hh.dis, ?_⟩
 · intro r hr
   rcases List.mem_cons.1 hr with rfl | hr
   · exact h.own j _ hj
   · exact h.rd r hr
 · intro r hr k hk
   rcases List.mem_cons.1 hr with rfl | hr
   · have := h.ofp j _ hj k hk
     exact ⟨this.1, by rcases this.2 with x | x; exact .inl x; exact .inr (.inl x)⟩
   · exact h.rfp r hr k hk
 · intro r hr i d hd k hk hk'
   rcases List.mem_cons.1 hr with rfl | hr
   · obtain ⟨q, hq, hq2⟩ := sel_mem (List.mem_of_getElem? hd)
     exact h.dis j q _ _ hj hq2 (fun e => hjn (e ▸ hq)) k hk hk'
   · exact hh.sep r hr i d hd k hk hk'
theorem L.freezeAny (j : Nat) {c : Pr} (hj : H[j]? = some c) (js : List Nat) (hn : js.Nodup) (hjj : js.contains j = false) (h : L X β n ds ops Q rest Γ (c :: R) (sel H js)) : L X β n ds ops Q rest Γ R H := fun a w hf hs => h a w hf (hs.freezeAny hj hn hjj)
theorem C.freezeAny {x : Code} (j : Nat) {c : Pr} (hj : H[j]? = some c) (js : List Nat) (hn : js.Nodup) (hjj : js.contains j = false) (h : C X β n ds Q x Γ (c :: R) (sel H js)) : C X β n ds Q x Γ R H := fun a w hf hs => h a w hf (hs.freezeAny hj hn hjj)
theorem QE.freezeAny {x : Exit} (j : Nat) {c : Pr} (hj : H[j]? = some c) (js : List Nat) (hn : js.Nodup) (hjj : js.contains j = false) (h : QE β n ds Q x Γ (c :: R) (sel H js)) : QE β n ds Q x Γ R H := fun a w hf hs => h a w hf (hs.freezeAny hj hn hjj)
end
end Go.Sl
end
/-
  Plans, as plain data: sizes, the sectors that change, the readings among them.
-/
section
namespace Go.Sl

def sizB (sz n inn out : Int) : Bool := decide (1 ≤ sz) && decide (sz ≤ 4096) && decide (1 ≤ n) && decide (n ≤ 64) && decide (inn ≤ sz * n) && decide (out ≤ sz * n)
theorem sizB_iff {sz n inn out : Int} : sizB sz n inn out = true ↔ 1 ≤ sz ∧ sz ≤ 4096 ∧ 1 ≤ n ∧ n ≤ 64 ∧ inn ≤ sz * n ∧ out ≤ sz * n := by
 unfold sizB
 simp only [Bool.and_eq_true, decide_eq_true_eq]
 constructor
 · rintro ⟨⟨⟨⟨⟨a, b⟩, c⟩, d⟩, e⟩, f⟩
   exact ⟨a, b, c, d, e, f⟩
 · rintro ⟨a, b, c, d, e, f⟩
   exact ⟨⟨⟨⟨⟨a, b⟩, c⟩, d⟩, e⟩, f⟩
theorem sizB_no {sz n inn out : Int} (h : ¬(1 ≤ sz ∧ sz ≤ 4096 ∧ 1 ≤ n ∧ n ≤ 64 ∧ inn ≤ sz * n ∧ out ≤ sz * n)) : sizB sz n inn out = false := by
 cases hb : sizB sz n inn out with
 | false => rfl
 | true => exact absurd (sizB_iff.1 hb) h
theorem prod_le {a b : Int} (h1 : 1 ≤ a) (h2 : a ≤ 4096) (h3 : 1 ≤ b) (h4 : b ≤ 64) : 0 ≤ a * b ∧ a * b ≤ 262144 := by
 obtain ⟨a, rfl⟩ : ∃ q : Nat, a = (q : Int) := ⟨a.toNat, by omega⟩
 obtain ⟨b, rfl⟩ : ∃ q : Nat, b = (q : Int) := ⟨b.toNat, by omega⟩
 rw [← Int.natCast_mul]
 have h5 : a * b ≤ 4096 * 64 := Nat.mul_le_mul (by omega) (by omega)
 omega

section
variable {l : List Sy} {inn : Int} {S n t j : Nat}
def chgL (l : List Sy) (inn : Int) (S n : Nat) : List Nat := (List.range n).filter (chgB l inn S)
theorem chgL_yes (h : chgB l inn S n = true) : chgL l inn S (n + 1) = chgL l inn S n ++ [n] := by simp [chgL, List.range_succ, List.filter_append, h]
theorem chgL_no (h : chgB l inn S n = false) : chgL l inn S (n + 1) = chgL l inn S n := by simp [chgL, List.range_succ, List.filter_append, h]
theorem chgL_len (l : List Sy) (inn : Int) (S n : Nat) : (chgL l inn S n).length ≤ n := by
 have := List.length_filter_le (chgB l inn S) (List.range n)
 rwa [List.length_range] at this
theorem mem_chgL : t ∈ chgL l inn S n ↔ t < n ∧ chgB l inn S t = true := by simp [chgL]
theorem chgL_pair (l : List Sy) (inn : Int) (S n : Nat) : (chgL l inn S n).Pairwise (· < ·) := List.Pairwise.filter _ List.pairwise_lt_range
theorem chgL_nodup (l : List Sy) (inn : Int) (S n : Nat) : (chgL l inn S n).Nodup := (chgL_pair l inn S n).imp fun h => Nat.ne_of_lt h
theorem chg_end (h : ∀ a, a < j → chY l inn (t * S + a) = false) (he : S ≤ j ∨ (l.length ≤ t * S + j ∧ inn ≤ ((t * S + j : Nat) : Int))) : chgB l inn S t = false := by
 refine any_no (p := fun a => chY l inn (t * S + a)) fun a ha => ?_
 by_cases q : a < j
 · exact h a q
 · unfold chY
   rw [if_neg (by omega)]
   exact decide_eq_false (by omega)
end

/-! ### Readings, with empty rows for the rest -/
def padM (M : List (List Int)) (n : Nat) : List (List Int) := M ++ List.replicate (n - M.length) []
theorem padM_len {M : List (List Int)} {n : Nat} (h : M.length ≤ n) : (padM M n).length = n := by
 unfold padM
 rw [List.length_append, List.length_replicate]
 omega
theorem padM_get (M : List (List Int)) (n t : Nat) : (padM M n).getD t [] = M.getD t [] := by
 unfold padM
 simp only [List.getD_eq_getElem?_getD, List.getElem?_append]
 split
 · rfl
 · rename_i h
   rw [List.getElem?_replicate, List.getElem?_eq_none (by omega : M.length ≤ t)]
   split <;> rfl

/-! ### The readings among the sectors that change -/
def amoR (chg : List Nat) (M : List (List Int)) (i : Nat) : List Nat := (List.range chg.length).filter fun k => (M.getD (chg.getD i 0) []).contains ((chg.getD k 0 : Nat) : Int)
def amoL (chg : List Nat) (M : List (List Int)) (i : Nat) : List (List Int) := (List.range i).map fun i => NI (amoR chg M i)
theorem amoL_len (chg : List Nat) (M : List (List Int)) (i : Nat) : (amoL chg M i).length = i := by simp [amoL]
theorem amoL_snoc (chg : List Nat) (M : List (List Int)) (i : Nat) : amoL chg M (i + 1) = amoL chg M i ++ [NI (amoR chg M i)] := by simp [amoL, List.range_succ]
theorem amoR_len (chg : List Nat) (M : List (List Int)) (i : Nat) : (amoR chg M i).length ≤ chg.length := by
 have := List.length_filter_le (fun k => (M.getD (chg.getD i 0) []).contains ((chg.getD k 0 : Nat) : Int)) (List.range chg.length)
 rwa [List.length_range] at this
def idxN (chg : List Nat) (u : Nat) : Nat := chg.idxOf u
/-- The places of the numbers of a row that rises. -/
theorem row_idx {c r : Nat → Bool} (hrc : ∀ u, r u = true → c u = true) : ∀ n, ((List.range n).filter r).map (idxN ((List.range n).filter c)) = (List.range ((List.range n).filter c).length).filter fun k => r (((List.range n).filter c).getD k 0)
 | 0 => rfl
 | n + 1 => by
   have ih := row_idx hrc n
   have hc : (List.range (n + 1)).filter c = (List.range n).filter c ++ (if c n = true then [n] else []) := by
     rw [List.range_succ, List.filter_append]
     by_cases h : c n = true <;> simp [h]
   have hr : (List.range (n + 1)).filter r = (List.range n).filter r ++ (if r n = true then [n] else []) := by
     rw [List.range_succ, List.filter_append]
     by_cases h : r n = true <;> simp [h]
   have hold : ∀ x, ((List.range n).filter r).map (idxN ((List.range n).filter c ++ x)) = ((List.range n).filter r).map (idxN ((List.range n).filter c)) := by
     intro x
     refine List.map_congr_left fun u hu => ?_
     rw [List.mem_filter] at hu
     unfold idxN
     rw [List.idxOf_append, if_pos (List.mem_filter.2 ⟨hu.1, hrc u hu.2⟩)]
   have hget : ∀ x k, k < ((List.range n).filter c).length → ((List.range n).filter c ++ x).getD k 0 = ((List.range n).filter c).getD k 0 := by
     intro x k hk
     simp only [List.getD_eq_getElem?_getD, List.getElem?_append_left hk]
   rw [hc, hr, List.map_append, hold, ih]
   by_cases h : c n = true
   · rw [if_pos h, List.length_append]
     rw [show ((List.range n).filter c).length + [n].length = ((List.range n).filter c).length + 1 from rfl, List.range_succ, List.filter_append]
     congr 1
     · refine List.filter_congr fun k hk => ?_
       rw [hget _ _ (List.mem_range.1 hk)]
     · have e : ((List.range n).filter c ++ [n]).getD ((List.range n).filter c).length 0 = n := by simp [List.getD_eq_getElem?_getD]
       rw [List.filter_cons, e]
       by_cases h2 : r n = true
       · rw [if_pos h2, if_pos h2]
         have : idxN ((List.range n).filter c ++ [n]) n = ((List.range n).filter c).length := by
           unfold idxN
           rw [List.idxOf_append, if_neg (by simp)]
           simp
         simp [this]
       · rw [if_neg h2, if_neg h2]
         rfl
   · have h2 : ¬ r n = true := fun q => h (hrc n q)
     rw [if_neg h, if_neg h2, List.append_nil]
     simp

/-! ### The places of the sectors that change, in a map -/
def numM (chg : List Nat) (i : Nat) : List (Int × Value) := (List.range i).map fun j => (((chg.getD j 0 : Nat) : Int), .int .i64 (j : Int))
theorem numM_snoc (chg : List Nat) (i : Nat) : numM chg (i + 1) = numM chg i ++ [(((chg.getD i 0 : Nat) : Int), .int .i64 (i : Int))] := by simp [numM, List.range_succ]
theorem mget_app (m p : List (Int × Value)) (k : Int) : mget (m ++ p) k = match mget m k with | some v => some v | none => mget p k := by
 induction m with
 | nil => rfl
 | cons q m ih =>
   obtain ⟨a, u⟩ := q
   by_cases h : a = k
   · simp [mget, h]
   · simp [mget, h, ih]
theorem numM_no {chg : List Nat} {t : Nat} : ∀ {i : Nat}, (∀ j, j < i → chg.getD j 0 ≠ t) → mget (numM chg i) (t : Int) = none
 | 0, _ => rfl
 | i + 1, h => by
   rw [numM_snoc, mget_app, numM_no (fun j hj => h j (by omega))]
   have := h i (by omega)
   simp only [mget]
   rw [if_neg (by omega)]
theorem numM_yes {chg : List Nat} {k : Nat} (hn : ∀ i j, i < j → j < chg.length → chg.getD i 0 ≠ chg.getD j 0) (hk : k < chg.length) : ∀ {i : Nat}, k < i → i ≤ chg.length → mget (numM chg i) ((chg.getD k 0 : Nat) : Int) = some (.int .i64 (k : Int))
 | 0, h, _ => absurd h (Nat.not_lt_zero _)
 | i + 1, h, hi => by
   rw [numM_snoc, mget_app]
   by_cases e : k = i
   · subst e
     rw [numM_no (fun j hj => hn j k hj hk)]
     simp [mget]
   · rw [numM_yes hn hk (by omega) (by omega)]
theorem nodup_ne {l : List Nat} (h : l.Nodup) (i j : Nat) (hij : i < j) (hj : j < l.length) : l.getD i 0 ≠ l.getD j 0 := by
 rw [List.getD_eq_getElem?_getD, List.getD_eq_getElem?_getD, List.getElem?_eq_getElem (by omega), List.getElem?_eq_getElem hj]
 intro e
 have := (List.getElem_inj h).1 (by simpa using e)
 omega
theorem idx_at {l : List Nat} {u : Nat} (h : u ∈ l) : idxN l u < l.length ∧ l.getD (idxN l u) 0 = u := by
 unfold idxN
 have h1 := List.idxOf_lt_length_iff.2 h
 refine ⟨h1, ?_⟩
 rw [List.getD_eq_getElem?_getD, List.getElem?_eq_getElem h1]
 simp
/-! ### The place of a number in a list -/
def idxJ (l : List Int) (n : Int) : Int := if l.contains n = true then (l.idxOf n : Nat) else -1
theorem idxJ_lt {n : Int} : ∀ (l : List Int) (k : Nat), k < l.idxOf n → l.getD k 0 ≠ n
 | [], k, h => by simp at h
 | a :: l, k, h => by
   rw [List.idxOf_cons] at h
   by_cases e : a = n
   · rw [show (a == n) = true from by simpa using e] at h
     exact absurd h (Nat.not_lt_zero _)
   · rw [show (a == n) = false from by simpa using e] at h
     cases k with
     | zero => exact e
     | succ k => exact idxJ_lt l k (by simpa using h)
theorem idxJ_yes {l : List Int} {n : Int} {k : Nat} (hk : k < l.length) (hno : ∀ i, i < k → l.getD i 0 ≠ n) (h : l.getD k 0 = n) : idxJ l n = (k : Int) := by
 unfold idxJ
 rw [if_pos (has_yes hk h)]
 have hm : n ∈ l := List.contains_iff_mem.1 (has_yes hk h)
 have h1 := List.idxOf_lt_length_iff.2 hm
 have h2 : l.getD (l.idxOf n) 0 = n := by
   rw [List.getD_eq_getElem?_getD, List.getElem?_eq_getElem h1]
   simp
 rcases Nat.lt_trichotomy (l.idxOf n) k with g | g | g
 · exact absurd h2 (hno _ g)
 · rw [g]
 · exfalso
   exact idxJ_lt l k g h
theorem idxJ_no {l : List Int} {n : Int} (h : ∀ i, i < l.length → l.getD i 0 ≠ n) : idxJ l n = -1 := by
 unfold idxJ
 rw [if_neg (by rw [has_no h]; decide)]
/-! ### Numbers that stand for others -/
def namL (chg l : List Nat) : List Nat := l.map fun i => chg.getD i 0
theorem namL_len (chg l : List Nat) : (namL chg l).length = l.length := by simp [namL]
theorem namL_snoc (chg l : List Nat) {i : Nat} (h : i < l.length) : namL chg (l.take (i + 1)) = namL chg (l.take i) ++ [chg.getD (l.getD i 0) 0] := by
 unfold namL
 rw [take_snoc' l 0 i h, List.map_append]
 rfl
end Go.Sl
end
