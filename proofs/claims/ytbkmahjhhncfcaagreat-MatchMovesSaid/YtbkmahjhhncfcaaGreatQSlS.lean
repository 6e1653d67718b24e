/-
  The small separation logic: the rounds of a range over a function, whatever straight code they hold; several such loops in one function.
-/
import Derived.OrdersIn
import Derived.MapKept
import Derived.Test.YtbkmahjhhncfcaaGreatQSlR
section
namespace Go.Sl

/-! ### Code by its form -/
def rwp (P : Program) : Code → (Exit → Act → World → Prop) → Act → World → Prop
 | .region _ ops false, Q, a, w => wpList P ops Q ops.toList a w
 | .region _ ops true, Q, a, w => ∀ t, wpOps P ops Q (Region.schedule (P.follows .mixedOrders) ops t) a w.drew
 | .seq x y, Q, a, w => rwp P x (Exit.then (rwp P y Q) Q) a w
 | .block id c, Q, a, w => rwp P c (Exit.inBlock id Q) a w
 | .cond c x y, Q, a, w => ∃ t, a.eval c = .bool t ∧ (if t = true then rwp P x Q a w else rwp P y Q a w)
 | .loop c, Q, a, w => ∃ (I : Act → World → Prop) (μ : Act → World → Nat), I a w ∧ ∀ a1 w1, I a1 w1 → rwp P c (Exit.then (fun a2 w2 => I a2 w2 ∧ μ a2 w2 < μ a1 w1) Q) a1 w1
 | .skip, Q, a, w => Q .normal a w
 | .exit id, Q, a, w => Q (.exit id) a w
 | _, _, _, _ => False
def noDef (o : Oper) : Bool := match o.op with | .defer _ => false | _ => true
/-- No call is deferred. -/
def plainC : Code → Bool
 | .region _ ops _ => ops.toList.all noDef
 | .seq x y => plainC x && plainC y
 | .block _ c => plainC c
 | .cond _ x y => plainC x && plainC y
 | .loop c => plainC c
 | .skip => true
 | .exit _ => true
 | _ => false

section
variable {P : Program} {m l : Nat} {ops : Array Oper} {Q : Exit → Act → World → Prop}
theorem uponIn_of {o : Oper} {a : Act} {res : Result Next} {K K' : Act → World → Prop} (hQ : ¬LetsOut Q) (hK : ∀ a w, K a w → K' a w) (h : o.upon P a K Q res) : o.uponIn (Fence.wide.inRound l) m P a K' Q res := by
 cases res with
 | ok nx w' =>
   cases nx with
   | value v => exact hK _ _ h
   | skip => exact hK _ _ h
   | defer d => exact hK _ _ h
   | enter f args =>
     refine ⟨fun hd => by simp [Fence.wide] at hd, callsIn_inRound.2 (callsIn_wide.2 (Calls.mono h fun e w'' he => ?_))⟩
     cases e with
     | returned v => exact hK _ _ he
     | panicked ch => exact he
     | outgrown => exact (hQ he).elim
   | row r args =>
     simp only [Oper.upon] at h
     refine ⟨fun hd => by simp [Fence.wide] at hd, ?_⟩
     intro c cs hroom
     obtain ⟨v, w'', hv, hs⟩ := h c cs
     exact ⟨v, w'', hK _ _ hv, stepsIn_wide.2 hs⟩
   | _ => exact h.elim
 | halt x w' => cases x <;> first | exact h | exact h.elim
theorem wpIn_op {o : Oper} {a : Act} {w : World} {K K' : Act → World → Prop} (hQ : ¬LetsOut Q) (hp : noDef o = true) (hK : ∀ a w, K a w → K' a w) (h : o.wp P a w K Q) : o.wpIn (Fence.wide.inRound l) m P a w K' Q := by
 refine ⟨fun f _ => trivial, ?_⟩
 have hse : o.semAt (Fence.wide.inRound l).round a.eval = execOp a.eval o := Oper.semAt_some l _ _ (fun c hc => by unfold noDef at hp; rw [hc] at hp; cases hp)
 rw [hse]
 exact uponIn_of hQ hK h
theorem wpListIn_of2 (hQ : ¬LetsOut Q) : ∀ (ls : List Oper), ls.all noDef = true → ∀ (a : Act) (w : World), wpList P ops Q ls a w → wpListIn (Fence.wide.inRound l) m P ops Q ls a w
 | [], _, _, _, h => h
 | o :: ls, hp, a, w, h => by
   simp only [List.all_cons, Bool.and_eq_true] at hp
   have ih := wpListIn_of2 hQ ls hp.2
   simp only [wpList] at h
   simp only [wpListIn]
   split
   · rename_i hw
     simp only [hw, if_true] at h
     rcases h with h1 | ⟨_, h1⟩
     · exact wpIn_op hQ hp.1 ih h1
     · exact (hQ h1).elim
   · rename_i hw
     simp only [hw] at h
     exact ⟨fun f _ => trivial, ih _ _ h⟩
theorem wpOpsIn_of (hQ : ¬LetsOut Q) (hp : ops.toList.all noDef = true) : ∀ (is : List Nat) (a : Act) (w : World), wpOps P ops Q is a w → wpOpsIn (Fence.wide.inRound l) m P ops Q is a w
 | [], _, _, h => h
 | i :: is, a, w, h => by
   have ih := wpOpsIn_of hQ hp is
   simp only [wpOps] at h
   simp only [wpOpsIn]
   cases ho : ops[i]? with
   | none =>
     simp only [ho] at h ⊢
     exact ih _ _ h
   | some o =>
     simp only [ho] at h ⊢
     have hpo : noDef o = true := List.all_eq_true.1 hp o (by
       have := Array.mem_of_getElem? ho
       simpa using this)
     split
     · rename_i hw
       simp only [hw, if_true] at h
       rcases h with h1 | ⟨_, h1⟩
       · exact wpIn_op hQ hpo ih h1
       · exact (hQ h1).elim
     · rename_i hw
       simp only [hw] at h
       exact ⟨fun f _ => trivial, ih _ _ h⟩
theorem wpIn_of_rwp : ∀ (c : Code) (Q : Exit → Act → World → Prop), ¬LetsOut Q → plainC c = true → ∀ (a : Act) (w : World), rwp P c Q a w → c.wpIn (Fence.wide.inRound l) m P Q a w
 | .region id ops false, Q, hQ, hp, a, w, h => wpIn_region_list (wpListIn_of2 hQ _ hp _ _ h)
 | .region id ops true, Q, hQ, hp, a, w, h => wpIn_region_draw fun t => wpOpsIn_of hQ hp _ _ _ (h t)
 | .seq x y, Q, hQ, hp, a, w, h => by
   simp only [plainC, Bool.and_eq_true] at hp
   refine wpIn_seq (wpIn_mono (wpIn_of_rwp x (Exit.then (rwp P y Q) Q) (fun ⟨a, w, h⟩ => hQ ⟨a, w, h⟩) hp.1 a w h) fun e a w he => ?_)
   cases e with
   | normal => exact wpIn_of_rwp y _ hQ hp.2 _ _ he
   | _ => exact he
 | .block id c, Q, hQ, hp, a, w, h => wpIn_block (wpIn_of_rwp c (Exit.inBlock id Q) (fun ⟨a, w, h⟩ => hQ ⟨a, w, h⟩) hp a w h)
 | .cond c x y, Q, hQ, hp, a, w, h => by
   simp only [plainC, Bool.and_eq_true] at hp
   obtain ⟨t, ht, h⟩ := h
   refine wpIn_cond ht ?_
   cases t with
   | true => exact wpIn_of_rwp x _ hQ hp.1 _ _ h
   | false => exact wpIn_of_rwp y _ hQ hp.2 _ _ h
 | .loop c, Q, hQ, hp, a, w, h => by
   obtain ⟨I, μ, h0, hr⟩ := h
   exact wpIn_loop I μ h0 fun a1 w1 h1 => wpIn_of_rwp c (Exit.then (fun a2 w2 => I a2 w2 ∧ μ a2 w2 < μ a1 w1) Q) (fun ⟨a, w, h⟩ => hQ ⟨a, w, h⟩) hp _ _ (hr a1 w1 h1)
 | .skip, Q, _, _, a, w, h => wpIn_skip h
 | .exit id, Q, _, _, a, w, h => wpIn_exit h
theorem rwp_mono : ∀ (c : Code) {Q Q' : Exit → Act → World → Prop} (a : Act) (w : World), (∀ e a w, Q e a w → Q' e a w) → rwp P c Q a w → rwp P c Q' a w
 | .region id ops false, Q, Q', a, w, hq, h => wpList_mono2 hq _ _ _ h
 | .region id ops true, Q, Q', a, w, hq, h => fun t => wpOps_mono2 hq _ _ _ (h t)
 | .seq x y, Q, Q', a, w, hq, h => rwp_mono x a w (fun e a w he => by
     cases e with
     | normal => exact rwp_mono y a w hq he
     | _ => exact hq _ _ _ he) h
 | .block id c, Q, Q', a, w, hq, h => rwp_mono c a w (fun e a w he => by
     cases e with
     | exit j =>
       simp only [Exit.inBlock] at he ⊢
       split
       · rename_i e
         rw [if_pos e] at he
         exact hq _ _ _ he
       · rename_i e
         rw [if_neg e] at he
         exact hq _ _ _ he
     | _ => exact hq _ _ _ he) h
 | .cond c x y, Q, Q', a, w, hq, ⟨t, ht, h⟩ => ⟨t, ht, by
     cases t with
     | true => exact rwp_mono x a w hq h
     | false => exact rwp_mono y a w hq h⟩
 | .loop c, Q, Q', a, w, hq, ⟨I, μ, h0, hr⟩ => ⟨I, μ, h0, fun a1 w1 h1 => rwp_mono c a1 w1 (fun e a w he => by
     cases e with
     | normal => exact he
     | _ => exact hq _ _ _ he) (hr a1 w1 h1)⟩
 | .skip, _, _, _, _, hq, h => hq _ _ _ h
 | .exit id, _, _, _, _, hq, h => hq _ _ _ h
where
 wpUpon {o : Oper} {a : Act} {w : World} {K K' : Act → World → Prop} {Q Q' : Exit → Act → World → Prop} (hq : ∀ e a w, Q e a w → Q' e a w) (hK : ∀ a w, K a w → K' a w) (h : o.wp P a w K Q) : o.wp P a w K' Q' := by
   unfold Oper.wp at h ⊢
   generalize (execOp a.eval o).run P w = res at h ⊢
   cases res with
   | ok nx w' =>
     cases nx with
     | value v => exact hK _ _ h
     | skip => exact hK _ _ h
     | defer d => exact hK _ _ h
     | enter f args =>
       refine Calls.mono h fun e w'' he => ?_
       cases e with
       | returned v => exact hK _ _ he
       | panicked ch => exact hq _ _ _ he
       | outgrown => obtain ⟨a0, w0, h0⟩ := he; exact ⟨a0, w0, hq _ _ _ h0⟩
     | row r args =>
       simp only [Oper.upon] at h ⊢
       intro c cs
       obtain ⟨v, w'', hv, hs⟩ := h c cs
       exact ⟨v, w'', hK _ _ hv, hs⟩
     | _ => exact h.elim
   | halt x w' => cases x <;> first | exact hq _ _ _ h | exact h.elim
 wpList_mono2 {ops : Array Oper} {Q Q' : Exit → Act → World → Prop} (hq : ∀ e a w, Q e a w → Q' e a w) : ∀ (ls : List Oper) (a : Act) (w : World), wpList P ops Q ls a w → wpList P ops Q' ls a w
   | [], _, _, h => hq _ _ _ h
   | o :: ls, a, w, h => by
     have ih := wpList_mono2 (ops := ops) hq ls
     simp only [wpList] at h ⊢
     split
     · rename_i hw
       simp only [hw, if_true] at h
       exact h.imp (wpUpon hq ih) (fun ⟨g, a0, w0, h0⟩ => ⟨g, a0, w0, hq _ _ _ h0⟩)
     · rename_i hw
       simp only [hw] at h
       exact ih _ _ h
 wpOps_mono2 {ops : Array Oper} {Q Q' : Exit → Act → World → Prop} (hq : ∀ e a w, Q e a w → Q' e a w) : ∀ (is : List Nat) (a : Act) (w : World), wpOps P ops Q is a w → wpOps P ops Q' is a w
   | [], _, _, h => hq _ _ _ h
   | i :: is, a, w, h => by
     have ih := wpOps_mono2 (ops := ops) hq is
     simp only [wpOps] at h ⊢
     cases ho : ops[i]? with
     | none =>
       simp only [ho] at h ⊢
       exact ih _ _ h
     | some o =>
       simp only [ho] at h ⊢
       split
       · rename_i hw
         simp only [hw, if_true] at h
         exact h.imp (wpUpon hq ih) (fun ⟨g, a0, w0, h0⟩ => ⟨g, a0, w0, hq _ _ _ h0⟩)
       · rename_i hw
         simp only [hw] at h
         exact ih _ _ h
end

/-! ### The rules once more, in a round -/
def Rn (X : Cx) (β : Base) (n : Nat) (ds : List Deferred) (Q : Exit → Act → World → Prop) (c : Code) (Γ : Env) (R H : List Pr) : Prop := ∀ a w, Fr n ds a Γ → Sat β w R H → rwp X.P c Q a w

section
variable {X : Cx} {β : Base} {n : Nat} {ds : List Deferred} {ops : Array Oper} {Q : Exit → Act → World → Prop} {rest : List Oper} {Γ : Env} {R H : List Pr}
theorem Rn.seq {x y : Code} (h : Rn X β n ds (Exit.then (rwp X.P y Q) Q) x Γ R H) : Rn X β n ds Q (.seq x y) Γ R H := fun a w hf hs => h a w hf hs
theorem QE.seqR {y : Code} (h : Rn X β n ds Q y Γ R H) : QE β n ds (Exit.then (rwp X.P y Q) Q) .normal Γ R H := fun a w hf hs => h a w hf hs
theorem Rn.skip (h : QE β n ds Q .normal Γ R H) : Rn X β n ds Q .skip Γ R H := fun a w hf hs => h a w hf hs
theorem Rn.exit {id : Nat} (h : QE β n ds Q (.exit id) Γ R H) : Rn X β n ds Q (.exit id) Γ R H := fun a w hf hs => h a w hf hs
theorem Rn.block {id : Nat} {c : Code} (h : Rn X β n ds (Exit.inBlock id Q) c Γ R H) : Rn X β n ds Q (.block id c) Γ R H := fun a w hf hs => h a w hf hs
theorem Rn.cond {c : Operand} {x y : Code} {b : Bool} (hc : ev Γ c = some (.bool b)) (ht : b = true → Rn X β n ds Q x Γ R H) (he : b = false → Rn X β n ds Q y Γ R H) : Rn X β n ds Q (.cond c x y) Γ R H := by
 intro a w hf hs
 refine ⟨b, hf.eval hc, ?_⟩
 cases b with
 | true => exact ht rfl a w hf hs
 | false => exact he rfl a w hf hs
theorem Rn.condB (s : Nat) {x y : Code} {b : Bool} (hc : look s Γ = some (.bool b)) (ht : b = true → Rn X β n ds Q x ((s, .bool true) :: Γ) R H) (he : b = false → Rn X β n ds Q y ((s, .bool false) :: Γ) R H) : Rn X β n ds Q (.cond (.tmp s) x y) Γ R H := by
 have h1 : ∀ (a : Act) (c : Bool), b = c → Fr n ds a Γ → Fr n ds a ((s, .bool c) :: Γ) := by
   rintro a c rfl hf
   refine ⟨hf.size, hf.dfs, fun t u hu => ?_⟩
   simp only [look] at hu
   cases hbq : Nat.beq t s with
   | true =>
     rw [hbq] at hu
     obtain rfl := Nat.eq_of_beq_eq_true hbq
     simp only [cond_true, Option.some.injEq] at hu
     subst hu
     exact hf.vals t _ hc
   | false =>
     rw [hbq] at hu
     exact hf.vals t u hu
 exact Rn.cond hc (fun e a w hf hs => ht e a w (h1 a true e hf) hs) (fun e a w hf hs => he e a w (h1 a false e hf) hs)
theorem Rn.region {id : Nat} {l : List Oper} (h : L X β n ds (List.toArray l) Q l Γ R H) : Rn X β n ds Q (.region id (List.toArray l) false) Γ R H := fun a w hf hs => h a w hf hs
theorem Rn.regionM {id : Nat} {l : List Oper} (Rc : List Pr) (_hc : Hass R H Rc) (h : LM X β n ds (List.toArray l) (Array.replicate l.length false) Rc Q l.length (Array.replicate l.length false) Γ R H) : Rn X β n ds Q (.region id (List.toArray l) true) Γ R H := by
 intro a w hf hs t
 simp only [Region.schedule, X.mixed, Bool.true_or, if_true]
 refine wpAny_sound _ t _ a _ (wpAny_of_C (l0 := Array.replicate l.length false) (Cl := fun w => Sat β w Rc []) (Qn := fun a w => Q .normal a w) (fun _ _ h => h) _ _ _ _ ?_)
 have := h a w.drew (by simp) (fun _ h => h) hf (hs.same (Stp.drew w _))
 simpa using this
theorem Rn.regionQ {id : Nat} {l : List Oper} (hB : Region.lexB .any (List.toArray l) = true) (h : LQ X β n ds (List.toArray l) Q R H l Γ) : Rn X β n ds Q (.region id (List.toArray l) true) Γ R H := by
 intro a w hf hs t
 simp only [Region.schedule, X.mixed, Bool.true_or, if_true]
 refine wpAny_sound _ t _ a _ ?_
 simp only [Region.lexB, Bool.and_eq_true] at hB
 refine wpAny_of_quiet (C := fun w' => Sat β w' R H) (Q := fun a' => ∀ w', Sat β w' R H → Q .normal a' w') (fun _ w' hw' h => h w' hw') _ _ _ _ (hs.same (Stp.drew w _)) ?_
 have := wpAnyQ_lex (C := fun w' => Sat β w' R H) (md := .any) hB.1 l 0 (Array.replicate l.length false) a (by simp) (by simpa using hB.2) (h a hf)
 simpa using this
theorem Rn.le {c : Code} {Γ' : Env} {R' H' : List Pr} (hl : Le β Γ R H Γ' R' H') (h : Rn X β n ds Q c Γ' R' H') : Rn X β n ds Q c Γ R H := fun a w hf hs => h a w (hf.le hl.env) (hl.sat w hs)
theorem Rn.norm {c : Code} {H' : List Pr} (hs : List Nat) (hp : Pk H hs H') (hn : hs.Nodup) (h : Rn X β n ds Q c Γ R H') : Rn X β n ds Q c Γ R H := fun a w hf hw => h a w hf (hw.pk hp hn)
theorem Rn.freeze {x : Code} (j : Nat) {e sz m c : Nat} {A : Option Addr} {xs : List Value} (hj : H[j]? = some (Own e sz A m c xs)) (js : List Nat) (hn : js.Nodup) (hjj : js.contains j = false) (h : Rn X β n ds Q x Γ (Rd A xs :: R) (sel H js)) : Rn X β n ds Q x Γ R H :=
 fun a w hf hs => h a w hf (hs.freeze hj hn hjj)
theorem Rn.more {x : Code} {r : Pr} (hr : Has R [] r) (h : Rn X β n ds Q x Γ (r :: R) H) : Rn X β n ds Q x Γ R H := fun a w hf hs => h a w hf (hs.more hr)
theorem Rn.seqJ {x y : Code} {ι : Type} (G : ι → Env) (Rs Hs : ι → List Pr) (pre : ι → Prop) (h : Rn X β n ds (Exit.then (fun a w => ∃ j, pre j ∧ Fr n ds a (G j) ∧ Sat β w (Rs j) (Hs j)) Q) x Γ R H) (h2 : ∀ j, pre j → Rn X β n ds Q y (G j) (Rs j) (Hs j)) :
   Rn X β n ds Q (.seq x y) Γ R H := by
 intro a w hf hs
 refine rwp_mono x a w (fun e a' w' he => ?_) (h a w hf hs)
 cases e with
 | normal =>
   obtain ⟨j, hp, hfj, hsj⟩ := he
   exact h2 j hp a' w' hfj hsj
 | _ => exact he
theorem Rn.join {c : Code} {ι : Type} (G : ι → Env) (Rs Hs : ι → List Pr) (pre : ι → Prop) (h : Rn X β n ds (fun e a w => (e = .normal ∧ ∃ j, pre j ∧ Fr n ds a (G j) ∧ Sat β w (Rs j) (Hs j)) ∨ (e ≠ .normal ∧ Q e a w)) c Γ R H) (h2 : ∀ j, pre j → QE β n ds Q .normal (G j) (Rs j) (Hs j)) :
   Rn X β n ds Q c Γ R H := by
 intro a w hf hs
 refine rwp_mono c a w (fun e a' w' he => ?_) (h a w hf hs)
 rcases he with ⟨rfl, j, hp, hfj, hsj⟩ | ⟨_, he⟩
 · exact h2 j hp a' w' hfj hsj
 · exact he
theorem Rn.loop {c : Code} {ι : Type} (G : ι → Env) (Rs Hs : ι → List Pr) (pre : ι → Prop) (μ : ι → Nat) (i0 : ι) (h0 : pre i0) (hle : Le β Γ R H (G i0) (Rs i0) (Hs i0))
   (round : ∀ i, pre i → Rn X β n ds (Exit.then (fun a w => ∃ j, pre j ∧ μ j < μ i ∧ Fr n ds a (G j) ∧ Sat β w (Rs j) (Hs j)) Q) c (G i) (Rs i) (Hs i)) : Rn X β n ds Q (.loop c) Γ R H := by
 intro a w hf hs
 have key : ∀ (a : Act) (w : World), ∃ k : Nat, ∀ m, (∃ i, μ i = m ∧ pre i ∧ Fr n ds a (G i) ∧ Sat β w (Rs i) (Hs i)) → k ≤ m := fun a w => ⟨0, fun _ _ => Nat.zero_le _⟩
 clear key
 classical
 let S : Act → World → Nat → Prop := fun a w m => ∃ i, μ i = m ∧ pre i ∧ Fr n ds a (G i) ∧ Sat β w (Rs i) (Hs i)
 have least : ∀ a w, (∃ m, S a w m) → ∃ m, S a w m ∧ ∀ k, S a w k → m ≤ k := by
   intro a w ⟨m, hm⟩
   induction m using Nat.strongRecOn with
   | _ m ih =>
     by_cases hx : ∃ k, k < m ∧ S a w k
     · obtain ⟨k, hk, hsk⟩ := hx
       exact ih k hk hsk
     · exact ⟨m, hm, fun k hk => Nat.le_of_not_lt fun hlt => hx ⟨k, hlt, hk⟩⟩
 let ν : Act → World → Nat := fun a w => if h : ∃ m, S a w m then Classical.choose (least a w h) else 0
 have hν : ∀ a w, (∃ m, S a w m) → S a w (ν a w) ∧ ∀ k, S a w k → ν a w ≤ k := by
   intro a w h
   have e : ν a w = Classical.choose (least a w h) := dif_pos h
   rw [e]
   exact Classical.choose_spec (least a w h)
 refine ⟨fun a w => ∃ m, S a w m, ν, ⟨_, i0, rfl, h0, hf.le hle.env, hle.sat w hs⟩, fun a1 w1 h1 => ?_⟩
 obtain ⟨⟨i, hm, hp, hfi, hsi⟩, _⟩ := hν a1 w1 h1
 refine rwp_mono c a1 w1 (fun e a2 w2 he => ?_) (round i hp a1 w1 hfi hsi)
 cases e with
 | normal =>
   obtain ⟨j, hpj, hlt, hfj, hsj⟩ := he
   have hx : S a2 w2 (μ j) := ⟨j, rfl, hpj, hfj, hsj⟩
   exact ⟨⟨_, hx⟩, Nat.lt_of_le_of_lt ((hν a2 w2 ⟨_, hx⟩).2 _ hx) (hm ▸ hlt)⟩
 | _ => exact he

/-! ### One round, with read facts, of several values -/
def YieldR (X : Cx) (l : Nat) (r : Loop) {σ α : Type} (encs : α → List Value) (Rb : List Pr) (St : σ → List Pr) (nxt : σ → α → σ → Prop) (good : σ → α → Prop) : Prop :=
 ∀ (β : Base) (w : World) (s : σ) (x : α), good s x → Sat β w Rb (LoopP l r :: St s) → YieldAt Fence.wide 0 X.P l (List.toArray (encs x)) w (fun e w' => e = .returned (.bool true) ∧ ∃ s', nxt s x s' ∧ Sat β w' Rb (LoopP l r :: St s'))
theorem YieldR.gen {l : Nat} {r0 : Loop} {σ α : Type} {encs : α → List Value} {Rb : List Pr} {St : σ → List Pr} {nxt : σ → α → σ → Prop} {good : σ → α → Prop} (h : ∀ r, r = r0 → YieldR X l r encs Rb St nxt good) : YieldR X l r0 encs Rb St nxt good := h r0 rfl
theorem LY.yieldR {d ty l : Nat} {r : Loop} {pos : String} {af : Array Edge} {x : Operand} {ags : List Operand} {tys : Array TypeId} {σ α : Type} {encs : α → List Value} {Rb : List Pr} {St : σ → List Pr} {nxt : σ → α → σ → Prop} {good : σ → α → Prop} {Hr : List Pr} {js js' : List Nat}
   (hy : YieldR X l r encs Rb St nxt good) (s : σ) (e : α) (hg : good s e) (hx : ev Γ x = some (.func (.yield l) #[] #[])) (ha : evs Γ ags = some (encs e)) (hj : sel H js = LoopP l r :: St s) (hj' : sel H js' = Hr) (hn : (js ++ js').Nodup) (hR : Hass R Hr Rb) (hd : Nat.blt d n = true)
   (k : ∀ s', nxt s e s' → LY X β n ds ops Q rest ((d, .bool true) :: Γ) R (LoopP l r :: (St s' ++ Hr))) : LY X β n ds ops Q (⟨some d, .call ⟨.value x, List.toArray ags, tys⟩, ty, pos, af, none⟩ :: rest) Γ R H := by
 intro a w hf hs
 refine wpListIn_plain rfl fun K hK => ⟨fun f _ => trivial, ?_⟩
 obtain ⟨h0, hback⟩ := frame_sat hj hj' hn hR hs
 obtain ⟨fn, tmps, assign, body, hrun, hround⟩ := hy _ w s e hg h0
 have e1 := evs_eval hf.agree ha
 have hfv := hf.agree x _ hx
 have e2 : (List.toArray ags).map a.eval = List.toArray (encs e) := by apply Array.ext'; simpa using e1
 have hex : (execOp a.eval ⟨some d, .call ⟨.value x, List.toArray ags, tys⟩, ty, pos, af, none⟩).run X.P w = .ok (.round l fn tmps assign body) w := by
   simp only [execOp, resolve, hfv, Deferred.ofValue, invoke, Sem.run_bind, Sem.run_pure, Result.andThen_ok, e2]
   simp [hrun]
 rw [Fence.wide_round, Oper.semAt_none, hex]
 refine ⟨fun hd => by simp [Fence.wide] at hd, hround.mono ?_⟩
 rintro en w' ⟨rfl, s', hn', hs'⟩
 exact hK _ _ (k s' hn' _ _ (hf.put (by simpa [Nat.blt_eq] using hd) _) (hback w' _ _ hs'))
theorem LY.call {d ty : Nat} {pos : String} {af : Array Edge} {f : Nat} {ags : List Operand} {tys : Array TypeId} {args : List Value} {Rf Hf Hr : List Pr} {js js' : List Nat} {Φ : Value → List Pr → List Pr → Prop} (hfn : Ctr X f args Rf Hf Φ)
   (ha : evs Γ ags = some args) (hj : sel H js = Hf) (hj' : sel H js' = Hr) (hn : (js ++ js').Nodup) (hR : Hass R Hr Rf) (hd : Nat.blt d n = true)
   (k : ∀ v R' H', Φ v R' H' → LY X β n ds ops Q rest ((d, v) :: Γ) R (H' ++ Hr)) : LY X β n ds ops Q (⟨some d, .call ⟨.value (.func f), List.toArray ags, tys⟩, ty, pos, af, none⟩ :: rest) Γ R H := by
 intro a w hf hs
 refine wpListIn_plain rfl fun K hK => ⟨fun f _ => trivial, ?_⟩
 rw [Fence.wide_round, Oper.semAt_none, exec_call hfn.1 hf.agree ha _ rfl]
 refine ⟨fun hd => by simp [Fence.wide] at hd, callsIn_wide.2 ((hfn.use hj hj' hn hR hs).mono ?_)⟩
 rintro e w' ⟨v, R', H', hv, rfl, hs'⟩
 exact hK _ _ (k v R' H' hv _ _ (hf.put (by simpa [Nat.blt_eq] using hd) v) hs')
theorem LY.norm {H' : List Pr} (hs : List Nat) (hp : Pk H hs H') (hn : hs.Nodup) (h : LY X β n ds ops Q rest Γ R H') : LY X β n ds ops Q rest Γ R H := fun a w hf hw => h a w hf (hw.pk hp hn)
theorem roundR {l bl : Nat} {r : Loop} {ps : List Nat} {vs : List Value} {ca cb : Code} {Rb Hs : List Pr} {ι : Type} {He : ι → List Pr} {good : ι → Prop} {Γ' : Env} {w : World} (hf : Fr n [] { tmps := (ps.zip vs).foldl (fun tmps (x : Tmp × Value) => tmps.setIfInBounds x.1 x.2) r.tmps, defers := [] } Γ')
   (hps : r.params = List.toArray ps) (hlen : ps.length = vs.length) (hst : r.state = .ready) (hpe : r.pending = none) (ha : r.assign = ca) (hb : r.body = cb) (hpa : plainC ca = true) (hpb : plainC cb = true) (hs : Sat β w Rb (LoopP l r :: Hs))
   (hL : Rn X β n [] (RQ fun a1 w1 => ∃ Γ1 H1, Fr n [] a1 Γ1 ∧ Sat β w1 Rb (LoopP l r :: H1) ∧
     Rn X β n [] (RQ fun _ w2 => ∃ i, good i ∧ Sat β w2 Rb (LoopP l { r with state := .busy } :: He i)) cb Γ1 Rb (LoopP l { r with state := .busy } :: H1)) ca Γ' Rb (LoopP l r :: Hs)) :
   YieldAt Fence.wide 0 X.P l (List.toArray vs) w (fun e w' => e = .returned (.bool true) ∧ ∃ i, good i ∧ Sat β w' Rb (LoopP l r :: He i)) := by
 have _ := bl
 have hrec : w.heap[l]? = some (.loop r) := hs.own 0 _ rfl
 refine ⟨r.fn, _, r.assign, r.body, run_yield hrec (by rw [hps]; simpa using hlen.symm), ?_⟩
 have htm : (r.params.zip (List.toArray vs)).foldl (fun tmps (x : Tmp × Value) => tmps.setIfInBounds x.1 x.2) r.tmps = (ps.zip vs).foldl (fun tmps (x : Tmp × Value) => tmps.setIfInBounds x.1 x.2) r.tmps := by rw [hps]; simp
 rw [htm]
 refine roundIn_of_wpIn trivial ?_
 rw [ha, hb]
 have h1 := hL _ w hf hs
 refine wpIn_of_rwp ca _ (fun ⟨_, _, h⟩ => h) hpa _ _ (rwp_mono ca _ _ (fun e a1 w1 he => ?_) h1)
 obtain ⟨rfl, Γ1, H1, hfr1, hs1, hL2⟩ := he
 have hrec1 : w1.heap[l]? = some (.loop r) := hs1.own 0 _ rfl
 refine ⟨_, run_beginRound hrec1 hst, ?_⟩
 have hs1' := hs1.setLoop (j := 0) (r' := { r with state := .busy }) rfl
 refine wpIn_of_rwp cb _ (fun ⟨_, _, h⟩ => h) hpb _ _ (rwp_mono cb _ _ (fun e a2 w2 he => ?_) (hL2 a1 _ hfr1 hs1'))
 obtain ⟨rfl, i, hgi, hs2⟩ := he
 have hrec2 : w2.heap[l]? = some (.loop { r with state := .busy }) := hs2.own 0 _ rfl
 refine ⟨_, _, run_endRound none hrec2, rfl, ?_⟩
 have hs3 := hs2.setLoop (j := 0) (r' := r) rfl
 have e : ({ ({ r with state := .busy } : Loop) with state := if (none : Option Code).isNone then .ready else .done, pending := none } : Loop) = r := by
   cases r
   simp only at hst hpe
   subst hst hpe
   rfl
 rw [e]
 exact ⟨i, hgi, hs3⟩

/-! ### The end of a function with no such loop behind it, or two -/
theorem QE.retM0 {fn : Func} {Φ : Value → List Pr → List Pr → Prop} {rs : List ResultVar} {vs : List Value} {js hs : List Nat} (hrs : fn.results = List.toArray rs) (hr : Ress X Γ R H rs vs) (hn : hs.Nodup)
   (hΦ : Φ (tup vs) (sel R js) (sel H hs)) : QE β n [] (postM X β fn Φ) .ret Γ R H := by
 intro a w hf hsat
 show LeavesInM _ _ _ _ a.tmps _ a.defers .returning w
 rw [hf.dfs]
 exact ⟨tup vs, run_results hrs hf hsat hr, tup vs, _, _, hΦ, rfl, (hsat.selR js).sel hn⟩
theorem Sat.gone {w : World} {j d : Nat} (h : Sat β w R H) (hj : H[j]? = some (DefP d)) : Sat β (w.putObj d (.deferred none)) R (H.set j (GoneP d)) := by
 have hd : w.heap[d]? = some (.deferred (some [])) := h.own j _ hj
 have hlt : d < w.heap.size := (Array.getElem?_eq_some_iff.1 hd).1
 refine h.upd hj (Stp.putObj w d _) (fun k hk _ => hk) (GoneP d) trivial (fun k hk => ?_)
 have hk' : k = d := hk
 subst hk'
 exact ⟨by simpa using hlt, .inr rfl⟩
theorem QE.retM2 {fn : Func} {Φ : Value → List Pr → List Pr → Prop} {rs : List ResultVar} {vs : List Value} {js hs : List Nat} {d j d' j' : Nat} (hj : H[j]? = some (DefP d)) (hj' : (H.set j (GoneP d))[j']? = some (DefP d')) (hrs : fn.results = List.toArray rs)
   (hr : Ress X Γ R ((H.set j (GoneP d)).set j' (GoneP d')) rs vs) (hn : hs.Nodup) (hΦ : Φ (tup vs) (sel R js) (sel ((H.set j (GoneP d)).set j' (GoneP d')) hs)) :
   QE β n [{ target := .collected d, args := #[] }, { target := .collected d', args := #[] }] (postM X β fn Φ) .ret Γ R H := by
 intro a w hf hsat
 have hd : w.heap[d]? = some (.deferred (some [])) := hsat.own j _ hj
 have h1 := hsat.gone hj
 have hd' := h1.own j' _ hj'
 have h2 := h1.gone hj'
 show LeavesInM _ _ _ _ a.tmps _ a.defers .returning w
 rw [hf.dfs]
 exact ⟨by simp, .inl ⟨d, _, rfl, run_takeDeferred hd, by simp, .inl ⟨d', _, rfl, run_takeDeferred hd', tup vs, run_results hrs hf h2 hr, tup vs, _, _, hΦ, rfl, (h2.selR js).sel hn⟩⟩⟩
end
end Go.Sl
end
/-
  The small separation logic: maps with whole numbers as keys: made, written, looked up.
-/
section
namespace Go.Sl

/-- What a map holds, in the order in which its keys came. -/
def mget (m : List (Int × Value)) (k : Int) : Option Value := match m with
 | [] => none
 | (a, v) :: m => if a = k then some v else mget m k
def mset (m : List (Int × Value)) (k : Int) (v : Value) : List (Int × Value) := match m with
 | [] => [(k, v)]
 | (a, u) :: m => if a = k then (a, v) :: m else (a, u) :: mset m k v
def mapK (kd : IntKind) (m : List (Int × Value)) : List (Value × Value) := m.map fun q => (.int kd q.1, q.2)
/-- The map in block g. -/
def MapP (kd : IntKind) (g : Nat) (m : List (Int × Value)) : Pr where
 fp k := k = g
 p w := ∃ (es : Array MapEntry) (clock : Nat), w.heap[g]? = some (.map es clock) ∧ es.toList.map (fun e => (e.key, e.val)) = mapK kd m
 st := by
   rintro w w' hk ⟨es, c, h, e⟩
   exact ⟨es, c, by rw [hk g rfl]; exact h, e⟩

theorem mfind {kd : IntKind} (k : Int) : ∀ (es : List MapEntry) (m : List (Int × Value)) (i : Nat), es.map (fun e => (e.key, e.val)) = mapK kd m →
   (mget m k = none ∧ Instr.findNow (.int kd) (.int kd k) es i = some none) ∨
   (∃ j e v, mget m k = some v ∧ Instr.findNow (.int kd) (.int kd k) es i = some (some (i + j, v)) ∧ es[j]? = some e ∧ e.key = .int kd k)
 | [], m, i, h => by
   have : m = [] := by simpa [mapK] using h.symm
   subst this
   exact .inl ⟨rfl, rfl⟩
 | e :: es, [], i, h => by simp [mapK] at h
 | e :: es, (a, u) :: m, i, h => by
   simp only [mapK, List.map_cons, List.cons.injEq, Prod.mk.injEq] at h
   obtain ⟨⟨h1, h2⟩, h3⟩ := h
   by_cases ha : a = k
   · subst ha
     refine .inr ⟨0, e, u, by simp [mget], ?_, rfl, h1⟩
     simp [Instr.findNow, h1, Instr.sameNow, h2]
   · have hs : Instr.sameNow (.int kd) (.int kd k) e.key = some false := by
       rw [h1]
       simp [Instr.sameNow]
       exact fun q => ha q.symm
     rcases mfind k es m (i + 1) h3 with ⟨g1, g2⟩ | ⟨j, e', v, g1, g2, g3, g4⟩
     · exact .inl ⟨by simp [mget, ha, g1], by simp [Instr.findNow, hs, g2]⟩
     · exact .inr ⟨j + 1, e', v, by simp [mget, ha, g1], by simp [Instr.findNow, hs, g2]; omega, by simpa using g3, g4⟩

theorem mset_new {m : List (Int × Value)} {k : Int} {v : Value} (h : mget m k = none) : mset m k v = m ++ [(k, v)] := by
 induction m with
 | nil => rfl
 | cons p m ih =>
   obtain ⟨a, u⟩ := p
   by_cases ha : a = k
   · simp [mget, ha] at h
   · simp only [mget, if_neg ha] at h
     simp [mset, if_neg ha, ih h]

theorem mset_at {kd : IntKind} {k : Int} {v : Value} : ∀ (es : List MapEntry) (m : List (Int × Value)) (i j : Nat) (u : Value), es.map (fun e => (e.key, e.val)) = mapK kd m →
   Instr.findNow (.int kd) (.int kd k) es i = some (some (i + j, u)) → (es.modify j fun e => { e with key := .int kd k, val := v }).map (fun e => (e.key, e.val)) = mapK kd (mset m k v)
 | [], m, i, j, u, _, hf => by simp [Instr.findNow] at hf
 | e :: es, [], i, j, u, h, _ => by simp [mapK] at h
 | e :: es, (a, x) :: m, i, j, u, h, hf => by
   simp only [mapK, List.map_cons, List.cons.injEq, Prod.mk.injEq] at h
   obtain ⟨⟨h1, h2⟩, h3⟩ := h
   by_cases ha : a = k
   · subst ha
     simp [Instr.findNow, h1, Instr.sameNow] at hf
     have : j = 0 := by omega
     subst this
     simp [mset, mapK, h3]
   · have hs : Instr.sameNow (.int kd) (.int kd k) e.key = some false := by
       rw [h1]
       simp [Instr.sameNow]
       exact fun q => ha q.symm
     simp only [Instr.findNow, hs] at hf
     cases j with
     | zero =>
       exfalso
       rcases mfind k es m (i + 1) h3 with ⟨g1, g2⟩ | ⟨j', e', v', g1, g2, g3, g4⟩
       · rw [g2] at hf; cases hf
       · rw [g2] at hf
         simp at hf
         omega
     | succ j =>
       have ih := mset_at es m (i + 1) j u h3 (v := v) (by rw [hf]; congr 3; omega)
       simp only [List.modify_succ_cons, List.map_cons, mset, if_neg ha, mapK, List.cons.injEq]
       exact ⟨by rw [h1, h2], ih⟩

section
variable {X : Cx} {β : Base} {n : Nat} {ds : List Deferred} {ops : Array Oper} {Q : Exit → Act → World → Prop} {rest : List Oper} {Γ : Env} {R H : List Pr}

theorem L.makeMap {d t ty : Nat} {pos : String} {af : Array Edge} (kd : IntKind) (hd : Nat.blt d n = true)
   (k : ∀ g, L X β n ds ops Q rest ((d, .map (some g)) :: Γ) R (H ++ [MapP kd g []])) : L X β n ds ops Q (⟨some d, .makeMap t none, ty, pos, af, none⟩ :: rest) Γ R H := by
 intro a w hf hs
 refine wpList_plain rfl fun K hK => ?_
 unfold Oper.wp
 have he : (execOp a.eval (⟨some d, .makeMap t none, ty, pos, af, none⟩ : Oper)).run X.P w = .ok (.value (.map (some w.heap.size))) (w.alloc (.map #[] 0)) := rfl
 rw [he]
 refine hK _ _ (k w.heap.size _ _ (hf.put (by simpa [Nat.blt_eq] using hd) _) ?_)
 refine hs.snoc (Stp.alloc w _ fun _ => False) (fun _ h _ => h) _ ⟨#[], 0, (MapKept.heap_alloc w _).1, rfl⟩ ?_
 intro k hk
 have hk' : k = w.heap.size := hk
 subst hk'
 exact ⟨by simp, Nat.le_refl _⟩

def HasMap (R H : List Pr) (kd : IntKind) (g : Nat) (m : List (Int × Value)) : Prop := ∀ β w, Sat β w R H → (MapP kd g m).p w
theorem HasMap.r (j : Nat) {kd : IntKind} {g : Nat} {m : List (Int × Value)} (h : R[j]? = some (MapP kd g m)) : HasMap R H kd g m := fun _ _ hs => hs.rd _ (List.mem_of_getElem? h)
theorem HasMap.o (j : Nat) {kd : IntKind} {g : Nat} {m : List (Int × Value)} (h : H[j]? = some (MapP kd g m)) : HasMap R H kd g m := fun _ _ hs => hs.own j _ h

theorem Ev.lookup {t kt et g : Nat} {x y : Operand} {c : Bool} {kd : IntKind} {q : Int} {m : List (Int × Value)} {i ki ei : Ti} (ht : tlook t X.tab = some i) (hdesc : i.desc = .map kt et) (hk : tlook kt X.tab = some ki) (hkd : ki.desc = .int kd) (he : tlook et X.tab = some ei)
   (hx : ev Γ x = some (.map (some g))) (hy : ev Γ y = some (.int kd q)) (hm : HasMap R H kd g m) :
   Ev X β Γ R H (.lookup t x y c) (if c = true then .tuple #[(mget m q).getD ei.zero, .bool (mget m q).isSome] else (mget m q).getD ei.zero) := by
 intro ρ w hρ hs o ho
 obtain ⟨e1, _⟩ := X.ok _ _ ht
 rw [hdesc] at e1
 obtain ⟨e2, _⟩ := X.ok _ _ hk
 rw [hkd] at e2
 obtain ⟨_, j, hj, _, _, h3⟩ := X.ok _ _ he
 have hz : (zeroValue et).run X.P w = .ok ei.zero w := by simp [zeroValue, typeInfo, hj, h3]
 obtain ⟨es, clock, hh, hes⟩ := hm β w hs
 have hck := MapKept.run_checkKey (P := X.P) (w := w) (k := .int kd q) e2 rfl es.isEmpty 9999
 rcases mfind q es.toList m 0 hes with ⟨g1, g2⟩ | ⟨j, e, v, g1, g2, _, _⟩
 · cases c <;> simp [execOp, ho, hρ _ _ hx, hρ _ _ hy, Instr.lookup, run_underlying e1, MapKept.run_getObj_map hh, hck, MapKept.run_findKey e2 g2, hz, g1, Result.andThen]
 · cases c <;> simp [execOp, ho, hρ _ _ hx, hρ _ _ hy, Instr.lookup, run_underlying e1, MapKept.run_getObj_map hh, hck, MapKept.run_findKey e2 g2, g1, Result.andThen]

/-- A map that is only read from now on. -/
theorem Sat.freezeAny {w : World} (h : Sat β w R H) {j : Nat} {c : Pr} (hj : H[j]? = some c) {js : List Nat} (hn : js.Nodup) (hjj : js.contains j = false) : Sat β w (c :: R) (Sl.sel H js) := by
 have hjn : j ∉ js := by simpa using hjj
 have hh := h.sel hn
 refine ⟨hh.ext, ?_, ?_, hh.own, hh.ofp, hh.dis, ?_⟩
 · intro r hr
   rcases List.mem_cons.1 hr with rfl | hr
   · exact h.own j _ hj
   · exact h.rd r hr
 · intro r hr k hk
   rcases List.mem_cons.1 hr with rfl | hr
   · have := h.ofp j _ hj k hk
     exact ⟨this.1, by rcases this.2 with x | x; exact .inl x; exact .inr (.inl x)⟩
   · exact h.rfp r hr k hk
 · intro r hr i d hd k hk hk'
   rcases List.mem_cons.1 hr with rfl | hr
   · obtain ⟨q, hq, hq2⟩ := sel_mem (List.mem_of_getElem? hd)
     exact h.dis j q _ _ hj hq2 (fun e => hjn (e ▸ hq)) k hk hk'
   · exact hh.sep r hr i d hd k hk hk'
theorem L.freezeAny (j : Nat) {c : Pr} (hj : H[j]? = some c) (js : List Nat) (hn : js.Nodup) (hjj : js.contains j = false) (h : L X β n ds ops Q rest Γ (c :: R) (sel H js)) : L X β n ds ops Q rest Γ R H := fun a w hf hs => h a w hf (hs.freezeAny hj hn hjj)
theorem C.freezeAny {x : Code} (j : Nat) {c : Pr} (hj : H[j]? = some c) (js : List Nat) (hn : js.Nodup) (hjj : js.contains j = false) (h : C X β n ds Q x Γ (c :: R) (sel H js)) : C X β n ds Q x Γ R H := fun a w hf hs => h a w hf (hs.freezeAny hj hn hjj)
theorem QE.freezeAny {x : Exit} (j : Nat) {c : Pr} (hj : H[j]? = some c) (js : List Nat) (hn : js.Nodup) (hjj : js.contains j = false) (h : QE β n ds Q x Γ (c :: R) (sel H js)) : QE β n ds Q x Γ R H := fun a w hf hs => h a w hf (hs.freezeAny hj hn hjj)
end
end Go.Sl
end
