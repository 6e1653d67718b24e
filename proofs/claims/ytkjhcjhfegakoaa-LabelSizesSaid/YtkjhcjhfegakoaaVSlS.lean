/-
  The small separation logic: the rounds of a range over a function, whatever straight code they hold; several such loops in one function.
-/
import Derived.OrdersIn
import Derived.Test.YtkjhcjhfegakoaaVSlR
import Derived.Test.YtkjhcjhfegakoaaVSlI
import Derived.Test.YtkjhcjhfegakoaaVSlL
section
namespace Go.Sl

/-! ### Code by its form -/
def rwp (P : Program) : Code → (Exit → Act → World → Prop) → Act → World → Prop
 | .region _ ops false, Q, a, w => wpList P ops Q ops.toList a w
 | .region _ ops true, Q, a, w => ∀ t, wpOps P ops Q (Region.schedule (P.follows .mixedOrders) ops t) a w.drew
 | .seq x y, Q, a, w => rwp P x (Exit.then (rwp P y Q) Q) a w
 | .block id c, Q, a, w => rwp P c (Exit.inBlock id Q) a w
 | .cond c x y, Q, a, w => ∃ t, a.eval c = .bool t ∧ (if t = true then rwp P x Q a w else rwp P y Q a w)
 | .loop c, Q, a, w => ∃ (I : Act → World → Prop) (μ : Act → World → Nat), I a w ∧ ∀ a1 w1, I a1 w1 → rwp P c (Exit.then (fun a2 w2 => I a2 w2 ∧ μ a2 w2 < μ a1 w1) Q) a1 w1
 | .skip, Q, a, w => Q .normal a w
 | .exit id, Q, a, w => Q (.exit id) a w
 | _, _, _, _ => False
def noDef (o : Oper) : Bool := match o.op with | .defer _ => false | _ => true
/-- No call is deferred. -/
def plainC : Code → Bool
 | .region _ ops _ => ops.toList.all noDef
 | .seq x y => plainC x && plainC y
 | .block _ c => plainC c
 | .cond _ x y => plainC x && plainC y
 | .loop c => plainC c
 | .skip => true
 | .exit _ => true
 | _ => false

section
variable {P : Program} {m l : Nat} {ops : Array Oper} {Q : Exit → Act → World → Prop}
theorem uponIn_of {o : Oper} {a : Act} {res : Result Next} {K K' : Act → World → Prop} (hQ : ¬LetsOut Q) (hK : ∀ a w, K a w → K' a w) (h : o.upon P a K Q res) : o.uponIn (Fence.wide.inRound l) m P a K' Q res := by
 cases res with
 | ok nx w' =>
   cases nx with
   | value v => exact hK _ _ h
   | skip => exact hK _ _ h
   | defer d => exact hK _ _ h
   | enter f args =>
     refine ⟨fun hd => by simp [Fence.wide] at hd, callsIn_inRound.2 (callsIn_wide.2 (Calls.mono h fun e w'' he => ?_))⟩
     cases e with
     | returned v => exact hK _ _ he
     | panicked ch => exact he
     | outgrown => exact (hQ he).elim
   | row r args =>
     simp only [Oper.upon] at h
     refine ⟨fun hd => by simp [Fence.wide] at hd, ?_⟩
     intro c cs hroom
     obtain ⟨v, w'', hv, hs⟩ := h c cs
     exact ⟨v, w'', hK _ _ hv, stepsIn_wide.2 hs⟩
   | _ => exact h.elim
 | halt x w' => cases x <;> first | exact h | exact h.elim
theorem wpIn_op {o : Oper} {a : Act} {w : World} {K K' : Act → World → Prop} (hQ : ¬LetsOut Q) (hp : noDef o = true) (hK : ∀ a w, K a w → K' a w) (h : o.wp P a w K Q) : o.wpIn (Fence.wide.inRound l) m P a w K' Q := by
 refine ⟨fun f _ => trivial, ?_⟩
 have hse : o.semAt (Fence.wide.inRound l).round a.eval = execOp a.eval o := Oper.semAt_some l _ _ (fun c hc => by unfold noDef at hp; rw [hc] at hp; cases hp)
 rw [hse]
 exact uponIn_of hQ hK h
theorem wpListIn_of2 (hQ : ¬LetsOut Q) : ∀ (ls : List Oper), ls.all noDef = true → ∀ (a : Act) (w : World), wpList P ops Q ls a w → wpListIn (Fence.wide.inRound l) m P ops Q ls a w
 | [], _, _, _, h => h
 | o :: ls, hp, a, w, h => by
   simp only [List.all_cons, Bool.and_eq_true] at hp
   have ih := wpListIn_of2 hQ ls hp.2
   simp only [wpList] at h
   simp only [wpListIn]
   split
   · rename_i hw
     simp only [hw, if_true] at h
     rcases h with h1 | ⟨_, h1⟩
     · exact wpIn_op hQ hp.1 ih h1
     · exact (hQ h1).elim
   · rename_i hw
     simp only [hw] at h
     exact ⟨fun f _ => trivial, ih _ _ h⟩
theorem wpOpsIn_of (hQ : ¬LetsOut Q) (hp : ops.toList.all noDef = true) : ∀ (is : List Nat) (a : Act) (w : World), wpOps P ops Q is a w → wpOpsIn (Fence.wide.inRound l) m P ops Q is a w
 | [], _, _, h => h
 | i :: is, a, w, h => by
   have ih := wpOpsIn_of hQ hp is
   simp only [wpOps] at h
   simp only [wpOpsIn]
   cases ho : ops[i]? with
   | none =>
     simp only [ho] at h ⊢
     exact ih _ _ h
   | some o =>
     simp only [ho] at h ⊢
     have hpo : noDef o = true := List.all_eq_true.1 hp o (by
       have := Array.mem_of_getElem? ho
       simpa using this)
     split
     · rename_i hw
       simp only [hw, if_true] at h
       rcases h with h1 | ⟨_, h1⟩
       · exact wpIn_op hQ hpo ih h1
       · exact (hQ h1).elim
     · rename_i hw
       simp only [hw] at h
       exact ⟨fun f _ => trivial, ih _ _ h⟩
theorem wpIn_of_rwp : ∀ (c : Code) (Q : Exit → Act → World → Prop), ¬LetsOut Q → plainC c = true → ∀ (a : Act) (w : World), rwp P c Q a w → c.wpIn (Fence.wide.inRound l) m P Q a w
 | .region id ops false, Q, hQ, hp, a, w, h => wpIn_region_list (wpListIn_of2 hQ _ hp _ _ h)
 | .region id ops true, Q, hQ, hp, a, w, h => wpIn_region_draw fun t => wpOpsIn_of hQ hp _ _ _ (h t)
 | .seq x y, Q, hQ, hp, a, w, h => by
   simp only [plainC, Bool.and_eq_true] at hp
   refine wpIn_seq (wpIn_mono (wpIn_of_rwp x (Exit.then (rwp P y Q) Q) (fun ⟨a, w, h⟩ => hQ ⟨a, w, h⟩) hp.1 a w h) fun e a w he => ?_)
   cases e with
   | normal => exact wpIn_of_rwp y _ hQ hp.2 _ _ he
   | _ => exact he
 | .block id c, Q, hQ, hp, a, w, h => wpIn_block (wpIn_of_rwp c (Exit.inBlock id Q) (fun ⟨a, w, h⟩ => hQ ⟨a, w, h⟩) hp a w h)
 | .cond c x y, Q, hQ, hp, a, w, h => by
   simp only [plainC, Bool.and_eq_true] at hp
   obtain ⟨t, ht, h⟩ := h
   refine wpIn_cond ht ?_
   cases t with
   | true => exact wpIn_of_rwp x _ hQ hp.1 _ _ h
   | false => exact wpIn_of_rwp y _ hQ hp.2 _ _ h
 | .loop c, Q, hQ, hp, a, w, h => by
   obtain ⟨I, μ, h0, hr⟩ := h
   exact wpIn_loop I μ h0 fun a1 w1 h1 => wpIn_of_rwp c (Exit.then (fun a2 w2 => I a2 w2 ∧ μ a2 w2 < μ a1 w1) Q) (fun ⟨a, w, h⟩ => hQ ⟨a, w, h⟩) hp _ _ (hr a1 w1 h1)
 | .skip, Q, _, _, a, w, h => wpIn_skip h
 | .exit id, Q, _, _, a, w, h => wpIn_exit h
theorem rwp_mono : ∀ (c : Code) {Q Q' : Exit → Act → World → Prop} (a : Act) (w : World), (∀ e a w, Q e a w → Q' e a w) → rwp P c Q a w → rwp P c Q' a w
 | .region id ops false, Q, Q', a, w, hq, h => wpList_mono2 hq _ _ _ h
 | .region id ops true, Q, Q', a, w, hq, h => fun t => wpOps_mono2 hq _ _ _ (h t)
 | .seq x y, Q, Q', a, w, hq, h => rwp_mono x a w (fun e a w he => by
     cases e with
     | normal => exact rwp_mono y a w hq he
     | _ => exact hq _ _ _ he) h
 | .block id c, Q, Q', a, w, hq, h => rwp_mono c a w (fun e a w he => by
     cases e with
     | exit j =>
       simp only [Exit.inBlock] at he ⊢
       split
       · rename_i e
         rw [if_pos e] at he
         exact hq _ _ _ he
       · rename_i e
         rw [if_neg e] at he
         exact hq _ _ _ he
     | _ => exact hq _ _ _ he) h
 | .cond c x y, Q, Q', a, w, hq, ⟨t, ht, h⟩ => ⟨t, ht, by
     cases t with
     | true => exact rwp_mono x a w hq h
     | false => exact rwp_mono y a w hq h⟩
 | .loop c, Q, Q', a, w, hq, ⟨I, μ, h0, hr⟩ => ⟨I, μ, h0, fun a1 w1 h1 => rwp_mono c a1 w1 (fun e a w he => by
     cases e with
     | normal => exact he
     | _ => exact hq _ _ _ he) (hr a1 w1 h1)⟩
 | .skip, _, _, _, _, hq, h => hq _ _ _ h
 | .exit id, _, _, _, _, hq, h => hq _ _ _ h
where
 wpUpon {o : Oper} {a : Act} {w : World} {K K' : Act → World → Prop} {Q Q' : Exit → Act → World → Prop} (hq : ∀ e a w, Q e a w → Q' e a w) (hK : ∀ a w, K a w → K' a w) (h : o.wp P a w K Q) : o.wp P a w K' Q' := by
   unfold Oper.wp at h ⊢
   generalize (execOp a.eval o).run P w = res at h ⊢
   cases res with
   | ok nx w' =>
     cases nx with
     | value v => exact hK _ _ h
     | skip => exact hK _ _ h
     | defer d => exact hK _ _ h
     | enter f args =>
       refine Calls.mono h fun e w'' he => ?_
       cases e with
       | returned v => exact hK _ _ he
       | panicked ch => exact hq _ _ _ he
       | outgrown => obtain ⟨a0, w0, h0⟩ := he; exact ⟨a0, w0, hq _ _ _ h0⟩
     | row r args =>
       simp only [Oper.upon] at h ⊢
       intro c cs
       obtain ⟨v, w'', hv, hs⟩ := h c cs
       exact ⟨v, w'', hK _ _ hv, hs⟩
     | _ => exact h.elim
   | halt x w' => cases x <;> first | exact hq _ _ _ h | exact h.elim
 wpList_mono2 {ops : Array Oper} {Q Q' : Exit → Act → World → Prop} (hq : ∀ e a w, Q e a w → Q' e a w) : ∀ (ls : List Oper) (a : Act) (w : World), wpList P ops Q ls a w → wpList P ops Q' ls a w
   | [], _, _, h => hq _ _ _ h
   | o :: ls, a, w, h => by
     have ih := wpList_mono2 (ops := ops) hq ls
     simp only [wpList] at h ⊢
     split
     · rename_i hw
       simp only [hw, if_true] at h
       exact h.imp (wpUpon hq ih) (fun ⟨g, a0, w0, h0⟩ => ⟨g, a0, w0, hq _ _ _ h0⟩)
     · rename_i hw
       simp only [hw] at h
       exact ih _ _ h
 wpOps_mono2 {ops : Array Oper} {Q Q' : Exit → Act → World → Prop} (hq : ∀ e a w, Q e a w → Q' e a w) : ∀ (is : List Nat) (a : Act) (w : World), wpOps P ops Q is a w → wpOps P ops Q' is a w
   | [], _, _, h => hq _ _ _ h
   | i :: is, a, w, h => by
     have ih := wpOps_mono2 (ops := ops) hq is
     simp only [wpOps] at h ⊢
     cases ho : ops[i]? with
     | none =>
       simp only [ho] at h ⊢
       exact ih _ _ h
     | some o =>
       simp only [ho] at h ⊢
       split
       · rename_i hw
         simp only [hw, if_true] at h
         exact h.imp (wpUpon hq ih) (fun ⟨g, a0, w0, h0⟩ => ⟨g, a0, w0, hq _ _ _ h0⟩)
       · rename_i hw
         simp only [hw] at h
         exact ih _ _ h
end

/-! ### The rules once more, in a round -/
def Rn (X : Cx) (β : Base) (n : Nat) (ds : List Deferred) (Q : Exit → Act → World → Prop) (c : Code) (Γ : Env) (R H : List Pr) : Prop := ∀ a w, Fr n ds a Γ → Sat β w R H → rwp X.P c Q a w

section
variable {X : Cx} {β : Base} {n : Nat} {ds : List Deferred} {ops : Array Oper} {Q : Exit → Act → World → Prop} {rest : List Oper} {Γ : Env} {R H : List Pr}
theorem Rn.seq {x y : Code} (h : Rn X β n ds (Exit.then (rwp X.P y Q) Q) x Γ R H) : Rn X β n ds Q (.seq x y) Γ R H := fun a w hf hs => h a w hf hs
theorem QE.seqR {y : Code} (h : Rn X β n ds Q y Γ R H) : QE β n ds (Exit.then (rwp X.P y Q) Q) .normal Γ R H := fun a w hf hs => h a w hf hs
theorem Rn.skip (h : QE β n ds Q .normal Γ R H) : Rn X β n ds Q .skip Γ R H := fun a w hf hs => h a w hf hs
theorem Rn.exit {id : Nat} (h : QE β n ds Q (.exit id) Γ R H) : Rn X β n ds Q (.exit id) Γ R H := fun a w hf hs => h a w hf hs
theorem Rn.block {id : Nat} {c : Code} (h : Rn X β n ds (Exit.inBlock id Q) c Γ R H) : Rn X β n ds Q (.block id c) Γ R H := fun a w hf hs => h a w hf hs
theorem Rn.cond {c : Operand} {x y : Code} {b : Bool} (hc : ev Γ c = some (.bool b)) (ht : b = true → Rn X β n ds Q x Γ R H) (he : b = false → Rn X β n ds Q y Γ R H) : Rn X β n ds Q (.cond c x y) Γ R H := by
 intro a w hf hs
 refine ⟨b, hf.eval hc, ?_⟩
 cases b with
 | true => exact ht rfl a w hf hs
 | false => exact he rfl a w hf hs
theorem Rn.condB (s : Nat) {x y : Code} {b : Bool} (hc : look s Γ = some (.bool b)) (ht : b = true → Rn X β n ds Q x ((s, .bool true) :: Γ) R H) (he : b = false → Rn X β n ds Q y ((s, .bool false) :: Γ) R H) : Rn X β n ds Q (.cond (.tmp s) x y) Γ R H := by
 have h1 : ∀ (a : Act) (c : Bool), b = c → Fr n ds a Γ → Fr n ds a ((s, .bool c) :: Γ) := by
   rintro a c rfl hf
   refine ⟨hf.size, hf.dfs, fun t u hu => ?_⟩
   simp only [look] at hu
   cases hbq : Nat.beq t s with
   | true =>
     rw [hbq] at hu
     obtain rfl := Nat.eq_of_beq_eq_true hbq
     simp only [cond_true, Option.some.injEq] at hu
     subst hu
     exact hf.vals t _ hc
   | false =>
     rw [hbq] at hu
     exact hf.vals t u hu
 exact Rn.cond hc (fun e a w hf hs => ht e a w (h1 a true e hf) hs) (fun e a w hf hs => he e a w (h1 a false e hf) hs)
theorem Rn.region {id : Nat} {l : List Oper} (h : L X β n ds (List.toArray l) Q l Γ R H) : Rn X β n ds Q (.region id (List.toArray l) false) Γ R H := fun a w hf hs => h a w hf hs
theorem Rn.regionM {id : Nat} {l : List Oper} (Rc : List Pr) (_hc : Hass R H Rc) (h : LM X β n ds (List.toArray l) Rc Q l.length (Array.replicate l.length false) Γ R H) : Rn X β n ds Q (.region id (List.toArray l) true) Γ R H := by
 intro a w hf hs t
 simp only [Region.schedule, X.mixed, Bool.true_or, if_true]
 refine wpAny_sound _ t _ a _ (wpAny_of_C (Cl := fun w => Sat β w Rc []) (Qn := fun a w => Q .normal a w) (fun _ _ h => h) _ _ _ _ ?_)
 have := h a w.drew (by simp) hf (hs.same (Stp.drew w _))
 simpa using this
theorem Rn.regionQ {id : Nat} {l : List Oper} (hB : Region.lexB .any (List.toArray l) = true) (h : LQ X β n ds (List.toArray l) Q R H l Γ) : Rn X β n ds Q (.region id (List.toArray l) true) Γ R H := by
 intro a w hf hs t
 simp only [Region.schedule, X.mixed, Bool.true_or, if_true]
 refine wpAny_sound _ t _ a _ ?_
 simp only [Region.lexB, Bool.and_eq_true] at hB
 refine wpAny_of_quiet (C := fun w' => Sat β w' R H) (Q := fun a' => ∀ w', Sat β w' R H → Q .normal a' w') (fun _ w' hw' h => h w' hw') _ _ _ _ (hs.same (Stp.drew w _)) ?_
 have := wpAnyQ_lex (C := fun w' => Sat β w' R H) (md := .any) hB.1 l 0 (Array.replicate l.length false) a (by simp) (by simpa using hB.2) (h a hf)
 simpa using this
theorem Rn.le {c : Code} {Γ' : Env} {R' H' : List Pr} (hl : Le β Γ R H Γ' R' H') (h : Rn X β n ds Q c Γ' R' H') : Rn X β n ds Q c Γ R H := fun a w hf hs => h a w (hf.le hl.env) (hl.sat w hs)
theorem Rn.norm {c : Code} {H' : List Pr} (hs : List Nat) (hp : Pk H hs H') (hn : hs.Nodup) (h : Rn X β n ds Q c Γ R H') : Rn X β n ds Q c Γ R H := fun a w hf hw => h a w hf (hw.pk hp hn)
theorem Rn.freeze {x : Code} (j : Nat) {e sz m c : Nat} {A : Option Addr} {xs : List Value} (hj : H[j]? = some (Own e sz A m c xs)) (js : List Nat) (hn : js.Nodup) (hjj : js.contains j = false) (h : Rn X β n ds Q x Γ (Rd A xs :: R) (sel H js)) : Rn X β n ds Q x Γ R H :=
 fun a w hf hs => h a w hf (hs.freeze hj hn hjj)
theorem Rn.more {x : Code} {r : Pr} (hr : Has R [] r) (h : Rn X β n ds Q x Γ (r :: R) H) : Rn X β n ds Q x Γ R H := fun a w hf hs => h a w hf (hs.more hr)
theorem Rn.seqJ {x y : Code} {ι : Type} (G : ι → Env) (Rs Hs : ι → List Pr) (pre : ι → Prop) (h : Rn X β n ds (Exit.then (fun a w => ∃ j, pre j ∧ Fr n ds a (G j) ∧ Sat β w (Rs j) (Hs j)) Q) x Γ R H) (h2 : ∀ j, pre j → Rn X β n ds Q y (G j) (Rs j) (Hs j)) :
   Rn X β n ds Q (.seq x y) Γ R H := by
 intro a w hf hs
 refine rwp_mono x a w (fun e a' w' he => ?_) (h a w hf hs)
 cases e with
 | normal =>
   obtain ⟨j, hp, hfj, hsj⟩ := he
   exact h2 j hp a' w' hfj hsj
 | _ => exact he
theorem Rn.join {c : Code} {ι : Type} (G : ι → Env) (Rs Hs : ι → List Pr) (pre : ι → Prop) (h : Rn X β n ds (fun e a w => (e = .normal ∧ ∃ j, pre j ∧ Fr n ds a (G j) ∧ Sat β w (Rs j) (Hs j)) ∨ (e ≠ .normal ∧ Q e a w)) c Γ R H) (h2 : ∀ j, pre j → QE β n ds Q .normal (G j) (Rs j) (Hs j)) :
   Rn X β n ds Q c Γ R H := by
 intro a w hf hs
 refine rwp_mono c a w (fun e a' w' he => ?_) (h a w hf hs)
 rcases he with ⟨rfl, j, hp, hfj, hsj⟩ | ⟨_, he⟩
 · exact h2 j hp a' w' hfj hsj
 · exact he
theorem Rn.loop {c : Code} {ι : Type} (G : ι → Env) (Rs Hs : ι → List Pr) (pre : ι → Prop) (μ : ι → Nat) (i0 : ι) (h0 : pre i0) (hle : Le β Γ R H (G i0) (Rs i0) (Hs i0))
   (round : ∀ i, pre i → Rn X β n ds (Exit.then (fun a w => ∃ j, pre j ∧ μ j < μ i ∧ Fr n ds a (G j) ∧ Sat β w (Rs j) (Hs j)) Q) c (G i) (Rs i) (Hs i)) : Rn X β n ds Q (.loop c) Γ R H := by
 intro a w hf hs
 have key : ∀ (a : Act) (w : World), ∃ k : Nat, ∀ m, (∃ i, μ i = m ∧ pre i ∧ Fr n ds a (G i) ∧ Sat β w (Rs i) (Hs i)) → k ≤ m := fun a w => ⟨0, fun _ _ => Nat.zero_le _⟩
 clear key
 classical
 let S : Act → World → Nat → Prop := fun a w m => ∃ i, μ i = m ∧ pre i ∧ Fr n ds a (G i) ∧ Sat β w (Rs i) (Hs i)
 have least : ∀ a w, (∃ m, S a w m) → ∃ m, S a w m ∧ ∀ k, S a w k → m ≤ k := by
   intro a w ⟨m, hm⟩
   induction m using Nat.strongRecOn with
   | _ m ih =>
     by_cases hx : ∃ k, k < m ∧ S a w k
     · obtain ⟨k, hk, hsk⟩ := hx
       exact ih k hk hsk
     · exact ⟨m, hm, fun k hk => Nat.le_of_not_lt fun hlt => hx ⟨k, hlt, hk⟩⟩
 let ν : Act → World → Nat := fun a w => if h : ∃ m, S a w m then Classical.choose (least a w h) else 0
 have hν : ∀ a w, (∃ m, S a w m) → S a w (ν a w) ∧ ∀ k, S a w k → ν a w ≤ k := by
   intro a w h
   have e : ν a w = Classical.choose (least a w h) := dif_pos h
   rw [e]
   exact Classical.choose_spec (least a w h)
 refine ⟨fun a w => ∃ m, S a w m, ν, ⟨_, i0, rfl, h0, hf.le hle.env, hle.sat w hs⟩, fun a1 w1 h1 => ?_⟩
 obtain ⟨⟨i, hm, hp, hfi, hsi⟩, _⟩ := hν a1 w1 h1
 refine rwp_mono c a1 w1 (fun e a2 w2 he => ?_) (round i hp a1 w1 hfi hsi)
 cases e with
 | normal =>
   obtain ⟨j, hpj, hlt, hfj, hsj⟩ := he
   have hx : S a2 w2 (μ j) := ⟨j, rfl, hpj, hfj, hsj⟩
   exact ⟨⟨_, hx⟩, Nat.lt_of_le_of_lt ((hν a2 w2 ⟨_, hx⟩).2 _ hx) (hm ▸ hlt)⟩
 | _ => exact he

/-! ### One round, with read facts, of several values -/
def YieldR (X : Cx) (l : Nat) (r : Loop) {σ α : Type} (encs : α → List Value) (Rb : List Pr) (St : σ → List Pr) (nxt : σ → α → σ → Prop) (good : σ → α → Prop) : Prop :=
 ∀ (β : Base) (w : World) (s : σ) (x : α), good s x → Sat β w Rb (LoopP l r :: St s) → YieldAt Fence.wide 0 X.P l (List.toArray (encs x)) w (fun e w' => e = .returned (.bool true) ∧ ∃ s', nxt s x s' ∧ Sat β w' Rb (LoopP l r :: St s'))
theorem YieldR.gen {l : Nat} {r0 : Loop} {σ α : Type} {encs : α → List Value} {Rb : List Pr} {St : σ → List Pr} {nxt : σ → α → σ → Prop} {good : σ → α → Prop} (h : ∀ r, r = r0 → YieldR X l r encs Rb St nxt good) : YieldR X l r0 encs Rb St nxt good := h r0 rfl
theorem LY.yieldR {d ty l : Nat} {r : Loop} {pos : String} {af : Array Edge} {x : Operand} {ags : List Operand} {tys : Array TypeId} {σ α : Type} {encs : α → List Value} {Rb : List Pr} {St : σ → List Pr} {nxt : σ → α → σ → Prop} {good : σ → α → Prop} {Hr : List Pr} {js js' : List Nat}
   (hy : YieldR X l r encs Rb St nxt good) (s : σ) (e : α) (hg : good s e) (hx : ev Γ x = some (.func (.yield l) #[] #[])) (ha : evs Γ ags = some (encs e)) (hj : sel H js = LoopP l r :: St s) (hj' : sel H js' = Hr) (hn : (js ++ js').Nodup) (hR : Hass R Hr Rb) (hd : Nat.blt d n = true)
   (k : ∀ s', nxt s e s' → LY X β n ds ops Q rest ((d, .bool true) :: Γ) R (LoopP l r :: (St s' ++ Hr))) : LY X β n ds ops Q (⟨some d, .call ⟨.value x, List.toArray ags, tys⟩, ty, pos, af, none⟩ :: rest) Γ R H := by
 intro a w hf hs
 refine wpListIn_plain rfl fun K hK => ⟨fun f _ => trivial, ?_⟩
 obtain ⟨h0, hback⟩ := frame_sat hj hj' hn hR hs
 obtain ⟨fn, tmps, assign, body, hrun, hround⟩ := hy _ w s e hg h0
 have e1 := evs_eval hf.agree ha
 have hfv := hf.agree x _ hx
 have e2 : (List.toArray ags).map a.eval = List.toArray (encs e) := by apply Array.ext'; simpa using e1
 have hex : (execOp a.eval ⟨some d, .call ⟨.value x, List.toArray ags, tys⟩, ty, pos, af, none⟩).run X.P w = .ok (.round l fn tmps assign body) w := by
   simp only [execOp, resolve, hfv, Deferred.ofValue, invoke, Sem.run_bind, Sem.run_pure, Result.andThen_ok, e2]
   simp [hrun]
 rw [Fence.wide_round, Oper.semAt_none, hex]
 refine ⟨fun hd => by simp [Fence.wide] at hd, hround.mono ?_⟩
 rintro en w' ⟨rfl, s', hn', hs'⟩
 exact hK _ _ (k s' hn' _ _ (hf.put (by simpa [Nat.blt_eq] using hd) _) (hback w' _ _ hs'))
theorem LY.call {d ty : Nat} {pos : String} {af : Array Edge} {f : Nat} {ags : List Operand} {tys : Array TypeId} {args : List Value} {Rf Hf Hr : List Pr} {js js' : List Nat} {Φ : Value → List Pr → List Pr → Prop} (hfn : Ctr X f args Rf Hf Φ)
   (ha : evs Γ ags = some args) (hj : sel H js = Hf) (hj' : sel H js' = Hr) (hn : (js ++ js').Nodup) (hR : Hass R Hr Rf) (hd : Nat.blt d n = true)
   (k : ∀ v R' H', Φ v R' H' → LY X β n ds ops Q rest ((d, v) :: Γ) R (H' ++ Hr)) : LY X β n ds ops Q (⟨some d, .call ⟨.value (.func f), List.toArray ags, tys⟩, ty, pos, af, none⟩ :: rest) Γ R H := by
 intro a w hf hs
 refine wpListIn_plain rfl fun K hK => ⟨fun f _ => trivial, ?_⟩
 rw [Fence.wide_round, Oper.semAt_none, exec_call hfn.1 hf.agree ha _ rfl]
 refine ⟨fun hd => by simp [Fence.wide] at hd, callsIn_wide.2 ((hfn.use hj hj' hn hR hs).mono ?_)⟩
 rintro e w' ⟨v, R', H', hv, rfl, hs'⟩
 exact hK _ _ (k v R' H' hv _ _ (hf.put (by simpa [Nat.blt_eq] using hd) v) hs')
theorem LY.norm {H' : List Pr} (hs : List Nat) (hp : Pk H hs H') (hn : hs.Nodup) (h : LY X β n ds ops Q rest Γ R H') : LY X β n ds ops Q rest Γ R H := fun a w hf hw => h a w hf (hw.pk hp hn)
theorem roundR {l bl : Nat} {r : Loop} {ps : List Nat} {vs : List Value} {ca cb : Code} {Rb Hs : List Pr} {ι : Type} {He : ι → List Pr} {good : ι → Prop} {Γ' : Env} {w : World} (hf : Fr n [] { tmps := (ps.zip vs).foldl (fun tmps (x : Tmp × Value) => tmps.setIfInBounds x.1 x.2) r.tmps, defers := [] } Γ')
   (hps : r.params = List.toArray ps) (hlen : ps.length = vs.length) (hst : r.state = .ready) (hpe : r.pending = none) (ha : r.assign = ca) (hb : r.body = cb) (hpa : plainC ca = true) (hpb : plainC cb = true) (hs : Sat β w Rb (LoopP l r :: Hs))
   (hL : Rn X β n [] (RQ fun a1 w1 => ∃ Γ1 H1, Fr n [] a1 Γ1 ∧ Sat β w1 Rb (LoopP l r :: H1) ∧
     Rn X β n [] (RQ fun _ w2 => ∃ i, good i ∧ Sat β w2 Rb (LoopP l { r with state := .busy } :: He i)) cb Γ1 Rb (LoopP l { r with state := .busy } :: H1)) ca Γ' Rb (LoopP l r :: Hs)) :
   YieldAt Fence.wide 0 X.P l (List.toArray vs) w (fun e w' => e = .returned (.bool true) ∧ ∃ i, good i ∧ Sat β w' Rb (LoopP l r :: He i)) := by
 have _ := bl
 have hrec : w.heap[l]? = some (.loop r) := hs.own 0 _ rfl
 refine ⟨r.fn, _, r.assign, r.body, run_yield hrec (by rw [hps]; simpa using hlen.symm), ?_⟩
 have htm : (r.params.zip (List.toArray vs)).foldl (fun tmps (x : Tmp × Value) => tmps.setIfInBounds x.1 x.2) r.tmps = (ps.zip vs).foldl (fun tmps (x : Tmp × Value) => tmps.setIfInBounds x.1 x.2) r.tmps := by rw [hps]; simp
 rw [htm]
 refine roundIn_of_wpIn trivial ?_
 rw [ha, hb]
 have h1 := hL _ w hf hs
 refine wpIn_of_rwp ca _ (fun ⟨_, _, h⟩ => h) hpa _ _ (rwp_mono ca _ _ (fun e a1 w1 he => ?_) h1)
 obtain ⟨rfl, Γ1, H1, hfr1, hs1, hL2⟩ := he
 have hrec1 : w1.heap[l]? = some (.loop r) := hs1.own 0 _ rfl
 refine ⟨_, run_beginRound hrec1 hst, ?_⟩
 have hs1' := hs1.setLoop (j := 0) (r' := { r with state := .busy }) rfl
 refine wpIn_of_rwp cb _ (fun ⟨_, _, h⟩ => h) hpb _ _ (rwp_mono cb _ _ (fun e a2 w2 he => ?_) (hL2 a1 _ hfr1 hs1'))
 obtain ⟨rfl, i, hgi, hs2⟩ := he
 have hrec2 : w2.heap[l]? = some (.loop { r with state := .busy }) := hs2.own 0 _ rfl
 refine ⟨_, _, run_endRound none hrec2, rfl, ?_⟩
 have hs3 := hs2.setLoop (j := 0) (r' := r) rfl
 have e : ({ ({ r with state := .busy } : Loop) with state := if (none : Option Code).isNone then .ready else .done, pending := none } : Loop) = r := by
   cases r
   simp only at hst hpe
   subst hst hpe
   rfl
 rw [e]
 exact ⟨i, hgi, hs3⟩

/-! ### The end of a function with no such loop behind it, or two -/
theorem QE.retM0 {fn : Func} {Φ : Value → List Pr → List Pr → Prop} {rs : List ResultVar} {vs : List Value} {js hs : List Nat} (hrs : fn.results = List.toArray rs) (hr : Ress X Γ R H rs vs) (hn : hs.Nodup)
   (hΦ : Φ (tup vs) (sel R js) (sel H hs)) : QE β n [] (postM X β fn Φ) .ret Γ R H := by
 intro a w hf hsat
 show LeavesInM _ _ _ _ a.tmps _ a.defers .returning w
 rw [hf.dfs]
 exact ⟨tup vs, run_results hrs hf hsat hr, tup vs, _, _, hΦ, rfl, (hsat.selR js).sel hn⟩
theorem Sat.gone {w : World} {j d : Nat} (h : Sat β w R H) (hj : H[j]? = some (DefP d)) : Sat β (w.putObj d (.deferred none)) R (H.set j (GoneP d)) := by
 have hd : w.heap[d]? = some (.deferred (some [])) := h.own j _ hj
 have hlt : d < w.heap.size := (Array.getElem?_eq_some_iff.1 hd).1
 refine h.upd hj (Stp.putObj w d _) (fun k hk _ => hk) (GoneP d) trivial (fun k hk => ?_)
 have hk' : k = d := hk
 subst hk'
 exact ⟨by simpa using hlt, .inr rfl⟩
theorem QE.retM2 {fn : Func} {Φ : Value → List Pr → List Pr → Prop} {rs : List ResultVar} {vs : List Value} {js hs : List Nat} {d j d' j' : Nat} (hj : H[j]? = some (DefP d)) (hj' : (H.set j (GoneP d))[j']? = some (DefP d')) (hrs : fn.results = List.toArray rs)
   (hr : Ress X Γ R ((H.set j (GoneP d)).set j' (GoneP d')) rs vs) (hn : hs.Nodup) (hΦ : Φ (tup vs) (sel R js) (sel ((H.set j (GoneP d)).set j' (GoneP d')) hs)) :
   QE β n [{ target := .collected d, args := #[] }, { target := .collected d', args := #[] }] (postM X β fn Φ) .ret Γ R H := by
 intro a w hf hsat
 have hd : w.heap[d]? = some (.deferred (some [])) := hsat.own j _ hj
 have h1 := hsat.gone hj
 have hd' := h1.own j' _ hj'
 have h2 := h1.gone hj'
 show LeavesInM _ _ _ _ a.tmps _ a.defers .returning w
 rw [hf.dfs]
 exact ⟨by simp, .inl ⟨d, _, rfl, run_takeDeferred hd, by simp, .inl ⟨d', _, rfl, run_takeDeferred hd', tup vs, run_results hrs hf h2 hr, tup vs, _, _, hΦ, rfl, (h2.selR js).sel hn⟩⟩⟩
end
end Go.Sl
end
/-
  The links of code, one after the other.
-/
section
namespace Go.Proofs.Ytkjhcjhfegakoaa
open Go.Sl

def encI (x : Nat × Ins) : List Value := [.int .i64 (x.1 : Int), .agg (List.toArray (in5 x.2))]
def RbA (PA WA : Option Addr) (ws : List Nat) (wc : Nat) : List Pr := [Rd PA [.slice WA ws.length wc], Rd WA (N32 ws)]
def StA (A6 : Option Addr) (s : List Int × Option Addr × Nat) : List Pr := [Own 30 1 A6 1 1 [.slice s.2.1 s.1.length s.2.2], Own 3 1 s.2.1 s.1.length s.2.2 (I64 s.1)]
def nxtA (s : List Int × Option Addr × Nat) (x : Nat × Ins) (s2 : List Int × Option Addr × Nat) : Prop := s2.1 = s.1 ++ [x.2.n]
def goodA (s : List Int × Option Addr × Nat) (_x : Nat × Ins) : Prop := s.1.length ≤ 100000
def RbB (PA WA A4 : Option Addr) (ws : List Nat) (wc : Nat) : List Pr := [Rd PA [.slice WA ws.length wc], Rd WA (N32 ws), Rd A4 [.slice WA ws.length wc]]
def StB (ws : List Nat) (A6 LB A9 A10 OA MA : Option Addr) (lc : Nat) (s : List Nat × List Bool) : List Pr := [Own 30 1 A6 1 1 [.slice LB (labs ws).length lc], Own 3 1 LB (labs ws).length lc (I64 (labs ws)), Own 79 1 A9 1 1 [.func (.func 34) #[] #[ptrOf A6 0]], Own 32 3 A10 1 1 [.slice OA ws.length ws.length, .slice MA ws.length ws.length, .slice LB (labs ws).length lc], Own 53 1 OA ws.length ws.length (N32 s.1), Own 4 1 MA ws.length ws.length (Bs s.2)]
def nxtB (ws : List Nat) (s : List Nat × List Bool) (x : Nat × Ins) (s2 : List Nat × List Bool) : Prop := s2 = (s.1.set x.1 (numW (ws.getD x.1 0) x.2.op (idxL (labs ws) x.2.n)), s.2.set x.1 true)
def goodB (ws : List Nat) (s : List Nat × List Bool) (x : Nat × Ins) : Prop := x.1 < ws.length ∧ lnk ws x.1 = true ∧ x.2 = insAt ws x.1 ∧ s.1.length = ws.length ∧ s.2.length = ws.length

theorem find_c (A6 LB : Option Addr) (lb : List Int) (lc : Nat) (n : Int) (hl : lb.length ≤ 1000000) (hs : lb.Pairwise (· < ·)) :
   Ctr X 34 [.int .i64 n, ptrOf A6 0] [] [Own 30 1 A6 1 1 [.slice LB lb.length lc], Own 3 1 LB lb.length lc (I64 lb)] (fun v R' H' => v = .int .u32 ((idxL lb n : Nat) : Int) ∧ R' = [] ∧ H' = [Own 30 1 A6 1 1 [.slice LB lb.length lc], Own 3 1 LB lb.length lc (I64 lb)]) := by
 refine Ctr.of (X := X) (fn := Try.f34) Try.func34 rfl (by kernel_rfl) rfl ?_
 intro β
 refine C.seq (C.region ?_); refine Lpu rfl rfl ?_; refine L.nil (QE.seq (C.seq (C.region ?_))); refine L.step (Ev.load rfl rfl rfl (Src.o 0 rfl) rfl) rfl ?_; refine Lpu rfl rfl ?_; refine L.call (js := [1]) (js' := [0]) (search_c LB lb lc n hl (sorted_le hs)) rfl rfl rfl (by decide) trivial rfl ?_
 rintro _ _ _ ⟨rfl, rfl, rfl⟩
 refine L.norm (H' := [_, _]) [0, 1] ⟨rfl, rfl, trivial⟩ (by decide) ?_; refine Lpu rfl rfl ?_; refine Lpu rfl rfl ?_; refine Lpu rfl rfl ?_; refine Lpu rfl rfl ?_; refine Lpu rfl rfl ?_; refine L.nil (QE.seq (C.seq (C.region ?_))); refine Lpu rfl rfl ?_; refine L.step (Ev.toU32 (q := idxL lb n) rfl rfl rfl rfl (by have := idxL_le lb n; show ((idxL lb n : Nat) : Int) % 4294967296 = _; omega)) rfl ?_; refine Lpu rfl rfl ?_; refine L.nil (QE.seq (C.ret ?_)); refine QE.ret (js := []) (hs := [1, 0]) (vs := [_]) rfl ⟨rfl, trivial⟩ (by decide) ?_
 exact ⟨rfl, rfl, rfl⟩

theorem links_c (WA : Option Addr) (n wc : Nat) :
   Ctr X 31 [.slice WA n wc] [] [] (fun v R' H' => ∃ PA : Option Addr, v = .func (.func 60) #[] #[ptrOf PA 0] ∧ R' = [Rd PA [.slice WA n wc]] ∧ H' = []) := by
 refine Ctr.of (X := X) (fn := Try.f31) Try.func31 rfl (by kernel_rfl) rfl ?_
 intro β
 refine C.seq (C.region ?_)
 refine L.box rfl rfl rfl (fun A1 => ?_)
 refine Lpu rfl rfl ?_; refine L.nil (QE.seq (C.seq (C.region ?_))); refine Lpu rfl rfl ?_; refine Lpu rfl rfl ?_; refine L.nil (QE.seq (C.ret ?_)); refine QE.freeze 0 rfl [] (by decide) (by decide) ?_; refine QE.ret (js := [0]) (hs := []) (vs := [_]) rfl ⟨rfl, trivial⟩ (by decide) ?_
 exact ⟨A1, rfl, rfl, rfl⟩

set_option maxHeartbeats 1000000 in
theorem iterA_c (l : Nat) (r : Loop) (PA WA : Option Addr) (ws : List Nat) (wc : Nat) (hw : W32 ws) (hl : ws.length ≤ 16384) (A6 : Option Addr) (hy : YieldR X l r encI (RbA PA WA ws wc) (StA A6) nxtA goodA) :
   Ctr X 60 [.func (.yield l) #[] #[], ptrOf PA 0] [Rd PA [.slice WA ws.length wc], Rd WA (N32 ws)] [LoopP l r, Own 30 1 A6 1 1 [.slice none ([] : List Int).length 0], Own 3 1 none ([] : List Int).length 0 (I64 ([] : List Int))] (fun _ R' H' => R' = [] ∧ ∃ (O : Option Addr) (c : Nat), H' = LoopP l r :: StA A6 (targN ws ws.length, O, c)) := by
 refine Ctr.of (X := X) (fn := Try.f60) Try.func60 rfl (by kernel_rfl) rfl ?_
 intro β
 refine C.seq (C.region ?_); refine L.step (Ev.load rfl rfl rfl (Src.r 0 rfl) rfl) rfl ?_; refine Lpu rfl rfl ?_; refine Lpu rfl rfl ?_; refine L.nil (QE.seq (C.block ?_)); refine C.loop (fun q : Nat × Option Addr × Nat => [(0, .func (.yield l) #[] #[]), (1, ptrOf PA 0), (6, .slice WA ws.length wc), (7, .int .i64 (ws.length : Int)), (8, .int .i64 (q.1 : Int))]) (fun q : Nat × Option Addr × Nat => [Rd PA [.slice WA ws.length wc], Rd WA (N32 ws)]) (fun q : Nat × Option Addr × Nat => [LoopP l r, Own 30 1 A6 1 1 [.slice q.2.1 (targN ws q.1).length q.2.2], Own 3 1 q.2.1 (targN ws q.1).length q.2.2 (I64 (targN ws q.1))]) (fun q : Nat × Option Addr × Nat => q.1 ≤ ws.length) (fun q : Nat × Option Addr × Nat => ws.length - q.1) (0, none, 0) (Nat.zero_le _) (by exact Le.mk' (rs := [0, 1]) (hs := [0, 1, 2]) ⟨rfl, rfl, rfl, rfl, rfl, trivial⟩ ⟨rfl, rfl, trivial⟩ ⟨rfl, rfl, rfl, trivial⟩ (by decide)) ?_
 rintro ⟨k, O, oc⟩ hk
 dsimp only at hk ⊢
 refine C.seq (C.region ?_); refine Lpu rfl rfl ?_; refine L.nil (QE.seq (C.seq ?_))
 refine C.condB 9 rfl (fun hc9 => ?_) (fun hc9 => ?_)
 · skip
   replace hc9 := of_decide_eq_true hc9
   refine C.skip (QE.seq (C.seq (C.block (C.seq (C.region ?_))))); refine Lpu rfl rfl ?_; refine L.step (Ev.idx1 (k := k) rfl rfl rfl rfl rfl rfl rfl (by omega) (Src.r 1 rfl) (by rw [N32_len]; omega)) rfl ?_; refine L.step (Ev.load rfl rfl rfl (Src.r 1 rfl) (N32_get (by omega))) rfl ?_; refine Lpu rfl rfl ?_; refine Lpu rfl rfl ?_; refine L.nil (QE.seq (C.seq (C.region ?_))); refine Lpu rfl rfl ?_; refine Lpu rfl rfl ?_; refine L.step (Ev.mul rfl rfl (by omega) (by omega)) rfl ?_; refine L.call (js := []) (js' := [0, 1, 2]) (decode_c (ws.getD k 0) (4 * (k : Int)) (hw k) (by omega)) rfl rfl rfl (by decide) trivial rfl ?_
   rintro _ _ _ ⟨rfl, rfl, rfl⟩
   refine L.norm (H' := [_, _, _]) [0, 1, 2] ⟨rfl, rfl, rfl, trivial⟩ (by decide) ?_
   refine L.alloc rfl rfl rfl (fun A5 => ?_)
   refine L.storeA (j := 3) rfl rfl rfl rfl rfl (Nat.zero_lt_succ _) rfl rfl ?_; refine L.nil (QE.seq (C.seq ?_)); refine C.regionY ?_; refine LY.step (Ev.loadA (vs := in5 (insAt ws k)) rfl rfl rfl (Src.o 3 rfl) rfl rfl (by decide)) rfl ?_; refine LY.step (Ev.load rfl rfl rfl (Src.r 0 rfl) rfl) rfl ?_; refine LY.step (Ev.pure rfl) rfl ?_; refine LY.step (Ev.mul rfl rfl (by omega) (by omega)) rfl ?_; refine LY.call (js := []) (js' := [0, 1, 2, 3]) (linked_c (insAt ws k) (4 * (ws.length : Int))) rfl rfl rfl (by decide) trivial rfl ?_
   rintro _ _ _ ⟨rfl, rfl, rfl⟩
   refine LY.norm (H' := [_, _, _, _]) [0, 1, 2, 3] ⟨rfl, rfl, rfl, rfl, trivial⟩ (by decide) ?_; refine LY.step (Ev.pure rfl) rfl ?_
   refine LY.bool 22 rfl (fun hg22 => ?_) (fun hg22 => ?_)
   · skip
     have hlk : lnk ws k = true := hg22
     refine LY.yes rfl ?_; refine LY.step (Ev.pure rfl) rfl ?_; refine LY.yes rfl ?_; refine LY.step (Ev.pure rfl) rfl ?_; refine LY.yes rfl ?_; refine LY.step (Ev.loadA (vs := in5 (insAt ws k)) rfl rfl rfl (Src.o 3 rfl) rfl rfl (by decide)) rfl ?_; refine LY.yes rfl ?_; refine LY.yieldR (js := [0, 1, 2]) (js' := [3]) hy (targN ws k, O, oc) (k, (insAt ws k)) (show (targN ws k).length ≤ 100000 by have := targN_len ws k; omega) rfl rfl rfl rfl (by decide) ⟨(Has.r 0 rfl), (Has.r 1 rfl), trivial⟩ rfl ?_
     rintro ⟨s2, O2, c2⟩ hnx
     have hnx2 : s2 = targN ws k ++ [(insAt ws k).n] := hnx
     subst hnx2
     unfold StA
     dsimp only
     refine LY.yes rfl ?_; refine LY.step (Ev.pure rfl) rfl ?_; refine LY.step (Ev.pure rfl) rfl ?_; refine LY.nil ?_; refine QE.seq ?_
     refine C.cond rfl (fun h => by cases h) (fun _ => ?_)
     refine C.skip ?_; refine QE.blkN ?_; refine QE.seq (C.region ?_); refine L.step (Ev.add rfl rfl (by omega) (by omega)) rfl ?_; refine Lpu rfl rfl ?_; refine L.nil ?_
     refine QE.round (i := (k, O, oc)) ((k + 1, O2, c2)) (by dsimp only; omega) (by dsimp only; omega) (by exact Le.mk' (rs := [0, 1]) (hs := [0, 1, 2]) ⟨rfl, rfl, rfl, rfl, rfl, trivial⟩ ⟨rfl, rfl, trivial⟩ ⟨rfl, (congrArg some (by dsimp only; rw [targN_yes hlk])), (congrArg some (by dsimp only; rw [targN_yes hlk])), trivial⟩ (by decide))
   · skip
     have hlk : lnk ws k = false := hg22
     refine LY.no rfl rfl rfl ?_; refine LY.no rfl rfl rfl ?_; refine LY.no rfl rfl rfl ?_; refine LY.no rfl rfl rfl ?_; refine LY.no rfl rfl rfl ?_; refine LY.step (Ev.pure rfl) rfl ?_; refine LY.nil ?_; refine QE.seq ?_
     refine C.cond rfl (fun h => by cases h) (fun _ => ?_)
     refine C.skip ?_; refine QE.blkN ?_; refine QE.seq (C.region ?_); refine L.step (Ev.add rfl rfl (by omega) (by omega)) rfl ?_; refine Lpu rfl rfl ?_; refine L.nil ?_
     refine QE.round (i := (k, O, oc)) ((k + 1, O, oc)) (by dsimp only; omega) (by dsimp only; omega) (by exact Le.mk' (rs := [0, 1]) (hs := [0, 1, 2]) ⟨rfl, rfl, rfl, rfl, rfl, trivial⟩ ⟨rfl, rfl, trivial⟩ ⟨rfl, (congrArg some (by dsimp only; rw [targN_no hlk])), (congrArg some (by dsimp only; rw [targN_no hlk])), trivial⟩ (by decide))
 · skip
   replace hc9 := of_decide_eq_false hc9
   refine C.exit ?_; refine QE.tX ?_; refine QE.tX ?_; refine QE.blk ?_; refine QE.retN ?_; refine QE.ret (js := []) (hs := [0, 1, 2]) (vs := []) rfl trivial (by decide) ?_
   obtain rfl : k = ws.length := by omega
   exact ⟨rfl, O, oc, rfl⟩

set_option maxHeartbeats 1000000 in
theorem iterB_c (l : Nat) (r : Loop) (PA WA : Option Addr) (ws : List Nat) (wc : Nat) (hw : W32 ws) (hl : ws.length ≤ 16384) (A4 A6 LB A9 A10 OA MA : Option Addr) (lc : Nat) (hy : YieldR X l r encI (RbB PA WA A4 ws wc) (StB ws A6 LB A9 A10 OA MA lc) (nxtB ws) (goodB ws)) :
   Ctr X 60 [.func (.yield l) #[] #[], ptrOf PA 0] [Rd PA [.slice WA ws.length wc], Rd WA (N32 ws), Rd A4 [.slice WA ws.length wc]] [LoopP l r, Own 30 1 A6 1 1 [.slice LB (labs ws).length lc], Own 3 1 LB (labs ws).length lc (I64 (labs ws)), Own 79 1 A9 1 1 [.func (.func 34) #[] #[ptrOf A6 0]], Own 32 3 A10 1 1 [.slice OA ws.length ws.length, .slice MA ws.length ws.length, .slice LB (labs ws).length lc], Own 53 1 OA ws.length ws.length (N32 (liftN ws 0)), Own 4 1 MA ws.length ws.length (Bs (markN ws 0))] (fun _ R' H' => R' = [] ∧ H' = LoopP l r :: StB ws A6 LB A9 A10 OA MA lc (liftN ws ws.length, markN ws ws.length)) := by
 refine Ctr.of (X := X) (fn := Try.f60) Try.func60 rfl (by kernel_rfl) rfl ?_
 intro β
 refine C.seq (C.region ?_); refine L.step (Ev.load rfl rfl rfl (Src.r 0 rfl) rfl) rfl ?_; refine Lpu rfl rfl ?_; refine Lpu rfl rfl ?_; refine L.nil (QE.seq (C.block ?_)); refine C.loop (fun q : Nat × Unit => [(0, .func (.yield l) #[] #[]), (1, ptrOf PA 0), (6, .slice WA ws.length wc), (7, .int .i64 (ws.length : Int)), (8, .int .i64 (q.1 : Int))]) (fun q : Nat × Unit => [Rd PA [.slice WA ws.length wc], Rd WA (N32 ws), Rd A4 [.slice WA ws.length wc]]) (fun q : Nat × Unit => [LoopP l r, Own 30 1 A6 1 1 [.slice LB (labs ws).length lc], Own 3 1 LB (labs ws).length lc (I64 (labs ws)), Own 79 1 A9 1 1 [.func (.func 34) #[] #[ptrOf A6 0]], Own 32 3 A10 1 1 [.slice OA ws.length ws.length, .slice MA ws.length ws.length, .slice LB (labs ws).length lc], Own 53 1 OA ws.length ws.length (N32 (liftN ws q.1)), Own 4 1 MA ws.length ws.length (Bs (markN ws q.1))]) (fun q : Nat × Unit => q.1 ≤ ws.length) (fun q : Nat × Unit => ws.length - q.1) (0, ()) (Nat.zero_le _) (by exact Le.mk' (rs := [0, 1, 2]) (hs := [0, 1, 2, 3, 4, 5, 6]) ⟨rfl, rfl, rfl, rfl, rfl, trivial⟩ ⟨rfl, rfl, rfl, trivial⟩ ⟨rfl, rfl, rfl, rfl, rfl, rfl, rfl, trivial⟩ (by decide)) ?_
 rintro ⟨k, u⟩ hk
 dsimp only at hk ⊢
 refine C.seq (C.region ?_); refine Lpu rfl rfl ?_; refine L.nil (QE.seq (C.seq ?_))
 refine C.condB 9 rfl (fun hc9 => ?_) (fun hc9 => ?_)
 · skip
   replace hc9 := of_decide_eq_true hc9
   refine C.skip (QE.seq (C.seq (C.block (C.seq (C.region ?_))))); refine Lpu rfl rfl ?_; refine L.step (Ev.idx1 (k := k) rfl rfl rfl rfl rfl rfl rfl (by omega) (Src.r 1 rfl) (by rw [N32_len]; omega)) rfl ?_; refine L.step (Ev.load rfl rfl rfl (Src.r 1 rfl) (N32_get (by omega))) rfl ?_; refine Lpu rfl rfl ?_; refine Lpu rfl rfl ?_; refine L.nil (QE.seq (C.seq (C.region ?_))); refine Lpu rfl rfl ?_; refine Lpu rfl rfl ?_; refine L.step (Ev.mul rfl rfl (by omega) (by omega)) rfl ?_; refine L.call (js := []) (js' := [0, 1, 2, 3, 4, 5, 6]) (decode_c (ws.getD k 0) (4 * (k : Int)) (hw k) (by omega)) rfl rfl rfl (by decide) trivial rfl ?_
   rintro _ _ _ ⟨rfl, rfl, rfl⟩
   refine L.norm (H' := [_, _, _, _, _, _, _]) [0, 1, 2, 3, 4, 5, 6] ⟨rfl, rfl, rfl, rfl, rfl, rfl, rfl, trivial⟩ (by decide) ?_
   refine L.alloc rfl rfl rfl (fun A5 => ?_)
   refine L.storeA (j := 7) rfl rfl rfl rfl rfl (Nat.zero_lt_succ _) rfl rfl ?_; refine L.nil (QE.seq (C.seq ?_)); refine C.regionY ?_; refine LY.step (Ev.loadA (vs := in5 (insAt ws k)) rfl rfl rfl (Src.o 7 rfl) rfl rfl (by decide)) rfl ?_; refine LY.step (Ev.load rfl rfl rfl (Src.r 0 rfl) rfl) rfl ?_; refine LY.step (Ev.pure rfl) rfl ?_; refine LY.step (Ev.mul rfl rfl (by omega) (by omega)) rfl ?_; refine LY.call (js := []) (js' := [0, 1, 2, 3, 4, 5, 6, 7]) (linked_c (insAt ws k) (4 * (ws.length : Int))) rfl rfl rfl (by decide) trivial rfl ?_
   rintro _ _ _ ⟨rfl, rfl, rfl⟩
   refine LY.norm (H' := [_, _, _, _, _, _, _, _]) [0, 1, 2, 3, 4, 5, 6, 7] ⟨rfl, rfl, rfl, rfl, rfl, rfl, rfl, rfl, trivial⟩ (by decide) ?_; refine LY.step (Ev.pure rfl) rfl ?_
   refine LY.bool 22 rfl (fun hg22 => ?_) (fun hg22 => ?_)
   · skip
     have hlk : lnk ws k = true := hg22
     refine LY.yes rfl ?_; refine LY.step (Ev.pure rfl) rfl ?_; refine LY.yes rfl ?_; refine LY.step (Ev.pure rfl) rfl ?_; refine LY.yes rfl ?_; refine LY.step (Ev.loadA (vs := in5 (insAt ws k)) rfl rfl rfl (Src.o 7 rfl) rfl rfl (by decide)) rfl ?_; refine LY.yes rfl ?_; refine LY.yieldR (js := [0, 1, 2, 3, 4, 5, 6]) (js' := [7]) hy (liftN ws k, markN ws k) (k, (insAt ws k)) ⟨by dsimp only; omega, hlk, rfl, liftN_len (by omega), markN_len (by omega)⟩ rfl rfl rfl rfl (by decide) ⟨(Has.r 0 rfl), (Has.r 1 rfl), (Has.r 2 rfl), trivial⟩ rfl ?_
     rintro ⟨w2, m2⟩ hnx
     have hnx1 : w2 = liftN ws (k + 1) := (congrArg Prod.fst hnx).trans (by dsimp only; rw [← liftN_succ (by omega)]; unfold liftW; rw [if_pos hlk])
     have hnx2 : m2 = markN ws (k + 1) := (congrArg Prod.snd hnx).trans (markN_succ (by omega) hlk)
     subst hnx1 hnx2
     unfold StB
     dsimp only
     refine LY.yes rfl ?_; refine LY.step (Ev.pure rfl) rfl ?_; refine LY.step (Ev.pure rfl) rfl ?_; refine LY.nil ?_; refine QE.seq ?_
     refine C.cond rfl (fun h => by cases h) (fun _ => ?_)
     refine C.skip ?_; refine QE.blkN ?_; refine QE.seq (C.region ?_); refine L.step (Ev.add rfl rfl (by omega) (by omega)) rfl ?_; refine Lpu rfl rfl ?_; refine L.nil ?_
     refine QE.round (i := (k, u)) ((k + 1, u)) (by dsimp only; omega) (by dsimp only; omega) (by exact Le.mk' (rs := [0, 1, 2]) (hs := [0, 1, 2, 3, 4, 5, 6]) ⟨rfl, rfl, rfl, rfl, rfl, trivial⟩ ⟨rfl, rfl, rfl, trivial⟩ ⟨rfl, rfl, rfl, rfl, rfl, rfl, rfl, trivial⟩ (by decide))
   · skip
     have hlk : lnk ws k = false := hg22
     refine LY.no rfl rfl rfl ?_; refine LY.no rfl rfl rfl ?_; refine LY.no rfl rfl rfl ?_; refine LY.no rfl rfl rfl ?_; refine LY.no rfl rfl rfl ?_; refine LY.step (Ev.pure rfl) rfl ?_; refine LY.nil ?_; refine QE.seq ?_
     refine C.cond rfl (fun h => by cases h) (fun _ => ?_)
     refine C.skip ?_; refine QE.blkN ?_; refine QE.seq (C.region ?_); refine L.step (Ev.add rfl rfl (by omega) (by omega)) rfl ?_; refine Lpu rfl rfl ?_; refine L.nil ?_
     refine QE.round (i := (k, u)) ((k + 1, u)) (by dsimp only; omega) (by dsimp only; omega) (by exact Le.mk' (rs := [0, 1, 2]) (hs := [0, 1, 2, 3, 4, 5, 6]) ⟨rfl, rfl, rfl, rfl, rfl, trivial⟩ ⟨rfl, rfl, rfl, trivial⟩ ⟨rfl, rfl, rfl, rfl, rfl, (congrArg some (by dsimp only; rw [liftN_skip (by omega) hlk])), (congrArg some (by dsimp only; rw [markN_skip (by omega) hlk])), trivial⟩ (by decide))
 · skip
   replace hc9 := of_decide_eq_false hc9
   refine C.exit ?_; refine QE.tX ?_; refine QE.tX ?_; refine QE.blk ?_; refine QE.retN ?_; refine QE.ret (js := []) (hs := [0, 1, 2, 3, 4, 5, 6]) (vs := []) rfl trivial (by decide) ?_
   obtain rfl : k = ws.length := by omega
   exact ⟨rfl, rfl⟩

end Go.Proofs.Ytkjhcjhfegakoaa
end
