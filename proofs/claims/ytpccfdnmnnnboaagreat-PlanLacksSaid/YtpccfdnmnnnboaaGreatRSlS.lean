/-
  The small separation logic: the rounds of a range over a function, whatever straight code they hold; several such loops in one function.
-/
import Derived.OrdersIn
import Derived.Test.YtpccfdnmnnnboaaGreatRSlR
import Derived.Test.YtpccfdnmnnnboaaGreatRSlN
namespace Go.Sl

/-! ### Code by its form -/
def rwp (P : Program) : Code → (Exit → Act → World → Prop) → Act → World → Prop
 | .region _ ops false, Q, a, w => wpList P ops Q ops.toList a w
 | .region _ ops true, Q, a, w => ∀ t, wpOps P ops Q (Region.schedule (P.follows .mixedOrders) ops t) a w.drew
 | .seq x y, Q, a, w => rwp P x (Exit.then (rwp P y Q) Q) a w
 | .block id c, Q, a, w => rwp P c (Exit.inBlock id Q) a w
 | .cond c x y, Q, a, w => ∃ t, a.eval c = .bool t ∧ (if t = true then rwp P x Q a w else rwp P y Q a w)
 | .loop c, Q, a, w => ∃ (I : Act → World → Prop) (μ : Act → World → Nat), I a w ∧ ∀ a1 w1, I a1 w1 → rwp P c (Exit.then (fun a2 w2 => I a2 w2 ∧ μ a2 w2 < μ a1 w1) Q) a1 w1
 | .skip, Q, a, w => Q .normal a w
 | .exit id, Q, a, w => Q (.exit id) a w
 | _, _, _, _ => False
section
variable {P : Program} {m l : Nat} {ops : Array Oper} {Q : Exit → Act → World → Prop}
theorem rwp_mono : ∀ (c : Code) {Q Q' : Exit → Act → World → Prop} (a : Act) (w : World), (∀ e a w, Q e a w → Q' e a w) → rwp P c Q a w → rwp P c Q' a w
 | .region id ops false, Q, Q', a, w, hq, h => wpList_mono2 hq _ _ _ h
 | .region id ops true, Q, Q', a, w, hq, h => fun t => wpOps_mono2 hq _ _ _ (h t)
 | .seq x y, Q, Q', a, w, hq, h => rwp_mono x a w (fun e a w he => by
     cases e with
     | normal => exact rwp_mono y a w hq he
     | _ => exact hq _ _ _ he) h
 | .block id c, Q, Q', a, w, hq, h => rwp_mono c a w (fun e a w he => by
     cases e with
     | exit j =>
       simp only [Exit.inBlock] at he ⊢
       split
       · rename_i e
         rw [if_pos e] at he
         exact hq _ _ _ he
       · rename_i e
         rw [if_neg e] at he
         exact hq _ _ _ he
     | _ => exact hq _ _ _ he) h
 | .cond c x y, Q, Q', a, w, hq, ⟨t, ht, h⟩ => ⟨t, ht, by
     cases t with
     | true => exact rwp_mono x a w hq h
     | false => exact rwp_mono y a w hq h⟩
 | .loop c, Q, Q', a, w, hq, ⟨I, μ, h0, hr⟩ => ⟨I, μ, h0, fun a1 w1 h1 => rwp_mono c a1 w1 (fun e a w he => by
     cases e with
     | normal => exact he
     | _ => exact hq _ _ _ he) (hr a1 w1 h1)⟩
 | .skip, _, _, _, _, hq, h => hq _ _ _ h
 | .exit id, _, _, _, _, hq, h => hq _ _ _ h
where
 wpUpon {o : Oper} {a : Act} {w : World} {K K' : Act → World → Prop} {Q Q' : Exit → Act → World → Prop} (hq : ∀ e a w, Q e a w → Q' e a w) (hK : ∀ a w, K a w → K' a w) (h : o.wp P a w K Q) : o.wp P a w K' Q' := by
   unfold Oper.wp at h ⊢
   generalize (execOp a.eval o).run P w = res at h ⊢
   cases res with
   | ok nx w' =>
     cases nx with
     | value v => exact hK _ _ h
     | skip => exact hK _ _ h
     | defer d => exact hK _ _ h
     | enter f args =>
       refine Calls.mono h fun e w'' he => ?_
       cases e with
       | returned v => exact hK _ _ he
       | panicked ch => exact hq _ _ _ he
       | outgrown => obtain ⟨a0, w0, h0⟩ := he; exact ⟨a0, w0, hq _ _ _ h0⟩
     | row r args =>
       simp only [Oper.upon] at h ⊢
       intro c cs
       obtain ⟨v, w'', hv, hs⟩ := h c cs
       exact ⟨v, w'', hK _ _ hv, hs⟩
     | _ => exact h.elim
   | halt x w' => cases x <;> first | exact hq _ _ _ h | exact h.elim
 wpList_mono2 {ops : Array Oper} {Q Q' : Exit → Act → World → Prop} (hq : ∀ e a w, Q e a w → Q' e a w) : ∀ (ls : List Oper) (a : Act) (w : World), wpList P ops Q ls a w → wpList P ops Q' ls a w
   | [], _, _, h => hq _ _ _ h
   | o :: ls, a, w, h => by
     have ih := wpList_mono2 (ops := ops) hq ls
     simp only [wpList] at h ⊢
     split
     · rename_i hw
       simp only [hw, if_true] at h
       exact h.imp (wpUpon hq ih) (fun ⟨g, a0, w0, h0⟩ => ⟨g, a0, w0, hq _ _ _ h0⟩)
     · rename_i hw
       simp only [hw] at h
       exact ih _ _ h
 wpOps_mono2 {ops : Array Oper} {Q Q' : Exit → Act → World → Prop} (hq : ∀ e a w, Q e a w → Q' e a w) : ∀ (is : List Nat) (a : Act) (w : World), wpOps P ops Q is a w → wpOps P ops Q' is a w
   | [], _, _, h => hq _ _ _ h
   | i :: is, a, w, h => by
     have ih := wpOps_mono2 (ops := ops) hq is
     simp only [wpOps] at h ⊢
     cases ho : ops[i]? with
     | none =>
       simp only [ho] at h ⊢
       exact ih _ _ h
     | some o =>
       simp only [ho] at h ⊢
       split
       · rename_i hw
         simp only [hw, if_true] at h
         exact h.imp (wpUpon hq ih) (fun ⟨g, a0, w0, h0⟩ => ⟨g, a0, w0, hq _ _ _ h0⟩)
       · rename_i hw
         simp only [hw] at h
         exact ih _ _ h
end

/-! ### The rules once more, in a round -/
def Rn (X : Cx) (β : Base) (n : Nat) (ds : List Deferred) (Q : Exit → Act → World → Prop) (c : Code) (Γ : Env) (R H : List Pr) : Prop := ∀ a w, Fr n ds a Γ → Sat β w R H → rwp X.P c Q a w

section
variable {X : Cx} {β : Base} {n : Nat} {ds : List Deferred} {ops : Array Oper} {Q : Exit → Act → World → Prop} {rest : List Oper} {Γ : Env} {R H : List Pr}
theorem Rn.seq {x y : Code} (h : Rn X β n ds (Exit.then (rwp X.P y Q) Q) x Γ R H) : Rn X β n ds Q (.seq x y) Γ R H := fun a w hf hs => h a w hf hs
theorem Rn.skip (h : QE β n ds Q .normal Γ R H) : Rn X β n ds Q .skip Γ R H := fun a w hf hs => h a w hf hs
theorem Rn.exit {id : Nat} (h : QE β n ds Q (.exit id) Γ R H) : Rn X β n ds Q (.exit id) Γ R H := fun a w hf hs => h a w hf hs
theorem Rn.block {id : Nat} {c : Code} (h : Rn X β n ds (Exit.inBlock id Q) c Γ R H) : Rn X β n ds Q (.block id c) Γ R H := fun a w hf hs => h a w hf hs
theorem Rn.cond {c : Operand} {x y : Code} {b : Bool} (hc : ev Γ c = some (.bool b)) (ht : b = true → Rn X β n ds Q x Γ R H) (he : b = false → Rn X β n ds Q y Γ R H) : Rn X β n ds Q (.cond c x y) Γ R H := by
 intro a w hf hs
 refine ⟨b, hf.eval hc, ?_⟩
 cases b with
 | true => exact ht rfl a w hf hs
 | false => exact he rfl a w hf hs
theorem Rn.condB (s : Nat) {x y : Code} {b : Bool} (hc : look s Γ = some (.bool b)) (ht : b = true → Rn X β n ds Q x ((s, .bool true) :: Γ) R H) (he : b = false → Rn X β n ds Q y ((s, .bool false) :: Γ) R H) : Rn X β n ds Q (.cond (.tmp s) x y) Γ R H := by
 have h1 : ∀ (a : Act) (c : Bool), b = c → Fr n ds a Γ → Fr n ds a ((s, .bool c) :: Γ) := by
   rintro a c rfl hf
   refine ⟨hf.size, hf.dfs, fun t u hu => ?_⟩
   simp only [look] at hu
   cases hbq : Nat.beq t s with
   | true =>
     rw [hbq] at hu
     obtain rfl := Nat.eq_of_beq_eq_true hbq
     simp only [cond_true, Option.some.injEq] at hu
     subst hu
     exact hf.vals t _ hc
   | false =>
     rw [hbq] at hu
     exact hf.vals t u hu
 exact Rn.cond hc (fun e a w hf hs => ht e a w (h1 a true e hf) hs) (fun e a w hf hs => he e a w (h1 a false e hf) hs)
theorem Rn.region {id : Nat} {l : List Oper} (h : L X β n ds (List.toArray l) Q l Γ R H) : Rn X β n ds Q (.region id (List.toArray l) false) Γ R H := fun a w hf hs => h a w hf hs
theorem Rn.regionM {id : Nat} {l : List Oper} (Rc : List Pr) (_hc : Hass R H Rc) (h : LM X β n ds (List.toArray l) Rc Q l.length (Array.replicate l.length false) Γ R H) : Rn X β n ds Q (.region id (List.toArray l) true) Γ R H := by
 intro a w hf hs t
 simp only [Region.schedule, X.mixed, Bool.true_or, if_true]
 refine wpAny_sound _ t _ a _ (wpAny_of_C (Cl := fun w => Sat β w Rc []) (Qn := fun a w => Q .normal a w) (fun _ _ h => h) _ _ _ _ ?_)
 have := h a w.drew (by simp) hf (hs.same (Stp.drew w _))
 simpa using this
theorem Rn.regionQ {id : Nat} {l : List Oper} (hB : Region.lexB .any (List.toArray l) = true) (h : LQ X β n ds (List.toArray l) Q R H l Γ) : Rn X β n ds Q (.region id (List.toArray l) true) Γ R H := by
 intro a w hf hs t
 simp only [Region.schedule, X.mixed, Bool.true_or, if_true]
 refine wpAny_sound _ t _ a _ ?_
 simp only [Region.lexB, Bool.and_eq_true] at hB
 refine wpAny_of_quiet (C := fun w' => Sat β w' R H) (Q := fun a' => ∀ w', Sat β w' R H → Q .normal a' w') (fun _ w' hw' h => h w' hw') _ _ _ _ (hs.same (Stp.drew w _)) ?_
 have := wpAnyQ_lex (C := fun w' => Sat β w' R H) (md := .any) hB.1 l 0 (Array.replicate l.length false) a (by simp) (by simpa using hB.2) (h a hf)
 simpa using this
theorem Rn.le {c : Code} {Γ' : Env} {R' H' : List Pr} (hl : Le β Γ R H Γ' R' H') (h : Rn X β n ds Q c Γ' R' H') : Rn X β n ds Q c Γ R H := fun a w hf hs => h a w (hf.le hl.env) (hl.sat w hs)
theorem Rn.norm {c : Code} {H' : List Pr} (hs : List Nat) (hp : Pk H hs H') (hn : hs.Nodup) (h : Rn X β n ds Q c Γ R H') : Rn X β n ds Q c Γ R H := fun a w hf hw => h a w hf (hw.pk hp hn)
theorem Rn.freeze {x : Code} (j : Nat) {e sz m c : Nat} {A : Option Addr} {xs : List Value} (hj : H[j]? = some (Own e sz A m c xs)) (js : List Nat) (hn : js.Nodup) (hjj : js.contains j = false) (h : Rn X β n ds Q x Γ (Rd A xs :: R) (sel H js)) : Rn X β n ds Q x Γ R H :=
 fun a w hf hs => h a w hf (hs.freeze hj hn hjj)
theorem Rn.more {x : Code} {r : Pr} (hr : Has R [] r) (h : Rn X β n ds Q x Γ (r :: R) H) : Rn X β n ds Q x Γ R H := fun a w hf hs => h a w hf (hs.more hr)
theorem Rn.seqJ {x y : Code} {ι : Type} (G : ι → Env) (Rs Hs : ι → List Pr) (pre : ι → Prop) (h : Rn X β n ds (Exit.then (fun a w => ∃ j, pre j ∧ Fr n ds a (G j) ∧ Sat β w (Rs j) (Hs j)) Q) x Γ R H) (h2 : ∀ j, pre j → Rn X β n ds Q y (G j) (Rs j) (Hs j)) :
   Rn X β n ds Q (.seq x y) Γ R H := by
 intro a w hf hs
 refine rwp_mono x a w (fun e a' w' he => ?_) (h a w hf hs)
 cases e with
 | normal =>
   obtain ⟨j, hp, hfj, hsj⟩ := he
   exact h2 j hp a' w' hfj hsj
 | _ => exact he
theorem Rn.join {c : Code} {ι : Type} (G : ι → Env) (Rs Hs : ι → List Pr) (pre : ι → Prop) (h : Rn X β n ds (fun e a w => (e = .normal ∧ ∃ j, pre j ∧ Fr n ds a (G j) ∧ Sat β w (Rs j) (Hs j)) ∨ (e ≠ .normal ∧ Q e a w)) c Γ R H) (h2 : ∀ j, pre j → QE β n ds Q .normal (G j) (Rs j) (Hs j)) :
   Rn X β n ds Q c Γ R H := by
 intro a w hf hs
 refine rwp_mono c a w (fun e a' w' he => ?_) (h a w hf hs)
 rcases he with ⟨rfl, j, hp, hfj, hsj⟩ | ⟨_, he⟩
 · exact h2 j hp a' w' hfj hsj
 · exact he
theorem Rn.loop {c : Code} {ι : Type} (G : ι → Env) (Rs Hs : ι → List Pr) (pre : ι → Prop) (μ : ι → Nat) (i0 : ι) (h0 : pre i0) (hle : Le β Γ R H (G i0) (Rs i0) (Hs i0))
   (round : ∀ i, pre i → Rn X β n ds (Exit.then (fun a w => ∃ j, pre j ∧ μ j < μ i ∧ Fr n ds a (G j) ∧ Sat β w (Rs j) (Hs j)) Q) c (G i) (Rs i) (Hs i)) : Rn X β n ds Q (.loop c) Γ R H := by
 intro a w hf hs
 have key : ∀ (a : Act) (w : World), ∃ k : Nat, ∀ m, (∃ i, μ i = m ∧ pre i ∧ Fr n ds a (G i) ∧ Sat β w (Rs i) (Hs i)) → k ≤ m := fun a w => ⟨0, fun _ _ => Nat.zero_le _⟩
 clear key
 classical
 let S : Act → World → Nat → Prop := fun a w m => ∃ i, μ i = m ∧ pre i ∧ Fr n ds a (G i) ∧ Sat β w (Rs i) (Hs i)
 have least : ∀ a w, (∃ m, S a w m) → ∃ m, S a w m ∧ ∀ k, S a w k → m ≤ k := by
   intro a w ⟨m, hm⟩
   induction m using Nat.strongRecOn with
   | _ m ih =>
     by_cases hx : ∃ k, k < m ∧ S a w k
     · obtain ⟨k, hk, hsk⟩ := hx
       exact ih k hk hsk
     · exact ⟨m, hm, fun k hk => Nat.le_of_not_lt fun hlt => hx ⟨k, hlt, hk⟩⟩
 let ν : Act → World → Nat := fun a w => if h : ∃ m, S a w m then Classical.choose (least a w h) else 0
 have hν : ∀ a w, (∃ m, S a w m) → S a w (ν a w) ∧ ∀ k, S a w k → ν a w ≤ k := by
   intro a w h
   have e : ν a w = Classical.choose (least a w h) := dif_pos h
   rw [e]
   exact Classical.choose_spec (least a w h)
 refine ⟨fun a w => ∃ m, S a w m, ν, ⟨_, i0, rfl, h0, hf.le hle.env, hle.sat w hs⟩, fun a1 w1 h1 => ?_⟩
 obtain ⟨⟨i, hm, hp, hfi, hsi⟩, _⟩ := hν a1 w1 h1
 refine rwp_mono c a1 w1 (fun e a2 w2 he => ?_) (round i hp a1 w1 hfi hsi)
 cases e with
 | normal =>
   obtain ⟨j, hpj, hlt, hfj, hsj⟩ := he
   have hx : S a2 w2 (μ j) := ⟨j, rfl, hpj, hfj, hsj⟩
   exact ⟨⟨_, hx⟩, Nat.lt_of_le_of_lt ((hν a2 w2 ⟨_, hx⟩).2 _ hx) (hm ▸ hlt)⟩
 | _ => exact he

/-! ### One round, with read facts, of several values -/
theorem LY.call {d ty : Nat} {pos : String} {af : Array Edge} {f : Nat} {ags : List Operand} {tys : Array TypeId} {args : List Value} {Rf Hf Hr : List Pr} {js js' : List Nat} {Φ : Value → List Pr → List Pr → Prop} (hfn : Ctr X f args Rf Hf Φ)
   (ha : evs Γ ags = some args) (hj : sel H js = Hf) (hj' : sel H js' = Hr) (hn : (js ++ js').Nodup) (hR : Hass R Hr Rf) (hd : Nat.blt d n = true)
   (k : ∀ v R' H', Φ v R' H' → LY X β n ds ops Q rest ((d, v) :: Γ) R (H' ++ Hr)) : LY X β n ds ops Q (⟨some d, .call ⟨.value (.func f), List.toArray ags, tys⟩, ty, pos, af, none⟩ :: rest) Γ R H := by
 intro a w hf hs
 refine wpListIn_plain rfl fun K hK => ⟨fun f _ => trivial, ?_⟩
 rw [Fence.wide_round, Oper.semAt_none, exec_call hfn.1 hf.agree ha _ rfl]
 refine ⟨fun hd => by simp [Fence.wide] at hd, callsIn_wide.2 ((hfn.use hj hj' hn hR hs).mono ?_)⟩
 rintro e w' ⟨v, R', H', hv, rfl, hs'⟩
 exact hK _ _ (k v R' H' hv _ _ (hf.put (by simpa [Nat.blt_eq] using hd) v) hs')
theorem LY.norm {H' : List Pr} (hs : List Nat) (hp : Pk H hs H') (hn : hs.Nodup) (h : LY X β n ds ops Q rest Γ R H') : LY X β n ds ops Q rest Γ R H := fun a w hf hw => h a w hf (hw.pk hp hn)
/-! ### The end of a function with no such loop behind it, or two -/
end
end Go.Sl
