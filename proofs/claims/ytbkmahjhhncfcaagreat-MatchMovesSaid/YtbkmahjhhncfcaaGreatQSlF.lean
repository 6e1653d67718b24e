/-
  The small separation logic, seventh text: a region whose order is drawn and in which some operation makes or writes memory: what only reads may be taken first; what is alone ready is taken then.
-/
import Derived.Test.YtbkmahjhhncfcaaGreatQSlD
namespace Go.Sl

section
variable {P : Program} {ops : Array Oper} {l0 : Array Bool} {md : Region.Mode} {Cl : World → Prop} {Qn : Act → World → Prop}

def opN (P : Program) (ops : Array Oper) (i : Nat) (K : Act → World → Prop) (a : Act) (w : World) : Prop :=
 match ops[i]? with
 | none => K a w
 | some o => if Region.wanted o (yielded ops a.tmps) then o.wp P a w K (fun _ _ _ => False) else K (a.put o.dst undef) w

/-- What has come up has all come up behind what it waits for. -/
def closedB (md : Region.Mode) (ops : Array Oper) (listed : Array Bool) : Bool :=
 (List.range ops.size).all fun e => !listed.getD e false || (match ops[e]? with | some o => o.after.all (fun x => !Region.binds md x || listed.getD x.on false) | none => true)
def Closed (md : Region.Mode) (ops : Array Oper) (listed : Array Bool) : Prop := ∀ (e : Nat) (o : Oper), ops[e]? = some o → listed.getD e false = true → ∀ x ∈ o.after, Region.binds md x = true → listed.getD x.on false = true
theorem closedB_spec {md : Region.Mode} {ops : Array Oper} {listed : Array Bool} (h : closedB md ops listed = true) : Closed md ops listed := by
 intro e o ho hl x hx hb
 have he : e < ops.size := (Array.getElem?_eq_some_iff.1 ho).1
 have := List.all_eq_true.1 h e (List.mem_range.2 he)
 rw [hl, ho] at this
 simp only [Bool.not_true, Bool.false_or] at this
 have h2 := Array.all_eq_true'.1 this x hx
 rw [hb] at h2
 simpa using h2

/-- One operation alone is ready, and it waits for all that has come up: every order passes here. -/
def cutB (md : Region.Mode) (ops : Array Oper) (l0 listed : Array Bool) : Bool :=
 match Region.ready md ops listed with
 | [k] => match ops[k]? with
   | some o => (List.range ops.size).all fun e => !listed.getD e false || l0.getD e false || o.after.any (fun x => Region.binds md x && x.on == e) ||
       (List.range ops.size).any fun q => listed.getD q false && (match ops[q]? with | some oq => oq.after.any (fun x => Region.binds md x && x.on == e) | none => false)
   | none => false
 | _ => false

def wpAnyC (P : Program) (md : Region.Mode) (ops : Array Oper) (l0 : Array Bool) (Cl : World → Prop) (Qn : Act → World → Prop) : Nat → Array Bool → Act → World → Prop
 | 0, listed, a, w => Cl w ∧ Region.ready md ops listed = [] ∧ Qn a w
 | fuel + 1, listed, a, w => Cl w ∧ ((Region.ready md ops listed = [] ∧ Qn a w) ∨ (cutB md ops l0 listed = true ∧ wpAny P md ops (fun e a w => e = .normal ∧ Qn a w) (fuel + 1) listed a w) ∨
     (Region.ready md ops listed ≠ [] ∧ ∀ i ∈ Region.ready md ops listed, opN P ops i (wpAnyC P md ops l0 Cl Qn fuel (listed.setIfInBounds i true)) a w))

theorem wp_weak {o : Oper} {a : Act} {w : World} {K K' : Act → World → Prop} {Q : Exit → Act → World → Prop} (h : ∀ a w, K a w → K' a w) (hh : o.wp P a w K (fun _ _ _ => False)) : o.wp P a w K' Q := by
 unfold Oper.wp at *
 generalize (execOp a.eval o).run P w = r at *
 cases r with
 | ok n w' =>
   cases n <;> simp only [Oper.upon] at hh ⊢ <;>
     first
       | exact h _ _ hh
       | exact hh.elim
       | exact Calls.mono hh (fun e w'' he => by cases e <;> first | exact h _ _ he | exact he.elim | (obtain ⟨_, _, hf⟩ := he; exact hf.elim))
       | exact Rows.mono hh (fun _ _ he => h _ _ he)
 | halt x w' => cases x <;> simp only [Oper.upon] at hh ⊢

theorem opN_weak {i : Nat} {a : Act} {w : World} {K K' : Act → World → Prop} {Q : Exit → Act → World → Prop} (h : ∀ a w, K a w → K' a w) (hh : opN P ops i K a w) : wpOp P ops Q i K' a w := by
 unfold opN at hh
 unfold wpOp
 split
 · rename_i ho; simp only [ho] at hh; exact h _ _ hh
 · rename_i o ho
   simp only [ho] at hh
   split
   · rename_i hw; simp only [hw, if_true] at hh; exact .inl (wp_weak h hh)
   · rename_i hw; simp only [hw] at hh; exact h _ _ hh

theorem wpOp_weakQ {i : Nat} {a : Act} {w : World} {K K' : Act → World → Prop} {Q Q' : Exit → Act → World → Prop} (h : ∀ a w, K a w → K' a w) (hq : ∀ e a w, Q e a w → Q' e a w) (hh : wpOp P ops Q i K a w) : wpOp P ops Q' i K' a w := by
 unfold wpOp at *
 split
 · rename_i ho; simp only [ho] at hh; exact h _ _ hh
 · rename_i o ho
   simp only [ho] at hh
   split
   · rename_i hw
     simp only [hw, if_true] at hh
     rcases hh with hh | ⟨h1, ⟨a', w', h2⟩⟩
     · left
       unfold Oper.wp at *
       generalize (execOp a.eval o).run P w = r at *
       cases r with
       | ok n w' =>
         cases n <;> simp only [Oper.upon] at hh ⊢ <;>
           first
             | exact h _ _ hh
             | exact hh.elim
             | exact Calls.mono hh (fun e w'' he => by cases e <;> first | exact h _ _ he | exact hq _ _ _ he | (obtain ⟨x, y, hf⟩ := he; exact ⟨x, y, hq _ _ _ hf⟩))
             | exact Rows.mono hh (fun _ _ he => h _ _ he)
       | halt x w' => cases x <;> simp only [Oper.upon] at hh ⊢ <;> first | exact hq _ _ _ hh | exact hh.elim
     · exact .inr ⟨h1, a', w', hq _ _ _ h2⟩
   · rename_i hw; simp only [hw] at hh; exact h _ _ hh

theorem wpAny_weak {Q Q' : Exit → Act → World → Prop} (hq : ∀ e a w, Q e a w → Q' e a w) : ∀ (fuel : Nat) (listed : Array Bool) (a : Act) (w : World), wpAny P md ops Q fuel listed a w → wpAny P md ops Q' fuel listed a w
 | 0, _, _, _, h => ⟨h.1, hq _ _ _ h.2⟩
 | fuel + 1, _, _, _, h => ⟨fun h0 => hq _ _ _ (h.1 h0), fun i hi => wpOp_weakQ (fun a' w' h' => wpAny_weak hq fuel _ a' w' h') hq (h.2 i hi)⟩

theorem wpAny_of_C {Q : Exit → Act → World → Prop} (hQ : ∀ a w, Qn a w → Q .normal a w) : ∀ (fuel : Nat) (listed : Array Bool) (a : Act) (w : World), wpAnyC P md ops l0 Cl Qn fuel listed a w → wpAny P md ops Q fuel listed a w
 | 0, _, _, _, h => ⟨h.2.1, hQ _ _ h.2.2⟩
 | fuel + 1, _, _, _, h => by
   rcases h.2 with ⟨h0, h1⟩ | ⟨_, h1⟩ | ⟨h0, h1⟩
   · exact ⟨fun _ => hQ _ _ h1, fun i hi => by rw [h0] at hi; cases hi⟩
   · exact wpAny_weak (fun e a w he => by rw [he.1]; exact hQ _ _ he.2) _ _ _ _ h1
   · exact ⟨fun h => absurd h h0, fun i hi => opN_weak (fun a' w' h' => wpAny_of_C hQ fuel _ a' w' h') (h1 i hi)⟩

/-- In state a the operation hands back v in every world of the class, and leaves the world alone. -/
def Yc (P : Program) (ops : Array Oper) (Cl : World → Prop) (o : Oper) (v : Value) (a : Act) : Prop :=
 (Region.wanted o (yielded ops a.tmps) = true ∧ ∀ w, Cl w → (execOp a.eval o).run P w = .ok (.value v) w) ∨ (Region.wanted o (yielded ops a.tmps) = false ∧ v = undef)

theorem Yc.opN {i : Nat} {o : Oper} {v : Value} {a : Act} {w : World} (hi : ops[i]? = some o) (hy : Yc P ops Cl o v a) (hw : Cl w) {K : Act → World → Prop} (h : K (a.put o.dst v) w) : opN P ops i K a w := by
 unfold Sl.opN
 simp only [hi]
 rcases hy with ⟨h1, h2⟩ | ⟨h1, rfl⟩
 · simp only [h1, if_true]
   unfold Oper.wp
   rw [h2 w hw]
   exact h
 · simp only [h1, Bool.false_eq_true, if_false]
   exact h

theorem opN_put {j : Nat} {oi oj : Oper} {v : Value} (hj : ops[j]? = some oj) (hap : oi.apart ops oj = true) (hsi : ∀ cs b, oi.op ≠ .select cs b) (hsj : ∀ cs b, oj.op ≠ .select cs b) {K : Act → World → Prop} {a : Act} {w : World}
   (hy : Yc P ops Cl oi v a) (h : opN P ops j K (a.put oi.dst v) w) : opN P ops j (fun a' w' => Yc P ops Cl oi v a' ∧ K (a'.put oi.dst v) w') a w := by
 obtain ⟨h1, h2, h3⟩ := Oper.apart_spec hap
 have same : ∀ (a : Act), Yc P ops Cl oi v a → ∀ u, Yc P ops Cl oi v (a.put oj.dst u) := fun a hy u => by
   unfold Yc at *
   rw [execOp_put oi hsi a oj.dst u h3, wanted_put oi a oj.dst u h3]
   exact hy
 have same' : ∀ (a : Act) (d : List Deferred), Yc P ops Cl oi v a → Yc P ops Cl oi v { a with defers := d } := fun a d hy => hy
 unfold opN at *
 simp only [hj] at *
 rw [wanted_put oj a oi.dst v h1] at h
 split
 · rename_i hw
   simp only [hw, if_true] at h
   unfold Oper.wp at *
   rw [execOp_put oj hsj a oi.dst v h1] at h
   generalize (execOp a.eval oj).run P w = r at *
   have comm : ∀ (a : Act) u, (a.put oi.dst v).put oj.dst u = (a.put oj.dst u).put oi.dst v := fun a u => Act.put_comm a v u h2
   cases r with
   | ok nx w' =>
     cases nx <;> simp only [Oper.upon] at h ⊢
     case value u => exact ⟨same a hy u, by rw [← comm]; exact h⟩
     case skip => exact ⟨same a hy _, by rw [← comm]; exact h⟩
     case defer d =>
       refine ⟨same _ (same' a _ hy) _, ?_⟩
       rw [Act.put_defers] at h
       rw [← comm]
       exact h
     case enter f args => exact Calls.mono h (fun e w'' he => by
       cases e with
       | returned u => exact ⟨same a hy u, by rw [← comm]; exact he⟩
       | panicked c => exact he.elim
       | outgrown => obtain ⟨_, _, hf⟩ := he; exact hf.elim)
     case row r args => exact Rows.mono h (fun u w'' he => ⟨same a hy u, by rw [← comm]; exact he⟩)
   | halt x w' => cases x <;> simp only [Oper.upon] at h ⊢
 · rename_i hw
   simp only [hw] at h
   exact ⟨same a hy _, by rw [← Act.put_comm a v undef h2]; exact h⟩

theorem opN_mono {i : Nat} {a : Act} {w : World} {K K' : Act → World → Prop} (h : ∀ a w, K a w → K' a w) (hh : opN P ops i K a w) : opN P ops i K' a w := by
 unfold opN at *
 split
 · rename_i ho; simp only [ho] at hh; exact h _ _ hh
 · rename_i o ho
   simp only [ho] at hh
   split
   · rename_i hw; simp only [hw, if_true] at hh; exact wp_weak h hh
   · rename_i hw; simp only [hw] at hh; exact h _ _ hh

theorem cutB_spec {l0 listed : Array Bool} (h : cutB md ops l0 listed = true) : ∃ k o, Region.ready md ops listed = [k] ∧ ops[k]? = some o ∧ ∀ e, e < ops.size → listed.getD e false = true → l0.getD e false = false → (∃ x ∈ o.after, Region.binds md x = true ∧ x.on = e) ∨
   ∃ (q : Nat) (oq : Oper), listed.getD q false = true ∧ ops[q]? = some oq ∧ ∃ x ∈ oq.after, Region.binds md x = true ∧ x.on = e := by
 unfold cutB at h
 split at h
 · rename_i k hk
   split at h
   · rename_i o ho
     refine ⟨k, o, hk, ho, fun e he hl hl0 => ?_⟩
     have := List.all_eq_true.1 h e (List.mem_range.2 he)
     rw [hl, hl0] at this
     simp only [Bool.not_true, Bool.false_or, Bool.or_eq_true] at this
     rcases this with this | this
     · obtain ⟨x, hx, hb⟩ := Array.any_eq_true'.1 this
       simp only [Bool.and_eq_true, beq_iff_eq] at hb
       exact .inl ⟨x, hx, hb⟩
     · obtain ⟨q, _, hq⟩ := List.any_eq_true.1 this
       simp only [Bool.and_eq_true] at hq
       obtain ⟨hq1, hq2⟩ := hq
       split at hq2
       · rename_i oq hoq
         obtain ⟨x, hx, hb⟩ := Array.any_eq_true'.1 hq2
         simp only [Bool.and_eq_true, beq_iff_eq] at hb
         exact .inr ⟨q, oq, hq1, hoq, x, hx, hb⟩
       · cases hq2
   · cases h
 · cases h

theorem wpAnyC_first {i : Nat} {oi : Oper} {v : Value} (hi : ops[i]? = some oi) (hsel : ∀ (j : Nat) (o : Oper) cs b, ops[j]? = some o → o.op ≠ .select cs b) :
   ∀ (fuel : Nat) (listed : Array Bool) (a : Act) (w : World), listed.size = ops.size → (∀ e, l0.getD e false = true → listed.getD e false = true) →
     (∀ j oj, ops[j]? = some oj → j ≠ i → listed.getD j true = false → (∀ e ∈ oj.after, Region.binds md e = true → e.on ≠ i) → oi.apart ops oj = true) →
     i ∈ Region.ready md ops listed → Closed md ops listed → Yc P ops Cl oi v a → Cl w →
     wpAnyC P md ops l0 Cl Qn fuel (listed.setIfInBounds i true) (a.put oi.dst v) w → wpAnyC P md ops l0 Cl Qn (fuel + 1) listed a w := by
 intro fuel
 induction fuel with
 | zero =>
   intro listed a w _ _ _ hr _ hy hw H
   refine ⟨hw, .inr (.inr ⟨fun h => (by rw [h] at hr; cases hr), fun j hj => ?_⟩)⟩
   by_cases hji : j = i
   · subst hji; exact hy.opN hi hw H
   · have := ready_mono hj hji
     rw [H.2.1] at this
     cases this
 | succ fuel ih =>
   intro listed a w hsz hl0 hfree hr hcl hy hw H
   refine ⟨hw, .inr (.inr ⟨fun h => (by rw [h] at hr; cases hr), fun j hj => ?_⟩)⟩
   by_cases hji : j = i
   · subst hji; exact hy.opN hi hw H
   · rcases H.2 with ⟨H0, _⟩ | ⟨Hc, _⟩ | ⟨_, H2⟩
     · have := ready_mono hj hji
       rw [H0] at this
       cases this
     · obtain ⟨k, o, hk, ho, hall⟩ := cutB_spec Hc
       have hjk := ready_mono hj hji
       rw [hk] at hjk
       obtain rfl : j = k := by simpa using hjk
       have hlt : i < ops.size := (Array.getElem?_eq_some_iff.1 hi).1
       have hi0 : l0.getD i false = false := by
         cases hq : l0.getD i false with
         | false => rfl
         | true =>
           have h1 := hl0 i hq
           have h0 := (mem_ready.1 hr).1
           simp [hsz, hlt] at h0 h1
           rw [h0] at h1
           cases h1
       rcases hall i hlt (by simp [hsz, hlt]) hi0 with ⟨x, hx, hb, hxi⟩ | ⟨q, oq, hq1, hoq, x, hx, hb, hxi⟩
       rotate_left
       · exfalso
         have hqi : q ≠ i := by
           rintro rfl
           obtain ⟨hun, o', ho', hw'⟩ := mem_ready.1 hr
           rw [hoq] at ho'
           injection ho' with ho'
           subst ho'
           have h1 := hw' x hx hb
           rw [hxi] at h1
           simp [hsz, hlt] at hun h1
           rw [hun] at h1
           cases h1
         rw [getD_set_ne false (Ne.symm hqi)] at hq1
         have h1 := hcl q oq hoq hq1 x hx hb
         have hun := (mem_ready.1 hr).1
         rw [hxi] at h1
         simp [hsz, hlt] at hun h1
         rw [hun] at h1
         cases h1
       obtain ⟨_, o', ho', hw'⟩ := mem_ready.1 hj
       rw [ho] at ho'
       injection ho' with ho'
       subst ho'
       have h1 := hw' x hx hb
       have h0 := (mem_ready.1 hr).1
       rw [hxi] at h1
       simp [hsz, hlt] at h0 h1
       rw [h0] at h1
       cases h1
     · have h1 := H2 j (ready_mono hj hji)
       obtain ⟨hjun, oj, hoj, hall⟩ := mem_ready.1 hj
       have hnot : ∀ e ∈ oj.after, Region.binds md e = true → e.on ≠ i := fun e he hb heq => by
         have h1 := hall e he hb
         have h0 := (mem_ready.1 hr).1
         rw [heq] at h1
         rcases Nat.lt_or_ge i listed.size with h' | h'
         · simp [h'] at h0 h1; rw [h0] at h1; cases h1
         · simp [Array.getElem?_eq_none h'] at h1
       have h2 := opN_put hoj (hfree j oj hoj hji hjun hnot) (fun cs b => hsel i oi cs b hi) (fun cs b => hsel j oj cs b hoj) hy h1
       have hfree' : ∀ k ok, ops[k]? = some ok → k ≠ i → (listed.setIfInBounds j true).getD k true = false →
           (∀ e ∈ ok.after, Region.binds md e = true → e.on ≠ i) → oi.apart ops ok = true := fun k ok hk hki hun hno => by
         refine hfree k ok hk hki ?_ hno
         by_cases hjk : j = k
         · subst hjk; exact hjun
         · rw [getD_set_ne true hjk] at hun; exact hun
       refine opN_mono (fun a' w' h3 => ?_) h2
       have h4 : wpAnyC P md ops l0 Cl Qn fuel ((listed.setIfInBounds i true).setIfInBounds j true) (a'.put oi.dst v) w' := h3.2
       have hw' : Cl w' := by cases fuel <;> exact h4.1
       have hcl' : Closed md ops (listed.setIfInBounds j true) := by
         intro e o ho hl x hx hb
         have up : ∀ q, listed.getD q false = true → (listed.setIfInBounds j true).getD q false = true := fun q hq => by
           by_cases hjq : j = q
           · subst hjq
             have : j < ops.size := (Array.getElem?_eq_some_iff.1 hoj).1
             simp [hsz, this]
           · rw [getD_set_ne false hjq]; exact hq
         by_cases hje : j = e
         · subst hje
           rw [hoj] at ho
           injection ho with ho
           subst ho
           have h1 := hall x hx hb
           refine up _ ?_
           rcases Nat.lt_or_ge x.on listed.size with h' | h'
           · simpa [h'] using h1
           · simp [Array.getElem?_eq_none h'] at h1
         · rw [getD_set_ne false hje] at hl
           exact up _ (hcl e o ho hl x hx hb)
       refine ih (listed.setIfInBounds j true) a' w' (by simpa using hsz) (fun e he => getD_set_true (hl0 e he)) hfree' (ready_mono hr (Ne.symm hji)) hcl' h3.1 hw' ?_
       rw [Array.setIfInBounds_comm _ _ hji]
       exact h4

theorem wpAnyC_only {i : Nat} {fuel : Nat} {listed : Array Bool} {a : Act} {w : World} (hr : Region.ready md ops listed = [i]) (hw : Cl w)
   (h : opN P ops i (wpAnyC P md ops l0 Cl Qn fuel (listed.setIfInBounds i true)) a w) : wpAnyC P md ops l0 Cl Qn (fuel + 1) listed a w := by
 refine ⟨hw, .inr (.inr ⟨fun h0 => (by rw [hr] at h0; cases h0), fun j hj => ?_⟩)⟩
 rw [hr] at hj
 obtain rfl : j = i := by simpa using hj
 exact h

theorem wpAnyC_end {fuel : Nat} {listed : Array Bool} {a : Act} {w : World} (hr : Region.ready md ops listed = []) (hw : Cl w) (h : Qn a w) : wpAnyC P md ops l0 Cl Qn fuel listed a w := by
 cases fuel with
 | zero => exact ⟨hw, hr, h⟩
 | succ fuel => exact ⟨hw, .inl ⟨hr, h⟩⟩
end

section
variable {X : Cx} {β : Base} {n : Nat} {ds : List Deferred} {Q : Exit → Act → World → Prop} {Γ : Env} {R H Rc : List Pr}

/-- Rc: the facts that hold all through the region. -/
def LM (X : Cx) (β : Base) (n : Nat) (ds : List Deferred) (ops : Array Oper) (l0 : Array Bool) (Rc : List Pr) (Q : Exit → Act → World → Prop) (fuel : Nat) (listed : Array Bool) (Γ : Env) (R H : List Pr) : Prop :=
 ∀ a w, listed.size = ops.size → (∀ e, l0.getD e false = true → listed.getD e false = true) → Fr n ds a Γ → Sat β w R H → wpAnyC X.P .any ops l0 (fun w => Sat β w Rc []) (fun a w => Q .normal a w) fuel listed a w

/-- That the facts Rc follow. -/
theorem Sat.common {w : World} (h : Sat β w R H) (hc : Hass R H Rc) : Sat β w Rc [] := by
 refine ⟨h.ext, fun r hr => (hc.all r hr).1 β w h, fun r hr k hk => ?_, fun i c hi => by simp at hi, fun i c hi => by simp at hi, fun i j c d hi => by simp at hi, fun r hr j c hj => by simp at hj⟩
 rcases (hc.all r hr).2 k hk with ⟨r', hr', hk'⟩ | ⟨i, c, hi, hk'⟩
 · exact h.rfp r' hr' k hk'
 · have := h.ofp i c hi k hk'
   exact ⟨this.1, by rcases this.2 with y | y; exact .inl y; exact .inr (.inl y)⟩

theorem C.regionM {id : Nat} {l : List Oper} (Rc : List Pr) (_hc : Hass R H Rc) (h : LM X β n ds (List.toArray l) (Array.replicate l.length false) Rc Q l.length (Array.replicate l.length false) Γ R H) : C X β n ds Q (.region id (List.toArray l) true) Γ R H := by
 intro a w hf hs
 refine wp_region_any X.mixed (wpAny_of_C (l0 := Array.replicate l.length false) (Cl := fun w => Sat β w Rc []) (Qn := fun a w => Q .normal a w) (fun _ _ h => h) _ _ _ _ ?_)
 have := h a w.drew (by simp) (fun _ h => h) hf (hs.same (Stp.drew w _))
 simpa using this

variable {ops : Array Oper} {fuel : Nat} {l0 listed : Array Bool}

theorem LM.q (i : Nat) {op : Op} {v : Value} {d ty : Nat} {pos : String} {af : Array Edge} (hi : ops[i]? = some ⟨some d, op, ty, pos, af, none⟩) (hB : (Region.noSelect ops && (Region.ready .any ops listed).contains i && Region.free .any ops listed i && closedB .any ops listed) = true)
   (h : Ev X β Γ Rc [] op v) (hd : Nat.blt d n = true) (hc : Hass R H Rc) (k : LM X β n ds ops l0 Rc Q fuel (listed.setIfInBounds i true) ((d, v) :: Γ) R H) : LM X β n ds ops l0 Rc Q (fuel + 1) listed Γ R H := by
 intro a w hz h0 hf hs
 simp only [Bool.and_eq_true] at hB
 refine wpAnyC_first hi (Region.noSelect_spec hB.1.1.1) fuel listed a w hz h0 (Region.free_spec hi hB.1.2) (by simpa using hB.1.1.2) (closedB_spec hB.2) (.inl ⟨rfl, fun w hw => h a.eval w hf.agree hw _ rfl⟩) (hs.common hc) ?_
 exact k _ _ (by simpa using hz) (fun e he => getD_set_true (h0 e he)) (hf.put (by simpa [Nat.blt_eq] using hd) v) hs

/-- The same behind a guard that says yes. -/
theorem LM.qy (i : Nat) {op : Op} {v : Value} {d ty g : Nat} {b : Bool} {pos : String} {af : Array Edge} (hi : ops[i]? = some ⟨some d, op, ty, pos, af, some (g, b)⟩) (hB : (Region.noSelect ops && (Region.ready .any ops listed).contains i && Region.free .any ops listed i && closedB .any ops listed) = true)
   (hg : gval ops Γ g = some (.bool b)) (h : Ev X β Γ Rc [] op v) (hd : Nat.blt d n = true) (hc : Hass R H Rc) (k : LM X β n ds ops l0 Rc Q fuel (listed.setIfInBounds i true) ((d, v) :: Γ) R H) : LM X β n ds ops l0 Rc Q (fuel + 1) listed Γ R H := by
 intro a w hz h0 hf hs
 simp only [Bool.and_eq_true] at hB
 have hy := gval_yielded (ops := ops) hf hg
 refine wpAnyC_first hi (Region.noSelect_spec hB.1.1.1) fuel listed a w hz h0 (Region.free_spec hi hB.1.2) (by simpa using hB.1.1.2) (closedB_spec hB.2) (.inl ⟨by simp [Region.wanted, hy], fun w hw => h a.eval w hf.agree hw _ rfl⟩) (hs.common hc) ?_
 exact k _ _ (by simpa using hz) (fun e he => getD_set_true (h0 e he)) (hf.put (by simpa [Nat.blt_eq] using hd) v) hs

/-- An operation whose guard says no. -/
theorem LM.no (i : Nat) {op : Op} {v : Value} {d ty g : Nat} {b : Bool} {pos : String} {af : Array Edge} (hi : ops[i]? = some ⟨some d, op, ty, pos, af, some (g, b)⟩) (hB : (Region.noSelect ops && (Region.ready .any ops listed).contains i && Region.free .any ops listed i && closedB .any ops listed) = true)
   (hg : gval ops Γ g = some v) (hv : (match v with | .bool c => c == b | _ => false) = false) (hd : Nat.blt d n = true) (hc : Hass R H Rc) (k : LM X β n ds ops l0 Rc Q fuel (listed.setIfInBounds i true) ((d, undef) :: Γ) R H) : LM X β n ds ops l0 Rc Q (fuel + 1) listed Γ R H := by
 intro a w hz h0 hf hs
 simp only [Bool.and_eq_true] at hB
 have hy := gval_yielded (ops := ops) hf hg
 have hw : Region.wanted ⟨some d, op, ty, pos, af, some (g, b)⟩ (yielded ops a.tmps) = false := by
   simp only [Region.wanted, hy]
   cases v <;> simp_all
 refine wpAnyC_first hi (Region.noSelect_spec hB.1.1.1) fuel listed a w hz h0 (Region.free_spec hi hB.1.2) (by simpa using hB.1.1.2) (closedB_spec hB.2) (.inr ⟨hw, rfl⟩) (hs.common hc) ?_
 exact k _ _ (by simpa using hz) (fun e he => getD_set_true (h0 e he)) (hf.put (by simpa [Nat.blt_eq] using hd) undef) hs

/-- What comes behind the one operation. -/
def QM (X : Cx) (β : Base) (ops : Array Oper) (l0 : Array Bool) (Rc : List Pr) (Q : Exit → Act → World → Prop) (fuel : Nat) (listed : Array Bool) : Exit → Act → World → Prop
 | .normal, a, w => wpAnyC X.P .any ops l0 (fun w => Sat β w Rc []) (fun a w => Q .normal a w) fuel listed a w
 | _, _, _ => False

theorem opN_of_L {i : Nat} {o : Oper} (hi : ops[i]? = some o) {a : Act} {w : World} (this : wpList X.P ops (QM X β ops l0 Rc Q fuel (listed.setIfInBounds i true)) [o] a w) :
   opN X.P ops i (wpAnyC X.P .any ops l0 (fun w => Sat β w Rc []) (fun a w => Q .normal a w) fuel (listed.setIfInBounds i true)) a w := by
 unfold opN
 simp only [hi]
 simp only [wpList] at this
 split
 · rename_i hw
   simp only [hw, if_true] at this
   rcases this with h1 | ⟨_, h1⟩
   · unfold Oper.wp at *
     generalize (execOp a.eval o).run X.P w = r at *
     cases r with
     | ok nx w' =>
       cases nx <;> simp only [Oper.upon] at h1 ⊢ <;>
         first
           | exact h1
           | exact h1.elim
           | exact Calls.mono h1 (fun e w'' he => by cases e <;> first | exact he | exact he.elim | (obtain ⟨_, _, hf⟩ := he; exact hf.elim))
     | halt x w' => cases x <;> simp only [Oper.upon] at h1 ⊢ <;> exact h1.elim
   · obtain ⟨_, _, hf⟩ := h1
     exact hf.elim
 · rename_i hw
   simp only [hw] at this
   exact this

theorem LM.f (i : Nat) {o : Oper} (hi : ops[i]? = some o) (hr : Region.ready .any ops listed = [i]) (hc : Hass R H Rc) (h : L X β n ds ops (QM X β ops l0 Rc Q fuel (listed.setIfInBounds i true)) [o] Γ R H) : LM X β n ds ops l0 Rc Q (fuel + 1) listed Γ R H :=
 fun a w _ _ hf hs => wpAnyC_only hr (hs.common hc) (opN_of_L hi (h a w hf hs))

def Alls : List Nat → (Nat → Prop) → Prop
 | [], _ => True
 | i :: is, p => p i ∧ Alls is p

theorem Alls.mem {p : Nat → Prop} : ∀ {l : List Nat}, Alls l p → ∀ i ∈ l, p i
 | [], _, i, h => by cases h
 | j :: js, hp, i, h => by
   rcases List.mem_cons.1 h with rfl | h
   · exact hp.1
   · exact Alls.mem hp.2 i h

/-- Several are ready, none of which may be taken first: each of them. -/
theorem LM.alt (l : List Nat) (hr : Region.ready .any ops listed = l) (hl : l ≠ []) (hc : Hass R H Rc) (h : Alls l fun i => ∃ o, ops[i]? = some o ∧ L X β n ds ops (QM X β ops l0 Rc Q fuel (listed.setIfInBounds i true)) [o] Γ R H) : LM X β n ds ops l0 Rc Q (fuel + 1) listed Γ R H := by
 intro a w _ _ hf hs
 refine ⟨hs.common hc, .inr (.inr ⟨by rw [hr]; exact hl, fun j hj => ?_⟩)⟩
 rw [hr] at hj
 obtain ⟨o, ho, hL⟩ := h.mem j hj
 exact opN_of_L ho (hL a w hf hs)

def inB (l0 listed : Array Bool) : Bool := (List.range l0.size).all fun e => !l0.getD e false || listed.getD e false
theorem inB_spec {l0 listed : Array Bool} (h : inB l0 listed = true) : ∀ e, l0.getD e false = true → listed.getD e false = true := by
 intro e he
 rcases Nat.lt_or_ge e l0.size with g | g
 · have := List.all_eq_true.1 h e (List.mem_range.2 g)
   rw [he] at this
   simpa using this
 · rw [Array.getD_eq_getD_getElem?, Array.getElem?_eq_none g] at he
   cases he
theorem QE.m (hz : (listed.size == ops.size && inB l0 listed) = true) (h : LM X β n ds ops l0 Rc Q fuel listed Γ R H) : QE β n ds (QM X β ops l0 Rc Q fuel listed) .normal Γ R H := fun a w hf hs => h a w (by simp only [Bool.and_eq_true] at hz; simpa using hz.1) (inB_spec (by simp only [Bool.and_eq_true] at hz; exact hz.2)) hf hs

theorem Lnm {o : Array Oper} (hz : (listed.size == ops.size && inB l0 listed) = true) (h : LM X β n ds ops l0 Rc Q fuel listed Γ R H) : L X β n ds o (QM X β ops l0 Rc Q fuel listed) [] Γ R H := L.nil (QE.m hz h)
theorem LM.nil (hr : Region.ready .any ops listed = []) (hc : Hass R H Rc) (h : QE β n ds Q .normal Γ R H) : LM X β n ds ops l0 Rc Q fuel listed Γ R H :=
 fun a w _ _ hf hs => wpAnyC_end hr (hs.common hc) (h a w hf hs)

/-- Every order passes here: from here on other facts hold all through. -/
theorem LM.cut (Rc' : List Pr) (hcut : cutB .any ops l0 listed = true) (hc : Hass R H Rc) (h : LM X β n ds ops l0 Rc' Q (fuel + 1) listed Γ R H) : LM X β n ds ops l0 Rc Q (fuel + 1) listed Γ R H := by
 intro a w hz h0 hf hs
 exact ⟨hs.common hc, .inr (.inl ⟨hcut, wpAny_of_C (fun a w hq => ⟨rfl, hq⟩) _ _ _ _ (h a w hz h0 hf hs)⟩)⟩

theorem LM.bool (s : Nat) {b : Bool} (hb : look s Γ = some (.bool b)) (ht : b = true → LM X β n ds ops l0 Rc Q fuel listed ((s, .bool true) :: Γ) R H) (he : b = false → LM X β n ds ops l0 Rc Q fuel listed ((s, .bool false) :: Γ) R H) : LM X β n ds ops l0 Rc Q fuel listed Γ R H := by
 intro a w hz h0 hf hs
 have h1 : ∀ c : Bool, b = c → Fr n ds a ((s, .bool c) :: Γ) := by
   rintro c rfl
   refine ⟨hf.size, hf.dfs, fun t u hu => ?_⟩
   simp only [look] at hu
   cases hbq : Nat.beq t s with
   | true =>
     rw [hbq] at hu
     obtain rfl := Nat.eq_of_beq_eq_true hbq
     simp only [cond_true, Option.some.injEq] at hu
     subst hu
     exact hf.vals t _ hb
   | false =>
     rw [hbq] at hu
     exact hf.vals t u hu
 cases hbb : b with
 | true => exact ht hbb a w hz h0 (h1 true hbb) hs
 | false => exact he hbb a w hz h0 (h1 false hbb) hs

/-! ### Moves that are taken ahead of all else -/
def LP (X : Cx) (β : Base) (n : Nat) (ds : List Deferred) (ops : Array Oper) (Q : Exit → Act → World → Prop) (fuel : Nat) (listed : Array Bool) (Γ : Env) (R H : List Pr) : Prop :=
 ∀ a w, listed.size = ops.size → Fr n ds a Γ → Sat β w R H → wpAny X.P .any ops (fun e a w => e = .normal ∧ Q .normal a w) fuel listed a w
theorem C.regionP {id : Nat} {l : List Oper} (h : LP X β n ds (List.toArray l) Q l.length (Array.replicate l.length false) Γ R H) : C X β n ds Q (.region id (List.toArray l) true) Γ R H := by
 intro a w hf hs
 refine wp_region_any X.mixed (wpAny_weak (Q := fun e a w => e = .normal ∧ Q .normal a w) (fun e a w he => by rw [he.1]; exact he.2) _ _ _ _ ?_)
 have := h a w.drew (by simp) hf (hs.same (Stp.drew w _))
 simpa using this
theorem LP.mv (i : Nat) {x : Operand} {v : Value} {d ty : Nat} {pos : String} {af : Array Edge} (hi : ops[i]? = some ⟨some d, .move x, ty, pos, af, none⟩) (hB : (Region.noSelect ops && (Region.ready .any ops listed).contains i && Region.free .any ops listed i) = true)
   (h : ev Γ x = some v) (hd : Nat.blt d n = true) (k : LP X β n ds ops Q fuel (listed.setIfInBounds i true) ((d, v) :: Γ) R H) : LP X β n ds ops Q (fuel + 1) listed Γ R H := by
 intro a w hz hf hs
 simp only [Bool.and_eq_true] at hB
 refine wpAny_take (v := v) hi hB.1.1 hB.2 hB.1.2 (fun _ _ _ he => by cases he.1) (.inl ⟨rfl, fun w => by simp [execOp, hf.agree _ _ h]⟩) ?_
 exact k _ _ (by simpa using hz) (hf.put (by simpa [Nat.blt_eq] using hd) v) hs
theorem LP.m (Rc : List Pr) (_hc : Hass R H Rc) (h : LM X β n ds ops listed Rc Q fuel listed Γ R H) : LP X β n ds ops Q fuel listed Γ R H := fun a w hz hf hs =>
 wpAny_of_C (l0 := listed) (Cl := fun w => Sat β w Rc []) (Qn := fun a w => Q .normal a w) (fun _ _ hq => ⟨rfl, hq⟩) _ _ _ _ (h a w hz (fun _ h => h) hf hs)

/-! ### More on control -/
variable {e : Exit} {id : Nat} {K : Act → World → Prop}
theorem QE.tX (h : QE β n ds Q (.exit id) Γ R H) : QE β n ds (Exit.then K Q) (.exit id) Γ R H := h
theorem QE.tR (h : QE β n ds Q .ret Γ R H) : QE β n ds (Exit.then K Q) .ret Γ R H := h
theorem QE.bR (h : QE β n ds Q .ret Γ R H) : QE β n ds (Exit.inBlock id Q) .ret Γ R H := h

/-- Ways that meet again. -/
theorem C.seqJ {x y : Code} {ι : Type} (G : ι → Env) (Rs Hs : ι → List Pr) (pre : ι → Prop) (h : C X β n ds (Exit.then (fun a w => ∃ j, pre j ∧ Fr n ds a (G j) ∧ Sat β w (Rs j) (Hs j)) Q) x Γ R H) (h2 : ∀ j, pre j → C X β n ds Q y (G j) (Rs j) (Hs j)) :
   C X β n ds Q (.seq x y) Γ R H := by
 intro a w hf hs
 refine wp_seq (wp_mono (h a w hf hs) fun e a' w' he => ?_)
 cases e with
 | normal =>
   obtain ⟨j, hp, hfj, hsj⟩ := he
   exact h2 j hp a' w' hfj hsj
 | _ => exact he

theorem QE.join {ι : Type} {G : ι → Env} {Rs Hs : ι → List Pr} {pre : ι → Prop} (j : ι) (hp : pre j) (hl : Le β Γ R H (G j) (Rs j) (Hs j)) :
   QE β n ds (Exit.then (fun a w => ∃ j, pre j ∧ Fr n ds a (G j) ∧ Sat β w (Rs j) (Hs j)) Q) .normal Γ R H :=
 fun _ w hf hs => ⟨j, hp, hf.le hl.env, hl.sat w hs⟩

/-- A statement behind which ways meet again. -/
theorem C.join {c : Code} {ι : Type} (G : ι → Env) (Rs Hs : ι → List Pr) (pre : ι → Prop) (h : C X β n ds (fun e a w => (e = .normal ∧ ∃ j, pre j ∧ Fr n ds a (G j) ∧ Sat β w (Rs j) (Hs j)) ∨ (e ≠ .normal ∧ Q e a w)) c Γ R H) (h2 : ∀ j, pre j → QE β n ds Q .normal (G j) (Rs j) (Hs j)) :
   C X β n ds Q c Γ R H := by
 intro a w hf hs
 refine wp_mono (h a w hf hs) fun e a' w' he => ?_
 rcases he with ⟨rfl, j, hp, hfj, hsj⟩ | ⟨_, he⟩
 · exact h2 j hp a' w' hfj hsj
 · exact he
theorem QE.joined {ι : Type} {G : ι → Env} {Rs Hs : ι → List Pr} {pre : ι → Prop} (j : ι) (hp : pre j) (hl : Le β Γ R H (G j) (Rs j) (Hs j)) :
   QE β n ds (fun e a w => (e = .normal ∧ ∃ j, pre j ∧ Fr n ds a (G j) ∧ Sat β w (Rs j) (Hs j)) ∨ (e ≠ .normal ∧ Q e a w)) .normal Γ R H :=
 fun _ w hf hs => .inl ⟨rfl, j, hp, hf.le hl.env, hl.sat w hs⟩

end
end Go.Sl
