/-
  Part of a proof.
-/
import Derived.Test.YtbpddeiogcgegaaGreatYSlD
set_option maxHeartbeats 0
set_option maxRecDepth 4000
set_option linter.all false
namespace Go.Sl
section
variable {P:Program}{ops:Array Oper}{l0:Array Bool}{md:Region.Mode}{Cl:World→Prop}{Qn:Act→World→Prop}{Qf:Exit→Act→World→Prop}
def bg (Q:Exit→Act→World→Prop):Prop:=(∀ (ch:List PanicEntry) (a:Act) (d:Option Nat) (v:Value) (w:World),Q (.panic ch) (a.put d v) w→Q (.panic ch) a w)∧∀ (a:Act) (w:World),¬ Q .outgrown a w
def opN (P:Program)(ops:Array Oper)(Qx:Exit→Act→World→Prop)(i:Nat)(K:Act→World→Prop)(a:Act)(w:World):Prop:=
  match ops[i]? with
  |none=>K a w
  |some o=>if Region.wanted o (yielded ops a.tmps) then o.wp P a w K Qx else K (a.put o.dst undef) w
def gD (md:Region.Mode)(ops:Array Oper)(listed:Array Bool):Bool:=
  (List.range ops.size).all fun e=> !listed.getD e false||(match ops[e]? with|some o=>o.after.all (fun x=> !Region.binds md x||listed.getD x.on false)|none=>true)
def CY (md:Region.Mode)(ops:Array Oper)(listed:Array Bool):Prop:=∀ (e:Nat) (o:Oper),ops[e]?=some o→listed.getD e false=true→∀ x∈o.after,Region.binds md x=true→listed.getD x.on false=true
theorem fA {md:Region.Mode}{ops:Array Oper}{listed:Array Bool}(h:gD md ops listed=true):CY md ops listed:=by
 intro e o ho hl x hx hb;have he:e<ops.size:=(Array.getElem?_eq_some_iff.1 ho).1;have:=List.all_eq_true.1 h e (List.mem_range.2 he);rw [hl,ho] at this
 simp only [Bool.not_true,Bool.false_or] at this;have h2:=Array.all_eq_true'.1 this x hx;rw [hb] at h2
 simpa using h2
def MC (md:Region.Mode)(ops:Array Oper)(l0 listed:Array Bool):Bool:=
  match Region.ready md ops listed with
  |[k]=>match ops[k]? with
    |some o=>(List.range ops.size).all fun e=> !listed.getD e false||l0.getD e false||o.after.any (fun x=>Region.binds md x&&x.on==e)||
        (List.range ops.size).any fun q=>listed.getD q false&&(match ops[q]? with|some oq=>oq.after.any (fun x=>Region.binds md x&&x.on==e)|none=>false)
    |none=>false
  |_=>false
def fk (P:Program)(md:Region.Mode)(ops:Array Oper)(l0:Array Bool)(Cl:World→Prop)(Qn:Act→World→Prop)(Qf:Exit→Act→World→Prop):Nat→Array Bool→Act→World→Prop
  |0,listed,a,w=>Cl w∧Region.ready md ops listed=[]∧Qn a w
  |fuel+1,listed,a,w=>Cl w∧((Region.ready md ops listed=[]∧Qn a w)∨(MC md ops l0 listed=true∧wpAny P md ops Qf (fuel+1) listed a w)∨
      (Region.ready md ops listed≠[]∧∀ i∈Region.ready md ops listed,opN P ops Qf i (fk P md ops l0 Cl Qn Qf fuel (listed.setIfInBounds i true)) a w))
theorem yx {o:Oper}{a:Act}{w:World}{K K':Act→World→Prop}{Qx Q:Exit→Act→World→Prop}(h:∀ a w,K a w→K' a w)(hq:∀ e a w,Qx e a w→Q e a w)(hh:o.wp P a w K Qx):o.wp P a w K' Q:=by
 unfold Oper.wp at*
 generalize (execOp a.eval o).run P w=r at*
 cases r with
 |ok n w'=>
  cases n<;>simp only [Oper.upon] at hh ⊢<;>
   first
    |exact h _ _ hh
    |exact hh.elim
    |exact Calls.mono hh (fun e w'' he=>by cases e<;>first|exact h _ _ he|exact hq _ _ _ he|(obtain ⟨x,y,hf⟩:=he;exact ⟨x,y,hq _ _ _ hf⟩))
    |exact Rows.mono hh (fun _ _ he=>h _ _ he)
 |halt x w'=>cases x<;>simp only [Oper.upon] at hh ⊢<;>first|exact hq _ _ _ hh|exact hh.elim
theorem Ek {i:Nat}{a:Act}{w:World}{K K':Act→World→Prop}{Qx Q:Exit→Act→World→Prop}(h:∀ a w,K a w→K' a w)(hq:∀ e a w,Qx e a w→Q e a w)(hh:opN P ops Qx i K a w):wpOp P ops Q i K' a w:=by
 unfold opN at hh
 unfold wpOp
 split
 ·rename_i ho
  simp only [ho] at hh
  exact h _ _ hh
 rename_i o ho
 simp only [ho] at hh
 split
 ·rename_i hw
  simp only [hw,if_true] at hh
  exact .inl (yx h hq hh)
 rename_i hw
 simp only [hw] at hh
 exact h _ _ hh
theorem xo {i:Nat}{a:Act}{w:World}{K K':Act→World→Prop}{Q Q':Exit→Act→World→Prop}(h:∀ a w,K a w→K' a w)(hq:∀ e a w,Q e a w→Q' e a w)(hh:wpOp P ops Q i K a w):wpOp P ops Q' i K' a w:=by
 unfold wpOp at*
 split
 ·rename_i ho
  simp only [ho] at hh
  exact h _ _ hh
 rename_i o ho
 simp only [ho] at hh
 split
 ·rename_i hw
  simp only [hw,if_true] at hh
  rcases hh with hh|⟨h1,⟨a',w',h2⟩⟩
  ·left
   unfold Oper.wp at*
   generalize (execOp a.eval o).run P w=r at*
   cases r with
   |ok n w'=>
    cases n<;>simp only [Oper.upon] at hh ⊢<;>
     first
      |exact h _ _ hh
      |exact hh.elim
      |exact Calls.mono hh (fun e w'' he=>by cases e<;>first|exact h _ _ he|exact hq _ _ _ he|(obtain ⟨x,y,hf⟩:=he;exact ⟨x,y,hq _ _ _ hf⟩))
      |exact Rows.mono hh (fun _ _ he=>h _ _ he)
   |halt x w'=>cases x<;>simp only [Oper.upon] at hh ⊢<;>first|exact hq _ _ _ hh|exact hh.elim
  exact .inr ⟨h1,a',w',hq _ _ _ h2⟩
 rename_i hw
 simp only [hw] at hh
 exact h _ _ hh
theorem ma {Q Q':Exit→Act→World→Prop}(hq:∀ e a w,Q e a w→Q' e a w):∀ (fuel:Nat) (listed:Array Bool) (a:Act) (w:World),wpAny P md ops Q fuel listed a w→wpAny P md ops Q' fuel listed a w
  |0,_,_,_,h=>⟨h.1,hq _ _ _ h.2⟩
  |fuel+1,_,_,_,h=>⟨fun h0=>hq _ _ _ (h.1 h0),fun i hi=>xo (fun a' w' h'=>ma hq fuel _ a' w' h') hq (h.2 i hi)⟩
theorem fL {Q:Exit→Act→World→Prop}(hQ:∀ a w,Qn a w→Q .normal a w)(hF:∀ e a w,Qf e a w→Q e a w):∀ (fuel:Nat) (listed:Array Bool) (a:Act) (w:World),fk P md ops l0 Cl Qn Qf fuel listed a w→wpAny P md ops Q fuel listed a w
  |0,_,_,_,h=>⟨h.2.1,hQ _ _ h.2.2⟩
  |fuel+1,_,_,_,h=>by
    rcases h.2 with ⟨h0,h1⟩|⟨_,h1⟩|⟨h0,h1⟩
    · exact ⟨fun _=>hQ _ _ h1,fun i hi=>by rw [h0] at hi;cases hi⟩
    · exact ma hF _ _ _ _ h1
    · exact ⟨fun h=>absurd h h0,fun i hi=>Ek (fun a' w' h'=>fL hQ hF fuel _ a' w' h') hF (h1 i hi)⟩
def Yc (P:Program)(ops:Array Oper)(Cl:World→Prop)(o:Oper)(v:Value)(a:Act):Prop:=
  (Region.wanted o (yielded ops a.tmps)=true∧∀ w,Cl w→(execOp a.eval o).run P w=.ok (.value v) w)∨(Region.wanted o (yielded ops a.tmps)=false∧v=undef)
theorem Yc.opN {Qx:Exit→Act→World→Prop}{i:Nat}{o:Oper}{v:Value}{a:Act}{w:World}(hi:ops[i]?=some o)(hy:Yc P ops Cl o v a)(hw:Cl w){K:Act→World→Prop}(h:K (a.put o.dst v) w):opN P ops Qx i K a w:=by
 unfold Sl.opN
 simp only [hi]
 rcases hy with ⟨h1,h2⟩|⟨h1,rfl⟩
 ·simp only [h1,if_true];apply Y 0x62e;rw [h2 w hw]
  exact h
 simp only [h1,Bool.false_eq_true,if_false]
 exact h
theorem HJ {Qx:Exit→Act→World→Prop}(hinv:bg Qx){j:Nat}{oi oj:Oper}{v:Value}(hj:ops[j]?=some oj)(hap:oi.apart ops oj=true)(hsi:∀ cs b,oi.op≠.select cs b)(hsj:∀ cs b,oj.op≠.select cs b){K:Act→World→Prop}{a:Act}{w:World}
    (hy:Yc P ops Cl oi v a) (h:opN P ops Qx j K (a.put oi.dst v) w):opN P ops Qx j (fun a' w'=>Yc P ops Cl oi v a'∧K (a'.put oi.dst v) w') a w:=by
 obtain ⟨h1,h2,h3⟩:=Oper.apart_spec hap;have same:∀ (a:Act),Yc P ops Cl oi v a→∀ u,Yc P ops Cl oi v (a.put oj.dst u):=fun a hy u=>by
  unfold Yc at*;rw [execOp_put oi hsi a oj.dst u h3,wanted_put oi a oj.dst u h3]
  exact hy
 have same':∀ (a:Act) (d:List Deferred),Yc P ops Cl oi v a→Yc P ops Cl oi v { a with defers:=d }:=fun a d hy=>hy
 unfold opN at*
 simp only [hj] at*;rw [wanted_put oj a oi.dst v h1] at h
 split
 ·rename_i hw
  simp only [hw,if_true] at h
  unfold Oper.wp at*;rw [execOp_put oj hsj a oi.dst v h1] at h
  generalize (execOp a.eval oj).run P w=r at*;have comm:∀ (a:Act) u,(a.put oi.dst v).put oj.dst u=(a.put oj.dst u).put oi.dst v:=fun a u=>Act.put_comm a v u h2
  cases r with
  |ok nx w'=>
   cases nx<;>simp only [Oper.upon] at h ⊢
   case value u=>exact ⟨same a hy u,by rw [← comm];exact h⟩
   case skip=>exact ⟨same a hy _,by rw [← comm];exact h⟩
   case defer d=>
    refine ⟨same _ (same' a _ hy) _,?_⟩;rw [Act.put_defers] at h;rw [← comm]
    exact h
   case enter f args=>exact Calls.mono h (fun e w'' he=>by
    cases e with
    |returned u=>exact ⟨same a hy u,by rw [← comm];exact he⟩
    |panicked c=>exact hinv.1 _ _ _ _ _ he
    |outgrown=>exact he)
   case row r args=>exact Rows.mono h (fun u w'' he=>⟨same a hy u,by rw [← comm];exact he⟩)
  |halt x w'=>cases x<;>simp only [Oper.upon] at h ⊢<;>exact hinv.1 _ _ _ _ _ h
 rename_i hw
 simp only [hw] at h;exact ⟨same a hy _,by rw [← Act.put_comm a v undef h2];exact h⟩
theorem El {Qx:Exit→Act→World→Prop}{i:Nat}{a:Act}{w:World}{K K':Act→World→Prop}(h:∀ a w,K a w→K' a w)(hh:opN P ops Qx i K a w):opN P ops Qx i K' a w:=by
 unfold opN at*
 split
 ·rename_i ho
  simp only [ho] at hh
  exact h _ _ hh
 rename_i o ho
 simp only [ho] at hh
 split
 ·rename_i hw
  simp only [hw,if_true] at hh
  exact yx h (fun _ _ _ h=>h) hh
 rename_i hw
 simp only [hw] at hh
 exact h _ _ hh
theorem BX {l0 listed:Array Bool}(h:MC md ops l0 listed=true):∃ k o,Region.ready md ops listed=[k]∧ops[k]?=some o∧∀ e,e<ops.size→listed.getD e false=true→l0.getD e false=false→(∃ x∈o.after,Region.binds md x=true∧x.on=e)∨
    ∃ (q:Nat) (oq:Oper),listed.getD q false=true∧ops[q]?=some oq∧∃ x∈oq.after,Region.binds md x=true∧x.on=e:=by
 unfold MC at h
 split at h
 ·rename_i k hk
  split at h
  ·rename_i o ho;refine ⟨k,o,hk,ho,fun e he hl hl0=>?_⟩;have:=List.all_eq_true.1 h e (List.mem_range.2 he);rw [hl,hl0] at this
   simp only [Bool.not_true,Bool.false_or,Bool.or_eq_true] at this
   rcases this with this|this
   ·obtain ⟨x,hx,hb⟩:=Array.any_eq_true'.1 this
    simp only [Bool.and_eq_true,beq_iff_eq] at hb
    exact .inl ⟨x,hx,hb⟩
   obtain ⟨q,_,hq⟩:=List.any_eq_true.1 this
   simp only [Bool.and_eq_true] at hq;obtain ⟨hq1,hq2⟩:=hq
   split at hq2
   ·rename_i oq hoq;obtain ⟨x,hx,hb⟩:=Array.any_eq_true'.1 hq2
    simp only [Bool.and_eq_true,beq_iff_eq] at hb
    exact .inr ⟨q,oq,hq1,hoq,x,hx,hb⟩
   cases hq2
  cases h
 cases h
theorem fj (hinv:bg Qf){i:Nat}{oi:Oper}{v:Value}(hi:ops[i]?=some oi)(hsel:∀ (j:Nat) (o:Oper) cs b,ops[j]?=some o→o.op≠.select cs b):
    ∀ (fuel:Nat) (listed:Array Bool) (a:Act) (w:World),listed.size=ops.size→(∀ e,l0.getD e false=true→listed.getD e false=true)→
      (∀ j oj,ops[j]?=some oj→j≠i→listed.getD j true=false→(∀ e∈oj.after,Region.binds md e=true→e.on≠i)→oi.apart ops oj=true)→
      i∈Region.ready md ops listed→CY md ops listed→Yc P ops Cl oi v a→Cl w→
      fk P md ops l0 Cl Qn Qf fuel (listed.setIfInBounds i true) (a.put oi.dst v) w→fk P md ops l0 Cl Qn Qf (fuel+1) listed a w:=by
 intro fuel
 induction fuel with
 |zero=>
  intro listed a w _ _ _ hr _ hy hw H;refine ⟨hw,.inr (.inr ⟨fun h=>(by rw [h] at hr;cases hr),fun j hj=>?_⟩)⟩
  by_cases hji:j=i
  ·subst hji
   exact hy.opN hi hw H
  have:=ready_mono hj hji;rw [H.2.1] at this
  cases this
 |succ fuel ih=>
  intro listed a w hsz hl0 hfree hr hcl hy hw H;refine ⟨hw,.inr (.inr ⟨fun h=>(by rw [h] at hr;cases hr),fun j hj=>?_⟩)⟩
  by_cases hji:j=i
  ·subst hji
   exact hy.opN hi hw H
  rcases H.2 with ⟨H0,_⟩|⟨Hc,_⟩|⟨_,H2⟩
  ·have:=ready_mono hj hji;rw [H0] at this
   cases this
  ·obtain ⟨k,o,hk,ho,hall⟩:=BX Hc;have hjk:=ready_mono hj hji;rw [hk] at hjk;obtain rfl:j=k:=by simpa using hjk
   have hlt:i<ops.size:=(Array.getElem?_eq_some_iff.1 hi).1;have hi0:l0.getD i false=false:=by
    cases hq:l0.getD i false with
    |false=>rfl
    |true=>
     have h1:=hl0 i hq;apply Y 0x550f;intro h0
     simp [hsz,hlt] at h0 h1;rw [h0] at h1
     cases h1
   rcases hall i hlt (by simp [hsz,hlt]) hi0 with ⟨x,hx,hb,hxi⟩|⟨q,oq,hq1,hoq,x,hx,hb,hxi⟩
   rotate_left
   exfalso;have hqi:q≠i:=by
    rintro rfl;obtain ⟨hun,o',ho',hw'⟩:=mem_ready.1 hr;rw [hoq] at ho'
    injection ho' with ho'
    subst ho';have h1:=hw' x hx hb;rw [hxi] at h1
    simp [hsz,hlt] at hun h1;rw [hun] at h1
    cases h1
   rw [getD_set_ne false (Ne.symm hqi)] at hq1;have h1:=hcl q oq hoq hq1 x hx hb;apply Y 0x550f;intro hun;rw [hxi] at h1
   simp [hsz,hlt] at hun h1;rw [hun] at h1
   cases h1;obtain ⟨_,o',ho',hw'⟩:=mem_ready.1 hj;rw [ho] at ho'
   injection ho' with ho'
   subst ho';have h1:=hw' x hx hb;apply Y 0x550f;intro h0;rw [hxi] at h1
   simp [hsz,hlt] at h0 h1;rw [h0] at h1
   cases h1
  have h1:=H2 j (ready_mono hj hji);obtain ⟨hjun,oj,hoj,hall⟩:=mem_ready.1 hj;have hnot:∀ e∈oj.after,Region.binds md e=true→e.on≠i:=fun e he hb heq=>by
   have h1:=hall e he hb;apply Y 0x550f;intro h0;rw [heq] at h1
   rcases Nat.lt_or_ge i listed.size with h'|h'
   ·simp [h'] at h0 h1;rw [h0] at h1
    cases h1
   simp [Array.getElem?_eq_none h'] at h1
  have h2:=HJ hinv hoj (hfree j oj hoj hji hjun hnot) (fun cs b=>hsel i oi cs b hi) (fun cs b=>hsel j oj cs b hoj) hy h1;have hfree':∀ k ok,ops[k]?=some ok→k≠i→(listed.setIfInBounds j true).getD k true=false→
   (∀ e∈ok.after,Region.binds md e=true→e.on≠i)→oi.apart ops ok=true:=fun k ok hk hki hun hno=>by
   refine hfree k ok hk hki ?_ hno
   by_cases hjk:j=k
   ·subst hjk
    exact hjun
   rw [getD_set_ne true hjk] at hun
   exact hun
  refine El (fun a' w' h3=>?_) h2;have h4:fk P md ops l0 Cl Qn Qf fuel ((listed.setIfInBounds i true).setIfInBounds j true) (a'.put oi.dst v) w':=h3.2;have hw':Cl w':=by cases fuel<;>exact h4.1
  have hcl':CY md ops (listed.setIfInBounds j true):=by
   intro e o ho hl x hx hb;have up:∀ q,listed.getD q false=true→(listed.setIfInBounds j true).getD q false=true:=fun q hq=>by
    by_cases hjq:j=q
    ·subst hjq;have:j<ops.size:=(Array.getElem?_eq_some_iff.1 hoj).1
     simp [hsz,this]
    rw [getD_set_ne false hjq]
    exact hq
   by_cases hje:j=e
   ·subst hje;rw [hoj] at ho
    injection ho with ho
    subst ho;have h1:=hall x hx hb;refine up _ ?_
    rcases Nat.lt_or_ge x.on listed.size with h'|h'
    ·simpa [h'] using h1
    simp [Array.getElem?_eq_none h'] at h1
   rw [getD_set_ne false hje] at hl
   exact up _ (hcl e o ho hl x hx hb)
  refine ih (listed.setIfInBounds j true) a' w' (by simpa using hsz) (fun e he=>getD_set_true (hl0 e he)) hfree' (ready_mono hr (Ne.symm hji)) hcl' h3.1 hw' ?_;rw [Array.setIfInBounds_comm _ _ hji]
  exact h4
theorem tB {i:Nat}{fuel:Nat}{listed:Array Bool}{a:Act}{w:World}(hr:Region.ready md ops listed=[i])(hw:Cl w)
    (h:opN P ops Qf i (fk P md ops l0 Cl Qn Qf fuel (listed.setIfInBounds i true)) a w):fk P md ops l0 Cl Qn Qf (fuel+1) listed a w:=by
 refine ⟨hw,.inr (.inr ⟨fun h0=>(by rw [hr] at h0;cases h0),fun j hj=>?_⟩)⟩;rw [hr] at hj;obtain rfl:j=i:=by simpa using hj
 exact h
theorem xp {fuel:Nat}{listed:Array Bool}{a:Act}{w:World}(hr:Region.ready md ops listed=[])(hw:Cl w)(h:Qn a w):fk P md ops l0 Cl Qn Qf fuel listed a w:=by
 cases fuel with
 |zero=>exact ⟨hw,hr,h⟩
 |succ fuel=>exact ⟨hw,.inl ⟨hr,h⟩⟩
end
section
variable {X:Cx}{β:Base}{n:Nat}{ds:List Deferred}{Q Qf:Exit→Act→World→Prop}{Γ:Env}{R H Rc:List Pr}
def LMg (X:Cx)(β:Base)(n:Nat)(ds:List Deferred)(ops:Array Oper)(l0:Array Bool)(Rc:List Pr)(Qf Q:Exit→Act→World→Prop)(fuel:Nat)(listed:Array Bool)(Γ:Env)(R H:List Pr):Prop:=
  bg Qf→∀ a w,listed.size=ops.size→(∀ e,l0.getD e false=true→listed.getD e false=true)→Fr n ds a Γ→Sat β w R H→fk X.P .any ops l0 (fun w=>Sat β w Rc []) (fun a w=>Q .normal a w) Qf fuel listed a w
abbrev nrm (Q:Exit→Act→World→Prop):Exit→Act→World→Prop:=fun e a w=>e=.normal∧Q .normal a w
theorem HN (Q:Exit→Act→World→Prop):bg (nrm Q):=⟨(fun _ _ _ _ _ h=>by cases h.1),(fun _ _ h=>by cases h.1)⟩
abbrev LM (X:Cx)(β:Base)(n:Nat)(ds:List Deferred)(ops:Array Oper)(l0:Array Bool)(Rc:List Pr)(Q:Exit→Act→World→Prop)(fuel:Nat)(listed:Array Bool)(Γ:Env)(R H:List Pr):Prop:=LMg X β n ds ops l0 Rc (nrm Q) Q fuel listed Γ R H
theorem Sat.common {w:World}(h:Sat β w R H)(hc:eh R H Rc):Sat β w Rc []:=by
 refine ⟨h.ext,fun r hr=>(hc.all r hr).1 β w h,fun r hr k hk=>?_,fun i c hi=>by simp at hi,fun i c hi=>by simp at hi,fun i j c d hi=>by simp at hi,fun r hr j c hj=>by simp at hj⟩
 rcases (hc.all r hr).2 k hk with ⟨r',hr',hk'⟩|⟨i,c,hi,hk'⟩
 ·exact h.rfp r' hr' k hk'
 have:=h.ofp i c hi k hk';exact ⟨this.1,by rcases this.2 with y|y;exact .inl y;exact .inr (.inl y)⟩
theorem aG {id:Nat}{l:List Oper}(Rc:List Pr)(_hc:eh R H Rc)(h:LM X β n ds (List.toArray l) (Array.replicate l.length false) Rc Q l.length (Array.replicate l.length false) Γ R H):C X β n ds Q (.region id (List.toArray l) true) Γ R H:=by
 intro a w hf hs;refine wp_region_any X.mixed (fL (l0:=Array.replicate l.length false) (Cl:=fun w=>Sat β w Rc []) (Qn:=fun a w=>Q .normal a w) (Qf:=nrm Q) (fun _ _ h=>h) (fun e a w he=>by rw [he.1];exact he.2) _ _ _ _ ?_);have:=h (HN Q) a w.drew Ob (fun _ h=>h) hf (hs.same (Stp.drew w _))
 simpa using this
variable {ops:Array Oper}{fuel:Nat}{l0 listed:Array Bool}
theorem LM.q (i:Nat){op:Op}{v:Value}{d ty:Nat}{pos:String}{af:Array Edge}(hi:ops[i]?=some ⟨some d,op,ty,pos,af,none⟩)(hB:(Region.noSelect ops&&(Region.ready .any ops listed).contains i&&Region.free .any ops listed i&&gD .any ops listed)=true)
    (h:Ev X β Γ Rc [] op v) (hd:Nat.blt d n=true) (hc:eh R H Rc) (k:LMg X β n ds ops l0 Rc Qf Q fuel (listed.setIfInBounds i true) ((d,v)::Γ) R H):LMg X β n ds ops l0 Rc Qf Q (fuel+1) listed Γ R H:=by
 intro hinv a w hz h0 hf hs
 simp only [Bool.and_eq_true] at hB;refine fj hinv hi (Region.noSelect_spec hB.1.1.1) fuel listed a w hz h0 (Region.free_spec hi hB.1.2) obK (fA hB.2) (.inl ⟨rfl,fun w hw=>h a.eval w hf.agree hw _ rfl⟩) (hs.common hc) ?_;exact Zm 0x8d1f
theorem RE (i:Nat){op:Op}{v:Value}{d ty g:Nat}{b:Bool}{pos:String}{af:Array Edge}(hi:ops[i]?=some ⟨some d,op,ty,pos,af,some (g,b)⟩)(hB:(Region.noSelect ops&&(Region.ready .any ops listed).contains i&&Region.free .any ops listed i&&gD .any ops listed)=true)
    (hg:yo ops Γ g=some (.bool b)) (h:Ev X β Γ Rc [] op v) (hd:Nat.blt d n=true) (hc:eh R H Rc) (k:LMg X β n ds ops l0 Rc Qf Q fuel (listed.setIfInBounds i true) ((d,v)::Γ) R H):LMg X β n ds ops l0 Rc Qf Q (fuel+1) listed Γ R H:=by
 intro hinv a w hz h0 hf hs
 simp only [Bool.and_eq_true] at hB;apply Y 0x2be;intro hy;refine fj hinv hi (Region.noSelect_spec hB.1.1.1) fuel listed a w hz h0 (Region.free_spec hi hB.1.2) obK (fA hB.2) (.inl ⟨by simp [Region.wanted,hy],fun w hw=>h a.eval w hf.agree hw _ rfl⟩) (hs.common hc) ?_;exact Zm 0x8d1f
theorem LM.no (i:Nat){op:Op}{v:Value}{d ty g:Nat}{b:Bool}{pos:String}{af:Array Edge}(hi:ops[i]?=some ⟨some d,op,ty,pos,af,some (g,b)⟩)(hB:(Region.noSelect ops&&(Region.ready .any ops listed).contains i&&Region.free .any ops listed i&&gD .any ops listed)=true)
    (hg:yo ops Γ g=some v) (hv:(match v with| .bool c=>c==b|_=>false)=false) (hd:Nat.blt d n=true) (hc:eh R H Rc) (k:LMg X β n ds ops l0 Rc Qf Q fuel (listed.setIfInBounds i true) ((d,undef)::Γ) R H):LMg X β n ds ops l0 Rc Qf Q (fuel+1) listed Γ R H:=by
 intro hinv a w hz h0 hf hs
 simp only [Bool.and_eq_true] at hB;apply Y 0x2be;intro hy;have hw:Region.wanted ⟨some d,op,ty,pos,af,some (g,b)⟩ (yielded ops a.tmps)=false:=by
  apply Y 0x2b0f
  cases v<;>simp_all
 refine fj hinv hi (Region.noSelect_spec hB.1.1.1) fuel listed a w hz h0 (Region.free_spec hi hB.1.2) obK (fA hB.2) (.inr ⟨hw,rfl⟩) (hs.common hc) ?_
 exact k hinv _ _ obT (fun e he=>getD_set_true (h0 e he)) (hf.put oP undef) hs
def QM (X:Cx)(β:Base)(ops:Array Oper)(l0:Array Bool)(Rc:List Pr)(Qf Q:Exit→Act→World→Prop)(fuel:Nat)(listed:Array Bool):Exit→Act→World→Prop
  | .normal,a,w=>bg Qf→fk X.P .any ops l0 (fun w=>Sat β w Rc []) (fun a w=>Q .normal a w) Qf fuel listed a w
  |e,a,w=>Qf e a w
theorem vQ (hinv:bg Qf){i:Nat}{o:Oper}(hi:ops[i]?=some o){a:Act}{w:World}(this:wpList X.P ops (QM X β ops l0 Rc Qf Q fuel (listed.setIfInBounds i true)) [o] a w):
    opN X.P ops Qf i (fk X.P .any ops l0 (fun w=>Sat β w Rc []) (fun a w=>Q .normal a w) Qf fuel (listed.setIfInBounds i true)) a w:=by
 unfold opN
 simp only [hi]
 simp only [wpList] at this
 split
 ·rename_i hw
  simp only [hw,if_true] at this
  rcases this with h1|⟨_,h1⟩
  ·unfold Oper.wp at*
   generalize (execOp a.eval o).run X.P w=r at*
   cases r with
   |ok nx w'=>
    cases nx<;>simp only [Oper.upon] at h1 ⊢<;>
     first
      |exact h1 hinv
      |exact h1.elim
      |exact Calls.mono h1 (fun e w'' he=>by cases e<;>first|exact he hinv|exact he)
      |exact Rows.mono h1 (fun _ _ he=>he hinv)
   |halt x w'=>cases x<;>simp only [Oper.upon] at h1 ⊢<;>first|exact h1|exact h1.elim
  obtain ⟨_,_,hf⟩:=h1
  exact absurd hf (hinv.2 _ _)
 rename_i hw
 simp only [hw] at this
 exact this hinv
theorem LM.f (i:Nat){o:Oper}(hi:ops[i]?=some o)(hr:Region.ready .any ops listed=[i])(hc:eh R H Rc)(h:L X β n ds ops (QM X β ops l0 Rc Qf Q fuel (listed.setIfInBounds i true)) [o] Γ R H):LMg X β n ds ops l0 Rc Qf Q (fuel+1) listed Γ R H:=
  fun hinv a w _ _ hf hs=>tB hr (hs.common hc) (vQ hinv hi (h a w hf hs))
def Je:List Nat→(Nat→Prop)→Prop
  |[],_=>True
  |i::is,p=>p i∧Je is p
theorem Je.mem {p:Nat→Prop}:∀ {l:List Nat},Je l p→∀ i∈l,p i
  |[],_,i,h=>by cases h
  |j::js,hp,i,h=>by
    rcases List.mem_cons.1 h with rfl|h
    · exact hp.1
    · exact Je.mem hp.2 i h
theorem LM.alt (l:List Nat)(hr:Region.ready .any ops listed=l)(hl:l≠[])(hc:eh R H Rc)(h:Je l fun i=>∃ o,ops[i]?=some o∧L X β n ds ops (QM X β ops l0 Rc Qf Q fuel (listed.setIfInBounds i true)) [o] Γ R H):LMg X β n ds ops l0 Rc Qf Q (fuel+1) listed Γ R H:=by
 intro hinv a w _ _ hf hs;refine ⟨hs.common hc,.inr (.inr ⟨by rw [hr];exact hl,fun j hj=>?_⟩)⟩;rw [hr] at hj;obtain ⟨o,ho,hL⟩:=h.mem j hj
 exact vQ hinv ho (hL a w hf hs)
def RR (l0 listed:Array Bool):Bool:=(List.range l0.size).all fun e=> !l0.getD e false||listed.getD e false
theorem Bo {l0 listed:Array Bool}(h:RR l0 listed=true):∀ e,l0.getD e false=true→listed.getD e false=true:=by
 intro e he
 rcases Nat.lt_or_ge e l0.size with g|g
 ·have:=List.all_eq_true.1 h e (List.mem_range.2 g);rw [he] at this
  simpa using this
 rw [Array.getD_eq_getD_getElem?,Array.getElem?_eq_none g] at he
 cases he
theorem QE.m (hz:(listed.size==ops.size&&RR l0 listed)=true)(h:LMg X β n ds ops l0 Rc Qf Q fuel listed Γ R H):QE β n ds (QM X β ops l0 Rc Qf Q fuel listed) .normal Γ R H:=fun a w hf hs hinv=>h hinv a w (by simp only [Bool.and_eq_true] at hz;simpa using hz.1) (Bo (by simp only [Bool.and_eq_true] at hz;exact hz.2)) hf hs
theorem tj {ch:List PanicEntry}(h:QE β n ds Qf (.panic ch) Γ R H):QE β n ds (QM X β ops l0 Rc Qf Q fuel listed) (.panic ch) Γ R H:=fun a w hf hs=>h a w hf hs
theorem LM.nil (hr:Region.ready .any ops listed=[])(hc:eh R H Rc)(h:QE β n ds Q .normal Γ R H):LMg X β n ds ops l0 Rc Qf Q fuel listed Γ R H:=
  fun _ a w _ _ hf hs=>xp hr (hs.common hc) (h a w hf hs)
theorem LM.cut (Rc':List Pr)(hcut:MC .any ops l0 listed=true)(hc:eh R H Rc)(h:LMg X β n ds ops l0 Rc' Qf Q (fuel+1) listed Γ R H)(hq:∀ a w,Q .normal a w→Qf .normal a w:=by first|exact fun _ _ h=>⟨rfl,h⟩|exact fun _ _ h=>h):LMg X β n ds ops l0 Rc Qf Q (fuel+1) listed Γ R H:=by
 intro hinv a w hz h0 hf hs;exact ⟨hs.common hc,.inr (.inl ⟨hcut,fL hq (fun _ _ _ h=>h) _ _ _ _ (h hinv a w hz h0 hf hs)⟩)⟩
theorem LM.bool (s:Nat){b:Bool}(hb:look s Γ=some (.bool b))(ht:b=true→LMg X β n ds ops l0 Rc Qf Q fuel listed ((s,.bool true)::Γ) R H)(he:b=false→LMg X β n ds ops l0 Rc Qf Q fuel listed ((s,.bool false)::Γ) R H):LMg X β n ds ops l0 Rc Qf Q fuel listed Γ R H:=by
 intro hinv a w hz h0 hf hs;have h1:∀ c:Bool,b=c→Fr n ds a ((s,.bool c)::Γ):=by
  rintro c rfl;refine ⟨hf.size,hf.dfs,fun t u hu=>?_⟩
  simp only [look] at hu
  cases hbq:Nat.beq t s with
  |true=>
   rw [hbq] at hu;obtain rfl:=Nat.eq_of_beq_eq_true hbq
   simp only [cond_true,Option.some.injEq] at hu;subst hu
   exact hf.vals t _ hb
  |false=>
   rw [hbq] at hu
   exact hf.vals t u hu
 cases hbb:b with
 |true=>exact ht hbb hinv a w hz h0 (h1 true hbb) hs
 |false=>exact he hbb hinv a w hz h0 (h1 false hbb) hs
variable {e:Exit}{id:Nat}{K:Act→World→Prop}
theorem Ru (h:QE β n ds Q (.exit id) Γ R H):QE β n ds (Exit.then K Q) (.exit id) Γ R H:=h
theorem Rv (h:QE β n ds Q .ret Γ R H):QE β n ds (Exit.then K Q) .ret Γ R H:=h
theorem Ry (h:QE β n ds Q .ret Γ R H):QE β n ds (Exit.inBlock id Q) .ret Γ R H:=h
theorem jr {x y:Code}{ι:Type}(G:ι→Env)(Rs Hs:ι→List Pr)(pre:ι→Prop)(h:C X β n ds (Exit.then (fun a w=>∃ j,pre j∧Fr n ds a (G j)∧Sat β w (Rs j) (Hs j)) Q) x Γ R H)(h2:∀ j,pre j→C X β n ds Q y (G j) (Rs j) (Hs j)):
    C X β n ds Q (.seq x y) Γ R H:=by
 intro a w hf hs;refine wp_seq (wp_mono (h a w hf hs) fun e a' w' he=>?_)
 cases e with
 |normal=>
  obtain ⟨j,hp,hfj,hsj⟩:=he
  exact h2 j hp a' w' hfj hsj
 |_=>exact he
theorem QE.join {ι:Type}{G:ι→Env}{Rs Hs:ι→List Pr}{pre:ι→Prop}(j:ι)(hp:pre j)(hl:Le β Γ R H (G j) (Rs j) (Hs j)):
    QE β n ds (Exit.then (fun a w=>∃ j,pre j∧Fr n ds a (G j)∧Sat β w (Rs j) (Hs j)) Q) .normal Γ R H:=
  fun _ w hf hs=>⟨j,hp,hf.le hl.env,hl.sat w hs⟩
theorem C.join {c:Code}{ι:Type}(G:ι→Env)(Rs Hs:ι→List Pr)(pre:ι→Prop)(h:C X β n ds (fun e a w=>(e=.normal∧∃ j,pre j∧Fr n ds a (G j)∧Sat β w (Rs j) (Hs j))∨(e≠.normal∧Q e a w)) c Γ R H)(h2:∀ j,pre j→QE β n ds Q .normal (G j) (Rs j) (Hs j)):
    C X β n ds Q c Γ R H:=by
 intro a w hf hs;refine wp_mono (h a w hf hs) fun e a' w' he=>?_
 rcases he with ⟨rfl,j,hp,hfj,hsj⟩|⟨_,he⟩
 ·exact h2 j hp a' w' hfj hsj
 exact he
theorem aZ {ι:Type}{G:ι→Env}{Rs Hs:ι→List Pr}{pre:ι→Prop}(j:ι)(hp:pre j)(hl:Le β Γ R H (G j) (Rs j) (Hs j)):
    QE β n ds (fun e a w=>(e=.normal∧∃ j,pre j∧Fr n ds a (G j)∧Sat β w (Rs j) (Hs j))∨(e≠.normal∧Q e a w)) .normal Γ R H:=
  fun _ w hf hs=>.inl ⟨rfl,j,hp,hf.le hl.env,hl.sat w hs⟩
end
end Go.Sl
