/-
  Part of a proof.
-/
import Derived.Test.YtbpddeiogcgegaaGreatYSl
set_option maxHeartbeats 0
set_option maxRecDepth 4000
set_option linter.all false
namespace Go.Sl
section
variable {X:Cx}{β:Base}{n:Nat}{ds:List Deferred}{ops:Array Oper}{Q:Exit→Act→World→Prop}{rest:List Oper}{Γ:Env}{R H:List Pr}
def Pk (H:List Pr):List Nat→List Pr→Prop
  |[],[]=>True
  |j::js,c::cs=>H[j]?=some c∧Pk H js cs
  |_,_=>False
theorem Pk.get {H:List Pr}:∀ {js:List Nat} {H':List Pr},Pk H js H'→∀ (i:Nat) (c:Pr),H'[i]?=some c→i<js.length∧H[js.getD i 0]?=some c
  |[],[],_,i,c,h=>by simp at h
  |j::js,d::cs,hp,0,c,h=>by
    simp at h
    subst h
    exact ⟨by simp,hp.1⟩
  |j::js,d::cs,hp,i+1,c,h=>by
    have:=Pk.get hp.2 i c qi
    exact ⟨by simp;omega,by simpa using this.2⟩
  |[],_::_,hp,_,_,_=>hp.elim
  |_::_,[],hp,_,_,_=>hp.elim
theorem Pk.len {H:List Pr}:∀ {js:List Nat} {H':List Pr},Pk H js H'→js.length=H'.length
  |[],[],_=>rfl
  |_::_,_::_,hp=>by simp [Pk.len hp.2]
  |[],_::_,hp=>hp.elim
  |_::_,[],hp=>hp.elim
theorem Sat.pk {w:World}(h:Sat β w R H){js:List Nat}{H':List Pr}(hp:Pk H js H')(hn:js.Nodup):Sat β w R H':=by
 refine h.pick H' (fun i=>js.getD i 0) (fun i c hc=>(hp.get i c hc).2) ?_;intro i j hi hj e;have hl:=hp.len
 simp only [List.getD_eq_getElem?_getD,List.getElem?_eq_getElem (show i<js.length by omega),List.getElem?_eq_getElem (show j<js.length by omega),Option.getD_some] at e;have hp:=List.pairwise_iff_getElem.1 hn
 rcases Nat.lt_trichotomy i j with h1|h1|h1
 ·exact absurd e (hp i j oe oe h1)
 ·exact h1
 exact absurd e.symm (hp j i oe oe h1)
def Rk (R:List Pr):List Nat→List Pr→Prop
  |[],[]=>True
  |j::js,c::cs=>R[j]?=some c∧Rk R js cs
  |_,_=>False
theorem Rk.mem {R:List Pr}:∀ {js:List Nat} {R':List Pr},Rk R js R'→∀ r∈R',r∈R
  |[],[],_,r,h=>by cases h
  |j::js,d::cs,hp,r,h=>by
    rcases List.mem_cons.1 h with rfl|h
    · exact List.mem_of_getElem? hp.1
    · exact Rk.mem hp.2 r h
  |[],_::_,hp,_,_=>hp.elim
  |_::_,[],hp,_,_=>hp.elim
theorem Sat.rk {w:World}(h:Sat β w R H){js:List Nat}{R':List Pr}(hp:Rk R js R'):Sat β w R' H:=
  h.reads R' fun r hr=>.inl (hp.mem r hr)
structure Le (β:Base)(Γ:Env)(R H:List Pr)(Γ':Env)(R' H':List Pr):Prop where
  env:tt Γ Γ'
  sat:∀ w,Sat β w R H→Sat β w R' H'
theorem aE {Γ':Env}{R' H':List Pr}{rs hs:List Nat}(he:tt Γ Γ')(hr:Rk R rs R')(hh:Pk H hs H')(hn:hs.Nodup):Le β Γ R H Γ' R' H':=
  ⟨he,fun _ h=>(h.rk hr).pk hh hn⟩
theorem QE.le {e:Exit}{Γ':Env}{R' H':List Pr}(hl:Le β Γ R H Γ' R' H')(h:QE β n ds Q e Γ' R' H'):QE β n ds Q e Γ R H:=
  fun a w hf hs=>h a w (hf.le hl.env) (hl.sat w hs)
theorem C.le {c:Code}{Γ':Env}{R' H':List Pr}(hl:Le β Γ R H Γ' R' H')(h:C X β n ds Q c Γ' R' H'):C X β n ds Q c Γ R H:=
  fun a w hf hs=>h a w (hf.le hl.env) (hl.sat w hs)
theorem C.seq {x y:Code}(h:C X β n ds (Exit.then (fun a w=>y.wp X.P Q a w) Q) x Γ R H):C X β n ds Q (.seq x y) Γ R H:=
  fun a w hf hs=>wp_seq (h a w hf hs)
theorem QE.seq {y:Code}(h:C X β n ds Q y Γ R H):QE β n ds (Exit.then (fun a w=>y.wp X.P Q a w) Q) .normal Γ R H:=fun a w hf hs=>h a w hf hs
theorem C.skip (h:QE β n ds Q .normal Γ R H):C X β n ds Q .skip Γ R H:=fun a w hf hs=>wp_skip (h a w hf hs)
theorem C.ret (h:QE β n ds Q .ret Γ R H):C X β n ds Q .ret Γ R H:=fun a w hf hs=>wp_ret (h a w hf hs)
theorem C.exit {id:Nat}(h:QE β n ds Q (.exit id) Γ R H):C X β n ds Q (.exit id) Γ R H:=fun a w hf hs=>wp_exit (h a w hf hs)
theorem C.block {id:Nat}{c:Code}(h:C X β n ds (Exit.inBlock id Q) c Γ R H):C X β n ds Q (.block id c) Γ R H:=fun a w hf hs=>wp_block (h a w hf hs)
theorem C.cond {c:Operand}{x y:Code}{b:Bool}(hc:ev Γ c=some (.bool b))(ht:b=true→C X β n ds Q x Γ R H)(he:b=false→C X β n ds Q y Γ R H):C X β n ds Q (.cond c x y) Γ R H:=
  fun a w hf hs=>wp_cond_split (hf.eval hc) (fun h=>ht h a w hf hs) (fun h=>he h a w hf hs)
theorem C.region {id:Nat}{l:List Oper}(h:L X β n ds (List.toArray l) Q l Γ R H):C X β n ds Q (.region id (List.toArray l) false) Γ R H:=
  fun a w hf hs=>wp_region_lit (h a w hf hs)
theorem Mi {id:Nat}(h:QE β n ds Q .normal Γ R H):QE β n ds (Exit.inBlock id Q) (.exit id) Γ R H:=fun a w hf hs=>by
  show if id=id then Q .normal a w else _
  rw [if_pos rfl]
  exact h a w hf hs
theorem IY {id:Nat}(h:QE β n ds Q .normal Γ R H):QE β n ds (Exit.inBlock id Q) .normal Γ R H:=h
theorem lR {id j:Nat}(hne:Nat.beq j id=false)(h:QE β n ds Q (.exit j) Γ R H):QE β n ds (Exit.inBlock id Q) (.exit j) Γ R H:=fun a w hf hs=>by
  show if j=id then _ else Q (.exit j) a w
  rw [if_neg (Nat.ne_of_beq_eq_false hne)]
  exact h a w hf hs
theorem C.loop {c:Code}{ι:Type}(G:ι→Env)(Rs Hs:ι→List Pr)(pre:ι→Prop)(μ:ι→Nat)(i0:ι)(h0:pre i0)(hle:Le β Γ R H (G i0) (Rs i0) (Hs i0))
    (round:∀ i,pre i→C X β n ds (Exit.then (fun a w=>∃ j,pre j∧μ j<μ i∧Fr n ds a (G j)∧Sat β w (Rs j) (Hs j)) Q) c (G i) (Rs i) (Hs i)):C X β n ds Q (.loop c) Γ R H:=by
 intro a w hf hs b k cs;have key:∀ (m:Nat) i a w,μ i=m→pre i→Fr n ds a (G i)→Sat β w (Rs i) (Hs i)→
  ∃ e a' w',Q e a' w'∧Arrives X.P (lone (b.at a (.code c::.inLoop c::k)) cs w) b k cs e a' w':=by
  intro m
  induction m using Nat.strongRecOn with
  |_ m ih=>
   intro i a w hm hp hf hs;obtain ⟨e,a1,w1,hq,harr⟩:=round i hp a w hf hs b (.inLoop c::k) cs
   cases e with
   |normal=>
    obtain ⟨j,hpj,hlt,hfj,hsj⟩:=hq;obtain ⟨e2,a2,w2,hq2,harr2⟩:=ih (μ j) (hm▸hlt) j a1 w1 rfl hpj hfj hsj;exact ⟨e2,a2,w2,hq2,.of_steps (Steps.trans harr (.one step_inLoop)) harr2⟩
   |exit id=>exact ⟨_,a1,w1,hq,.pass (x:=.inLoop c) rfl (fun _ _=>.inl Ob) harr⟩
   |goto l=>exact ⟨_,a1,w1,hq,.pass (x:=.inLoop c) rfl (fun _ _=>.inl Ob) harr⟩
   |ret=>exact ⟨_,a1,w1,hq,.pass (x:=.inLoop c) rfl (fun _ _=>.inl Ob) harr⟩
   |panic ch=>exact ⟨_,a1,w1,hq,.pass (x:=.inLoop c) rfl (fun _ _=>.inl Ob) harr⟩
   |outgrown=>exact ⟨_,a1,w1,hq,.pass (x:=.inLoop c) rfl (fun _ _=>.inl Ob) harr⟩
 obtain ⟨e,a',w',hq,harr⟩:=key _ i0 a w rfl h0 (hf.le hle.env) (hle.sat w hs);exact ⟨e,a',w',hq,.of_steps (.one step_loop) harr⟩
theorem QE.round {ι:Type}{G:ι→Env}{Rs Hs:ι→List Pr}{pre:ι→Prop}{μ:ι→Nat}{i:ι}(j:ι)(hp:pre j)(hm:μ j<μ i)(hl:Le β Γ R H (G j) (Rs j) (Hs j)):
    QE β n ds (Exit.then (fun a w=>∃ j,pre j∧μ j<μ i∧Fr n ds a (G j)∧Sat β w (Rs j) (Hs j)) Q) .normal Γ R H:=
  fun _ w hf hs=>⟨j,hp,hm,hf.le hl.env,hl.sat w hs⟩
theorem L.bool (s:Nat){b:Bool}(hb:look s Γ=some (.bool b))(ht:b=true→L X β n ds ops Q rest ((s,.bool true)::Γ) R H)(he:b=false→L X β n ds ops Q rest ((s,.bool false)::Γ) R H):L X β n ds ops Q rest Γ R H:=by
 intro a w hf hs;have h1:∀ c:Bool,b=c→Fr n ds a ((s,.bool c)::Γ):=by
  rintro c rfl;refine ⟨hf.size,hf.dfs,fun t u hu=>?_⟩
  simp only [look] at hu
  cases hbq:Nat.beq t s with
  |true=>
   rw [hbq] at hu;obtain rfl:=Nat.eq_of_beq_eq_true hbq
   simp only [cond_true,Option.some.injEq] at hu;subst hu
   exact hf.vals t _ hb
  |false=>
   rw [hbq] at hu
   exact hf.vals t u hu
 cases hbb:b with
 |true=>exact ht hbb a w (h1 true hbb) hs
 |false=>exact he hbb a w (h1 false hbb) hs
theorem lY (s:Nat){x y:Code}{b:Bool}(hc:look s Γ=some (.bool b))(ht:b=true→C X β n ds Q x ((s,.bool true)::Γ) R H)(he:b=false→C X β n ds Q y ((s,.bool false)::Γ) R H):C X β n ds Q (.cond (.tmp s) x y) Γ R H:=by
 have h1:∀ c:Bool,b=c→∀ a,Fr n ds a Γ→Fr n ds a ((s,.bool c)::Γ):=by
  rintro c rfl a hf;refine ⟨hf.size,hf.dfs,fun t u hu=>?_⟩
  simp only [look] at hu
  cases hbq:Nat.beq t s with
  |true=>
   rw [hbq] at hu;obtain rfl:=Nat.eq_of_beq_eq_true hbq
   simp only [cond_true,Option.some.injEq] at hu;subst hu
   exact hf.vals t _ hc
  |false=>
   rw [hbq] at hu
   exact hf.vals t u hu
 exact C.cond (b:=b) hc (fun h a w hf hs=>ht h a w (h1 true h a hf) hs) (fun h a w hf hs=>he h a w (h1 false h a hf) hs)
def yo (ops:Array Oper)(Γ:Env)(g:Nat):Option Value:=
  match (ops[g]?).bind (·.dst) with
  |some d=>look d Γ
  |none=>none
theorem sv {a:Act}(hf:Fr n ds a Γ){g:Nat}{v:Value}(h:yo ops Γ g=some v):yielded ops a.tmps g=(match v with| .bool b=>some b|_=>none):=by
 unfold yo at h
 unfold yielded
 cases hd:(ops[g]?).bind (·.dst) with
 |none=>rw [hd] at h;cases h
 |some d=>
  rw [hd] at h;have:=hf.vals d v h
  simp only [Option.bind_some,this]
  cases v<;>rfl
theorem L.yes {dst:Option Nat}{op:Op}{ty:Nat}{pos:String}{af:Array Edge}{g:Nat}{b:Bool}(hg:yo ops Γ g=some (.bool b))(h:L X β n ds ops Q (⟨dst,op,ty,pos,af,none⟩::rest) Γ R H):
    L X β n ds ops Q (⟨dst,op,ty,pos,af,some (g,b)⟩::rest) Γ R H:=by
 intro a w hf hs;have:=h a w hf hs;apply Y 0x2be;intro hy
 simp only [wpList,Region.wanted,hy,beq_self_eq_true,if_true] at this ⊢
 exact this
theorem L.no {d:Nat}{op:Op}{ty:Nat}{pos:String}{af:Array Edge}{g:Nat}{b:Bool}{v:Value}(hg:yo ops Γ g=some v)(hv:(match v with| .bool c=>c==b|_=>false)=false)(hd:Nat.blt d n=true)
    (h:L X β n ds ops Q rest ((d,undef)::Γ) R H):L X β n ds ops Q (⟨some d,op,ty,pos,af,some (g,b)⟩::rest) Γ R H:=by
 intro a w hf hs;apply Y 0x2be;intro hy;have hw:Region.wanted ⟨some d,op,ty,pos,af,some (g,b)⟩ (yielded ops a.tmps)=false:=by
  apply Y 0x2b0f
  cases v<;>simp_all
 simp only [wpList,hw]
 exact h _ _ (hf.put oP undef) hs
def bT (w:World)(R H:List Pr):Base:=⟨w,fun k=>∃ (i:Nat) (c:Pr),H[i]?=some c∧c.fp k,fun k=>∃ r∈R,r.fp k⟩
structure FnOk (P:Program)(f:FuncId):Prop where
  ok:∃ fn,P.funcs[f]?=some fn∧fn.body.isNone=false∧(fn.name== "runtime.NumGoroutine")=false
def Ctr (X:Cx)(f:FuncId)(args:List Value)(R H:List Pr)(Φ:Value→List Pr→List Pr→Prop):Prop:=
  FnOk X.P f∧∀ w,Sat (bT w R H) w R H→Calls X.P f (List.toArray args) w fun e w'=>∃ v R' H',Φ v R' H'∧e=.returned v∧Sat (bT w R H) w' R' H'
theorem Ctr.mono {f:FuncId}{args:List Value}{Φ Ψ:Value→List Pr→List Pr→Prop}(h:Ctr X f args R H Φ)(hi:∀ v R' H',Φ v R' H'→Ψ v R' H'):Ctr X f args R H Ψ:=
  ⟨h.1,fun w hs=>(h.2 w hs).mono fun _ _ ⟨v,R',H',hv,r⟩=>⟨v,R',H',hi _ _ _ hv,r⟩⟩
def params:Nat→List Value→Env
  |_,[]=>[]
  |k,v::vs=>(k,v)::params (k+1) vs
theorem dJ:∀ (vs:List Value) (k s:Nat) (v:Value),look s (params k vs)=some v→k≤s∧vs[s-k]?=some v
  |[],_,_,_,h=>by cases h
  |u::vs,k,s,v,h=>by
    simp only [params,look] at h
    cases hb:Nat.beq s k with
    |true=>
      rw [hb] at h
      obtain rfl:=Nat.eq_of_beq_eq_true hb
      simp only [cond_true] at h
      exact ⟨Nat.le_refl _,by simpa using h⟩
    |false=>
      rw [hb] at h
      have hne:s≠k:=Nat.ne_of_beq_eq_false hb
      obtain ⟨h1,h2⟩:=dJ vs (k+1) s v h
      refine ⟨by omega,?_⟩
      rw [show s-k=(s-(k+1))+1 from by omega]
      simpa using h2
def post (X:Cx)(β:Base)(fn:Func)(Φ:Value→List Pr→List Pr→Prop):Exit→Act→World→Prop:=
  bodyPost X.P fn fun e w'=>∃ v R' H',Φ v R' H'∧e=.returned v∧Sat β w' R' H'
theorem Ctr.of {f:FuncId}{fn:Func}{c:Code}{args:List Value}{Φ:Value→List Pr→List Pr→Prop}(hf:X.P.funcs[f]?=some fn)(hb:fn.body=some c)(hname:(fn.name== "runtime.NumGoroutine")=false)
    (hn:Nat.ble args.length fn.ntmps=true) (h:∀ β,C X β fn.ntmps [] (post X β fn Φ) c (params 0 args) R H):Ctr X f args R H Φ:=by
 apply Y 0xf40f;intro hn;refine ⟨⟨fn,hf,by rw [hb];rfl,hname⟩,fun w hs=>?_⟩;refine calls_of_wp hf hb (h _ _ w ⟨by simp;omega,rfl,fun s v hv=>?_⟩ hs);obtain ⟨_,h2⟩:=dJ args 0 s v hv;apply Y 0x450f;intro hlt
 simp only [Nat.sub_zero] at h2 hlt;apply Y 0x8a0f
 simpa using h2
def Res (X:Cx)(Γ:Env)(R H:List Pr):ResultVar→Value→Prop
  | .tmp t,v=>look t Γ=some v
  | .cell a t,v=>∃ i A k xs,au t X.tab=some i∧look a Γ=some (ag A k)∧Src R H A xs∧
      ((ye i.desc=true∧0<i.size∧∃ vs,(xs.drop k).take i.size=vs∧vs.length=i.size∧v=.agg (List.toArray vs))∨(ye i.desc=false∧xs[k]?=some v))
def xf (X:Cx)(Γ:Env)(R H:List Pr):List ResultVar→List Value→Prop
  |[],[]=>True
  |r::rs,v::vs=>Res X Γ R H r v∧xf X Γ R H rs vs
  |_,_=>False
def tup:List Value→Value
  |[v]=>v
  |vs=>.tuple (List.toArray vs)
def kE (tmps:Array Value):ResultVar→Sem Value
  | .tmp t=>Pure.pure (tmps.getD t undef)
  | .cell b t=>do loadVar t (← asAddr (tmps.getD b undef))
theorem vK {xs vs:List Value}{k m:Nat}(hv:(xs.drop k).take m=vs)(j:Nat)(u:Value)(hu:vs[j]?=some u):xs[k+j]?=some u:=by
 rw [← hv,List.getElem?_take] at hu
 split at hu
 ·rw [List.getElem?_drop] at hu
  exact hu
 cases hu
theorem Hl {a:Act}{w:World}(hf:Fr n ds a Γ)(hs:Sat β w R H){r:ResultVar}{v:Value}(h:Res X Γ R H r v):(kE a.tmps r).run X.P w=.ok v w:=by
 cases r with
 |tmp t=>
  have:=hf.vals t v h
  simp [kE,this]
 |cell b t=>
  apply Y 0xbb1f;intro i A k xs ht hb hsrc hor;have hb':=hf.vals b _ hb;apply Y 0xad0f;intro hA
  rcases hor with ⟨ha,h0,vs,hv,hl,rfl⟩|⟨ha,hv⟩
  ·apply Y 0x4ee;intro hS;apply Y 0x5c1f;intro u0 hu0;obtain ⟨ad,rfl,_⟩:=hsrc β w hs (k+0) u0 (vK hv 0 u0 hu0);apply Y 0x181f;intro hx;have hlc:=run_loadCells_list (P:=X.P) w (ad.add k) vs (fun j u hu=>by
    obtain ⟨b,hb,hc⟩:=hsrc β w hs _ _ (vK hv j u hu)
    injection hb with hb
    subst hb;rw [lN]
    exact hc)
   rw [hl] at hlc;rw [ha] at hA
   simp only [kE,hx,asAddr,Sem.run_bind,Sem.run_pure,Result.andThen_ok,loadVar,hA,hS,if_true,hlc]
  obtain ⟨ad,rfl,hc⟩:=hsrc β w hs k v hv;rw [ha] at hA;apply Y 0x181f;intro hx
  simp only [kE,hx,asAddr,Sem.run_bind,Sem.run_pure,Result.andThen_ok,loadVar,hA]
  simp [hc]
theorem vt {a:Act}{w:World}(hf:Fr n ds a Γ)(hs:Sat β w R H):∀ {rs:List ResultVar} {vs:List Value},xf X Γ R H rs vs→(rs.mapM (kE a.tmps)).run X.P w=.ok vs w
  |[],[],_=>rfl
  |r::rs,v::vs,h=>by
    rw [List.mapM_cons,Sem.run_bind,Hl hf hs h.1,Result.andThen_ok,Sem.run_bind,vt hf hs h.2]
    rfl
  |[],_::_,h=>h.elim
  |_::_,[],h=>h.elim
theorem xH (fn:Func)(tmps:Array Value):results fn tmps=(do let vs ← fn.results.mapM (kE tmps);Pure.pure (if h:vs.size=1 then vs[0] else .tuple vs)):=by
 unfold results
 congr 1
def Has (R H:List Pr)(r:Pr):Prop:=(∀ β w,Sat β w R H→r.p w)∧(∀ k,r.fp k→(∃ r'∈R,r'.fp k)∨∃ (i:Nat) (c:Pr),H[i]?=some c∧c.fp k)
theorem Has.r (j:Nat){r:Pr}(h:R[j]?=some r):Has R H r:=⟨fun _ _ hs=>hs.rd _ (List.mem_of_getElem? h),fun _ hk=>.inl ⟨r,List.mem_of_getElem? h,hk⟩⟩
theorem Has.o (j:Nat){e:TypeId}{sz m c:Nat}{A:Option Addr}{xs:List Value}(h:H[j]?=some (Own e sz A m c xs)):Has R H (Rd A xs):=
  ⟨fun β w hs=>Src.o j h β w hs,fun _ hk=>.inr ⟨j,_,h,hk.2⟩⟩
theorem Has.nil {A:Option Addr}:Has R H (Rd A []):=⟨fun _ _ _ j u hu=>by simp at hu,fun _ hk=>absurd rfl hk.1⟩
theorem Has.sub {A:Option Addr}{xs:List Value}(h:Has R H (Rd A xs))(c l sz m:Nat)(hl:xs.length≤c*sz):Has R H (Rd (bF A c l sz) ((xs.drop (l*sz)).take m)):=by
 refine ⟨fun β w hs=>Src.take (Src.sub (fun β w hs=>h.1 β w hs) c l sz hl) m β w hs,fun k hk=>h.2 k ⟨?_,?_⟩⟩
 ·intro e;subst e
  exact hk.1 Ob
 obtain ⟨_,a,ha,hk⟩:=hk
 unfold bF at ha
 split at ha
 ·exact ⟨a,ha,hk⟩
 cases A with
 |none=>cases ha
 |some b=>
  simp at ha;subst ha;exact ⟨b,rfl,by rw [← hk,pA]⟩
theorem Has.cast {A:Option Addr}{xs ys:List Value}(h:Has R H (Rd A xs))(e:xs=ys):Has R H (Rd A ys):=e▸h
def eh (R H:List Pr):List Pr→Prop
  |[]=>True
  |r::rs=>Has R H r∧eh R H rs
theorem eh.all:∀ {rs:List Pr},eh R H rs→∀ r∈rs,Has R H r
  |[],_,r,h=>by cases h
  |a::rs,hh,r,h=>by
    rcases List.mem_cons.1 h with rfl|h
    · exact hh.1
    · exact eh.all hh.2 r h
def sel (H:List Pr):List Nat→List Pr
  |[]=>[]
  |j::js=>match H[j]? with
    |some c=>c::sel H js
    |none=>sel H js
theorem aD {H:List Pr}:∀ {js:List Nat} {c:Pr},c∈sel H js→∃ j∈js,H[j]?=some c
  |[],c,h=>by cases h
  |j::js,c,h=>by
    simp only [sel] at h
    split at h
    · rename_i d hd
      rcases List.mem_cons.1 h with rfl|h
      · exact ⟨j,by simp,hd⟩
      · obtain ⟨i,hi,hc⟩:=aD h
        exact ⟨i,by simp [hi],hc⟩
    · obtain ⟨i,hi,hc⟩:=aD h
      exact ⟨i,by simp [hi],hc⟩
theorem iM {H:List Pr}:∀ {js:List Nat},js.Nodup→∀ (i j:Nat) (c d:Pr),(sel H js)[i]?=some c→(sel H js)[j]?=some d→i≠j→∃ p q,p∈js∧q∈js∧p≠q∧H[p]?=some c∧H[q]?=some d
  |[],_,i,j,c,d,h,_,_=>by simp [sel] at h
  |k::js,hn,i,j,c,d,hc,hd,hne=>by
    have hn':=(List.nodup_cons.1 hn)
    simp only [sel] at hc hd
    split at hc
    · rename_i e he
      rw [he] at hd
      simp only at hd
      cases i with
      |zero=>
        simp at hc
        subst hc
        cases j with
        |zero=>exact absurd rfl hne
        |succ j=>
          simp at hd
          obtain ⟨q,hq,hqd⟩:=aD (List.mem_of_getElem? hd)
          exact ⟨k,q,by simp,by simp [hq],fun h=>hn'.1 (h▸hq),he,hqd⟩
      |succ i=>
        simp at hc
        cases j with
        |zero=>
          simp at hd
          subst hd
          obtain ⟨q,hq,hqd⟩:=aD (List.mem_of_getElem? hc)
          exact ⟨q,k,by simp [hq],by simp,fun h=>hn'.1 (h▸hq),hqd,he⟩
        |succ j=>
          simp at hd
          obtain ⟨p,q,hp,hq,r⟩:=iM hn'.2 i j c d hc hd oe
          exact ⟨p,q,by simp [hp],by simp [hq],r⟩
    · rename_i he
      rw [he] at hd
      simp only at hd
      obtain ⟨p,q,hp,hq,r⟩:=iM hn'.2 i j c d hc hd hne
      exact ⟨p,q,by simp [hp],by simp [hq],r⟩
theorem Sat.sel {w:World}(h:Sat β w R H){js:List Nat}(hn:js.Nodup):Sat β w R (sel H js):=by
 refine h.put (Stp.refl w fun _=>False) (fun _ hk=>hk.elim) R _ (fun r hr=>.inl hr) ?_ ?_ ?_
 ·intro i c hc;obtain ⟨j,_,hj⟩:=aD (List.mem_of_getElem? hc);exact ⟨h.own j c hj,fun k hk=>⟨(h.ofp j c hj k hk).1,.inr ⟨j,c,hj,hk⟩⟩⟩
 ·intro i j c d hc hd hne k hk hk';obtain ⟨p,q,_,_,hpq,hp,hq⟩:=iM hn i j c d hc hd hne
  exact h.dis p q c d hp hq hpq k hk hk'
 intro r hr j c hc k hk hk';obtain ⟨p,_,hp⟩:=aD (List.mem_of_getElem? hc)
 exact h.sep r hr p c hp k hk hk'
theorem Sat.selR {w:World}(h:Sat β w R H)(js:List Nat):Sat β w (Sl.sel R js) H:=
  h.reads _ fun r hr=>by
    obtain ⟨j,_,hj⟩:=aD hr
    exact .inl (List.mem_of_getElem? hj)
theorem QE.ret {fn:Func}{Φ:Value→List Pr→List Pr→Prop}{rs:List ResultVar}{vs:List Value}{js hs:List Nat}(hrs:fn.results=List.toArray rs)(hr:xf X Γ R H rs vs)(hn:hs.Nodup)
    (hΦ:Φ (tup vs) (sel R js) (sel H hs)):QE β n [] (post X β fn Φ) .ret Γ R H:=by
 intro a w hf hsat;refine ⟨hf.dfs,tup vs,?_,tup vs,_,_,hΦ,rfl,(hsat.selR js).sel hn⟩;apply Y 0xc61f392f;intro e;rw [e]
 simp only [Result.andThen_ok,Sem.run_pure]
 cases vs with
 |nil=>rfl
 |cons v vs=>
  cases vs with
  |nil=>rfl
  |cons u us=>simp [tup]
theorem lQ {fn:Func}{Φ:Value→List Pr→List Pr→Prop}(h:QE β n [] (post X β fn Φ) .ret Γ R H):QE β n [] (post X β fn Φ) .normal Γ R H:=h
theorem Ctr.use {f:FuncId}{args:List Value}{Rf Hf Hr:List Pr}{Φ:Value→List Pr→List Pr→Prop}(h:Ctr X f args Rf Hf Φ){js js':List Nat}(hj:sel H js=Hf)(hj':sel H js'=Hr)(hn:(js++js').Nodup)
    (hR:eh R Hr Rf) {w:World} (hs:Sat β w R H):Calls X.P f (List.toArray args) w fun e w'=>∃ v R' H',Φ v R' H'∧e=.returned v∧Sat β w' R (H'++Hr):=by
  subst hj hj'
  have nj:=(List.nodup_append.1 hn).1
  have nj':=(List.nodup_append.1 hn).2.1
  have njj:∀ p∈js,∀ q∈js',p≠q:=fun p hp q hq=>(List.nodup_append.1 hn).2.2 p hp q hq
  have hx:∀ c∈sel H js,∀ d∈sel H js',∀ k,c.fp k→¬ d.fp k:=by
    intro c hc d hd k hk hk'
    obtain ⟨p,hp,hpc⟩:=aD hc
    obtain ⟨q,hq,hqd⟩:=aD hd
    exact hs.dis p q c d hpc hqd (njj p hp q hq) k hk hk'
  have hfp:∀ r∈Rf,∀ k,r.fp k→k<w.heap.size∧(∀ c∈sel H js,¬ c.fp k):=by
    intro r hr k hk
    rcases (hR.all r hr).2 k hk with ⟨r',hr',hk'⟩|⟨i,d,hd,hk'⟩
    · refine ⟨(hs.rfp r' hr' k hk').1,fun c hc=>?_⟩
      obtain ⟨p,_,hpc⟩:=aD hc
      exact hs.sep r' hr' p c hpc k hk'
    · have hmd:=List.mem_of_getElem? hd
      obtain ⟨q,_,hqd⟩:=aD hmd
      exact ⟨(hs.ofp q d hqd k hk').1,fun c hc hck=>hx c hc d hmd k hck hk'⟩
  have hsr:Sat β w R (sel H js'):=hs.sel nj'
  have hsf:Sat β w R (sel H js):=hs.sel nj
  have h0:Sat (bT w Rf (sel H js)) w Rf (sel H js):=by
    refine ⟨⟨rfl,rfl,rfl,Nat.le_refl _,fun _ _ _=>rfl⟩,fun r hr=>(hR.all r hr).1 β w hsr,fun r hr k hk=>⟨(hfp r hr k hk).1,.inr (.inr ⟨r,hr,hk⟩)⟩,hsf.own,?_,hsf.dis,?_⟩
    · intro i c hc k hk
      exact ⟨(hsf.ofp i c hc k hk).1,.inr ⟨i,c,hc,hk⟩⟩
    · intro r hr j c hc k hk hk'
      exact (hfp r hr k hk).2 c (List.mem_of_getElem? hc) hk'
  refine (h.2 w h0).mono ?_
  rintro e w' ⟨v,R',H',hΦ,he,hs'⟩
  refine ⟨v,R',H',hΦ,he,?_⟩
  have hst:Stp w w' (fun k=>∃ (i:Nat) (c:Pr),(sel H js)[i]?=some c∧c.fp k):=⟨hs'.ext.os,hs'.ext.tape,hs'.ext.output,hs'.ext.size,hs'.ext.block⟩
  have hmt:∀ k,(∃ (i:Nat) (c:Pr),(sel H js)[i]?=some c∧c.fp k)→∃ (i:Nat) (c:Pr),H[i]?=some c∧c.fp k:=by
    rintro k ⟨i,c,hc,hk⟩
    obtain ⟨p,_,hp⟩:=aD (List.mem_of_getElem? hc)
    exact ⟨p,c,hp,hk⟩
  have hget:∀ (i:Nat) (c:Pr),(H'++sel H js')[i]?=some c→(i<H'.length∧H'[i]?=some c)∨(H'.length≤i∧(sel H js')[i-H'.length]?=some c):=by
    intro i c hc
    rw [List.getElem?_append] at hc
    split at hc
    · rename_i hlt;exact .inl ⟨hlt,hc⟩
    · rename_i hge;exact .inr ⟨by omega,hc⟩
  have cross:∀ (i:Nat) (c:Pr),H'[i]?=some c→∀ (j:Nat) (d:Pr),(sel H js')[j]?=some d→∀ k,c.fp k→¬ d.fp k:=by
    intro i c hc j d hd k hk hk'
    have hlt:=(hsr.ofp j d hd k hk').1
    rcases (hs'.ofp i c hc k hk).2 with y|⟨p,x,hx1,hx2⟩
    · have y':w.heap.size≤k:=y;omega
    · exact hx x (List.mem_of_getElem? hx1) d (List.mem_of_getElem? hd) k hx2 hk'
  refine hs.put hst (fun k hk _=>hmt k hk) R (H'++sel H js') (fun r hr=>.inl hr) ?_ ?_ ?_
  · intro i c hc
    rcases hget i c hc with ⟨_,hc⟩|⟨_,hc⟩
    · refine ⟨hs'.own i c hc,fun k hk=>⟨(hs'.ofp i c hc k hk).1,?_⟩⟩
      rcases (hs'.ofp i c hc k hk).2 with y|y
      · exact .inl y
      · exact .inr (hmt k y)
    · refine ⟨c.st w w' (fun k hk=>hst.block k (hsr.ofp _ c hc k hk).1 ?_) (hsr.own _ c hc),fun k hk=>⟨Nat.lt_of_lt_of_le (hsr.ofp _ c hc k hk).1 hst.size,.inr ?_⟩⟩
      · rintro ⟨p,x,hx1,hx2⟩
        exact hx x (List.mem_of_getElem? hx1) c (List.mem_of_getElem? hc) k hx2 hk
      · obtain ⟨q,_,hq⟩:=aD (List.mem_of_getElem? hc)
        exact ⟨q,c,hq,hk⟩
  · intro i j c d hc hd hne k hk hk'
    rcases hget i c hc with ⟨_,hc⟩|⟨hi,hc⟩<;>rcases hget j d hd with ⟨_,hd⟩|⟨hj,hd⟩
    · exact hs'.dis i j c d hc hd hne k hk hk'
    · exact cross i c hc _ d hd k hk hk'
    · exact cross j d hd _ c hc k hk' hk
    · exact hsr.dis _ _ c d hc hd oe k hk hk'
  · intro r hr j c hc k hk hk'
    rcases hget j c hc with ⟨_,hc⟩|⟨_,hc⟩
    · have hlt:=(hs.rfp r hr k hk).1
      rcases (hs'.ofp j c hc k hk').2 with y|⟨p,x,hx1,hx2⟩
      · have y':w.heap.size≤k:=y;omega
      · obtain ⟨q,_,hq⟩:=aD (List.mem_of_getElem? hx1)
        exact hs.sep r hr q x hq k hk hx2
    · exact hsr.sep r hr _ c hc k hk hk'
theorem Ctr.useR {f:FuncId}{args:List Value}{Rf Hf Hr:List Pr}{Φ:Value→List Pr→List Pr→Prop}(h:Ctr X f args Rf Hf Φ){js js':List Nat}(hj:sel H js=Hf)(hj':sel H js'=Hr)(hn:(js++js').Nodup)
    (hR:eh R [] Rf) {w:World} (hs:Sat β w R H):Calls X.P f (List.toArray args) w fun e w'=>∃ v R' H',Φ v R' H'∧e=.returned v∧Sat β w' (R'++R) (H'++Hr):=by
  subst hj hj'
  have nj:=(List.nodup_append.1 hn).1
  have nj':=(List.nodup_append.1 hn).2.1
  have njj:∀ p∈js,∀ q∈js',p≠q:=fun p hp q hq=>(List.nodup_append.1 hn).2.2 p hp q hq
  have hx:∀ c∈sel H js,∀ d∈sel H js',∀ k,c.fp k→¬ d.fp k:=by
    intro c hc d hd k hk hk'
    obtain ⟨p,hp,hpc⟩:=aD hc
    obtain ⟨q,hq,hqd⟩:=aD hd
    exact hs.dis p q c d hpc hqd (njj p hp q hq) k hk hk'
  have hin:∀ r∈Rf,∀ k,r.fp k→∃ r'∈R,r'.fp k:=by
    intro r hr k hk
    rcases (hR.all r hr).2 k hk with x|⟨i,d,hd,_⟩
    · exact x
    · simp at hd
  have hsr:Sat β w R (sel H js'):=hs.sel nj'
  have hsf:Sat β w R (sel H js):=hs.sel nj
  have h0:Sat (bT w Rf (sel H js)) w Rf (sel H js):=by
    refine ⟨⟨rfl,rfl,rfl,Nat.le_refl _,fun _ _ _=>rfl⟩,fun r hr=>(hR.all r hr).1 β w (by
      have:=hs.sel (js:=[]) Ob
      exact this),fun r hr k hk=>?_,hsf.own,?_,hsf.dis,?_⟩
    · obtain ⟨r',hr',hk'⟩:=hin r hr k hk
      exact ⟨(hs.rfp r' hr' k hk').1,.inr (.inr ⟨r,hr,hk⟩)⟩
    · intro i c hc k hk
      exact ⟨(hsf.ofp i c hc k hk).1,.inr ⟨i,c,hc,hk⟩⟩
    · intro r hr j c hc k hk hk'
      obtain ⟨r',hr',hk2⟩:=hin r hr k hk
      exact hsf.sep r' hr' j c hc k hk2 hk'
  refine (h.2 w h0).mono ?_
  rintro e w' ⟨v,R',H',hΦ,he,hs'⟩
  refine ⟨v,R',H',hΦ,he,?_⟩
  have hst:Stp w w' (fun k=>∃ (i:Nat) (c:Pr),(sel H js)[i]?=some c∧c.fp k):=⟨hs'.ext.os,hs'.ext.tape,hs'.ext.output,hs'.ext.size,hs'.ext.block⟩
  have hmt:∀ k,(∃ (i:Nat) (c:Pr),(sel H js)[i]?=some c∧c.fp k)→∃ (i:Nat) (c:Pr),H[i]?=some c∧c.fp k:=by
    rintro k ⟨i,c,hc,hk⟩
    obtain ⟨p,_,hp⟩:=aD (List.mem_of_getElem? hc)
    exact ⟨p,c,hp,hk⟩
  have hget:∀ (i:Nat) (c:Pr),(H'++sel H js')[i]?=some c→(i<H'.length∧H'[i]?=some c)∨(H'.length≤i∧(sel H js')[i-H'.length]?=some c):=by
    intro i c hc
    rw [List.getElem?_append] at hc
    split at hc
    · rename_i hlt;exact .inl ⟨hlt,hc⟩
    · rename_i hge;exact .inr ⟨by omega,hc⟩
  have cross:∀ (i:Nat) (c:Pr),H'[i]?=some c→∀ (j:Nat) (d:Pr),(sel H js')[j]?=some d→∀ k,c.fp k→¬ d.fp k:=by
    intro i c hc j d hd k hk hk'
    have hlt:=(hsr.ofp j d hd k hk').1
    rcases (hs'.ofp i c hc k hk).2 with y|⟨p,x,hx1,hx2⟩
    · have y':w.heap.size≤k:=y;omega
    · exact hx x (List.mem_of_getElem? hx1) d (List.mem_of_getElem? hd) k hx2 hk'
  refine hs.put hst (fun k hk _=>hmt k hk) (R'++R) (H'++sel H js') ?_ ?_ ?_ ?_
  · intro r hr
    rcases List.mem_append.1 hr with hr|hr
    · refine .inr ⟨hs'.rd r hr,fun k hk=>⟨(hs'.rfp r hr k hk).1,?_⟩⟩
      rcases (hs'.rfp r hr k hk).2 with y|y|⟨r0,hr0,hk0⟩
      · exact .inl y
      · exact .inr (.inl (hmt k y))
      · exact .inr (.inr (hin r0 hr0 k hk0))
    · exact .inl hr
  · intro i c hc
    rcases hget i c hc with ⟨_,hc⟩|⟨_,hc⟩
    · refine ⟨hs'.own i c hc,fun k hk=>⟨(hs'.ofp i c hc k hk).1,?_⟩⟩
      rcases (hs'.ofp i c hc k hk).2 with y|y
      · exact .inl y
      · exact .inr (hmt k y)
    · refine ⟨c.st w w' (fun k hk=>hst.block k (hsr.ofp _ c hc k hk).1 ?_) (hsr.own _ c hc),fun k hk=>⟨Nat.lt_of_lt_of_le (hsr.ofp _ c hc k hk).1 hst.size,.inr ?_⟩⟩
      · rintro ⟨p,x,hx1,hx2⟩
        exact hx x (List.mem_of_getElem? hx1) c (List.mem_of_getElem? hc) k hx2 hk
      · obtain ⟨q,_,hq⟩:=aD (List.mem_of_getElem? hc)
        exact ⟨q,c,hq,hk⟩
  · intro i j c d hc hd hne k hk hk'
    rcases hget i c hc with ⟨_,hc⟩|⟨hi,hc⟩<;>rcases hget j d hd with ⟨_,hd⟩|⟨hj,hd⟩
    · exact hs'.dis i j c d hc hd hne k hk hk'
    · exact cross i c hc _ d hd k hk hk'
    · exact cross j d hd _ c hc k hk' hk
    · exact hsr.dis _ _ c d hc hd oe k hk hk'
  · intro r hr j c hc k hk hk'
    rcases List.mem_append.1 hr with hr|hr<;>rcases hget j c hc with ⟨_,hc⟩|⟨_,hc⟩
    · exact hs'.sep r hr j c hc k hk hk'
    · have hlt:=(hsr.ofp _ c hc k hk').1
      rcases (hs'.rfp r hr k hk).2 with y|⟨p,x,hx1,hx2⟩|⟨r0,hr0,hk0⟩
      · have y':w.heap.size≤k:=y;omega
      · exact hx x (List.mem_of_getElem? hx1) c (List.mem_of_getElem? hc) k hx2 hk'
      · obtain ⟨r',hr',hk2⟩:=hin r0 hr0 k hk0
        exact hsr.sep r' hr' _ c hc k hk2 hk'
    · have hlt:=(hs.rfp r hr k hk).1
      rcases (hs'.ofp j c hc k hk').2 with y|⟨p,x,hx1,hx2⟩
      · have y':w.heap.size≤k:=y;omega
      · obtain ⟨q,_,hq⟩:=aD (List.mem_of_getElem? hx1)
        exact hs.sep r hr q x hq k hk hx2
    · exact hsr.sep r hr _ c hc k hk hk'
theorem mG {ρ:Operand→Value}{f:FuncId}{g:Operand}{as:List Operand}{args:List Value}{first cap:Array Value}{tys:Array TypeId}{w:World}(hok:FnOk X.P f)(hρ:∀ x u,ev Γ x=some u→ρ x=u)(hg:ev Γ g=some (.func (.func f) first cap))(ha:evs Γ as=some args)(o:Oper)
    (ho:o.op=.call ⟨.value g,List.toArray as,tys⟩):(execOp ρ o).run X.P w=.ok (.enter f (List.toArray (first.toList++args++cap.toList))) w:=by
 obtain ⟨fn,hf,hb,hname⟩:=hok.ok;apply Y 0x1d0f;intro e1;have hfv:=hρ g _ hg;apply Y 0xab0f;intro e2
 simp only [beq_eq_false_iff_ne] at hname;have e3:first++List.toArray args++cap=List.toArray (first.toList++args++cap.toList):=obx
 simp only [execOp,ho,resolve,hfv,Deferred.ofValue,invoke,callFunc,Sem.run_bind,Sem.run_pure,Result.andThen_ok,e2,run_program,hf,hb,e3]
 simp [hname]
theorem BR {ρ:Operand→Value}{f:FuncId}{as:List Operand}{args:List Value}{tys:Array TypeId}{w:World}(hok:FnOk X.P f)(hρ:∀ x u,ev Γ x=some u→ρ x=u)(ha:evs Γ as=some args)(o:Oper)
    (ho:o.op=.call ⟨.value (.func f),List.toArray as,tys⟩):(execOp ρ o).run X.P w=.ok (.enter f (List.toArray args)) w:=by
 have:=mG (w:=w) hok hρ (g:=.func f) (first:=#[]) (cap:=#[]) rfl ha o ho
 simpa using this
theorem L.call {d ty:Nat}{pos:String}{af:Array Edge}{f:Nat}{as:List Operand}{tys:Array TypeId}{args:List Value}{Rf Hf Hr:List Pr}{js js':List Nat}{Φ:Value→List Pr→List Pr→Prop}(hfn:Ctr X f args Rf Hf Φ)
    (ha:evs Γ as=some args) (hj:sel H js=Hf) (hj':sel H js'=Hr) (hn:(js++js').Nodup) (hR:eh R Hr Rf) (hd:Nat.blt d n=true)
    (k:∀ v R' H',Φ v R' H'→L X β n ds ops Q rest ((d,v)::Γ) R (H'++Hr)):L X β n ds ops Q (⟨some d,.call ⟨.value (.func f),List.toArray as,tys⟩,ty,pos,af,none⟩::rest) Γ R H:=by
 intro a w hf hs;refine wpList_plain rfl fun K hK=>?_
 apply Y 0x320f640f62e;rintro e w' ⟨v,R',H',hΦ,rfl,hs'⟩;exact Zm 0x860f
theorem dj {d ty:Nat}{pos:String}{af:Array Edge}{f:Nat}{as:List Operand}{tys:Array TypeId}{args:List Value}{Rf Hf Hr:List Pr}{js js':List Nat}{Φ:Value→List Pr→List Pr→Prop}(hfn:Ctr X f args Rf Hf Φ)
    (ha:evs Γ as=some args) (hj:sel H js=Hf) (hj':sel H js'=Hr) (hn:(js++js').Nodup) (hR:eh R [] Rf) (hd:Nat.blt d n=true)
    (k:∀ v R' H',Φ v R' H'→L X β n ds ops Q rest ((d,v)::Γ) (R'++R) (H'++Hr)):L X β n ds ops Q (⟨some d,.call ⟨.value (.func f),List.toArray as,tys⟩,ty,pos,af,none⟩::rest) Γ R H:=by
 intro a w hf hs;refine wpList_plain rfl fun K hK=>?_
 apply Y 0xee0f640f62e;rintro e w' ⟨v,R',H',hΦ,rfl,hs'⟩;exact Zm 0x860f
theorem gL {d ty:Nat}{pos:String}{af:Array Edge}{f:Nat}{g:Operand}{as:List Operand}{tys:Array TypeId}{args all:List Value}{first cap:Array Value}{Rf Hf Hr:List Pr}{js js':List Nat}{Φ:Value→List Pr→List Pr→Prop}(hfn:Ctr X f all Rf Hf Φ)
    (hg:ev Γ g=some (.func (.func f) first cap)) (ha:evs Γ as=some args) (hall:first.toList++args++cap.toList=all) (hj:sel H js=Hf) (hj':sel H js'=Hr) (hn:(js++js').Nodup) (hR:eh R Hr Rf) (hd:Nat.blt d n=true)
    (k:∀ v R' H',Φ v R' H'→L X β n ds ops Q rest ((d,v)::Γ) R (H'++Hr)):L X β n ds ops Q (⟨some d,.call ⟨.value g,List.toArray as,tys⟩,ty,pos,af,none⟩::rest) Γ R H:=by
 intro a w hf hs;refine wpList_plain rfl fun K hK=>?_
 apply Y 0x320f751f62e;rintro e w' ⟨v,R',H',hΦ,rfl,hs'⟩;exact Zm 0x860f
end
end Go.Sl
