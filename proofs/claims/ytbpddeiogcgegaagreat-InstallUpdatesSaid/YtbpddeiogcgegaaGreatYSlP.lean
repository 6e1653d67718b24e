/-
  Part of a proof.
-/
import Derived.Recover
import Derived.Test.YtbpddeiogcgegaaGreatYSlI
set_option maxHeartbeats 0
set_option maxRecDepth 4000
set_option linter.all false
namespace Go.Sl
section
variable {X:Cx}{β:Base}{n:Nat}{ds:List Deferred}{ops:Array Oper}{Q:Exit→Act→World→Prop}{rest:List Oper}{Γ:Env}{R H:List Pr}
def dU (X:Cx)(f:FuncId)(args:List Value)(R H:List Pr)(Φ:Ending→List Pr→List Pr→Prop):Prop:=
  FnOk X.P f∧∀ w,Sat (bT w R H) w R H→Calls X.P f (List.toArray args) w fun e w'=>∃ R' H',Φ e R' H'∧Sat (bT w R H) w' R' H'
def b5 (ch:List PanicEntry)(Φ:Value→List Pr→List Pr→Prop)(Ψ:List Pr→List Pr→Prop):Ending→List Pr→List Pr→Prop
  | .returned v,R',H'=>Φ v R' H'
  | .panicked c,R',H'=>c=ch∧Ψ R' H'
  | .outgrown,_,_=>False
theorem dU.use {f:FuncId}{args:List Value}{Rf Hf Hr:List Pr}{Φ:Ending→List Pr→List Pr→Prop}(h:dU X f args Rf Hf Φ){js js':List Nat}(hj:sel H js=Hf)(hj':sel H js'=Hr)(hn:(js++js').Nodup)
    (hR:eh R Hr Rf) {w:World} (hs:Sat β w R H):Calls X.P f (List.toArray args) w fun e w'=>∃ R' H',Φ e R' H'∧Sat β w' R (H'++Hr):=by
  subst hj hj'
  have nj:=(List.nodup_append.1 hn).1
  have nj':=(List.nodup_append.1 hn).2.1
  have njj:∀ p∈js,∀ q∈js',p≠q:=fun p hp q hq=>(List.nodup_append.1 hn).2.2 p hp q hq
  have hx:∀ c∈sel H js,∀ d∈sel H js',∀ k,c.fp k→¬ d.fp k:=by
    intro c hc d hd k hk hk'
    obtain ⟨p,hp,hpc⟩:=aD hc
    obtain ⟨q,hq,hqd⟩:=aD hd
    exact hs.dis p q c d hpc hqd (njj p hp q hq) k hk hk'
  have hfp:∀ r∈Rf,∀ k,r.fp k→k<w.heap.size∧(∀ c∈sel H js,¬ c.fp k):=by
    intro r hr k hk
    rcases (hR.all r hr).2 k hk with ⟨r',hr',hk'⟩|⟨i,d,hd,hk'⟩
    · refine ⟨(hs.rfp r' hr' k hk').1,fun c hc=>?_⟩
      obtain ⟨p,_,hpc⟩:=aD hc
      exact hs.sep r' hr' p c hpc k hk'
    · have hmd:=List.mem_of_getElem? hd
      obtain ⟨q,_,hqd⟩:=aD hmd
      exact ⟨(hs.ofp q d hqd k hk').1,fun c hc hck=>hx c hc d hmd k hck hk'⟩
  have hsr:Sat β w R (sel H js'):=hs.sel nj'
  have hsf:Sat β w R (sel H js):=hs.sel nj
  have h0:Sat (bT w Rf (sel H js)) w Rf (sel H js):=by
    refine ⟨⟨rfl,rfl,rfl,Nat.le_refl _,fun _ _ _=>rfl⟩,fun r hr=>(hR.all r hr).1 β w hsr,fun r hr k hk=>⟨(hfp r hr k hk).1,.inr (.inr ⟨r,hr,hk⟩)⟩,hsf.own,?_,hsf.dis,?_⟩
    · intro i c hc k hk
      exact ⟨(hsf.ofp i c hc k hk).1,.inr ⟨i,c,hc,hk⟩⟩
    · intro r hr j c hc k hk hk'
      exact (hfp r hr k hk).2 c (List.mem_of_getElem? hc) hk'
  refine (h.2 w h0).mono ?_
  rintro e w' ⟨R',H',hΦ,hs'⟩
  refine ⟨R',H',hΦ,?_⟩
  have hst:Stp w w' (fun k=>∃ (i:Nat) (c:Pr),(sel H js)[i]?=some c∧c.fp k):=⟨hs'.ext.os,hs'.ext.tape,hs'.ext.output,hs'.ext.size,hs'.ext.block⟩
  have hmt:∀ k,(∃ (i:Nat) (c:Pr),(sel H js)[i]?=some c∧c.fp k)→∃ (i:Nat) (c:Pr),H[i]?=some c∧c.fp k:=by
    rintro k ⟨i,c,hc,hk⟩
    obtain ⟨p,_,hp⟩:=aD (List.mem_of_getElem? hc)
    exact ⟨p,c,hp,hk⟩
  have hget:∀ (i:Nat) (c:Pr),(H'++sel H js')[i]?=some c→(i<H'.length∧H'[i]?=some c)∨(H'.length≤i∧(sel H js')[i-H'.length]?=some c):=by
    intro i c hc
    rw [List.getElem?_append] at hc
    split at hc
    · rename_i hlt;exact .inl ⟨hlt,hc⟩
    · rename_i hge;exact .inr ⟨by omega,hc⟩
  have cross:∀ (i:Nat) (c:Pr),H'[i]?=some c→∀ (j:Nat) (d:Pr),(sel H js')[j]?=some d→∀ k,c.fp k→¬ d.fp k:=by
    intro i c hc j d hd k hk hk'
    have hlt:=(hsr.ofp j d hd k hk').1
    rcases (hs'.ofp i c hc k hk).2 with y|⟨p,x,hx1,hx2⟩
    · have y':w.heap.size≤k:=y;omega
    · exact hx x (List.mem_of_getElem? hx1) d (List.mem_of_getElem? hd) k hx2 hk'
  refine hs.put hst (fun k hk _=>hmt k hk) R (H'++sel H js') (fun r hr=>.inl hr) ?_ ?_ ?_
  · intro i c hc
    rcases hget i c hc with ⟨_,hc⟩|⟨_,hc⟩
    · refine ⟨hs'.own i c hc,fun k hk=>⟨(hs'.ofp i c hc k hk).1,?_⟩⟩
      rcases (hs'.ofp i c hc k hk).2 with y|y
      · exact .inl y
      · exact .inr (hmt k y)
    · refine ⟨c.st w w' (fun k hk=>hst.block k (hsr.ofp _ c hc k hk).1 ?_) (hsr.own _ c hc),fun k hk=>⟨Nat.lt_of_lt_of_le (hsr.ofp _ c hc k hk).1 hst.size,.inr ?_⟩⟩
      · rintro ⟨p,x,hx1,hx2⟩
        exact hx x (List.mem_of_getElem? hx1) c (List.mem_of_getElem? hc) k hx2 hk
      · obtain ⟨q,_,hq⟩:=aD (List.mem_of_getElem? hc)
        exact ⟨q,c,hq,hk⟩
  · intro i j c d hc hd hne k hk hk'
    rcases hget i c hc with ⟨_,hc⟩|⟨hi,hc⟩<;>rcases hget j d hd with ⟨_,hd⟩|⟨hj,hd⟩
    · exact hs'.dis i j c d hc hd hne k hk hk'
    · exact cross i c hc _ d hd k hk hk'
    · exact cross j d hd _ c hc k hk' hk
    · exact hsr.dis _ _ c d hc hd oe k hk hk'
  · intro r hr j c hc k hk hk'
    rcases hget j c hc with ⟨_,hc⟩|⟨_,hc⟩
    · have hlt:=(hs.rfp r hr k hk).1
      rcases (hs'.ofp j c hc k hk').2 with y|⟨p,x,hx1,hx2⟩
      · have y':w.heap.size≤k:=y;omega
      · obtain ⟨q,_,hq⟩:=aD (List.mem_of_getElem? hx1)
        exact hs.sep r hr q x hq k hk hx2
    · exact hsr.sep r hr _ c hc k hk hk'
theorem dU.useR {f:FuncId}{args:List Value}{Rf Hf Hr:List Pr}{Φ:Ending→List Pr→List Pr→Prop}(h:dU X f args Rf Hf Φ){js js':List Nat}(hj:sel H js=Hf)(hj':sel H js'=Hr)(hn:(js++js').Nodup)
    (hR:eh R [] Rf) {w:World} (hs:Sat β w R H):Calls X.P f (List.toArray args) w fun e w'=>∃ R' H',Φ e R' H'∧Sat β w' (R'++R) (H'++Hr):=by
  subst hj hj'
  have nj:=(List.nodup_append.1 hn).1
  have nj':=(List.nodup_append.1 hn).2.1
  have njj:∀ p∈js,∀ q∈js',p≠q:=fun p hp q hq=>(List.nodup_append.1 hn).2.2 p hp q hq
  have hx:∀ c∈sel H js,∀ d∈sel H js',∀ k,c.fp k→¬ d.fp k:=by
    intro c hc d hd k hk hk'
    obtain ⟨p,hp,hpc⟩:=aD hc
    obtain ⟨q,hq,hqd⟩:=aD hd
    exact hs.dis p q c d hpc hqd (njj p hp q hq) k hk hk'
  have hin:∀ r∈Rf,∀ k,r.fp k→∃ r'∈R,r'.fp k:=by
    intro r hr k hk
    rcases (hR.all r hr).2 k hk with x|⟨i,d,hd,_⟩
    · exact x
    · simp at hd
  have hsr:Sat β w R (sel H js'):=hs.sel nj'
  have hsf:Sat β w R (sel H js):=hs.sel nj
  have h0:Sat (bT w Rf (sel H js)) w Rf (sel H js):=by
    refine ⟨⟨rfl,rfl,rfl,Nat.le_refl _,fun _ _ _=>rfl⟩,fun r hr=>(hR.all r hr).1 β w (by
      have:=hs.sel (js:=[]) Ob
      exact this),fun r hr k hk=>?_,hsf.own,?_,hsf.dis,?_⟩
    · obtain ⟨r',hr',hk'⟩:=hin r hr k hk
      exact ⟨(hs.rfp r' hr' k hk').1,.inr (.inr ⟨r,hr,hk⟩)⟩
    · intro i c hc k hk
      exact ⟨(hsf.ofp i c hc k hk).1,.inr ⟨i,c,hc,hk⟩⟩
    · intro r hr j c hc k hk hk'
      obtain ⟨r',hr',hk2⟩:=hin r hr k hk
      exact hsf.sep r' hr' j c hc k hk2 hk'
  refine (h.2 w h0).mono ?_
  rintro e w' ⟨R',H',hΦ,hs'⟩
  refine ⟨R',H',hΦ,?_⟩
  have hst:Stp w w' (fun k=>∃ (i:Nat) (c:Pr),(sel H js)[i]?=some c∧c.fp k):=⟨hs'.ext.os,hs'.ext.tape,hs'.ext.output,hs'.ext.size,hs'.ext.block⟩
  have hmt:∀ k,(∃ (i:Nat) (c:Pr),(sel H js)[i]?=some c∧c.fp k)→∃ (i:Nat) (c:Pr),H[i]?=some c∧c.fp k:=by
    rintro k ⟨i,c,hc,hk⟩
    obtain ⟨p,_,hp⟩:=aD (List.mem_of_getElem? hc)
    exact ⟨p,c,hp,hk⟩
  have hget:∀ (i:Nat) (c:Pr),(H'++sel H js')[i]?=some c→(i<H'.length∧H'[i]?=some c)∨(H'.length≤i∧(sel H js')[i-H'.length]?=some c):=by
    intro i c hc
    rw [List.getElem?_append] at hc
    split at hc
    · rename_i hlt;exact .inl ⟨hlt,hc⟩
    · rename_i hge;exact .inr ⟨by omega,hc⟩
  have cross:∀ (i:Nat) (c:Pr),H'[i]?=some c→∀ (j:Nat) (d:Pr),(sel H js')[j]?=some d→∀ k,c.fp k→¬ d.fp k:=by
    intro i c hc j d hd k hk hk'
    have hlt:=(hsr.ofp j d hd k hk').1
    rcases (hs'.ofp i c hc k hk).2 with y|⟨p,x,hx1,hx2⟩
    · have y':w.heap.size≤k:=y;omega
    · exact hx x (List.mem_of_getElem? hx1) d (List.mem_of_getElem? hd) k hx2 hk'
  refine hs.put hst (fun k hk _=>hmt k hk) (R'++R) (H'++sel H js') ?_ ?_ ?_ ?_
  · intro r hr
    rcases List.mem_append.1 hr with hr|hr
    · refine .inr ⟨hs'.rd r hr,fun k hk=>⟨(hs'.rfp r hr k hk).1,?_⟩⟩
      rcases (hs'.rfp r hr k hk).2 with y|y|⟨r0,hr0,hk0⟩
      · exact .inl y
      · exact .inr (.inl (hmt k y))
      · exact .inr (.inr (hin r0 hr0 k hk0))
    · exact .inl hr
  · intro i c hc
    rcases hget i c hc with ⟨_,hc⟩|⟨_,hc⟩
    · refine ⟨hs'.own i c hc,fun k hk=>⟨(hs'.ofp i c hc k hk).1,?_⟩⟩
      rcases (hs'.ofp i c hc k hk).2 with y|y
      · exact .inl y
      · exact .inr (hmt k y)
    · refine ⟨c.st w w' (fun k hk=>hst.block k (hsr.ofp _ c hc k hk).1 ?_) (hsr.own _ c hc),fun k hk=>⟨Nat.lt_of_lt_of_le (hsr.ofp _ c hc k hk).1 hst.size,.inr ?_⟩⟩
      · rintro ⟨p,x,hx1,hx2⟩
        exact hx x (List.mem_of_getElem? hx1) c (List.mem_of_getElem? hc) k hx2 hk
      · obtain ⟨q,_,hq⟩:=aD (List.mem_of_getElem? hc)
        exact ⟨q,c,hq,hk⟩
  · intro i j c d hc hd hne k hk hk'
    rcases hget i c hc with ⟨_,hc⟩|⟨hi,hc⟩<;>rcases hget j d hd with ⟨_,hd⟩|⟨hj,hd⟩
    · exact hs'.dis i j c d hc hd hne k hk hk'
    · exact cross i c hc _ d hd k hk hk'
    · exact cross j d hd _ c hc k hk' hk
    · exact hsr.dis _ _ c d hc hd oe k hk hk'
  · intro r hr j c hc k hk hk'
    rcases List.mem_append.1 hr with hr|hr<;>rcases hget j c hc with ⟨_,hc⟩|⟨_,hc⟩
    · exact hs'.sep r hr j c hc k hk hk'
    · have hlt:=(hsr.ofp _ c hc k hk').1
      rcases (hs'.rfp r hr k hk).2 with y|⟨p,x,hx1,hx2⟩|⟨r0,hr0,hk0⟩
      · have y':w.heap.size≤k:=y;omega
      · exact hx x (List.mem_of_getElem? hx1) c (List.mem_of_getElem? hc) k hx2 hk'
      · obtain ⟨r',hr',hk2⟩:=hin r0 hr0 k hk0
        exact hsr.sep r' hr' _ c hc k hk2 hk'
    · have hlt:=(hs.rfp r hr k hk).1
      rcases (hs'.ofp j c hc k hk').2 with y|⟨p,x,hx1,hx2⟩
      · have y':w.heap.size≤k:=y;omega
      · obtain ⟨q,_,hq⟩:=aD (List.mem_of_getElem? hx1)
        exact hs.sep r hr q x hq k hk hx2
    · exact hsr.sep r hr _ c hc k hk hk'
def xJ (X:Cx)(β:Base)(fn:Func)(Φ:Ending→List Pr→List Pr→Prop):Exit→Act→World→Prop:=
  bodyPost X.P fn fun e w'=>∃ R' H',Φ e R' H'∧Sat β w' R' H'
theorem dU.of {f:FuncId}{fn:Func}{c:Code}{args:List Value}{Φ:Ending→List Pr→List Pr→Prop}(hf:X.P.funcs[f]?=some fn)(hb:fn.body=some c)(hname:(fn.name== "runtime.NumGoroutine")=false)
    (hn:Nat.ble args.length fn.ntmps=true) (h:∀ β,C X β fn.ntmps [] (xJ X β fn Φ) c (params 0 args) R H):dU X f args R H Φ:=by
 apply Y 0xf40f;intro hn;refine ⟨⟨fn,hf,by rw [hb];rfl,hname⟩,fun w hs=>?_⟩;refine calls_of_wp hf hb (h _ _ w ⟨by simp;omega,rfl,fun s v hv=>?_⟩ hs);obtain ⟨_,h2⟩:=dJ args 0 s v hv;apply Y 0x450f;intro hlt
 simp only [Nat.sub_zero] at h2 hlt;apply Y 0x8a0f
 simpa using h2
theorem dH {fn:Func}{rs:List ResultVar}{vs:List Value}{a:Act}{w:World}(hrs:fn.results=List.toArray rs)(hf:Fr n ds a Γ)(hsat:Sat β w R H)(hr:xf X Γ R H rs vs):(results fn a.tmps).run X.P w=.ok (tup vs) w:=by
 apply Y 0xc61f392f;intro e;rw [e]
 simp only [Result.andThen_ok,Sem.run_pure]
 cases vs with
 |nil=>rfl
 |cons v vs=>
  cases vs with
  |nil=>rfl
  |cons u us=>simp [tup]
theorem fJ {fn:Func}{Φ:Ending→List Pr→List Pr→Prop}{rs:List ResultVar}{vs:List Value}{js hs:List Nat}(hrs:fn.results=List.toArray rs)(hr:xf X Γ R H rs vs)(hn:hs.Nodup)
    (hΦ:Φ (.returned (tup vs)) (sel R js) (sel H hs)):QE β n [] (xJ X β fn Φ) .ret Γ R H:=
  fun _ _ hf hsat=>⟨hf.dfs,tup vs,dH hrs hf hsat hr,_,_,hΦ,(hsat.selR js).sel hn⟩
theorem FE {fn:Func}{Φ:Ending→List Pr→List Pr→Prop}(h:QE β n [] (xJ X β fn Φ) .ret Γ R H):QE β n [] (xJ X β fn Φ) .normal Γ R H:=h
theorem uT {fn:Func}{Φ:Ending→List Pr→List Pr→Prop}{ch:List PanicEntry}{js hs:List Nat}(hn:hs.Nodup)(hΦ:Φ (.panicked ch) (sel R js) (sel H hs)):QE β n [] (xJ X β fn Φ) (.panic ch) Γ R H:=
  fun _ _ hf hsat=>⟨hf.dfs,_,_,hΦ,(hsat.selR js).sel hn⟩
theorem Rw {ch:List PanicEntry}{next:Act→World→Prop}(h:QE β n ds Q (.panic ch) Γ R H):QE β n ds (Exit.then next Q) (.panic ch) Γ R H:=fun a w hf hs=>h a w hf hs
theorem Rz {id:Nat}{ch:List PanicEntry}(h:QE β n ds Q (.panic ch) Γ R H):QE β n ds (Exit.inBlock id Q) (.panic ch) Γ R H:=fun a w hf hs=>h a w hf hs
theorem Rx {ch:List PanicEntry}{J:Act→World→Prop}(h:QE β n ds Q (.panic ch) Γ R H):QE β n ds (fun e a w=>(e=.normal∧J a w)∨(e≠.normal∧Q e a w)) (.panic ch) Γ R H:=fun a w hf hs=>.inr ⟨by simp,h a w hf hs⟩
theorem L.panic {ty:Nat}{pos:String}{af:Array Edge}{x:Operand}{t:TypeId}{v:Value}(hx:ev Γ x=some (.iface t v))(h:QE β n ds Q (.panic [{ v:=.iface t v,recovered:=false }]) Γ R H):
    L X β n ds ops Q (⟨none,.panic x,ty,pos,af,none⟩::rest) Γ R H:=by
 intro a w hf hs;refine wpList_plain rfl fun K hK=>?_
 apply Y 0x62e;have e:(execOp a.eval ⟨none,.panic x,ty,pos,af,none⟩).run X.P w=.halt (.panic (.iface t v)) w:=by
  have hp:(Instr.panic (.iface t v)).run X.P w=.halt (.panic (.iface t v)) w:=rfl
  simp [execOp,hf.agree x _ hx,hp]
 rw [e]
 exact h a w hf hs
theorem bf {d ty:Nat}{pos:String}{af:Array Edge}{f:Nat}{as:List Operand}{tys:Array TypeId}{args:List Value}{Rf Hf Hr:List Pr}{js js':List Nat}{ch:List PanicEntry}{Φ:Value→List Pr→List Pr→Prop}{Ψ:List Pr→List Pr→Prop}
    (hfn:dU X f args Rf Hf (b5 ch Φ Ψ)) (ha:evs Γ as=some args) (hj:sel H js=Hf) (hj':sel H js'=Hr) (hn:(js++js').Nodup) (hR:eh R Hr Rf) (hd:Nat.blt d n=true)
    (k:∀ v R' H',Φ v R' H'→L X β n ds ops Q rest ((d,v)::Γ) R (H'++Hr)) (kp:∀ R' H',Ψ R' H'→QE β n ds Q (.panic ch) Γ R (H'++Hr)):
    L X β n ds ops Q (⟨some d,.call ⟨.value (.func f),List.toArray as,tys⟩,ty,pos,af,none⟩::rest) Γ R H:=by
 intro a w hf hs;refine wpList_plain rfl fun K hK=>?_
 apply Y 0x460f320f640f62e;intro e w' R' H' hΦ hs'
 cases e with
 |returned v=>exact hK _ _ (k v R' H' hΦ _ _ (hf.put oP v) hs')
 |panicked c=>
  obtain ⟨rfl,hΨ⟩:=hΦ;exact Zm 0x960f
 |outgrown=>exact hΦ.elim
theorem bj {d ty:Nat}{pos:String}{af:Array Edge}{f:Nat}{as:List Operand}{tys:Array TypeId}{args:List Value}{Rf Hf Hr:List Pr}{js js':List Nat}{ch:List PanicEntry}{Φ:Value→List Pr→List Pr→Prop}{Ψ:List Pr→List Pr→Prop}
    (hfn:dU X f args Rf Hf (b5 ch Φ Ψ)) (ha:evs Γ as=some args) (hj:sel H js=Hf) (hj':sel H js'=Hr) (hn:(js++js').Nodup) (hR:eh R [] Rf) (hd:Nat.blt d n=true)
    (k:∀ v R' H',Φ v R' H'→L X β n ds ops Q rest ((d,v)::Γ) (R'++R) (H'++Hr)) (kp:∀ R' H',Ψ R' H'→QE β n ds Q (.panic ch) Γ (R'++R) (H'++Hr)):
    L X β n ds ops Q (⟨some d,.call ⟨.value (.func f),List.toArray as,tys⟩,ty,pos,af,none⟩::rest) Γ R H:=by
 intro a w hf hs;refine wpList_plain rfl fun K hK=>?_
 apply Y 0x460fee0f640f62e;intro e w' R' H' hΦ hs'
 cases e with
 |returned v=>exact hK _ _ (k v R' H' hΦ _ _ (hf.put oP v) hs')
 |panicked c=>
  obtain ⟨rfl,hΨ⟩:=hΦ;exact Zm 0x960f
 |outgrown=>exact hΦ.elim
theorem kA {P:Program}(w:World)(d:Nat){t:Nat}{ms:Array (String×TypeId)}(u:TypeId)(v:Value)(h:P.underlying t=some (.interface ms)):(Op.equalIn (d+1) t (.iface u v) .nilIface).run P w=.ok false w:=by simp [Op.equalIn,run_underlying h]
theorem jy {P:Program}(w:World)(d:Nat){t:Nat}{ms:Array (String×TypeId)}(h:P.underlying t=some (.interface ms)):(Op.equalIn (d+1) t .nilIface .nilIface).run P w=.ok true w:=by simp [Op.equalIn,run_underlying h]
theorem ju {P:Program}(w:World)(d:Nat){t u:Nat}{ms:Array (String×TypeId)}{info:TypeInfo}(h:P.underlying t=some (.interface ms))(hu:P.underlying u=some (.struct #[]))(hi:P.info? u=some info)(hc:info.comparable=true)
    (hs:P.stoodInHeld u=false):(Op.equalIn (d+2) t (.iface u (.agg #[])) (.iface u (.agg #[]))).run P w=.ok true w:=by
 have h1:(Op.equalIn (d+1) u (.agg #[]) (.agg #[])).run P w=.ok true w:=by simp [Op.equalIn,run_underlying hu,hs]
 rw [Op.equalIn]
 simp [run_underlying h,typeInfo,hi,hc,h1]
theorem pH {t ty:Nat}{x:Operand}{u:TypeId}{v:Value}{i:Ti}{ms:Array (String×TypeId)}(ht:au t X.tab=some i)(hd:i.desc=.interface ms)(hx:ev Γ x=some (.iface u v)):Ev X β Γ R H (.binOp .neq t x (.const .nilIface) ty) (.bool true):=by
 intro ρ w hρ hw o ho;apply Y 0x35e;intro e1;rw [hd] at e1;apply Y 0x3a1f;intro hc;have hg:(eqGuard .neq t x (.const .nilIface) (.iface u v) .nilIface).run X.P w=.ok () w:=qT;have hr:(Op.equal t (.iface u v) .nilIface).run X.P w=.ok false w:=kA w 9999 u v e1;have hb:(binOp .neq t (.iface u v) .nilIface).run X.P w=.ok (.bool true) w:=by
  simp only [binOp]
  simp [hr]
 simp [execOp,ho,hρ _ _ hx,hc,hg,hb]
theorem lX {t ty:Nat}{x:Operand}{i:Ti}{ms:Array (String×TypeId)}(ht:au t X.tab=some i)(hd:i.desc=.interface ms)(hx:ev Γ x=some .nilIface):Ev X β Γ R H (.binOp .neq t x (.const .nilIface) ty) (.bool false):=by
 intro ρ w hρ hw o ho;apply Y 0x35e;intro e1;rw [hd] at e1;apply Y 0x3a1f;intro hc;have hg:(eqGuard .neq t x (.const .nilIface) .nilIface .nilIface).run X.P w=.ok () w:=by
  unfold eqGuard
  cases x<;>rfl
 have hr:(Op.equal t .nilIface .nilIface).run X.P w=.ok true w:=jy w 9999 e1;have hb:(binOp .neq t .nilIface .nilIface).run X.P w=.ok (.bool false) w:=by
  simp only [binOp]
  simp [hr]
 simp [execOp,ho,hρ _ _ hx,hc,hg,hb]
theorem CS {t ty:Nat}{x y:Operand}{u:TypeId}{i:Ti}{ms:Array (String×TypeId)}{info:TypeInfo}(ht:au t X.tab=some i)(hd:i.desc=.interface ms)(hu:X.P.underlying u=some (.struct #[]))(hi:X.P.info? u=some info)(hc:info.comparable=true)
    (hs:X.P.stoodInHeld u=false) (hx:ev Γ x=some (.iface u (.agg #[]))) (hy:ev Γ y=some (.iface u (.agg #[]))):Ev X β Γ R H (.binOp .neq t x y ty) (.bool false):=by
 intro ρ w hρ hw o ho;apply Y 0x35e;intro e1;rw [hd] at e1;have hg:(eqGuard .neq t x y (.iface u (.agg #[])) (.iface u (.agg #[]))).run X.P w=.ok () w:=qT;have hr:(Op.equal t (.iface u (.agg #[])) (.iface u (.agg #[]))).run X.P w=.ok true w:=ju w 9998 e1 hu hi hc hs;have hb:(binOp .neq t (.iface u (.agg #[])) (.iface u (.agg #[]))).run X.P w=.ok (.bool false) w:=by
  simp only [binOp]
  simp [hr]
 exact Zm 0x840f
structure RecOk (P:Program)(f:FuncId)(v:Value):Prop where
  fn:∀ w,(invoke (.fn (.func f) #[]) #[]).run P w=.ok (.enter f #[]) w
  idle:∀ w,CallsD P f #[] .returning w fun e u' w'=>e=.returned (.tuple #[])∧u'=.returning∧Stp w w' (fun _=>False)
  caught:∀ w,CallsD P f #[] (.panicking [{ v:=v,recovered:=false }]) w fun e u' w'=>e=.returned (.tuple #[])∧u'=.panicking [{ v:=v,recovered:=true }]∧Stp w w' (fun _=>False)
def rQ (X:Cx)(β:Base)(fn:Func)(Φ:Value→List Pr→List Pr→Prop):Exit→Act→World→Prop:=
  bodyPostD X.P fn fun e w'=>∃ v R' H',Φ v R' H'∧e=.returned v∧Sat β w' R' H'
theorem uY {f:FuncId}{fn:Func}{c:Code}{args:List Value}{Φ:Value→List Pr→List Pr→Prop}(hf:X.P.funcs[f]?=some fn)(hb:fn.body=some c)(hname:(fn.name== "runtime.NumGoroutine")=false)
    (hn:Nat.ble args.length fn.ntmps=true) (h:∀ β,C X β fn.ntmps [] (rQ X β fn Φ) c (params 0 args) R H):Ctr X f args R H Φ:=by
 apply Y 0xf40f;intro hn;refine ⟨⟨fn,hf,by rw [hb];rfl,hname⟩,fun w hs=>?_⟩;refine calls_of_wp_defers hf hb (h _ _ w ⟨by simp;omega,rfl,fun s v hv=>?_⟩ hs);obtain ⟨_,h2⟩:=dJ args 0 s v hv;apply Y 0x450f;intro hlt
 simp only [Nat.sub_zero] at h2 hlt;apply Y 0x8a0f
 simpa using h2
def dfn (f:FuncId):Deferred:={ target:=.fn (.func f) #[],args:=#[] }
theorem uS {fn:Func}{f:FuncId}{pv:Value}{Φ:Value→List Pr→List Pr→Prop}{rs:List ResultVar}{vs:List Value}{js hs:List Nat}(hrec:RecOk X.P f pv)(hrs:fn.results=List.toArray rs)(hr:xf X Γ R H rs vs)(hn:hs.Nodup)
    (hΦ:Φ (tup vs) (sel R js) (sel H hs)):QE β n [dfn f] (rQ X β fn Φ) .ret Γ R H:=by
 intro a w hf hsat;apply Y 0xfa0f;rw [hf.dfs];refine ⟨by simp,.func f,#[],f,#[],rfl,hrec.fn w,?_⟩;intro c cs hc;obtain ⟨e,u',w',fr,⟨rfl,rfl,hst⟩,r⟩:=hrec.idle w c cs hc;replace hsat:=hsat.same hst;exact Zm 0x8e0f
theorem CE {fn:Func}{f:FuncId}{pv:Value}{Φ:Value→List Pr→List Pr→Prop}{rs:List ResultVar}{vs:List Value}{js hs:List Nat}(hrec:RecOk X.P f pv)(hrs:fn.results=List.toArray rs)(hr:xf X Γ R H rs vs)(hn:hs.Nodup)
    (hΦ:Φ (tup vs) (sel R js) (sel H hs)):QE β n [dfn f] (rQ X β fn Φ) (.panic [{ v:=pv,recovered:=false }]) Γ R H:=by
 intro a w hf hsat;apply Y 0xa51f;rw [hf.dfs];refine ⟨by simp,.func f,#[],f,#[],rfl,hrec.fn w,?_⟩;intro c cs hc;obtain ⟨e,u',w',fr,⟨rfl,rfl,hst⟩,r⟩:=hrec.caught w c cs hc;replace hsat:=hsat.same hst;exact Zm 0x7e0f
theorem L.defer {ty f:Nat}{pos:String}{af:Array Edge}{tys:Array TypeId}{rest:List Oper}(h:L X β n (dfn f::ds) ops Q rest Γ R H):L X β n ds ops Q (⟨none,.defer ⟨.value (.func f),#[],tys⟩,ty,pos,af,none⟩::rest) Γ R H:=by
 intro a w hf hs;refine wpList_plain rfl fun K hK=>?_
 apply Y 0x62e;have e:(execOp a.eval ⟨none,.defer ⟨.value (.func f),#[],tys⟩,ty,pos,af,none⟩).run X.P w=.ok (.defer (dfn f)) w:=by
  simp [execOp,resolve,hf.agree (.func f) _ rfl,Deferred.ofValue,dfn]
 rw [e];refine hK _ _ (h _ _ ?_ hs);exact Zm 0xbe0f
def QA (X:Cx)(ops:Array Oper)(Q:Exit→Act→World→Prop)(fuel:Nat)(listed:Array Bool):Exit→Act→World→Prop
  | .normal,a,w=>wpAny X.P .any ops Q fuel listed a w
  |e,a,w=>Q e a w
theorem xM {fuel:Nat}{listed:Array Bool}(h:LetsOut (QA X ops Q fuel listed)):LetsOut Q:=h
theorem yy {fuel:Nat}{listed:Array Bool}{i:Nat}{o:Oper}(hi:ops[i]?=some o){a:Act}{w:World}(this:wpList X.P ops (QA X ops Q fuel listed) [o] a w):wpOp X.P ops Q i (wpAny X.P .any ops Q fuel listed) a w:=by
 unfold wpOp
 simp only [hi]
 simp only [wpList] at this
 split
 ·rename_i hw
  simp only [hw,if_true] at this
  rcases this with h1|⟨h0,h1⟩
  ·refine .inl ?_
   unfold Oper.wp at*
   generalize (execOp a.eval o).run X.P w=r at*
   cases r with
   |ok nx w'=>
    cases nx<;>simp only [Oper.upon] at h1 ⊢<;>
     first
      |exact h1
      |exact h1.elim
      |exact Calls.mono h1 (fun e w'' he=>by cases e<;>exact he)
   |halt x w'=>cases x<;>simp only [Oper.upon] at h1 ⊢<;>first|exact h1|exact h1.elim
  exact .inr ⟨h0,xM h1⟩
 rename_i hw
 simp only [hw] at this
 exact this
def LA (X:Cx)(β:Base)(n:Nat)(ds:List Deferred)(ops:Array Oper)(Q:Exit→Act→World→Prop)(fuel:Nat)(listed:Array Bool)(Γ:Env)(R H:List Pr):Prop:=
  ∀ a w,listed.size=ops.size→Fr n ds a Γ→Sat β w R H→wpAny X.P .any ops Q fuel listed a w
theorem tv {id:Nat}{l:List Oper}(h:LA X β n ds (List.toArray l) Q l.length (Array.replicate l.length false) Γ R H):C X β n ds Q (.region id (List.toArray l) true) Γ R H:=by
 intro a w hf hs;refine wp_region_any X.mixed ?_;have:=h a w.drew Ob hf (hs.same (Stp.drew w _))
 simpa using this
theorem LA.alt {fuel:Nat}{listed:Array Bool}(l:List Nat)(hr:Region.ready .any ops listed=l)(hl:l≠[])(h:Je l fun i=>∃ o,ops[i]?=some o∧L X β n ds ops (QA X ops Q fuel (listed.setIfInBounds i true)) [o] Γ R H):LA X β n ds ops Q (fuel+1) listed Γ R H:=by
 intro a w _ hf hs;refine ⟨fun h0=>absurd (hr▸h0) hl,fun i hi=>?_⟩;rw [hr] at hi;obtain ⟨o,ho,hL⟩:=h.mem i hi
 exact yy ho (hL a w hf hs)
theorem LA.nil {fuel:Nat}{listed:Array Bool}(hr:Region.ready .any ops listed=[])(h:QE β n ds Q .normal Γ R H):LA X β n ds ops Q fuel listed Γ R H:=by
 intro a w _ hf hs
 cases fuel with
 |zero=>exact ⟨hr,h a w hf hs⟩
 |succ fuel=>exact ⟨fun _=>h a w hf hs,fun i hi=>by rw [hr] at hi;cases hi⟩
theorem QE.a {fuel:Nat}{listed:Array Bool}(hz:(listed.size==ops.size)=true)(h:LA X β n ds ops Q fuel listed Γ R H):QE β n ds (QA X ops Q fuel listed) .normal Γ R H:=fun a w hf hs=>h a w obT hf hs
theorem RC {fuel:Nat}{listed:Array Bool}{ch:List PanicEntry}(h:QE β n ds Q (.panic ch) Γ R H):QE β n ds (QA X ops Q fuel listed) (.panic ch) Γ R H:=fun a w hf hs=>h a w hf hs
end
end Go.Sl
