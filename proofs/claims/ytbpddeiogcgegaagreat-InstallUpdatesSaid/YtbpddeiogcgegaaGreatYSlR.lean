/-
  Part of a proof.
-/
import Derived.RangeFuncLeaves
import Derived.RangeFuncRecord
import Derived.RangeFuncSeq
import Derived.TacticsIn
import Derived.Test.YtbpddeiogcgegaaGreatYSlP
set_option maxHeartbeats 0
set_option maxRecDepth 4000
set_option linter.all false
namespace Go.Sl
def dS (l:Nat)(r:Loop):Pr where
  fp k:=k=l
  p w:=w.heap[l]?=some (.loop r)
  st:=fun _ _ hk h=>by rw [hk l rfl];exact h
def MG (d:Nat):Pr where
  fp k:=k=d
  p w:=w.heap[d]?=some (.deferred (some []))
  st:=fun _ _ hk h=>by rw [hk d rfl];exact h
section
variable {X:Cx}{β:Base}{n:Nat}{ds:List Deferred}{ops:Array Oper}{Q:Exit→Act→World→Prop}{rest:List Oper}{Γ:Env}{R H:List Pr}
theorem Sat.newObj {w:World}(h:Sat β w R H)(o:Obj)(c:Pr)(hp:c.p (w.alloc o))(hf:∀ k,c.fp k→k=w.heap.size):Sat β (w.alloc o) R (H++[c]):=
  h.snoc (Stp.alloc w o fun _=>False) (fun _ hk _=>hk) c hp (fun k hk=>by have:=hf k hk;subst this;simp)
theorem Stp.putObj (w:World)(l:Nat)(o:Obj):Stp w (w.putObj l o) (· =l):=⟨rfl,rfl,rfl,by simp,fun _ _ hk=>World.putObj_heap_other hk⟩
theorem Sat.setLoop {w:World}{j l:Nat}{r r':Loop}(h:Sat β w R H)(hj:H[j]?=some (dS l r)):Sat β (w.putObj l (.loop r')) R (H.set j (dS l r')):=by
 have hp:w.heap[l]?=some (.loop r):=h.own j _ hj;have hlt:l<w.heap.size:=(Array.getElem?_eq_some_iff.1 hp).1;refine h.upd hj (Stp.putObj w l _) (fun k hk _=>hk) (dS l r') (World.putObj_heap_same hlt) (fun k hk=>?_);have hk':k=l:=hk;subst hk';exact ⟨by simpa using hlt,.inr rfl⟩
def pB (o:Oper):Bool:=match o.op with
  | .alloc .. =>true| .load .. =>true| .store .. =>true| .buildSlice .. =>true| .move .. =>true| .assign .. =>true| .fieldAddr .. =>true| .build .. =>true
  | .call c=>match c.callee with| .builtin .append=>true|_=>false
  |_=>false
theorem lD {m l:Nat}{P:Program}{f:FuncId}{args:Array Value}{w:World}{T:Ending→World→Prop}:CallsIn (Fence.wide.inRound l) m P f args w T↔CallsIn Fence.wide m P f args w T:=Iff.rfl
theorem gp {P:Program}{m l:Nat}{ops:Array Oper}{Q:Exit→Act→World→Prop}(hQ:¬LetsOut Q):∀ (ls:List Oper),ls.all pB=true→∀ (a:Act) (w:World),wpList P ops Q ls a w→wpListIn (Fence.wide.inRound l) m P ops Q ls a w
  |[],_,_,_,h=>h
  |o::ls,hp,a,w,h=>by
    simp only [List.all_cons,Bool.and_eq_true] at hp
    have ih:=gp (P:=P) (ops:=ops) (l:=l) (m:=m) hQ ls hp.2
    simp only [wpList] at h
    simp only [wpListIn]
    split
    · rename_i hw
      simp only [hw,if_true] at h
      rcases h with h1|⟨_,h1⟩
      · refine ⟨fun f _=>trivial,?_⟩
        have hse:o.semAt (Fence.wide.inRound l).round a.eval=execOp a.eval o:=Oper.semAt_some l _ _ (fun c hc=>by have:=hp.1;unfold pB at this;rw [hc] at this;cases this)
        rw [hse]
        unfold Oper.wp at h1
        generalize (execOp a.eval o).run P w=r at*
        cases r with
        |ok nx w'=>
          cases nx with
          |value v=>exact ih _ _ h1
          |skip=>exact ih _ _ h1
          |defer d=>exact ih _ _ h1
          |enter f args=>
            refine ⟨fun hd=>by simp [Fence.wide] at hd,lD.2 (callsIn_wide.2 (Calls.mono h1 fun e w'' he=>?_))⟩
            cases e with
            |returned v=>exact ih _ _ he
            |panicked ch=>exact he
            |outgrown=>exact (hQ he).elim
          |row r args=>
            simp only [Oper.upon] at h1
            refine ⟨fun hd=>by simp [Fence.wide] at hd,?_⟩
            intro c cs hroom
            obtain ⟨v,w'',hv,hs⟩:=h1 c cs
            exact ⟨v,w'',ih _ _ hv,stepsIn_wide.2 hs⟩
          |_=>exact h1.elim
        |halt x w'=>cases x<;>first|exact h1|exact h1.elim
      · exact (hQ h1).elim
    · rename_i hw
      simp only [hw] at h
      exact ⟨fun f _=>trivial,ih _ _ h⟩
theorem By {Rf Hf Hr:List Pr}{js js':List Nat}(hj:sel H js=Hf)(hj':sel H js'=Hr)(hn:(js++js').Nodup)(hR:eh R Hr Rf){w:World}(hs:Sat β w R H):
    Sat (bT w Rf Hf) w Rf Hf∧∀ w' R' H',Sat (bT w Rf Hf) w' R' H'→Sat β w' R (H'++Hr):=by
 subst hj hj';have nj:=(List.nodup_append.1 hn).1;have nj':=(List.nodup_append.1 hn).2.1;apply Y 0x7a1f;intro njj;have hx:∀ c∈sel H js,∀ d∈sel H js',∀ k,c.fp k→¬ d.fp k:=by
  intro c hc d hd k hk hk';obtain ⟨p,hp,hpc⟩:=aD hc;apply Y 0xfd0f;intro q hq hqd
  exact hs.dis p q c d hpc hqd (njj p hp q hq) k hk hk'
 have hfp:∀ r∈Rf,∀ k,r.fp k→k<w.heap.size∧(∀ c∈sel H js,¬ c.fp k):=by
  intro r hr k hk
  rcases (hR.all r hr).2 k hk with ⟨r',hr',hk'⟩|⟨i,d,hd,hk'⟩
  ·refine ⟨(hs.rfp r' hr' k hk').1,fun c hc=>?_⟩;obtain ⟨p,_,hpc⟩:=aD hc
   exact hs.sep r' hr' p c hpc k hk'
  have hmd:=List.mem_of_getElem? hd;obtain ⟨q,_,hqd⟩:=aD hmd;exact ⟨(hs.ofp q d hqd k hk').1,fun c hc hck=>hx c hc d hmd k hck hk'⟩
 have hsr:Sat β w R (sel H js'):=hs.sel nj';have hsf:Sat β w R (sel H js):=hs.sel nj;have h0:Sat (bT w Rf (sel H js)) w Rf (sel H js):=by
  refine ⟨⟨rfl,rfl,rfl,Nat.le_refl _,fun _ _ _=>rfl⟩,fun r hr=>(hR.all r hr).1 β w hsr,fun r hr k hk=>⟨(hfp r hr k hk).1,.inr (.inr ⟨r,hr,hk⟩)⟩,hsf.own,?_,hsf.dis,?_⟩
  ·intro i c hc k hk;exact ⟨(hsf.ofp i c hc k hk).1,.inr ⟨i,c,hc,hk⟩⟩
  intro r hr j c hc k hk hk'
  exact (hfp r hr k hk).2 c (List.mem_of_getElem? hc) hk'
 refine ⟨h0,fun w' R' H' hs'=>?_⟩;apply Y 0xe71f;intro hst;have hmt:∀ k,(∃ (i:Nat) (c:Pr),(sel H js)[i]?=some c∧c.fp k)→∃ (i:Nat) (c:Pr),H[i]?=some c∧c.fp k:=by
  apply Y 0x560f;intro k i c hc hk;obtain ⟨p,_,hp⟩:=aD (List.mem_of_getElem? hc);exact ⟨p,c,hp,hk⟩
 have hget:∀ (i:Nat) (c:Pr),(H'++sel H js')[i]?=some c→(i<H'.length∧H'[i]?=some c)∨(H'.length≤i∧(sel H js')[i-H'.length]?=some c):=by
  intro i c hc;rw [List.getElem?_append] at hc
  split at hc
  ·rename_i hlt
   exact .inl ⟨hlt,hc⟩
  rename_i hge
  exact .inr ⟨by omega,hc⟩
 have cross:∀ (i:Nat) (c:Pr),H'[i]?=some c→∀ (j:Nat) (d:Pr),(sel H js')[j]?=some d→∀ k,c.fp k→¬ d.fp k:=by
  intro i c hc j d hd k hk hk';have hlt:=(hsr.ofp j d hd k hk').1
  rcases (hs'.ofp i c hc k hk).2 with y|⟨p,x,hx1,hx2⟩
  ·have y':w.heap.size≤k:=y
   omega
  exact Zm 0x7d1f
 refine hs.put hst (fun k hk _=>hmt k hk) R (H'++sel H js') (fun r hr=>.inl hr) ?_ ?_ ?_
 ·intro i c hc
  rcases hget i c hc with ⟨_,hc⟩|⟨_,hc⟩
  ·refine ⟨hs'.own i c hc,fun k hk=>⟨(hs'.ofp i c hc k hk).1,?_⟩⟩
   rcases (hs'.ofp i c hc k hk).2 with y|y
   ·exact .inl y
   exact .inr (hmt k y)
  refine ⟨c.st w w' (fun k hk=>hst.block k (hsr.ofp _ c hc k hk).1 ?_) (hsr.own _ c hc),fun k hk=>⟨Nat.lt_of_lt_of_le (hsr.ofp _ c hc k hk).1 hst.size,.inr ?_⟩⟩
  ·rintro ⟨p,x,hx1,hx2⟩;exact Zm 0x6d1f
  obtain ⟨q,_,hq⟩:=aD (List.mem_of_getElem? hc);exact ⟨q,c,hq,hk⟩
 ·intro i j c d hc hd hne k hk hk'
  rcases hget i c hc with ⟨_,hc⟩|⟨hi,hc⟩<;>rcases hget j d hd with ⟨_,hd⟩|⟨hj,hd⟩
  ·exact hs'.dis i j c d hc hd hne k hk hk'
  ·exact cross i c hc _ d hd k hk hk'
  ·exact cross j d hd _ c hc k hk' hk
  exact hsr.dis _ _ c d hc hd oe k hk hk'
 intro r hr j c hc k hk hk'
 rcases hget j c hc with ⟨_,hc⟩|⟨_,hc⟩
 ·have hlt:=(hs.rfp r hr k hk).1
  rcases (hs'.ofp j c hc k hk').2 with y|⟨p,x,hx1,hx2⟩
  ·have y':w.heap.size≤k:=y
   omega
  obtain ⟨q,_,hq⟩:=aD (List.mem_of_getElem? hx1)
  exact hs.sep r hr q x hq k hk hx2
 exact hsr.sep r hr _ c hc k hk hk'
def uR (X:Cx)(l:Nat)(r:Loop){σ α:Type}(encs:α→List Value)(St:σ→List Pr)(nxt:σ→α→σ→Prop)(good:σ→α→Prop):Prop:=
  ∀ (β:Base) (w:World) (s:σ) (x:α),good s x→Sat β w [] (dS l r::St s)→YieldAt Fence.wide 0 X.P l (List.toArray (encs x)) w (fun e w'=>e=.returned (.bool true)∧∃ s',nxt s x s'∧Sat β w' [] (dS l r::St s'))
def LY (X:Cx)(β:Base)(n:Nat)(ds:List Deferred)(ops:Array Oper)(Q:Exit→Act→World→Prop)(rest:List Oper)(Γ:Env)(R H:List Pr):Prop:=
  ∀ a w,Fr n ds a Γ→Sat β w R H→wpListIn Fence.wide 0 X.P ops Q rest a w
theorem tu {id:Nat}{l:List Oper}(h:LY X β n ds (List.toArray l) Q l Γ R H):C X β n ds Q (.region id (List.toArray l) false) Γ R H:=
  fun a w hf hs=>(wpIn_wide (n:=0)).1 (wpIn_region_lit (h a w hf hs))
theorem LY.nil (h:QE β n ds Q .normal Γ R H):LY X β n ds ops Q [] Γ R H:=fun a w hf hs=>h a w hf hs
theorem LY.step {op:Op}{v:Value}{d ty:Nat}{pos:String}{af:Array Edge}(h:Ev X β Γ R H op v)(hd:Nat.blt d n=true)(k:LY X β n ds ops Q rest ((d,v)::Γ) R H):LY X β n ds ops Q (⟨some d,op,ty,pos,af,none⟩::rest) Γ R H:=by
 intro a w hf hs;refine wpListIn_plain rfl fun K hK=>⟨fun f _=>trivial,?_⟩
 show Oper.uponIn _ _ _ _ _ _ _ ((execOp a.eval _).run X.P w);rw [h a.eval w hf.agree hs _ rfl]
 exact hK _ _ (k _ _ (hf.put oP v) hs)
theorem LY.yield {d ty l:Nat}{r:Loop}{pos:String}{af:Array Edge}{x:Operand}{ags:List Operand}{tys:Array TypeId}{σ α:Type}{encs:α→List Value}{St:σ→List Pr}{nxt:σ→α→σ→Prop}{good:σ→α→Prop}{Hr:List Pr}{js js':List Nat}
    (hy:uR X l r encs St nxt good) (s:σ) (e:α) (hg:good s e) (hx:ev Γ x=some (.func (.yield l) #[] #[])) (ha:evs Γ ags=some (encs e)) (hj:sel H js=dS l r::St s) (hj':sel H js'=Hr) (hn:(js++js').Nodup) (hd:Nat.blt d n=true)
    (k:∀ s',nxt s e s'→LY X β n ds ops Q rest ((d,.bool true)::Γ) R (dS l r::(St s'++Hr))):LY X β n ds ops Q (⟨some d,.call ⟨.value x,List.toArray ags,tys⟩,ty,pos,af,none⟩::rest) Γ R H:=by
 intro a w hf hs;refine wpListIn_plain rfl fun K hK=>⟨fun f _=>trivial,?_⟩
 obtain ⟨h0,hback⟩:=By hj hj' hn (Rf:=[]) trivial hs;obtain ⟨fn,tmps,assign,body,hrun,hround⟩:=hy _ w s e hg h0;have e1:=fU hf.agree ha;have hfv:=hf.agree x _ hx;have e2:(List.toArray ags).map a.eval=List.toArray (encs e):=Qj;have hex:(execOp a.eval ⟨some d,.call ⟨.value x,List.toArray ags,tys⟩,ty,pos,af,none⟩).run X.P w=.ok (.round l fn tmps assign body) w:=by
  apply Y 0x161f
  simp [hrun]
 rw [Fence.wide_round,Oper.semAt_none,hex];refine ⟨fun hd=>by simp [Fence.wide] at hd,hround.mono ?_⟩;rintro en w' ⟨rfl,s',hn',hs'⟩
 exact hK _ _ (k s' hn' _ _ (hf.put oP _) (hback w' _ _ hs'))
theorem LY.yes {dst:Option Nat}{op:Op}{ty:Nat}{pos:String}{af:Array Edge}{g:Nat}{b:Bool}(hg:yo ops Γ g=some (.bool b))(h:LY X β n ds ops Q (⟨dst,op,ty,pos,af,none⟩::rest) Γ R H):
    LY X β n ds ops Q (⟨dst,op,ty,pos,af,some (g,b)⟩::rest) Γ R H:=by
 intro a w hf hs;have:=h a w hf hs;apply Y 0x2be;intro hy
 simp only [wpListIn,Region.wanted,hy,beq_self_eq_true,if_true] at this ⊢
 exact this
theorem LY.no {d:Nat}{op:Op}{ty:Nat}{pos:String}{af:Array Edge}{g:Nat}{b:Bool}{v:Value}(hg:yo ops Γ g=some v)(hv:(match v with| .bool c=>c==b|_=>false)=false)(hd:Nat.blt d n=true)
    (h:LY X β n ds ops Q rest ((d,undef)::Γ) R H):LY X β n ds ops Q (⟨some d,op,ty,pos,af,some (g,b)⟩::rest) Γ R H:=by
 intro a w hf hs;apply Y 0x2be;intro hy;have hw:Region.wanted ⟨some d,op,ty,pos,af,some (g,b)⟩ (yielded ops a.tmps)=false:=by
  apply Y 0x2b0f
  cases v<;>simp_all
 simp only [wpListIn,hw];exact ⟨fun f _=>trivial,h _ _ (hf.put oP undef) hs⟩
theorem LY.bool (s:Nat){b:Bool}(hb:look s Γ=some (.bool b))(ht:b=true→LY X β n ds ops Q rest ((s,.bool true)::Γ) R H)(he:b=false→LY X β n ds ops Q rest ((s,.bool false)::Γ) R H):LY X β n ds ops Q rest Γ R H:=by
 intro a w hf hs;have h1:∀ c:Bool,b=c→Fr n ds a ((s,.bool c)::Γ):=by
  rintro c rfl;refine ⟨hf.size,hf.dfs,fun t u hu=>?_⟩
  simp only [look] at hu
  cases hbq:Nat.beq t s with
  |true=>
   rw [hbq] at hu;obtain rfl:=Nat.eq_of_beq_eq_true hbq
   simp only [cond_true,Option.some.injEq] at hu;subst hu
   exact hf.vals t _ hb
  |false=>
   rw [hbq] at hu
   exact hf.vals t u hu
 cases b with
 |true=>exact ht rfl a w (h1 true rfl) hs
 |false=>exact he rfl a w (h1 false rfl) hs
def RQ (T:Act→World→Prop):Exit→Act→World→Prop:=fun e a w=>e=.normal∧T a w
theorem RQ.out {T:Act→World→Prop}:¬LetsOut (RQ T):=fun ⟨_,_,h,_⟩=>by cases h
theorem vu {l t na nb bl:Nat}{r:Loop}{la lb:List Oper}{v:Value}{Hs:List Pr}{ι:Type}{He:ι→List Pr}{good:ι→Prop}{w:World}(hf:Fr n [] { tmps:=r.tmps,defers:=[] } Γ)(ht:Nat.blt t n=true)(hps:r.params=#[t])(hst:r.state=.ready)(hpe:r.pending=none)
    (ha:r.assign=.region na (List.toArray la) false) (hb:r.body=.block bl (.region nb (List.toArray lb) false)) (hpa:la.all pB=true) (hpb:lb.all pB=true) (hs:Sat β w [] (dS l r::Hs))
    (hL:L X β n [] (List.toArray la) (RQ fun a1 w1=>∃ Γ1 H1,Fr n [] a1 Γ1∧Sat β w1 [] (dS l r::H1)∧
      L X β n [] (List.toArray lb) (RQ fun _ w2=>∃ i,good i∧Sat β w2 [] (dS l { r with state:=.busy }::He i)) lb Γ1 [] (dS l { r with state:=.busy }::H1)) la ((t,v)::Γ) [] (dS l r::Hs)):
    YieldAt Fence.wide 0 X.P l #[v] w (fun e w'=>e=.returned (.bool true)∧∃ i,good i∧Sat β w' [] (dS l r::He i)):=by
 have hrec:w.heap[l]?=some (.loop r):=hs.own 0 _ rfl;refine ⟨r.fn,_,r.assign,r.body,run_yield hrec (by rw [hps];rfl),?_⟩;have htm:(r.params.zip #[v]).foldl (fun tmps (x:Tmp×Value)=>tmps.setIfInBounds x.1 x.2) r.tmps=r.tmps.setIfInBounds t v:=by rw [hps];simp
 rw [htm];have hf1:Fr n [] { tmps:=r.tmps.setIfInBounds t v,defers:=[] } ((t,v)::Γ):=hf.put (by simpa [Nat.blt_eq] using ht) v;refine roundIn_of_wpIn trivial ?_;rw [ha,hb];refine wpIn_region_lit (gp ?_ la hpa _ _ ?_);rintro ⟨_,_,h⟩
 exact h;have h1:=hL _ w hf1 hs;have mono:∀ {ops:Array Oper} {T:Act→World→Prop} {Q:Exit→Act→World→Prop} (hQ:∀ a w,T a w→Q .normal a w) (ls:List Oper) (a:Act) (w:World),wpList X.P ops (RQ T) ls a w→wpList X.P ops Q ls a w:=by
  intro ops T Q hQ ls
  induction ls with
  |nil=>exact fun a w h=>hQ a w h.2
  |cons o ls ih=>
   intro a w h
   simp only [wpList] at h ⊢
   split
   ·rename_i hw
    simp only [hw,if_true] at h
    rcases h with h|⟨_,h⟩
    ·refine .inl ?_
     unfold Oper.wp at*
     generalize (execOp a.eval o).run X.P w=res at*
     cases res with
     |ok nx w'=>
      cases nx<;>simp only [Oper.upon] at h ⊢<;>
       first
        |exact ih _ _ h
        |exact h.elim
        |exact Calls.mono h (fun e w'' he=>by cases e<;>first|exact ih _ _ he|exact (RQ.out he).elim|(obtain ⟨h0,_⟩:=he;cases h0))
        |(intro c cs;obtain ⟨v,w'',hv,hr⟩:=h c cs;exact ⟨v,w'',ih _ _ hv,hr⟩)
     |halt x w'=>cases x<;>simp only [Oper.upon] at h ⊢<;>first|exact h.elim|(obtain ⟨h0,_⟩:=h;cases h0)
    exact (RQ.out h).elim
   rename_i hw
   simp only [hw] at h
   exact ih _ _ h
 refine mono ?_ la _ _ h1;rintro a1 w1 ⟨Γ1,H1,hfr1,hs1,hL2⟩;have hrec1:w1.heap[l]?=some (.loop r):=hs1.own 0 _ rfl;refine ⟨_,run_beginRound hrec1 hst,?_⟩;refine wpIn_block (wpIn_region_lit (gp ?_ lb hpb _ _ ?_));rintro ⟨_,_,h⟩
 exact h;have hs1':=hs1.setLoop (j:=0) (r':={ r with state:=.busy }) rfl;refine mono ?_ lb _ _ (hL2 a1 _ hfr1 hs1');rintro a2 w2 ⟨i,hgi,hs2⟩;have hrec2:w2.heap[l]?=some (.loop { r with state:=.busy }):=hs2.own 0 _ rfl;refine ⟨_,_,run_endRound none hrec2,rfl,?_⟩;have hs3:=hs2.setLoop (j:=0) (r':=r) rfl;have e:({ ({ r with state:=.busy }:Loop) with state:=if (none:Option Code).isNone then .ready else .done,pending:=none }:Loop)=r:=by
  cases r
  simp only at hst hpe;subst hst hpe
  rfl
 rw [e];exact ⟨i,hgi,hs3⟩
theorem Sat.rot {w:World}{c:Pr}(h:Sat β w R (H++[c])):Sat β w R (c::H):=by
 refine h.pick (c::H) (fun i=>if i=0 then H.length else i-1) (fun i d hd=>?_) (fun i j hi hj e=>?_)
 ·cases i with
  |zero=>simp at hd;subst hd;simp
  |succ i=>
   have hd':H[i]?=some d:=obV;have hlt:=(List.getElem?_eq_some_iff.1 hd').1
   simp [List.getElem?_append_left hlt,hd']
 simp only [List.length_cons] at hi hj
 split at e<;>split at e<;>omega
theorem Sat.tail {w:World}{c:Pr}(h:Sat β w R (c::H)):Sat β w R H:=
  h.pick H (fun i=>i+1) (fun i d hd=>by simpa using hd) (fun i j _ _ e=>by omega)
theorem zt (c:Pr)(H:List Pr)(js:List Nat):sel (c::H) (0::js)=c::sel (c::H) js:=rfl
theorem zo (c d:Pr)(H:List Pr)(js:List Nat):sel (c::d::H) (1::js)=d::sel (c::d::H) js:=rfl
theorem iK (c d:Pr)(H:List Pr):∀ js:List Nat,sel (c::d::H) (js.map (· +2))=sel H js
  |[]=>rfl
  |j::js=>by
    have ih:=iK c d H js
    have e:(c::d::H)[j+2]?=H[j]?:=Ob
    simp only [List.map_cons,sel,e,ih]
theorem Has.wk {r c:Pr}(h:Has R H r):Has R (c::H) r:=
  ⟨fun β w hs=>h.1 β w hs.tail,fun k hk=>(h.2 k hk).elim .inl fun ⟨i,d,hd,hk'⟩=>.inr ⟨i+1,d,by simpa using hd,hk'⟩⟩
theorem eh.wk (c:Pr):∀ {rs:List Pr},eh R H rs→eh R (c::H) rs
  |[],_=>trivial
  |_::_,h=>⟨h.1.wk,eh.wk c h.2⟩
theorem Sat.front {w:World}{c:Pr}{H1 H2:List Pr}(h:Sat β w R (H1++c::H2)):Sat β w R (c::(H1++H2)):=by
 refine h.pick (c::(H1++H2)) (fun i=>if i=0 then H1.length else if i≤H1.length then i-1 else i) (fun i d hd=>?_) (fun i j hi hj e=>?_)
 ·cases i with
  |zero=>simp at hd;subst hd;simp
  |succ i=>
   have hd':(H1++H2)[i]?=some d:=obV
   by_cases hi:i<H1.length
   ·have hle:i+1≤H1.length:=hi;rw [List.getElem?_append_left hi] at hd'
    simp [hle,List.getElem?_append_left hi,hd']
   rw [List.getElem?_append_right oe] at hd';have hle:¬ i+1≤H1.length:=oe;rw [if_neg oe,if_neg hle,List.getElem?_append_right oe,show i+1-H1.length=(i-H1.length)+1 from by omega]
   simpa using hd'
 simp only [List.length_cons] at hi hj
 split at e<;>split at e<;>(try split at e)<;>(try split at e)<;>omega
theorem xl {g:Operand}{ps:Array Tmp}{assign body:Code}{f:FuncId}{cap:Array Value}{Rf Hf Hr:List Pr}{js js':List Nat}{ι:Type}{He:ι→List Pr}(hg:ev Γ g=some (.func (.func f) #[] cap))(hj:sel H js=Hf)(hj':sel H js'=Hr)(hn:(js++js').Nodup)(hR:eh R Hr Rf)
    (hcall:∀ (l d fn:Nat) (tmps:Array Value),Fr n [] { tmps:=tmps,defers:=[] } Γ→
      Ctr X f (Value.func (.yield l) #[] #[]::cap.toList) Rf (dS l { state:=.ready,pending:=none,fn:=fn,tmps:=tmps,params:=ps,assign:=assign,body:=body,defers:=d }::Hf)
        (fun _ R' H'=>R'=[]∧∃ i,H'=dS l { state:=.ready,pending:=none,fn:=fn,tmps:=tmps,params:=ps,assign:=assign,body:=body,defers:=d }::He i))
    (k:∀ d i,QE β n ({ target:=.collected d,args:=#[] }::ds) Q .normal Γ R (MG d::(He i++Hr))):C X β n ds Q (.rangeFunc g ps assign body) Γ R H:=by
 intro a w hf hs;refine (wpIn_wide (n:=0)).1 (wpIn_rangeFunc fun fn _=>?_);have hfr:Fr n [] { tmps:=a.tmps,defers:=[] } Γ:=⟨hf.size,rfl,hf.vals⟩;have hc:=hcall (w.heap.size+1) w.heap.size fn a.tmps hfr;have hgv:=hf.agree g _ hg;have s1:=(hs.newObj (.deferred (some [])) (MG w.heap.size) (World.alloc_heap_new w _) (fun k hk=>hk)).rot;have s2:=(s1.newObj (.loop { state:=.ready,pending:=none,fn:=fn,tmps:=a.tmps,params:=ps,assign:=assign,body:=body,defers:=w.heap.size }) (dS (w.heap.size+1) { state:=.ready,pending:=none,fn:=fn,tmps:=a.tmps,params:=ps,assign:=assign,body:=body,defers:=w.heap.size })
  (by have:=World.alloc_heap_new (w.alloc (.deferred (some []))) (.loop { state:=.ready,pending:=none,fn:=fn,tmps:=a.tmps,params:=ps,assign:=assign,body:=body,defers:=w.heap.size });rw [World.size_alloc] at this;exact this) (fun k hk=>by have:k=w.heap.size+1:=hk;simpa using this)).rot
 obtain ⟨fnv,hfv,hbv,hname⟩:=hc.1.ok;refine ⟨w.heap.size+1,_,((w.alloc (.deferred (some []))).alloc (.loop { state:=.ready,pending:=none,fn:=fn,tmps:=a.tmps,params:=ps,assign:=assign,body:=body,defers:=w.heap.size })),{ target:=.fn (.func f) cap,args:=#[.func (.yield (w.heap.size+1)) #[] #[]] },((w.alloc (.deferred (some []))).alloc (.loop { state:=.ready,pending:=none,fn:=fn,tmps:=a.tmps,params:=ps,assign:=assign,body:=body,defers:=w.heap.size })),f,#[.func (.yield (w.heap.size+1)) #[] #[]]++cap,((w.alloc (.deferred (some []))).alloc (.loop { state:=.ready,pending:=none,fn:=fn,tmps:=a.tmps,params:=ps,assign:=assign,body:=body,defers:=w.heap.size })),run_enterLoop_outer _ _ _ _ _,?_,fun _ _=>trivial,?_,fun hd=>by simp [Fence.wide] at hd,?_⟩
 ·simp only [resolve,hgv]
  simp [go_sem]
 ·simp only [beq_eq_false_iff_ne] at hname
  simp [invoke,callFunc,run_program,hfv,hname];intro h;rw [h] at hbv
  cases hbv
 refine callsIn_wide.2 ?_;rw [show #[Value.func (.yield (w.heap.size+1)) #[] #[]]++cap=List.toArray (Value.func (.yield (w.heap.size+1)) #[] #[]::cap.toList) from by apply Array.ext';simp];refine (hc.use (js:=0::js.map (· +2)) (js':=1::js'.map (· +2)) (Hr:=MG w.heap.size::Hr) (by rw [zt,iK,hj]) (by rw [zo,iK,hj']) ?_ (hR.wk _) s2).mono ?_
 ·have hm:∀ (l:List Nat) (q:Nat),q<2→q∉l.map (· +2):=by
   intro l q hq hm;obtain ⟨p,_,hp⟩:=List.mem_map.1 hm
   omega
  have e:js.map (· +2)++js'.map (· +2)=(js++js').map (· +2):=Ob;have hnd:((js++js').map (· +2)).Nodup:=by
   exact List.pairwise_map.2 (List.Pairwise.imp (fun h e=>h (Nat.add_right_cancel e)) hn)
  have h1:=hm (js++js') 0 ob;have h2:=hm (js++js') 1 ob;rw [← e] at h1 h2 hnd;rw [List.nodup_append] at hnd;rw [List.mem_append] at h1 h2
  show (0::(js.map (· +2)++1::js'.map (· +2))).Nodup;rw [List.nodup_cons,List.nodup_append,List.nodup_cons];refine ⟨fun h=>?_,hnd.1,⟨fun h=>h2 (.inr h),hnd.2.1⟩,fun p hp q hq=>?_⟩
  ·rcases List.mem_append.1 h with h|h
   ·exact h1 (.inl h)
   rcases List.mem_cons.1 h with h|h
   ·cases h
   exact h1 (.inr h)
  rcases List.mem_cons.1 hq with rfl|hq
  ·exact fun e=>h2 (.inl (e▸hp))
  exact hnd.2.2 p hp q hq
 rintro e w' ⟨v,R',H',⟨-,i,rfl⟩,rfl,hs'⟩;have hrec:w'.heap[w.heap.size+1]?=some (.loop _):=hs'.own 0 _ rfl;refine ⟨_,_,run_endLoop hrec Ob,?_⟩;have hs3:=(hs'.setLoop (j:=0) (r':={ state:=.exhausted,pending:=none,fn:=fn,tmps:=a.tmps,params:=ps,assign:=assign,body:=body,defers:=w.heap.size }) rfl).tail;refine k w.heap.size i _ _ ⟨hf.size,by simp [hf.dfs],hf.vals⟩ hs3.front
def FO (d:Nat):Pr where
  fp k:=k=d
  p _:=True
  st:=fun _ _ _ _=>trivial
def JX (X:Cx)(β:Base)(fn:Func)(Φ:Value→List Pr→List Pr→Prop):Exit→Act→World→Prop:=
  bodyPostM Fence.wide 0 X.P fn fun e w'=>∃ v R' H',Φ v R' H'∧e=.returned v∧Sat β w' R' H'
theorem CX {f:FuncId}{fn:Func}{c:Code}{args:List Value}{Φ:Value→List Pr→List Pr→Prop}(hf:X.P.funcs[f]?=some fn)(hb:fn.body=some c)(hname:(fn.name== "runtime.NumGoroutine")=false)
    (hn:Nat.ble args.length fn.ntmps=true) (h:∀ β,C X β fn.ntmps [] (JX X β fn Φ) c (params 0 args) R H):Ctr X f args R H Φ:=by
 apply Y 0xf40f;intro hn;refine ⟨⟨fn,hf,by rw [hb];rfl,hname⟩,fun w hs=>?_⟩;refine callsIn_wide.1 (callsIn_of_wp_marks (n:=0) hf hb trivial ((wpIn_wide (n:=0)).2 (h _ _ w ⟨by simp;omega,rfl,fun s v hv=>?_⟩ hs)));obtain ⟨_,h2⟩:=dJ args 0 s v hv;apply Y 0x450f;intro hlt
 simp only [Nat.sub_zero] at h2 hlt;apply Y 0x8a0f
 simpa using h2
theorem IU {fn:Func}{Φ:Value→List Pr→List Pr→Prop}{rs:List ResultVar}{vs:List Value}{js hs:List Nat}{d j:Nat}(hj:H[j]?=some (MG d))(hrs:fn.results=List.toArray rs)(hr:xf X Γ R (H.set j (FO d)) rs vs)(hn:hs.Nodup)
    (hΦ:Φ (tup vs) (sel R js) (sel (H.set j (FO d)) hs)):QE β n [{ target:=.collected d,args:=#[] }] (JX X β fn Φ) .ret Γ R H:=by
 intro a w hf hsat;have hd:w.heap[d]?=some (.deferred (some [])):=hsat.own j _ hj;have hlt:d<w.heap.size:=(Array.getElem?_eq_some_iff.1 hd).1;have hs':Sat β (w.putObj d (.deferred none)) R (H.set j (FO d)):=hsat.upd hj (Stp.putObj w d _) (fun k hk _=>hk) (FO d) trivial (fun k hk=>by
  have hk':k=d:=hk;subst hk';exact ⟨by simpa using hlt,.inr rfl⟩)
 show LeavesInM _ _ _ _ a.tmps _ a.defers .returning w;rw [hf.dfs];exact ⟨by simp,.inl ⟨d,_,rfl,run_takeDeferred hd,tup vs,dH hrs hf hs' hr,tup vs,_,_,hΦ,rfl,(hs'.selR js).sel hn⟩⟩
theorem wC:∀ (cs:List Value) (k:Nat) (Z:Array Value),k+cs.length≤Z.size→((cs.zipIdx k).foldl (fun (q:Array Value) (x:Value×Nat)=>q.setIfInBounds x.2 x.1) Z).toList=Z.toList.take k++cs++Z.toList.drop (k+cs.length)
  |[],k,Z,_=>by simp
  |c::cs,k,Z,h=>by
    simp only [List.length_cons] at h
    simp only [List.zipIdx_cons,List.foldl_cons]
    rw [wC cs (k+1) (Z.setIfInBounds k c) OO]
    have hk:k<Z.toList.length:=OO
    rw [Array.toList_setIfInBounds,List.take_set,List.drop_set]
    have e1:¬ (k+1+cs.length≤k):=oe
    have e2:(Z.toList.take (k+1)).set k c=Z.toList.take k++[c]:=by
      rw [List.take_succ_eq_append_getElem hk,List.set_append_right _ _ OO]
      have hk2:k<Z.size:=by simpa using hk
      simp [Nat.min_eq_left (Nat.le_of_lt hk2)]
    simp only [e2,List.length_cons]
    rw [show k+(cs.length+1)=k+1+cs.length from by omega]
    simp
    omega
theorem EN (cs:List Value)(Z:Array Value)(h:Z.size=cs.length):(cs.zipIdx).foldl (fun (q:Array Value) (x:Value×Nat)=>q.setIfInBounds x.2 x.1) Z=List.toArray cs:=by
 apply Array.ext';rw [wC cs 0 Z oe]
 simp [← h]
theorem CI {d t e ty:Nat}{pos:String}{af:Array Edge}{x:Operand}{cs:List Value}{i ei:Ti}(ht:au t X.tab=some i)(hdesc:i.desc=.slice e)(he:au e X.tab=some ei)(hsz:ei.size=cs.length)(hpos:0<cs.length)(hsmall:Nat.ble cs.length 1000=true)
    (hx:ev Γ x=some (.agg (List.toArray cs))) (hd:Nat.blt d n=true) (k:∀ A,L X β n ds ops Q rest ((d,.slice A 1 1)::Γ) R (H++[Own e cs.length A 1 1 cs])):L X β n ds ops Q (⟨some d,.buildSlice t 1 #[(0,x)],ty,pos,af,none⟩::rest) Γ R H:=by
 have hsm:cs.length≤1000:=obe;refine L.mk hd e cs.length 1 cs cI Ob (fun A=>.slice A 1 1) ?_ k;intro ρ w hρ hs o ho;obtain ⟨e1,_⟩:=X.ok _ _ ht;rw [hdesc] at e1;apply Y 0xb6e;intro hS;obtain ⟨_,j,hj,h1,h2,h3⟩:=X.ok _ _ he;apply Y 0xdb0f;intro hz;have hbig:¬ (1*cs.length>2^24):=oe;have hz1:¬ (1*cs.length=0):=oe;have hf:Instr.fill (fun i=>some (i*cs.length,cs.length)) ((Array.range (1*cs.length)).map (ei.zero.cells[· %ei.zero.cells.size]!)) [(0,.agg (List.toArray cs))]=some (List.toArray cs):=by
  apply Y 0x861f;intro hsz
  generalize (Array.range (1*cs.length)).map (ei.zero.cells[· %ei.zero.cells.size]!)=Z at hsz;have:=EN cs Z hsz
  simp [Instr.fill,Value.cells,hsz,this]
 apply Y 0x761f;intro hp;apply Y 0xf51f
 simp [newRow]
theorem jt {c:Code}(e:TypeId)(sz:Nat)(h:C X β n ds Q c Γ R (H++[Own e sz none 0 0 []])):C X β n ds Q c Γ R H:=
  fun a w hf hs=>h a w hf (hs.snoc (Stp.refl w fun _=>False) (fun _ h _=>h) _ (World.ownsRow_nil w 0 e sz) (fun k hk=>by obtain ⟨a,ha,_⟩:=hk;cases ha))
def bD (l:List (Nat×Nat)):List Value:=l.flatMap fun r=>[.int .i64 (r.1:Int),.int .i64 (r.2:Int)]
theorem tS (l:List (Nat×Nat)):(bD l).length=l.length*2:=by
 induction l with
 |nil=>rfl
 |cons r l ih=>rw [show bD (r::l)=[.int .i64 (r.1:Int),.int .i64 (r.2:Int)]++bD l from rfl,List.length_append,ih];simp;omega
theorem jj (l:List (Nat×Nat))(r:Nat×Nat):bD l++[.int .i64 (r.1:Int),.int .i64 (r.2:Int)]=bD (l++[r]):=by simp [bD]
theorem kJ (l:List (Nat×Nat)):∀ v∈bD l,v.oneCell'=true:=by
 intro v hv;obtain ⟨r,_,hr⟩:=List.mem_flatMap.1 hv
 simp at hr
 rcases hr with rfl|rfl<;>rfl
def gw (s:List (Nat×Nat))(i:Nat):List (Nat×Nat):=match s.getLast? with
  |some r=>if r.2=i then s.dropLast++[(r.1,i+1)] else s++[(i,i+1)]
  |none=>s++[(i,i+1)]
def aA (a b:List UInt8):Nat→List (Nat×Nat)
  |0=>[]
  |k+1=>if a.getD k 0=b.getD k 0 then aA a b k else gw (aA a b k) k
theorem iJ (s:List (Nat×Nat))(p i:Nat):gw (s++[(p,i)]) i=s++[(p,i+1)]:=by simp [gw]
theorem yT {s:List (Nat×Nat)}{i:Nat}(h:∀ x∈s,x.2<i):gw s i=s++[(i,i+1)]:=by
 unfold gw
 split
 ·next r hr=>
  have:=h r (List.mem_of_getLast? hr);rw [if_neg oe]
 rfl
theorem E8 {a b:List UInt8}{s:List (Nat×Nat)}{p q:Nat}(hs:∀ x∈s,x.2<p)(hpq:p≤q)(h:aA a b q=if p<q then s++[(p,q)] else s)(hd:a.getD q 0≠b.getD q 0):aA a b (q+1)=if p<q+1 then s++[(p,q+1)] else s:=by
 rw [aA,if_neg hd,h,if_pos (show p<q+1 by omega)]
 by_cases hlt:p<q
 ·rw [if_pos hlt]
  exact iJ s p q
 rw [if_neg hlt];obtain rfl:p=q:=oe
 exact yT hs
end
end Go.Sl
