/-
  Part of a proof.
-/
import Derived.Deep.Quiet
import Derived.Maps.AppendAt
import Derived.Test.YtbpddeiogcgegaaGreatYSlC
set_option maxHeartbeats 0
set_option maxRecDepth 4000
set_option linter.all false
namespace Go.Sl
section
variable {X:Cx}{β:Base}{n:Nat}{ds:List Deferred}{ops:Array Oper}{Q:Exit→Act→World→Prop}{rest:List Oper}{Γ:Env}{R H:List Pr}
theorem HF (w:World)(e:TypeId)(cs:Array Value)(m sz:Nat)(hm:m≤maxLen)(hs:cs.size=m*sz):
    (Own e sz (some ⟨w.heap.size,0,none⟩) m m cs.toList).p (w.alloc (.cells cs e)):=World.ownsRow_lit w cs m (Nat.zero_le _) hm hs
theorem mw {e:TypeId}{sz m c g:Nat}{xs:List Value}{k:Nat}(h:(Own e sz (some ⟨g,0,none⟩) m c xs).fp k):k=g:=by
 obtain ⟨a,ha,hk⟩:=h
 injection ha with ha
 subst ha
 exact hk.symm
theorem L.mk {d ty:Nat}{op:Op}{pos:String}{af:Array Edge}(hd:Nat.blt d n=true)(e sz m:Nat)(cs:List Value)(hm:m≤maxLen)(hl:cs.length=m*sz)(V:Option Addr→Value)
    (hop:∀ (ρ:Operand→Value) (w:World),(∀ x u,ev Γ x=some u→ρ x=u)→Sat β w R H→∀ o:Oper,o.op=op→(execOp ρ o).run X.P w=.ok (.value (V (some ⟨w.heap.size,0,none⟩))) (w.alloc (.cells (List.toArray cs) e)))
    (k:∀ A,L X β n ds ops Q rest ((d,V A)::Γ) R (H++[Own e sz A m m cs])):L X β n ds ops Q (⟨some d,op,ty,pos,af,none⟩::rest) Γ R H:=by
 intro a w hf hs;refine wpList_plain rfl fun K hK=>?_
 apply Y 0x62e;rw [hop a.eval w hf.agree hs _ rfl];apply Y 0x422f;refine hs.snoc (Stp.alloc w _ fun _=>False) (fun _ h _=>h) _ ?_ ?_
 ·have:=HF w e (List.toArray cs) m sz hm obS
  simpa using this
 intro k hk;have:=mw hk;subst this;exact Zm 0xdee
theorem cI:1≤maxLen:=by unfold maxLen;decide
theorem Py (g:Nat):(⟨g,0,none⟩:Addr).add 0=⟨g,0,none⟩:=rfl
theorem L.alloc {d t ty:Nat}{pos:String}{af:Array Edge}{i:Ti}{cs:List Value}(ht:au t X.tab=some i)(hz:i.zero.cells=List.toArray cs)(hd:Nat.blt d n=true)
    (k:∀ A,L X β n ds ops Q rest ((d,ag A 0)::Γ) R (H++[Own t cs.length A 1 1 cs])):L X β n ds ops Q (⟨some d,.alloc t,ty,pos,af,none⟩::rest) Γ R H:=by
 refine L.mk hd t cs.length 1 cs cI Ob (fun A=>ag A 0) ?_ k;intro ρ w hρ hs o ho;obtain ⟨_,j,hj,_,_,h3⟩:=X.ok _ _ ht
 simp [execOp,ho,Instr.alloc,zeroValue,typeInfo,hj,h3,newVar,newRow,hz,ag,Py]
theorem Ml {d t ty:Nat}{pos:String}{af:Array Edge}{x:Operand}{cs:List Value}(hx:ev Γ x=some (.agg (List.toArray cs)))(hd:Nat.blt d n=true)
    (k:∀ A,L X β n ds ops Q rest ((d,ag A 0)::Γ) R (H++[Own t cs.length A 1 1 cs])):L X β n ds ops Q (⟨some d,.box t x,ty,pos,af,none⟩::rest) Γ R H:=by
 refine L.mk hd t cs.length 1 cs cI Ob (fun A=>ag A 0) ?_ k;intro ρ w hρ hs o ho
 simp [execOp,ho,hρ _ _ hx,Instr.box,newVar,newRow,Value.cells,ag,Py]
theorem L.box {d t ty:Nat}{pos:String}{af:Array Edge}{x:Operand}{v:Value}(hx:ev Γ x=some v)(hv:v.cells=#[v])(hd:Nat.blt d n=true)
    (k:∀ A,L X β n ds ops Q rest ((d,ag A 0)::Γ) R (H++[Own t 1 A 1 1 [v]])):L X β n ds ops Q (⟨some d,.box t x,ty,pos,af,none⟩::rest) Γ R H:=by
 refine L.mk hd t 1 1 [v] cI Ob (fun A=>ag A 0) ?_ k;intro ρ w hρ hs o ho
 simp [execOp,ho,hρ _ _ hx,Instr.box,newVar,newRow,hv,ag,Py]
theorem mU {d t e ty m:Nat}{pos:String}{af:Array Edge}{x y:Operand}{kl kc:IntKind}{q:Int}{i ei:Ti}{z:Value}(ht:au t X.tab=some i)(hdesc:i.desc=.slice e)(he:au e X.tab=some ei)(hz:ei.zero=z)(hzc:z.cells=#[z])(hsz:ei.size=1)
    (hx:ev Γ x=some (.int kl q)) (hy:ev Γ y=some (.int kc q)) (hq:q=(m:Int)) (hb:ei.bytes*m≤281474976710656) (hm:m≤9223372036854775807) (hd:Nat.blt d n=true)
    (k:∀ A,L X β n ds ops Q rest ((d,.slice A m m)::Γ) R (H++[Own e 1 A m m (List.replicate m z)])):L X β n ds ops Q (⟨some d,.makeSlice t x y,ty,pos,af,none⟩::rest) Γ R H:=by
 refine L.mk hd e 1 m (List.replicate m z) qX Ob (fun A=>.slice A m m) ?_ k;intro ρ w hρ hs o ho;obtain ⟨e1,_⟩:=X.ok _ _ ht;rw [hdesc] at e1;obtain ⟨_,j,hj,h1,h2,h3⟩:=X.ok _ _ he;subst hq;have hr:=run_make (P:=X.P) w t e j z e1 hj (by rw [h3,hz]) kl kc (m:Int) (m:Int) oe (Int.le_refl _) (by
  rw [h2];have:((ei.bytes*m:Nat):Int)≤281474976710656:=oe
  rwa [Int.natCast_mul] at this) oe
 have hmc:madeCells z.cells (m*j.size)=List.toArray (List.replicate m z):=by
  apply Array.ext';rw [h1,hsz,Nat.mul_one,hzc,toList_madeCells_one]
 simp only [Int.toNat_natCast,hmc] at hr
 simp only [execOp,ho,hρ _ _ hx,hρ _ _ hy,Sem.run_bind,hr,Result.andThen_ok,Sem.run_pure]
theorem sM (len:Nat):∀ (vs:List Value) (pre:List Value) (suf:List Value),(∀ v∈vs,v.cells=#[v])→suf.length=vs.length→pre.length+vs.length=len→
    Instr.fill (fun i=>some (i*1,1)) (List.toArray (pre++suf)) ((vs.zipIdx pre.length).map fun (v,i)=>(i,v))=some (List.toArray (pre++vs))
  |[],pre,suf,_,hl,_=>by
    have:suf=[]:=List.eq_nil_of_length_eq_zero obS
    subst this
    simp [Instr.fill]
  |v::vs,pre,suf,hv,hl,hn=>by
    cases suf with
    |nil=>simp at hl
    |cons s suf=>
      have hc:=hv v Ob
      simp only [List.zipIdx_cons,List.map_cons,Instr.fill,hc]
      have hlt:¬ (pre.length*1+1>(pre++s::suf).length):=Ob
      have ih:=sM len vs (pre++[v]) suf (fun u hu=>hv u (by simp [hu])) obS (by simp only [List.length_append,List.length_cons,List.length_nil] at hn ⊢;omega)
      simp only [List.length_append,List.length_cons,List.length_nil,Nat.zero_add] at ih
      simpa using ih
theorem eZ {vs:List Value}(h:vs.all Value.oneCell'=true):∀ v∈vs,v.oneCell'=true:=List.all_eq_true.1 h
theorem s7 {v:Value}(h:v.oneCell'=true):v.cells=#[v]:=by cases v<;>first|rfl|(simp [Value.oneCell'] at h)
theorem L.lit {d t e ty m:Nat}{pos:String}{af:Array Edge}{vs:List Value}{i ei:Ti}{parts:Array (Nat×Operand)}(ht:au t X.tab=some i)(hdesc:i.desc=.slice e)(he:au e X.tab=some ei)(hsz:ei.size=1)
    (hx:evs Γ (parts.toList.map (·.2))=some vs) (hvb:vs.all Value.oneCell'=true) (hm:vs.length=m) (hsmall:Nat.ble m 1000=true) (hp:parts.toList.map (·.1)=List.range m) (hd:Nat.blt d n=true)
    (k:∀ A,L X β n ds ops Q rest ((d,.slice A m m)::Γ) R (H++[Own e 1 A m m vs])):L X β n ds ops Q (⟨some d,.buildSlice t m parts,ty,pos,af,none⟩::rest) Γ R H:=by
 have hsm:m≤1000:=obe;have hv:∀ v∈vs,v.cells=#[v]:=fun v h=>s7 (eZ hvb v h)
 refine L.mk hd e 1 m vs qX oe (fun A=>.slice A m m) ?_ k;intro ρ w hρ hs o ho;obtain ⟨e1,_⟩:=X.ok _ _ ht;rw [hdesc] at e1;apply Y 0xb6e;intro hS;obtain ⟨_,j,hj,h1,h2,h3⟩:=X.ok _ _ he;have hev:=fU hρ hx;have hparts:(parts.map fun (i,x)=>(i,ρ x)).toList=(vs.zipIdx 0).map fun (v,i)=>(i,v):=by
  have h1:(parts.map fun (i,x)=>(i,ρ x)).toList=(parts.toList.map (·.1)).zip ((parts.toList.map (·.2)).map ρ):=by
   rw [Array.toList_map,List.map_map,List.zip_map']
   rfl
  rw [h1,hp,hev]
  apply List.ext_getElem?;intro q
  by_cases hq:q<m
  ·simp [hq,hm,List.zip]
  simp [List.zip,List.getElem?_zipWith,hq,List.getElem?_eq_none (show vs.length≤q by omega)]
 by_cases h0:m=0
 ·subst h0;have:vs=[]:=List.eq_nil_of_length_eq_zero hm;subst this
  simp only [List.zipIdx_nil,List.map_nil] at hparts
  simp only [execOp,ho,Instr.buildSlice,Sem.run_bind,run_underlying e1,Result.andThen_ok,hS,hsz,hparts];exact Zm 0x6b0f
 apply Y 0xdb0f;intro hz;have hf:=sM m vs [] (((Array.range (m*1)).map (ei.zero.cells[· %ei.zero.cells.size]!)).toList) hv (by simp [hm]) (by simp [hm])
 simp only [List.nil_append,List.length_nil,Array.toArray_toList] at hf;have hbig:¬ (m*1>2^24):=oe;have hz1:¬ (m*1=0):=oe
 simp only [execOp,ho,Instr.buildSlice,Sem.run_bind,run_underlying e1,Result.andThen_ok,hS,hsz,if_neg hbig,if_neg hz1,hz,Sem.run_pure,hparts,hf]
 simp [newRow]
theorem L.store {t ty k j e sz m c:Nat}{pos:String}{af:Array Edge}{x y:Operand}{v u:Value}{i:Ti}{A:Option Addr}{xs:List Value}(ht:au t X.tab=some i)(hx:ev Γ x=some (ag A k))(hy:ev Γ y=some v)
    (hv:v.cells=#[v]) (h1:v.oneCell'=true) (hsz:i.size=1) (hj:H[j]?=some (Own e sz A m c xs)) (hk:xs[k]?=some u) (hh:L X β n ds ops Q rest Γ R (H.set j (Own e sz A m c (xs.set k v)))):
    L X β n ds ops Q (⟨none,.store t x y,ty,pos,af,none⟩::rest) Γ R H:=by
 intro a w hf hs;refine wpList_plain rfl fun K hK=>?_
 obtain ⟨g,rfl,hc,hfr⟩:=Own.cell (hs.own j _ hj) hk;have hx':a.eval x=.pointer (some ⟨g,k,none⟩):=q9;apply Y 0x4ee;intro hS;apply Y 0xb61f;intro hst;apply Y 0xc71f;intro ha0;apply Y 0x62e;have hrun:(execOp a.eval ⟨none,.store t x y,ty,pos,af,none⟩).run X.P w=.ok .skip (w.setCell ⟨g,k,none⟩ v):=by
  exact Zm 0x461f
 rw [hrun];apply Y 0x621f;have hstr:=World.ownsRow.stored (show w.ownsRow 0 e sz (.slice (some ⟨g,0,none⟩) m c) m xs from hs.own j _ hj) k v;refine hs.upd (w':=w.setCell ⟨g,k,none⟩ v) (m:=fun b=>b=g) hj (Stp.setCell w ⟨g,k,none⟩ v) (fun b hb _=>⟨_,rfl,hb.symm⟩) (Own e sz (some ⟨g,0,none⟩) m c (xs.set k v)) hstr.1 (fun b hb=>⟨?_,.inr hb⟩);rw [World.size_setCell]
 exact (hs.ofp j _ hj b hb).1
theorem dd {t ty k j e sz m c:Nat}{pos:String}{af:Array Edge}{x y:Operand}{vs:List Value}{i:Ti}{A:Option Addr}{xs:List Value}(ht:au t X.tab=some i)(hx:ev Γ x=some (ag A k))(hy:ev Γ y=some (.agg (List.toArray vs)))
    (hob:vs.all Value.oneCell'=true) (hsz:i.size=vs.length) (hpos:0<vs.length) (hj:H[j]?=some (Own e sz A m c xs)) (hkb:Nat.ble (k+vs.length) xs.length=true) (hh:L X β n ds ops Q rest Γ R (H.set j (Own e sz A m c (xs.take k++vs++xs.drop (k+vs.length))))):
    L X β n ds ops Q (⟨none,.store t x y,ty,pos,af,none⟩::rest) Γ R H:=by
 intro a w hf hs;refine wpList_plain rfl fun K hK=>?_
 have h1:∀ v∈vs,v.oneCell'=true:=eZ hob;have hk:k+vs.length≤xs.length:=by simpa using hkb
 have hown:=hs.own j _ hj;obtain ⟨g,cur,rfl,hg,hmc,hcm,hcs,htake⟩:=cR hown oe;have hx':a.eval x=.pointer (some ⟨g,k,none⟩):=q9;apply Y 0x4ee;intro hS;have hlen:=Own.len hown;have hle:m*sz≤cur.size:=by rw [hcs];exact Nat.mul_le_mul_right _ hmc
 have hst:=run_storeCells_at X.P g k e vs 0 cur w hg oe h1
 simp only [Nat.add_zero] at hst;apply Y 0x62e;have hrun:(execOp a.eval ⟨none,.store t x y,ty,pos,af,none⟩).run X.P w=.ok .skip (w.setRow g (cur.toList.take k++vs++cur.toList.drop (k+vs.length)).toArray):=by
  simp [execOp,hx',hf.eval hy,Instr.storeAt,Instr.sureAddr,storeVar,Value.cells,hS,hsz,hst]
 rw [hrun];apply Y 0x621f;refine hs.upd (w':=w.setRow g (cur.toList.take k++vs++cur.toList.drop (k+vs.length)).toArray) (m:=fun b=>b=g) hj ⟨rfl,rfl,rfl,by simp,fun b _ hb=>setRow_other w g b _ hb⟩ (fun b hb _=>⟨_,rfl,hb.symm⟩) (Own e sz (some ⟨g,0,none⟩) m c (xs.take k++vs++xs.drop (k+vs.length))) ?_ (fun b hb=>⟨?_,.inr hb⟩)
 ·refine ⟨?_,.inr ⟨g,c,_,rfl,Nat.zero_le _,setRow_heap w g cur _ e _ hg,hmc,hcm,?_,?_⟩⟩
  ·simp
   omega
  ·simp
   omega
  rw [← htake]
  apply List.ext_getElem?;intro q;have hcl:cur.toList.length=cur.size:=Ob;apply Y 0xba2f;have e1:min k cur.size=k:=oe;have e2:min k (min (m*sz) cur.size)=k:=oe
  simp only [e1,e2]
  by_cases c1:q<m*sz
  ·by_cases c2:q<k
   ·simp [c1,c2,show q<k+vs.length by omega]
   by_cases c3:q<k+vs.length
   ·simp [c1,c2,c3]
   simp [c1,c3,show k+vs.length+(q-(k+vs.length))<m*sz by omega]
  have c2:¬ q<k:=oe;have c3:¬ q<k+vs.length:=oe
  simp [c1,c3,show ¬ k+vs.length+(q-(k+vs.length))<m*sz by omega]
 show b<(w.setRow g _).heap.size;rw [setRow_size]
 exact (hs.ofp j _ hj b hb).1
theorem QE.nil_own {x:Exit}(e sz:Nat)(h:QE β n ds Q x Γ R (H++[Own e sz none 0 0 []])):QE β n ds Q x Γ R H:=by
 intro a w hf hs;refine h a w hf (hs.snoc (Stp.refl w fun _=>False) (fun _ h _=>h) _ ⟨by simp,.inl ⟨rfl,rfl⟩⟩ ?_);rintro k ⟨a,ha,_⟩
 cases ha
theorem iC {x:Exit}(j:Nat){xs:List Value}(hj:R[j]?=some (Rd none xs))(h:xs=[]→QE β n ds Q x Γ R H):QE β n ds Q x Γ R H:=by
 intro a w hf hs;refine h ?_ a w hf hs
 cases xs with
 |nil=>rfl
 |cons u us=>
  obtain ⟨b,hb,_⟩:=hs.rd _ (List.mem_of_getElem? hj) 0 u rfl
  cases hb
theorem C.nil_own {c:Code}(e sz:Nat)(h:C X β n ds Q c Γ R (H++[Own e sz none 0 0 []])):C X β n ds Q c Γ R H:=by
 intro a w hf hs;refine h a w hf (hs.snoc (Stp.refl w fun _=>False) (fun _ h _=>h) _ ⟨by simp,.inl ⟨rfl,rfl⟩⟩ ?_);rintro k ⟨a,ha,_⟩
 cases ha
theorem L.append {d t e ty j m c p q sz:Nat}{pos:String}{af:Array Edge}{x y:Operand}{A B:Option Addr}{xs ys:List Value}{i ei:Ti}(ht:au t X.tab=some i)(hdesc:i.desc=.slice e)(he:au e X.tab=some ei)(hsz:ei.size=sz)(hpos:0<sz)(hzc:ei.zero.cells.size=sz)
    (hx:ev Γ x=some (.slice A m c)) (hy:ev Γ y=some (.slice B p q)) (hj:H[j]?=some (Own e sz A m c xs)) (hs:Src R H B ys) (hl:ys.length=p*sz) (h1:∀ v∈ys,v.oneCell'=true)
    (hml:m+p≤9223372036854775807) (hb:(m+p)*ei.bytes≤140737488355328) (hd:Nat.blt d n=true)
    (k:∀ A' c',L X β n ds ops Q rest ((d,.slice A' (m+p) c')::Γ) R (H.set j (Own e sz A' (m+p) c' (xs++ys)))):
    L X β n ds ops Q (⟨some d,.call ⟨.builtin .append,#[x,y],#[t,t]⟩,ty,pos,af,none⟩::rest) Γ R H:=by
 intro a w hf hsat;refine wpList_plain rfl fun K hK=>?_
 obtain ⟨e1,_⟩:=X.ok _ _ ht;rw [hdesc] at e1;obtain ⟨_,jf,hjf,g1,g2,g3⟩:=X.ok _ _ he;have hown:w.ownsRow 0 e sz (.slice A m c) m xs:=hsat.own j _ hj;have main:∃ A' c' w',(Builtin.append_ #[t,t] ty #[.slice A m c,.slice B p q]).run X.P w=.ok (.slice A' (m+p) c') w'∧w'.ownsRow 0 e sz (.slice A' (m+p) c') (m+p) (xs++ys)∧w.grownBy w' (Value.slice A m c).ownBlock∧
  (∀ b,(Own e sz A' (m+p) c' (xs++ys)).fp b→b<w'.heap.size∧(w.heap.size≤b∨(Own e sz A m c xs).fp b)):=by
  cases B with
  |none=>
   have hp:ys=[]:=by
    cases ys with
    |nil=>rfl
    |cons y ys=>
     obtain ⟨b,hb,_⟩:=hs β w hsat 0 y rfl
     cases hb
   subst hp;have hp0:p=0:=by
    rcases Nat.eq_zero_or_pos p with h|h
    ·exact h
    have:=Nat.mul_pos h hpos
    simp at hl
    omega
   subst hp0;refine ⟨A,c,w,?_,by simpa using hown,World.grownBy.refl w _,fun b hb=>⟨(hsat.ofp j _ hj b hb).1,.inr hb⟩⟩
   rcases hown.2 with ⟨hv,hm0⟩|⟨g,cap,cur,hv,_,_,hnc,_⟩
   ·injection hv with ha hb hc
    subst ha hb hc
    simp [Builtin.append_,run_underlying e1,sizeOf,typeInfo,hjf,Builtin.lenOf,Builtin.firstCells]
   injection hv with ha hb hc
   subst ha hc
   simp [Builtin.append_,run_underlying e1,sizeOf,typeInfo,hjf,Builtin.lenOf,Builtin.firstCells,hnc,storeCells]
  |some b=>
   obtain ⟨v',w',hrun,hown',hgr,_,hat⟩:=run_append_own_at (P:=X.P) w 0 t ty e jf ei.zero sz ei.bytes e1 hjf g3 (by rw [g1,hsz]) g2 hzc hpos (.slice A m c) m xs hown b p q ys hl (fun r u hu=>by
    obtain ⟨b',hb',hc⟩:=hs β w hsat r u hu
    injection hb' with hb'
    subst hb'
    exact hc) h1 qX hb (Nat.zero_le _)
   rcases hown'.2 with ⟨rfl,hz⟩|⟨g,cap,cur,rfl,_,hg,hnc,hcm,hcs,htk⟩
   ·have hz':m+p=0:=hz;refine ⟨none,0,w',by rw [hz'];exact hrun,?_,hgr,fun b hb=>by obtain ⟨_,ha,_⟩:=hb;cases ha⟩;rw [hz'] at hown' ⊢
    exact hown'
   refine ⟨_,_,w',hrun,hown',hgr,fun b hb=>?_⟩;have:=mw hb;subst this;refine ⟨(Array.getElem?_eq_some_iff.1 hg).1,?_⟩
   simp only [Value.ownBlock] at hat
   rcases hat with h|h
   ·right
    cases A with
    |none=>simp at h
    |some a0=>exact ⟨a0,rfl,by simpa using h.symm⟩
   left
   simp at h
   omega
 obtain ⟨A',c',w',hrun,hown',hgr,hfp⟩:=main;apply Y 0x62e;have hrun':(execOp a.eval ⟨some d,.call ⟨.builtin .append,#[x,y],#[t,t]⟩,ty,pos,af,none⟩).run X.P w=.ok (.value (.slice A' (m+p) c')) w':=by
  exact Zm 0xd00f
 rw [hrun'];refine hK _ _ (k A' c' _ _ (hf.put oP _) ?_);refine hsat.upd hj (lP hgr) (fun b hb _=>?_) _ hown' hfp
 cases A with
 |none=>simp [Value.ownBlock] at hb
 |some a0=>exact ⟨a0,rfl,by simpa [Value.ownBlock] using hb⟩
def LQ (X:Cx)(β:Base)(n:Nat)(ds:List Deferred)(ops:Array Oper)(Q:Exit→Act→World→Prop)(R H:List Pr)(rest:List Oper)(Γ:Env):Prop:=
  ∀ a,Fr n ds a Γ→wpQuiet X.P ops (fun w=>Sat β w R H) (fun a'=>∀ w',Sat β w' R H→Q .normal a' w') rest a
theorem CZ {id:Nat}{l:List Oper}(hB:Region.lexB .any (List.toArray l)=true)(h:LQ X β n ds (List.toArray l) Q R H l Γ):C X β n ds Q (.region id (List.toArray l) true) Γ R H:=by
 intro a w hf hs;refine wp_region_quiet (C:=fun w'=>Sat β w' R H) X.mixed hB (hs.same (Stp.drew w _)) ?_
 exact h a hf
theorem LQ.nil (h:QE β n ds Q .normal Γ R H):LQ X β n ds ops Q R H [] Γ:=fun a hf w' hs=>h a w' hf hs
theorem LQ.step {op:Op}{v:Value}{d ty:Nat}{pos:String}{af:Array Edge}(h:Ev X β Γ R H op v)(hd:Nat.blt d n=true)(k:LQ X β n ds ops Q R H rest ((d,v)::Γ)):
    LQ X β n ds ops Q R H (⟨some d,op,ty,pos,af,none⟩::rest) Γ:=by
 intro a hf
 simp only [wpQuiet,Region.wanted,if_true];refine ⟨v,fun w hs=>?_,k _ (hf.put oP v)⟩
 unfold Oper.quietAt;rw [h a.eval w hf.agree hs _ rfl];exact Zm 0xb5e
theorem LQ.bool (s:Nat){b:Bool}(hb:look s Γ=some (.bool b))(ht:b=true→LQ X β n ds ops Q R H rest ((s,.bool true)::Γ))(he:b=false→LQ X β n ds ops Q R H rest ((s,.bool false)::Γ)):LQ X β n ds ops Q R H rest Γ:=by
 intro a hf;have h1:∀ c:Bool,b=c→Fr n ds a ((s,.bool c)::Γ):=by
  rintro c rfl;refine ⟨hf.size,hf.dfs,fun t u hu=>?_⟩
  simp only [look] at hu
  cases hbq:Nat.beq t s with
  |true=>
   rw [hbq] at hu;obtain rfl:=Nat.eq_of_beq_eq_true hbq
   simp only [cond_true,Option.some.injEq] at hu;subst hu
   exact hf.vals t _ hb
  |false=>
   rw [hbq] at hu
   exact hf.vals t u hu
 cases hbb:b with
 |true=>exact ht hbb a (h1 true hbb)
 |false=>exact he hbb a (h1 false hbb)
theorem LQ.yes {dst:Option Nat}{op:Op}{ty:Nat}{pos:String}{af:Array Edge}{g:Nat}{b:Bool}(hg:yo ops Γ g=some (.bool b))(h:LQ X β n ds ops Q R H (⟨dst,op,ty,pos,af,none⟩::rest) Γ):
    LQ X β n ds ops Q R H (⟨dst,op,ty,pos,af,some (g,b)⟩::rest) Γ:=by
 intro a hf;have:=h a hf;apply Y 0x2be;intro hy
 simp only [wpQuiet,Region.wanted,hy,beq_self_eq_true,if_true] at this ⊢
 exact this
theorem LQ.no {d:Nat}{op:Op}{ty:Nat}{pos:String}{af:Array Edge}{g:Nat}{b:Bool}{v:Value}(hg:yo ops Γ g=some v)(hv:(match v with| .bool c=>c==b|_=>false)=false)(hd:Nat.blt d n=true)
    (h:LQ X β n ds ops Q R H rest ((d,undef)::Γ)):LQ X β n ds ops Q R H (⟨some d,op,ty,pos,af,some (g,b)⟩::rest) Γ:=by
 intro a hf;apply Y 0x2be;intro hy;have hw:Region.wanted ⟨some d,op,ty,pos,af,some (g,b)⟩ (yielded ops a.tmps)=false:=by
  apply Y 0x2b0f
  cases v<;>simp_all
 simp only [wpQuiet,hw]
 exact h _ (hf.put oP undef)
theorem iL (H:List Pr):∀ (m k:Nat),sel H (List.range' k m)=(H.drop k).take m
  |0,k=>by simp [sel]
  |m+1,k=>by
    rw [List.range'_succ]
    simp only [sel]
    by_cases hk:k<H.length
    · rw [List.getElem?_eq_getElem hk]
      simp only [iL H m (k+1)]
      rw [List.drop_eq_getElem_cons hk]
      rfl
    · rw [List.getElem?_eq_none oe]
      simp only [iL H m (k+1)]
      rw [List.drop_eq_nil_of_le oe,List.drop_eq_nil_of_le oe]
      simp
theorem tI (H:List Pr):sel H (List.range H.length)=H:=by
 rw [List.range_eq_range',iL]
 simp
theorem Ctr.quiet {f:FuncId}{args:List Value}{Rf:List Pr}{u:Value}{Φ:Value→List Pr→List Pr→Prop}(hfn:Ctr X f args Rf [] Φ)(hu:∀ v R' H',Φ v R' H'→v=u)(hR:eh R H Rf){w:World}(hs:Sat β w R H):
    Calls X.P f (List.toArray args) w fun e w'=>e=.returned u∧Sat β w' R H:=by
  refine (hfn.use (js:=[]) (js':=List.range H.length) rfl (tI H) oaP hR hs).mono ?_
  rintro e w' ⟨v,R',H',hΦ,rfl,hs'⟩
  refine ⟨by rw [hu v R' H' hΦ],?_⟩
  refine hs'.pick H (fun i=>H'.length+i) (fun i c hc=>?_) (fun i j _ _ h=>by omega)
  rw [List.getElem?_append_right oe]
  simpa using hc
theorem LQ.call {d ty:Nat}{pos:String}{af:Array Edge}{f:Nat}{as:List Operand}{tys:Array TypeId}{args:List Value}{Rf:List Pr}(u:Value){Φ:Value→List Pr→List Pr→Prop}(hfn:Ctr X f args Rf [] Φ)
    (hu:∀ v R' H',Φ v R' H'→v=u) (ha:evs Γ as=some args) (hR:eh R H Rf) (hd:Nat.blt d n=true)
    (k:LQ X β n ds ops Q R H rest ((d,u)::Γ)):LQ X β n ds ops Q R H (⟨some d,.call ⟨.value (.func f),List.toArray as,tys⟩,ty,pos,af,none⟩::rest) Γ:=by
 intro a hf
 simp only [wpQuiet,Region.wanted,if_true];refine ⟨u,fun w hs=>?_,k _ (hf.put oP u)⟩
 unfold Oper.quietAt;apply Y 0x640f;exact ⟨rfl,hfn.quiet hu hR hs⟩
end
def U8 (l:List UInt8):List Value:=l.map fun x=>.int .u8 (x.toNat:Int)
def I64 (l:List Int):List Value:=l.map fun x=>.int .i64 x
def Bs (l:List Bool):List Value:=l.map fun x=>.bool x
theorem aH (l:List UInt8):(U8 l).length=l.length:=by simp [U8]
theorem bq (l:List Int):(I64 l).length=l.length:=by simp [I64]
theorem mZ (l:List Bool):(Bs l).length=l.length:=by simp [Bs]
theorem bE {l:List UInt8}{k:Nat}(h:k<l.length):(U8 l)[k]?=some (.int .u8 ((l.getD k 0).toNat:Int)):=by simp [U8,h]
theorem aJ {l:List Int}{k:Nat}(h:k<l.length):(I64 l)[k]?=some (.int .i64 (l.getD k 0)):=by simp [I64,h]
theorem m0 {l:List Bool}{k:Nat}(h:k<l.length):(Bs l)[k]?=some (.bool (l.getD k false)):=by simp [Bs,h]
theorem lO (l:List UInt8)(k:Nat)(x:UInt8):(U8 l).set k (.int .u8 (x.toNat:Int))=U8 (l.set k x):=by simp [U8,List.map_set]
theorem jh (l:List Int)(k:Nat)(x:Int):(I64 l).set k (.int .i64 x)=I64 (l.set k x):=by simp [I64,List.map_set]
theorem GP (l:List Bool)(k:Nat)(x:Bool):(Bs l).set k (.bool x)=Bs (l.set k x):=by simp [Bs,List.map_set]
theorem cy (a b:List UInt8):U8 a++U8 b=U8 (a++b):=by simp [U8]
theorem cS (a b:List Int):I64 a++I64 b=I64 (a++b):=by simp [I64]
theorem b4:∀ (l:List UInt8),∀ v∈U8 l,v.oneCell'=true:=by
 intro l v hv
 simp [U8] at hv;obtain ⟨x,_,rfl⟩:=hv
 rfl
theorem dk:∀ (l:List Int),∀ v∈I64 l,v.oneCell'=true:=by
 intro l v hv
 simp [I64] at hv;obtain ⟨x,_,rfl⟩:=hv
 rfl
theorem xm:∀ (l:List Bool),∀ v∈Bs l,v.oneCell'=true:=by
 intro l v hv
 simp [Bs] at hv
 rcases hv with ⟨_,rfl⟩|⟨_,rfl⟩<;>rfl
theorem tD (x:UInt8):(x.toNat:Int)<256∧0≤(x.toNat:Int):=by
 have:=UInt8.toNat_lt x
 omega
theorem aC {α:Type}(l:List α)(d:α)(k:Nat)(h:k<l.length):l.take (k+1)=l.take k++[l.getD k d]:=by
 rw [List.take_succ_eq_append_getElem h]
 simp [h]
theorem ey {a b:Int}(h:(a==b)=true):a=b:=qi
theorem ew {a b:Int}(h:(a==b)=false):a≠b:=qi
theorem tf {a b:Int}(h:(a !=b)=true):a≠b:=qi
theorem tg {a b:Int}(h:(a !=b)=false):a=b:=qi
theorem e9 {x y:UInt8}:((x.toNat:Int)=(y.toNat:Int))↔x=y:=by
 rw [Int.ofNat_inj]
 exact UInt8.toNat_inj
end Go.Sl
