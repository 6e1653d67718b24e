/-
  Part of a proof.
-/
import Derived.MapKept
import Derived.Test.YtbpddeiogcgegaaGreatYOj
set_option maxHeartbeats 0
set_option maxRecDepth 4000
set_option linter.all false
namespace Go.Sl
def gA (m:List (Int×Value))(k:Int):Option Value:=match m with
  |[]=>none
  |(a,v)::m=>if a=k then some v else gA m k
def C2 (m:List (Int×Value))(k:Int)(v:Value):List (Int×Value):=match m with
  |[]=>[(k,v)]
  |(a,u)::m=>if a=k then (a,v)::m else (a,u)::C2 m k v
def xL (kd:IntKind)(m:List (Int×Value)):List (Value×Value):=m.map fun q=>(.int kd q.1,q.2)
def yr (kd:IntKind)(g:Nat)(m:List (Int×Value)):Pr where
  fp k:=k=g
  p w:=∃ (es:Array MapEntry) (clock:Nat),w.heap[g]?=some (.map es clock)∧es.toList.map (fun e=>(e.key,e.val))=xL kd m
  st:=by
    rintro w w' hk ⟨es,c,h,e⟩
    exact ⟨es,c,by rw [hk g rfl];exact h,e⟩
theorem AY {kd:IntKind}(k:Int):∀ (es:List MapEntry) (m:List (Int×Value)) (i:Nat),es.map (fun e=>(e.key,e.val))=xL kd m→
    (gA m k=none∧Instr.findNow (.int kd) (.int kd k) es i=some none)∨
    (∃ j e v,gA m k=some v∧Instr.findNow (.int kd) (.int kd k) es i=some (some (i+j,v))∧es[j]?=some e∧e.key=.int kd k)
  |[],m,i,h=>by
    have:m=[]:=by simpa [xL] using h.symm
    subst this
    exact .inl ⟨rfl,rfl⟩
  |e::es,[],i,h=>by simp [xL] at h
  |e::es,(a,u)::m,i,h=>by
    simp only [xL,List.map_cons,List.cons.injEq,Prod.mk.injEq] at h
    obtain ⟨⟨h1,h2⟩,h3⟩:=h
    by_cases ha:a=k
    · subst ha
      refine .inr ⟨0,e,u,by simp [gA],?_,rfl,h1⟩
      simp [Instr.findNow,h1,Instr.sameNow,h2]
    · have hs:Instr.sameNow (.int kd) (.int kd k) e.key=some false:=by
        rw [h1]
        simp [Instr.sameNow]
        exact fun q=>ha q.symm
      rcases AY k es m (i+1) h3 with ⟨g1,g2⟩|⟨j,e',v,g1,g2,g3,g4⟩
      · exact .inl ⟨by simp [gA,ha,g1],by simp [Instr.findNow,hs,g2]⟩
      · exact .inr ⟨j+1,e',v,by simp [gA,ha,g1],by simp [Instr.findNow,hs,g2];omega,by simpa using g3,g4⟩
theorem v8 {m:List (Int×Value)}{k:Int}{v:Value}(h:gA m k=none):C2 m k v=m++[(k,v)]:=by
 induction m with
 |nil=>rfl
 |cons p m ih=>
  obtain ⟨a,u⟩:=p
  by_cases ha:a=k
  ·simp [gA,ha] at h
  simp only [gA,if_neg ha] at h
  simp [C2,if_neg ha,ih h]
theorem AT {kd:IntKind}{k:Int}{v:Value}:∀ (es:List MapEntry) (m:List (Int×Value)) (i j:Nat) (u:Value),es.map (fun e=>(e.key,e.val))=xL kd m→
    Instr.findNow (.int kd) (.int kd k) es i=some (some (i+j,u))→(es.modify j fun e=>{ e with key:=.int kd k,val:=v }).map (fun e=>(e.key,e.val))=xL kd (C2 m k v)
  |[],m,i,j,u,_,hf=>by simp [Instr.findNow] at hf
  |e::es,[],i,j,u,h,_=>by simp [xL] at h
  |e::es,(a,x)::m,i,j,u,h,hf=>by
    simp only [xL,List.map_cons,List.cons.injEq,Prod.mk.injEq] at h
    obtain ⟨⟨h1,h2⟩,h3⟩:=h
    by_cases ha:a=k
    · subst ha
      simp [Instr.findNow,h1,Instr.sameNow] at hf
      have:j=0:=oe
      subst this
      simp [C2,xL,h3]
    · have hs:Instr.sameNow (.int kd) (.int kd k) e.key=some false:=by
        rw [h1]
        simp [Instr.sameNow]
        exact fun q=>ha q.symm
      simp only [Instr.findNow,hs] at hf
      cases j with
      |zero=>
        exfalso
        rcases AY k es m (i+1) h3 with ⟨g1,g2⟩|⟨j',e',v',g1,g2,g3,g4⟩
        · rw [g2] at hf;cases hf
        · rw [g2] at hf
          simp at hf
          omega
      |succ j=>
        have ih:=AT es m (i+1) j u h3 (v:=v) (by rw [hf];congr 3;omega)
        simp only [List.modify_succ_cons,List.map_cons,C2,if_neg ha,xL,List.cons.injEq]
        exact ⟨by rw [h1,h2],ih⟩
section
variable {X:Cx}{β:Base}{n:Nat}{ds:List Deferred}{ops:Array Oper}{Q:Exit→Act→World→Prop}{rest:List Oper}{Γ:Env}{R H:List Pr}
theorem L.makeMap {d t ty:Nat}{pos:String}{af:Array Edge}(kd:IntKind)(hd:Nat.blt d n=true)
    (k:∀ g,L X β n ds ops Q rest ((d,.map (some g))::Γ) R (H++[yr kd g []])):L X β n ds ops Q (⟨some d,.makeMap t none,ty,pos,af,none⟩::rest) Γ R H:=by
 intro a w hf hs;refine wpList_plain rfl fun K hK=>?_
 apply Y 0x62e;have he:(execOp a.eval (⟨some d,.makeMap t none,ty,pos,af,none⟩:Oper)).run X.P w=.ok (.value (.map (some w.heap.size))) (w.alloc (.map #[] 0)):=rfl;rw [he];refine hK _ _ (k w.heap.size _ _ (hf.put oP _) ?_);refine hs.snoc (Stp.alloc w _ fun _=>False) (fun _ h _=>h) _ ⟨#[],0,(MapKept.heap_alloc w _).1,rfl⟩ ?_;intro k hk;have hk':k=w.heap.size:=hk;subst hk';exact Zm 0xdee
def gn (R H:List Pr)(kd:IntKind)(g:Nat)(m:List (Int×Value)):Prop:=∀ β w,Sat β w R H→(yr kd g m).p w
theorem gn.r (j:Nat){kd:IntKind}{g:Nat}{m:List (Int×Value)}(h:R[j]?=some (yr kd g m)):gn R H kd g m:=fun _ _ hs=>hs.rd _ (List.mem_of_getElem? h)
theorem gn.o (j:Nat){kd:IntKind}{g:Nat}{m:List (Int×Value)}(h:H[j]?=some (yr kd g m)):gn R H kd g m:=fun _ _ hs=>hs.own j _ h
theorem Ev.lookup {t kt et g:Nat}{x y:Operand}{c:Bool}{kd:IntKind}{q:Int}{m:List (Int×Value)}{i ki ei:Ti}(ht:au t X.tab=some i)(hdesc:i.desc=.map kt et)(hk:au kt X.tab=some ki)(hkd:ki.desc=.int kd)(he:au et X.tab=some ei)
    (hx:ev Γ x=some (.map (some g))) (hy:ev Γ y=some (.int kd q)) (hm:gn R H kd g m):
    Ev X β Γ R H (.lookup t x y c) (if c=true then .tuple #[(gA m q).getD ei.zero,.bool (gA m q).isSome] else (gA m q).getD ei.zero):=by
 intro ρ w hρ hs o ho;obtain ⟨e1,_⟩:=X.ok _ _ ht;rw [hdesc] at e1;obtain ⟨e2,_⟩:=X.ok _ _ hk;rw [hkd] at e2;obtain ⟨_,j,hj,_,_,h3⟩:=X.ok _ _ he;apply Y 0xb71f;intro hz;obtain ⟨es,clock,hh,hes⟩:=hm β w hs;apply Y 0xaa1f;intro hck
 rcases AY q es.toList m 0 hes with ⟨g1,g2⟩|⟨j,e,v,g1,g2,_,_⟩
 ·cases c<;>simp [execOp,ho,hρ _ _ hx,hρ _ _ hy,Instr.lookup,run_underlying e1,MapKept.run_getObj_map hh,hck,MapKept.run_findKey e2 g2,hz,g1,Result.andThen]
 cases c<;>simp [execOp,ho,hρ _ _ hx,hρ _ _ hy,Instr.lookup,run_underlying e1,MapKept.run_getObj_map hh,hck,MapKept.run_findKey e2 g2,g1,Result.andThen]
theorem mW {t kt et g:Nat}{x y:Operand}{kd:IntKind}{q:Int}{m:List (Int×Value)}{v:Value}{i ki ei:Ti}(ht:au t X.tab=some i)(hdesc:i.desc=.map kt et)(hk:au kt X.tab=some ki)(hkd:ki.desc=.int kd)(he:au et X.tab=some ei)
    (hx:ev Γ x=some (.map (some g))) (hy:ev Γ y=some (.int kd q)) (hm:gn R H kd g m) (hv:gA m q=some v):Ev X β Γ R H (.lookup t x y false) v:=
  (Ev.lookup ht hdesc hk hkd he hx hy hm).cast (by simp [hv])
theorem xh {t kt et ty g j:Nat}{pos:String}{af:Array Edge}{x y z:Operand}{kd:IntKind}{q:Int}{v:Value}{m:List (Int×Value)}{i ki:Ti}(ht:au t X.tab=some i)(hdesc:i.desc=.map kt et)(hk:au kt X.tab=some ki)(hkd:ki.desc=.int kd)
    (hx:ev Γ x=some (.map (some g))) (hy:ev Γ y=some (.int kd q)) (hz:ev Γ z=some v) (hj:H[j]?=some (yr kd g m))
    (k:L X β n ds ops Q rest Γ R (H.set j (yr kd g (C2 m q v)))):L X β n ds ops Q (⟨none,.mapUpdate t x y z,ty,pos,af,none⟩::rest) Γ R H:=by
 intro a w hf hs;refine wpList_plain rfl fun K hK=>?_
 apply Y 0x62e;have hρ:=hf.agree;obtain ⟨e1,_⟩:=X.ok _ _ ht;rw [hdesc] at e1;obtain ⟨e2,_⟩:=X.ok _ _ hk;rw [hkd] at e2;obtain ⟨es,clock,hh,hes⟩:=hs.own j _ hj;have hck:=MapKept.run_checkKey (P:=X.P) (w:=w) (k:=.int kd q) e2 rfl false 9999;have hlt:g<w.heap.size:=(Array.getElem?_eq_some_iff.1 hh).1;have fin:∀ es' clock',es'.toList.map (fun e:MapEntry=>(e.key,e.val))=xL kd (C2 m q v)→Sat β { w with heap:=w.heap.setIfInBounds g (.map es' clock') } R (H.set j (yr kd g (C2 m q v))):=by
  intro es' clock' he;have hst:Stp w { w with heap:=w.heap.setIfInBounds g (.map es' clock') } (· =g):=⟨rfl,rfl,rfl,by simp,fun b _ hb=>by
   show (w.heap.setIfInBounds g _)[b]?=_;rw [Array.getElem?_setIfInBounds_ne (fun e=>hb e.symm)]⟩
  refine hs.upd hj hst (fun b hb _=>hb) _ ⟨es',clock',by simp [hlt],he⟩ ?_;intro b hb;have hb':b=g:=hb;subst hb';exact ⟨by simpa using hlt,.inr rfl⟩
 rcases AY q es.toList m 0 hes with ⟨g1,g2⟩|⟨j',e,u,g1,g2,g3,g4⟩
 ·have hr:(execOp a.eval (⟨none,.mapUpdate t x y z,ty,pos,af,none⟩:Oper)).run X.P w=.ok .skip { w with heap:=w.heap.setIfInBounds g (.map (es.push ⟨.int kd q,v,clock⟩) (clock+1)) }:=by
   simp [execOp,hρ _ _ hx,hρ _ _ hy,hρ _ _ hz,Instr.mapUpdate,run_underlying e1,MapKept.run_getObj_map hh,hck,MapKept.run_findKey e2 g2,MapKept.run_setObj_map _ hh,Result.andThen]
  rw [hr];refine hK _ _ (k _ _ hf (fin _ _ ?_));rw [Array.toList_push,List.map_append,hes,v8 g1]
  simp [xL]
 have hj':es[j']?=some e:=by simpa using g3
 have hkk:=MapKept.run_keyThatStays (P:=X.P) (w:=w) (k:=.int kd q) (d:=.int kd) rfl;have hr:(execOp a.eval (⟨none,.mapUpdate t x y z,ty,pos,af,none⟩:Oper)).run X.P w=.ok .skip { w with heap:=w.heap.setIfInBounds g (.map (es.modify j' fun e=>{ e with key:=.int kd q,val:=v }) clock) }:=by
  simp [execOp,hρ _ _ hx,hρ _ _ hy,hρ _ _ hz,Instr.mapUpdate,run_underlying e1,MapKept.run_getObj_map hh,hck,MapKept.run_findKey e2 g2,hj',g4,hkk,MapKept.run_setObj_map _ hh,Result.andThen]
 rw [hr];refine hK _ _ (k _ _ hf (fin _ _ ?_));rw [Array.toList_modify]
 exact AT es.toList m 0 j' u hes g2
theorem Sat.freezeAny {w:World}(h:Sat β w R H){j:Nat}{c:Pr}(hj:H[j]?=some c){js:List Nat}(hn:js.Nodup)(hjj:js.contains j=false):Sat β w (c::R) (Sl.sel H js):=by
 apply Y 0xfb0f;intro hjn;have hh:=h.sel hn;refine ⟨hh.ext,?_,?_,hh.own,hh.ofp,hh.dis,?_⟩
 ·intro r hr
  rcases List.mem_cons.1 hr with rfl|hr
  ·exact h.own j _ hj
  exact h.rd r hr
 ·intro r hr k hk
  rcases List.mem_cons.1 hr with rfl|hr
  ·have:=h.ofp j _ hj k hk;exact ⟨this.1,by rcases this.2 with x|x;exact .inl x;exact .inr (.inl x)⟩
  exact h.rfp r hr k hk
 intro r hr i d hd k hk hk'
 rcases List.mem_cons.1 hr with rfl|hr
 ·apply Y 0x8ee;intro q hq hq2
  exact h.dis j q _ _ hj hq2 (fun e=>hjn (e▸hq)) k hk hk'
 exact hh.sep r hr i d hd k hk hk'
theorem C.freezeAny {x:Code}(j:Nat){c:Pr}(hj:H[j]?=some c)(js:List Nat)(hn:js.Nodup)(hjj:js.contains j=false)(h:C X β n ds Q x Γ (c::R) (sel H js)):C X β n ds Q x Γ R H:=fun a w hf hs=>h a w hf (hs.freezeAny hj hn hjj)
end
def lZ (sz n inn out:Int):Bool:=decide (1≤sz)&&decide (sz≤4096)&&decide (1≤n)&&decide (n≤64)&&decide (inn≤sz*n)&&decide (out≤sz*n)
theorem dt {sz n inn out:Int}:lZ sz n inn out=true↔1≤sz∧sz≤4096∧1≤n∧n≤64∧inn≤sz*n∧out≤sz*n:=by
 unfold lZ
 simp only [Bool.and_eq_true,decide_eq_true_eq]
 constructor
 ·apply Y 0x1d1f;intro a b c d e f;exact ⟨a,b,c,d,e,f⟩
 rintro ⟨a,b,c,d,e,f⟩;exact ⟨⟨⟨⟨⟨a,b⟩,c⟩,d⟩,e⟩,f⟩
theorem G9 {sz n inn out:Int}(h:¬(1≤sz∧sz≤4096∧1≤n∧n≤64∧inn≤sz*n∧out≤sz*n)):lZ sz n inn out=false:=by
 cases hb:lZ sz n inn out with
 |false=>rfl
 |true=>exact absurd (dt.1 hb) h
theorem Ak {a b:Int}(h1:1≤a)(h2:a≤4096)(h3:1≤b)(h4:b≤64):0≤a*b∧a*b≤262144:=by
 obtain ⟨a,rfl⟩:∃ q:Nat,a=(q:Int):=⟨a.toNat,by omega⟩;obtain ⟨b,rfl⟩:∃ q:Nat,b=(q:Int):=⟨b.toNat,by omega⟩;rw [← Int.natCast_mul];have h5:a*b≤4096*64:=Nat.mul_le_mul oe oe
 omega
section
variable {l:List Sy}{inn:Int}{S n t j:Nat}
def aI (l:List Sy)(inn:Int)(S n:Nat):List Nat:=(List.range n).filter (gE l inn S)
theorem pd (h:gE l inn S n=true):aI l inn S (n+1)=aI l inn S n++[n]:=oan
theorem Cf (h:gE l inn S n=false):aI l inn S (n+1)=aI l inn S n:=oan
theorem fX (l:List Sy)(inn:Int)(S n:Nat):(aI l inn S n).length≤n:=by
 have:=List.length_filter_le (gE l inn S) (List.range n)
 rwa [List.length_range] at this
theorem cL:t∈aI l inn S n↔t<n∧gE l inn S t=true:=by simp [aI]
theorem fF (l:List Sy)(inn:Int)(S n:Nat):(aI l inn S n).Pairwise (· < ·):=List.Pairwise.filter _ List.pairwise_lt_range
theorem x5 (l:List Sy)(inn:Int)(S n:Nat):(aI l inn S n).Nodup:=(fF l inn S n).imp fun h=>Nat.ne_of_lt h
theorem IF (h:∀ a,a<j→chY l inn (t*S+a)=false)(he:S≤j∨(l.length≤t*S+j∧inn≤((t*S+j:Nat):Int))):gE l inn S t=false:=by
 refine ti (p:=fun a=>chY l inn (t*S+a)) fun a ha=>?_
 by_cases q:a<j
 ·exact h a q
 unfold chY;rw [if_neg oe];exact Zm 0x5be
end
def Gc (M:List (List Int))(n:Nat):List (List Int):=M++List.replicate (n-M.length) []
theorem vM {M:List (List Int)}{n:Nat}(h:M.length≤n):(Gc M n).length=n:=by
 unfold Gc;rw [List.length_append,List.length_replicate]
 omega
theorem nL (M:List (List Int))(n t:Nat):(Gc M n).getD t []=M.getD t []:=by
 unfold Gc
 simp only [List.getD_eq_getElem?_getD,List.getElem?_append]
 split
 ·rfl
 rename_i h;rw [List.getElem?_replicate,List.getElem?_eq_none (by omega:M.length≤t)]
 split<;>rfl
def MF (chg:List Nat)(M:List (List Int))(i:Nat):List Nat:=(List.range chg.length).filter fun k=>(M.getD (chg.getD i 0) []).contains ((chg.getD k 0:Nat):Int)
def lL (chg:List Nat)(M:List (List Int))(i:Nat):List (List Int):=(List.range i).map fun i=>NI (MF chg M i)
theorem dy (chg:List Nat)(M:List (List Int))(i:Nat):(lL chg M i).length=i:=by simp [lL]
theorem lK (chg:List Nat)(M:List (List Int))(i:Nat):lL chg M (i+1)=lL chg M i++[NI (MF chg M i)]:=by simp [lL,List.range_succ]
theorem Fy (chg:List Nat)(M:List (List Int))(i:Nat):(MF chg M i).length≤chg.length:=by
 have:=List.length_filter_le (fun k=>(M.getD (chg.getD i 0) []).contains ((chg.getD k 0:Nat):Int)) (List.range chg.length)
 rwa [List.length_range] at this
def MB (chg:List Nat)(u:Nat):Nat:=chg.idxOf u
theorem wb (m p:List (Int×Value))(k:Int):gA (m++p) k=match gA m k with|some v=>some v|none=>gA p k:=by
  induction m with
  |nil=>rfl
  |cons q m ih=>
    obtain ⟨a,u⟩:=q
    by_cases h:a=k
    · simp [gA,h]
    · simp [gA,h,ih]
theorem Ko {l:List Nat}{u:Nat}(h:u∈l):MB l u<l.length∧l.getD (MB l u) 0=u:=by
 unfold MB;have h1:=List.idxOf_lt_length_iff.2 h;refine ⟨h1,?_⟩;apply Y 0x9a0f
 simp
def fe (l:List Int)(n:Int):Int:=if l.contains n=true then (l.idxOf n:Nat) else -1
theorem Bq {n:Int}:∀ (l:List Int) (k:Nat),k<l.idxOf n→l.getD k 0≠n
  |[],k,h=>by simp at h
  |a::l,k,h=>by
    rw [List.idxOf_cons] at h
    by_cases e:a=n
    · rw [show (a==n)=true from by simpa using e] at h
      exact absurd h (Nat.not_lt_zero _)
    · rw [show (a==n)=false from by simpa using e] at h
      cases k with
      |zero=>exact e
      |succ k=>exact Bq l k qi
theorem EH {l:List Int}{n:Int}{k:Nat}(hk:k<l.length)(hno:∀ i,i<k→l.getD i 0≠n)(h:l.getD k 0=n):fe l n=(k:Int):=by
 unfold fe;rw [if_pos (kV hk h)];have hm:n∈l:=List.contains_iff_mem.1 (kV hk h);have h1:=List.idxOf_lt_length_iff.2 hm;have h2:l.getD (l.idxOf n) 0=n:=by
  apply Y 0x9a0f
  simp
 rcases Nat.lt_trichotomy (l.idxOf n) k with g|g|g
 ·exact absurd h2 (hno _ g)
 ·rw [g]
 exfalso
 exact Bq l k g h
theorem Ii {l:List Int}{n:Int}(h:∀ i,i<l.length→l.getD i 0≠n):fe l n= -1:=by
 unfold fe;rw [if_neg (by rw [mC h];decide)]
def jU (chg l:List Nat):List Nat:=l.map fun i=>chg.getD i 0
theorem jT (chg l:List Nat):(jU chg l).length=l.length:=by simp [jU]
theorem AQ (chg l:List Nat){i:Nat}(h:i<l.length):jU chg (l.take (i+1))=jU chg (l.take i)++[chg.getD (l.getD i 0) 0]:=by
 unfold jU;rw [aC l 0 i h,List.map_append]
 rfl
section
variable {l:List Sy}{inn out:Int}{S n t u:Nat}
theorem pf (hS:1≤S)(hl:(l.length:Int)=out)(h:rdN inn out S≤t):gE l inn S t=false:=by
 have hc:=Ae (inn:=inn) (out:=out) hS;have hm:=Nat.mul_le_mul_right S h;refine ti (p:=fun a=>chY l inn (t*S+a)) fun a _=>?_
 unfold chY;rw [if_neg oe];exact Zm 0x5be
theorem nE (h:iH l inn S u t=true):gE l inn S u=true∧gE l inn S t=true:=by
 unfold iH at h
 simp only [Bool.and_eq_true] at h;exact ⟨h.1.1.2,h.1.2⟩
theorem vC (h:gE l inn S u=false):iH l inn S u t=false:=by unfold iH;rw [h];simp
theorem Ea (h:gE l inn S t=false):iH l inn S u t=false:=by unfold iH;rw [h];simp
theorem eL {k:Nat}(h:u<k):(bV l inn S n k).getD u []=NI (kH l inn S u n):=ai h _
theorem nD {k:Nat}(h:u<k)(ht:t<n):((bV l inn S n k).getD u []).contains (t:Int)=iH l inn S u t:=by
 rw [eL h,gk,Bool.eq_iff_iff,List.contains_iff_mem]
 simp [kH,ht]
theorem k9 {p:Nat→Bool}{N:Nat}(h:∀ t,N≤t→p t=false):∀ {n:Nat},N≤n→(List.range n).filter p=(List.range N).filter p
  |0,hn=>by
    obtain rfl:N=0:=oe
    rfl
  |n+1,hn=>by
    by_cases e:N=n+1
    · rw [e]
    · rw [List.range_succ,List.filter_append,k9 h (by omega:N≤n),List.filter_cons,h n oe]
      simp
theorem Hz (hS:1≤S)(hl:(l.length:Int)=out)(hN:rdN inn out S≤n):Gc (bV l inn S (rdN inn out S) (rdN inn out S)) n=bV l inn S n n:=by
 refine aF (d:=[]) (by rw [vM (by rw [bY];exact hN),bY]) (fun u hu=>?_);rw [vM (by rw [bY];exact hN)] at hu;rw [nL,eL hu]
 by_cases h:u<rdN inn out S
 ·rw [eL h]
  congr 1
  exact (k9 (fun t ht=>Ea (pf hS hl ht)) hN).symm
 rw [cM (by rw [bY];omega)];have:kH l inn S u n=[]:=by
  unfold kH;rw [List.filter_eq_nil_iff];intro t _;rw [vC (pf hS hl oe)]
  decide
 rw [this]
 rfl
theorem NH (hS:1≤S)(h1:inn≤(S:Int)*(n:Int))(h2:out≤(S:Int)*(n:Int)):rdN inn out S≤n:=by
 unfold rdN;rw [← Int.natCast_mul,Nat.mul_comm] at h1 h2;have h3:(max inn out).toNat≤n*S:=oe;have h4:(max inn out).toNat+S-1<(n+1)*S:=by rw [Nat.succ_mul];omega
 have:=(Nat.div_lt_iff_lt_mul hS).2 h4
 omega
theorem Ac {ops:List Po}(hE:cU inn out ops=0)(h1:1≤S)(h2:S≤4096)(hn:n≤64)(h3:inn≤(S:Int)*(n:Int))(h4:out≤(S:Int)*(n:Int)):
    rdE false inn out (S:Int) ops=0∧rdM false inn out (S:Int) ops=bV (ah ops) inn S (rdN inn out S) (rdN inn out S)∧rdN inn out S≤n∧((ah ops).length:Int)=out:=by
 apply Y 0xbce;intro k1 k2 k3 k4 k5 k6;apply Y 0x1be;intro hl;have hN:=NH h1 h3 h4;have he:rdE false inn out (S:Int) ops=0:=HC hE rfl oe oe qI;refine ⟨he,?_,hN,hl⟩;rw [Af he,Int.toNat_natCast]
 exact zC h1 hl rfl
end
section
variable {R H:List Pr}
theorem DP {hs:List Hd}{M:List (List Int)}{n:Nat}(h:hs.length=M.length):aB hs (J8 M)++List.replicate (n-M.length) (Value.slice none 0 0)=aB (hs++List.replicate (n-M.length) (none,0)) (J8 (Gc M n)):=by
 rw [JF]
 unfold aB Gc J8;rw [List.map_append,List.zipWith_append (by rw [List.length_map];exact h)]
theorem uW (j:Nat){hs:List Hd}{M:List (List Int)}(hj:R[j]?=some (KidsR hs (J8 M)))(hl:hs.length=M.length)(m:Nat):Has R H (KidsR (hs++List.replicate m (none,0)) (J8 (M++List.replicate m []))):=by
 have hJ:J8 (M++List.replicate m [])=J8 M++List.replicate m []:=by simp [J8,I64]
 rw [hJ];have old:∀ (i:Nat) (h:Hd) (v:List Value),(hs++List.replicate m (none,0))[i]?=some h→(J8 M++List.replicate m [])[i]?=some v→(hs[i]?=some h∧(J8 M)[i]?=some v)∨v=[]:=by
  intro i h v hh hv
  by_cases hi:i<hs.length
  ·rw [List.getElem?_append_left hi] at hh;rw [List.getElem?_append_left qM] at hv
   exact .inl ⟨hh,hv⟩
  rw [List.getElem?_append_right qM] at hv
  exact .inr (List.mem_replicate.1 (List.mem_of_getElem? hv)).2
 have hh:=Has.r (H:=H) j hj;refine ⟨fun β w hs2 i h v h1 h2=>?_,fun k ⟨i,h,v,h1,h2,h3⟩=>?_⟩
 ·rcases old i h v h1 h2 with ⟨a,b⟩|rfl
  ·exact hh.1 β w hs2 i h v a b
  intro j u hu
  simp at hu
 rcases old i h v h1 h2 with ⟨a,b⟩|rfl
 ·exact hh.2 k ⟨i,h,v,a,b,h3⟩
 exact absurd rfl h3.1
end
section
variable {chg:List Nat}{M:List (List Int)}{i j:Nat}
end
section
variable {l:List Sy}{inn:Int}{S n i:Nat}
theorem wT (h:i<(aI l inn S n).length):(aI l inn S n).getD i 0<n∧gE l inn S ((aI l inn S n).getD i 0)=true:=by
 have:(aI l inn S n).getD i 0∈aI l inn S n:=by
  exact Zm 0xe10f540f
 exact cL.1 this
theorem zH {u j:Nat}(hu:u<n)(hj:j<((bV l inn S n n).getD u []).length):∃ t,((bV l inn S n n).getD u []).getD j 0=((t:Nat):Int)∧t<n∧iH l inn S u t=true∧t∈aI l inn S n:=by
 rw [eL hu] at hj ⊢;rw [bb] at hj;have hm:=List.getElem_mem hj;have hm2:=hm
 unfold kH at hm2;rw [List.mem_filter,List.mem_range] at hm2;refine ⟨_,iE hj,hm2.1,hm2.2,cL.2 ⟨hm2.1,(nE hm2.2).2⟩⟩
theorem GH:cH (lL (aI l inn S n) (bV l inn S n n) (aI l inn S n).length)=true:=by
 refine rJ fun i hi=>?_
 rw [dy] at hi ⊢
 unfold lL;rw [ai hi];refine Ad ?_;have h1:=wT hi;rw [nD h1.1 h1.1]
 unfold iH
 simp
theorem IQ (i:Nat):((lL (aI l inn S n) (bV l inn S n n) (aI l inn S n).length).getD i []).length≤n:=by
 have h0:=fX l inn S n
 by_cases h:i<(aI l inn S n).length
 ·unfold lL;rw [ai h,bb]
  exact Nat.le_trans (Fy _ _ _) h0
 rw [cM (by rw [dy];omega)];exact Zm 0xc1e
end
structure Pp where
  sz:Int
  n:Int
  lf:Bool
  inn:Int
  out:Int
  ops:List Po
  q:List Int
  h:List Int
def Pp.zero:Pp:=⟨0,0,false,0,0,[],[],[]⟩
def mkM (inn:Int)(S n:Nat)(ops:List Po):List (List Int):=lL (aI (ah ops) inn S n) (bV (ah ops) inn S n n) (aI (ah ops) inn S n).length
def mkE (lf:Bool)(inn out sz n:Int)(ops:List Po)(ol:Nat):Int:=
  if cU inn out ops≠0 then 60 else if lf=true then 62 else if lZ sz n inn out=false then 190 else if (ol:Int)≠inn then 61 else if 16<(aI (ah ops) inn sz.toNat n.toNat).length then 2 else 0
def mkP (lf:Bool)(inn out sz n:Int)(ops:List Po)(ol:Nat):Pp:=
  if mkE lf inn out sz n ops ol=0 then ⟨sz,n,lf,inn,out,ops,NI (jU (aI (ah ops) inn sz.toNat n.toNat) (vN (mkM inn sz.toNat n.toNat ops))),NI (jU (aI (ah ops) inn sz.toNat n.toNat) (vO (mkM inn sz.toNat n.toNat ops)))⟩ else Pp.zero
section
variable {lf:Bool}{inn out sz n:Int}{ops:List Po}{ol:Nat}
theorem N3 (h:cU inn out ops≠0):mkE lf inn out sz n ops ol=60:=by unfold mkE;rw [if_pos h]
theorem N2 (h:cU inn out ops=0)(h2:lf=true):mkE lf inn out sz n ops ol=62:=by unfold mkE;rw [if_neg (fun g=>g h),if_pos h2]
theorem N1 (h:cU inn out ops=0)(h2:lf=false)(h3:lZ sz n inn out=false):mkE lf inn out sz n ops ol=190:=by unfold mkE;rw [if_neg (fun g=>g h),if_neg Qt,if_pos h3]
theorem N0 (h:cU inn out ops=0)(h2:lf=false)(h3:lZ sz n inn out=true)(h4:(ol:Int)≠inn):mkE lf inn out sz n ops ol=61:=by unfold mkE;rw [if_neg (fun g=>g h),if_neg Qt,if_neg obM,if_pos h4]
theorem NZ (h:cU inn out ops=0)(h2:lf=false)(h3:lZ sz n inn out=true)(h4:(ol:Int)=inn)(h5:16<(aI (ah ops) inn sz.toNat n.toNat).length):mkE lf inn out sz n ops ol=2:=by
 unfold mkE;rw [if_neg (fun g=>g h),if_neg Qt,if_neg obM,if_neg (fun g=>g h4),if_pos h5]
theorem Kc (h:cU inn out ops=0)(h2:lf=false)(h3:lZ sz n inn out=true)(h4:(ol:Int)=inn)(h5:(aI (ah ops) inn sz.toNat n.toNat).length≤16):mkE lf inn out sz n ops ol=0:=by
 unfold mkE;rw [if_neg (fun g=>g h),if_neg Qt,if_neg obM,if_neg (fun g=>g h4),if_neg oe]
theorem AV (h:mkE lf inn out sz n ops ol≠0):mkP lf inn out sz n ops ol=Pp.zero:=by unfold mkP;rw [if_neg h]
theorem Gk (h:mkE lf inn out sz n ops ol=0):mkP lf inn out sz n ops ol=⟨sz,n,lf,inn,out,ops,NI (jU (aI (ah ops) inn sz.toNat n.toNat) (vN (mkM inn sz.toNat n.toNat ops))),NI (jU (aI (ah ops) inn sz.toNat n.toNat) (vO (mkM inn sz.toNat n.toNat ops)))⟩:=by unfold mkP;rw [if_pos h]
end
end Go.Sl
