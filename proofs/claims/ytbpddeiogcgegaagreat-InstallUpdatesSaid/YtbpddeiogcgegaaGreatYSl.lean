/-
  Part of a proof.
-/
import Derived.WalkKit
import Derived.Test.YtbpddeiogcgegaaGreatYSlGo
set_option maxHeartbeats 0
set_option maxRecDepth 4000
set_option linter.all false
namespace Go.Sl
structure Pr where
  fp:Nat→Prop
  p:World→Prop
  st:∀ w w':World,(∀ k,fp k→w'.heap[k]?=w.heap[k]?)→p w→p w'
structure Base where
  w0:World
  mt:Nat→Prop
  ro:Nat→Prop
structure Ext (β:Base)(w:World):Prop where
  os:w.os=β.w0.os
  tape:w.tape=β.w0.tape
  output:w.output=β.w0.output
  size:β.w0.heap.size≤w.heap.size
  block:∀ k,k<β.w0.heap.size→¬ β.mt k→w.heap[k]?=β.w0.heap[k]?
structure Sat (β:Base)(w:World)(R H:List Pr):Prop where
  ext:Ext β w
  rd:∀ r∈R,r.p w
  rfp:∀ r∈R,∀ k,r.fp k→k<w.heap.size∧(β.w0.heap.size≤k∨β.mt k∨β.ro k)
  own:∀ (i:Nat) (c:Pr),H[i]?=some c→c.p w
  ofp:∀ (i:Nat) (c:Pr),H[i]?=some c→∀ k,c.fp k→k<w.heap.size∧(β.w0.heap.size≤k∨β.mt k)
  dis:∀ (i j:Nat) (c d:Pr),H[i]?=some c→H[j]?=some d→i≠j→∀ k,c.fp k→¬ d.fp k
  sep:∀ r∈R,∀ (j:Nat) (c:Pr),H[j]?=some c→∀ k,r.fp k→¬ c.fp k
structure Stp (w w':World)(m:Nat→Prop):Prop where
  os:w'.os=w.os
  tape:w'.tape=w.tape
  output:w'.output=w.output
  size:w.heap.size≤w'.heap.size
  block:∀ k,k<w.heap.size→¬ m k→w'.heap[k]?=w.heap[k]?
section
variable {β:Base}{w w':World}{R H:List Pr}
theorem Stp.refl (w:World)(m:Nat→Prop):Stp w w m:=⟨rfl,rfl,rfl,Nat.le_refl _,fun _ _ _=>rfl⟩
theorem Stp.drew (w:World)(m:Nat→Prop):Stp w w.drew m:=⟨rfl,rfl,rfl,Nat.le_refl _,fun _ _ _=>rfl⟩
theorem Stp.alloc (w:World)(o:Obj)(m:Nat→Prop):Stp w (w.alloc o) m:=⟨rfl,rfl,rfl,by simp,fun k hk _=>RowKit.Below.heap_alloc w o k hk⟩
theorem Stp.setCell (w:World)(a:Addr)(u:Value):Stp w (w.setCell a u) (· =a.block):=
  ⟨rfl,rfl,rfl,by simp,fun k _ hk=>heap_setCell_other w a k u hk⟩
theorem Stp.trans {w1 w2 w3:World}{m:Nat→Prop}(h:Stp w1 w2 m)(k:Stp w2 w3 (fun b=>m b∨w1.heap.size≤b)):Stp w1 w3 m:=
  ⟨k.os.trans h.os,k.tape.trans h.tape,k.output.trans h.output,Nat.le_trans h.size k.size,
   fun b hb hm=>(k.block b (Nat.lt_of_lt_of_le hb h.size) (by rintro (x|x);exact hm x;omega)).trans (h.block b hb hm)⟩
theorem lP {row:Option Nat}(h:w.grownBy w' row):Stp w w' (fun k=>row=some k):=
  ⟨h.os,h.tape,h.output,h.size,fun k hk hn=>h.block k hk fun e=>hn e.symm⟩
theorem Sat.put (h:Sat β w R H){m:Nat→Prop}(s:Stp w w' m)(hm:∀ k,m k→k<w.heap.size→∃ (i:Nat) (c:Pr),H[i]?=some c∧c.fp k)
    (R' H':List Pr)
    (hR:∀ r∈R',r∈R∨(r.p w'∧(∀ k,r.fp k→k<w'.heap.size∧(w.heap.size≤k∨(∃ (i:Nat) (c:Pr),H[i]?=some c∧c.fp k)∨∃ r'∈R,r'.fp k))))
    (hH:∀ (j:Nat) (c:Pr),H'[j]?=some c→c.p w'∧(∀ k,c.fp k→k<w'.heap.size∧(w.heap.size≤k∨∃ (i:Nat) (d:Pr),H[i]?=some d∧d.fp k)))
    (hd:∀ (i j:Nat) (c d:Pr),H'[i]?=some c→H'[j]?=some d→i≠j→∀ k,c.fp k→¬ d.fp k)
    (hs:∀ r∈R',∀ (j:Nat) (c:Pr),H'[j]?=some c→∀ k,r.fp k→¬ c.fp k):Sat β w' R' H':=by
 have hn:∀ k,(∃ (i:Nat) (c:Pr),H[i]?=some c∧c.fp k)→k<w.heap.size∧(β.w0.heap.size≤k∨β.mt k):=fun k ⟨i,c,hc,hk⟩=>h.ofp i c hc k hk
 refine ⟨⟨s.os.trans h.ext.os,s.tape.trans h.ext.tape,s.output.trans h.ext.output,Nat.le_trans h.ext.size s.size,fun k hk hmt=>?_⟩,?_,?_,fun i c hc=>(hH i c hc).1,?_,hd,hs⟩
 ·refine (s.block k (Nat.lt_of_lt_of_le hk h.ext.size) fun hmk=>?_).trans (h.ext.block k hk hmt)
  rcases (hn k (hm k hmk (Nat.lt_of_lt_of_le hk h.ext.size))).2 with x|x
  ·omega
  exact hmt x
 ·intro r hr
  rcases hR r hr with h1|h1
  ·refine r.st w w' (fun k hk=>s.block k (h.rfp r h1 k hk).1 fun hmk=>?_) (h.rd r h1);obtain ⟨i,c,hc,hck⟩:=hm k hmk (h.rfp r h1 k hk).1
   exact h.sep r h1 i c hc k hk hck
  exact h1.1
 ·intro r hr k hk
  rcases hR r hr with h1|h1
  ·exact ⟨Nat.lt_of_lt_of_le (h.rfp r h1 k hk).1 s.size,(h.rfp r h1 k hk).2⟩
  refine ⟨(h1.2 k hk).1,?_⟩
  rcases (h1.2 k hk).2 with x|x|⟨r',hr',x⟩
  ·exact .inl (Nat.le_trans h.ext.size x)
  ·rcases (hn k x).2 with y|y
   ·exact .inl y
   exact .inr (.inl y)
  exact (h.rfp r' hr' k x).2
 intro i c hc k hk;refine ⟨((hH i c hc).2 k hk).1,?_⟩
 rcases ((hH i c hc).2 k hk).2 with x|x
 ·exact .inl (Nat.le_trans h.ext.size x)
 exact (hn k x).2
theorem Sat.upd (h:Sat β w R H){j:Nat}{c:Pr}(hj:H[j]?=some c){m:Nat→Prop}(s:Stp w w' m)(hm:∀ k,m k→k<w.heap.size→c.fp k)(c':Pr)
    (hp:c'.p w') (hf:∀ k,c'.fp k→k<w'.heap.size∧(w.heap.size≤k∨c.fp k)):Sat β w' R (H.set j c'):=by
 have hget:∀ (i:Nat) (x:Pr),(H.set j c')[i]?=some x→(i=j∧x=c')∨(i≠j∧H[i]?=some x):=by
  intro i x hx;rw [List.getElem?_set] at hx
  split at hx
  ·rename_i e
   split at hx
   ·exact .inl ⟨e.symm,(by injection hx with hx;exact hx.symm)⟩
   cases hx
  rename_i e
  exact .inr ⟨fun h=>e h.symm,hx⟩
 have old:∀ (i:Nat) (x:Pr),i≠j→H[i]?=some x→∀ k,x.fp k→¬ c'.fp k:=by
  intro i x hi hx k hk hck
  rcases (hf k hck).2 with y|y
  ·have:=(h.ofp i x hx k hk).1
   omega
  exact h.dis i j x c hx hj hi k hk y
 refine h.put s (fun k hk hlt=>⟨j,c,hj,hm k hk hlt⟩) R (H.set j c') (fun r hr=>.inl hr) ?_ ?_ ?_
 ·intro i x hx
  rcases hget i x hx with ⟨_,rfl⟩|⟨hi,hx'⟩
  ·refine ⟨hp,fun k hk=>⟨(hf k hk).1,?_⟩⟩
   rcases (hf k hk).2 with y|y
   ·exact .inl y
   exact .inr ⟨j,c,hj,y⟩
  refine ⟨x.st w w' (fun k hk=>s.block k (h.ofp i x hx' k hk).1 fun hmk=>h.dis i j x c hx' hj hi k hk (hm k hmk (h.ofp i x hx' k hk).1)) (h.own i x hx'),fun k hk=>⟨Nat.lt_of_lt_of_le (h.ofp i x hx' k hk).1 s.size,.inr ⟨i,x,hx',hk⟩⟩⟩
 ·intro i i' x y hx hy hne k hk hk'
  rcases hget i x hx with ⟨e,rfl⟩|⟨hi,hx'⟩<;>rcases hget i' y hy with ⟨e',rfl⟩|⟨hi',hy'⟩
  ·omega
  ·exact old i' y hi' hy' k hk' hk
  ·exact old i x hi hx' k hk hk'
  exact h.dis i i' x y hx' hy' hne k hk hk'
 intro r hr i x hx k hk hk'
 rcases hget i x hx with ⟨_,rfl⟩|⟨hi,hx'⟩
 ·rcases (hf k hk').2 with y|y
  ·have:=(h.rfp r hr k hk).1
   omega
  exact h.sep r hr j c hj k hk y
 exact h.sep r hr i x hx' k hk hk'
theorem Sat.snoc (h:Sat β w R H){m:Nat→Prop}(s:Stp w w' m)(hm:∀ k,m k→k<w.heap.size→False)(c':Pr)
    (hp:c'.p w') (hf:∀ k,c'.fp k→k<w'.heap.size∧w.heap.size≤k):Sat β w' R (H++[c']):=by
 have hget:∀ (i:Nat) (x:Pr),(H++[c'])[i]?=some x→(i=H.length∧x=c')∨(H[i]?=some x):=by
  intro i x hx;rw [List.getElem?_append] at hx
  split at hx
  ·exact .inr hx
  rename_i hge
  by_cases e:i=H.length
  ·subst e
   simp at hx
   exact .inl ⟨rfl,hx.symm⟩
  rw [List.getElem?_eq_none OO] at hx
  cases hx
 have lt:∀ (i:Nat) (x:Pr),H[i]?=some x→i<H.length:=fun i x hx=>(List.getElem?_eq_some_iff.1 hx).1
 refine h.put s (fun k hk hlt=>(hm k hk hlt).elim) R (H++[c']) (fun r hr=>.inl hr) ?_ ?_ ?_
 ·intro i x hx
  rcases hget i x hx with ⟨_,rfl⟩|hx'
  ·exact ⟨hp,fun k hk=>⟨(hf k hk).1,.inl (hf k hk).2⟩⟩
  exact ⟨x.st w w' (fun k hk=>s.block k (h.ofp i x hx' k hk).1 fun hmk=>hm k hmk (h.ofp i x hx' k hk).1) (h.own i x hx'),fun k hk=>⟨Nat.lt_of_lt_of_le (h.ofp i x hx' k hk).1 s.size,.inr ⟨i,x,hx',hk⟩⟩⟩
 ·intro i i' x y hx hy hne k hk hk'
  rcases hget i x hx with ⟨e,rfl⟩|hx'<;>rcases hget i' y hy with ⟨e',rfl⟩|hy'
  ·omega
  ·have:=(h.ofp i' y hy' k hk').1;have:=(hf k hk).2
   omega
  ·have:=(h.ofp i x hx' k hk).1;have:=(hf k hk').2
   omega
  exact h.dis i i' x y hx' hy' hne k hk hk'
 intro r hr i x hx k hk hk'
 rcases hget i x hx with ⟨_,rfl⟩|hx'
 ·have:=(h.rfp r hr k hk).1;have:=(hf k hk').2
  omega
 exact h.sep r hr i x hx' k hk hk'
theorem Sat.same (h:Sat β w R H)(s:Stp w w' (fun _=>False)):Sat β w' R H:=
  h.put s (fun _ hk=>hk.elim) R H (fun _ hr=>.inl hr)
    (fun i x hx=>⟨x.st w w' (fun k hk=>s.block k (h.ofp i x hx k hk).1 id) (h.own i x hx),fun k hk=>⟨Nat.lt_of_lt_of_le (h.ofp i x hx k hk).1 s.size,.inr ⟨i,x,hx,hk⟩⟩⟩)
    h.dis h.sep
theorem Sat.reads (h:Sat β w R H)(R':List Pr)(hR:∀ r∈R',r∈R∨(r.p w∧∀ k,r.fp k→∃ r'∈R,r'.fp k)):Sat β w R' H:=by
 refine h.put (Stp.refl w fun _=>False) (fun _ hk=>hk.elim) R' H ?_ (fun i x hx=>⟨h.own i x hx,fun k hk=>⟨(h.ofp i x hx k hk).1,.inr ⟨i,x,hx,hk⟩⟩⟩) h.dis ?_
 ·intro r hr
  rcases hR r hr with x|⟨x,y⟩
  ·exact .inl x
  exact .inr ⟨x,fun k hk=>by obtain ⟨r',hr',hk'⟩:=y k hk;exact ⟨(h.rfp r' hr' k hk').1,.inr (.inr ⟨r',hr',hk'⟩)⟩⟩
 intro r hr j c hc k hk hck
 rcases hR r hr with x|⟨_,y⟩
 ·exact h.sep r x j c hc k hk hck
 obtain ⟨r',hr',hk'⟩:=y k hk
 exact h.sep r' hr' j c hc k hk' hck
theorem Sat.pick (h:Sat β w R H)(H':List Pr)(f:Nat→Nat)(hf:∀ (i:Nat) (c:Pr),H'[i]?=some c→H[f i]?=some c)(hi:∀ i j,i<H'.length→j<H'.length→f i=f j→i=j):Sat β w R H':=by
 refine h.put (Stp.refl w fun _=>False) (fun _ hk=>hk.elim) R H' (fun r hr=>.inl hr) (fun i x hx=>⟨h.own _ x (hf i x hx),fun k hk=>⟨(h.ofp _ x (hf i x hx) k hk).1,.inr ⟨_,x,hf i x hx,hk⟩⟩⟩) ?_ ?_
 ·intro i j c d hc hd hne k hk hk';have li:=(List.getElem?_eq_some_iff.1 hc).1;have lj:=(List.getElem?_eq_some_iff.1 hd).1
  exact h.dis (f i) (f j) c d (hf i c hc) (hf j d hd) (fun e=>hne (hi i j li lj e)) k hk hk'
 intro r hr j c hc k hk hk'
 exact h.sep r hr _ c (hf j c hc) k hk hk'
end
theorem adz (g k:Nat):(⟨g,0,none⟩:Addr).add k=⟨g,k,none⟩:=by
 unfold Addr.add
 split
 ·rename_i h;subst h
  rfl
 simp
theorem lN (a:Addr)(i j:Nat):(a.add i).add j=a.add (i+j):=by
 unfold Addr.add
 by_cases hi:i=0<;>by_cases hj:j=0<;>simp [hi,hj,Nat.add_assoc]
theorem pA (a:Addr)(n:Nat):(a.add n).block=a.block:=by unfold Addr.add;split<;>rfl
def Own (e:TypeId)(sz:Nat)(A:Option Addr)(n c:Nat)(xs:List Value):Pr where
  fp k:=∃ a,A=some a∧a.block=k
  p w:=w.ownsRow 0 e sz (.slice A n c) n xs
  st:=by
    intro w w' hk h
    refine ⟨h.1,?_⟩
    rcases h.2 with h2|⟨g,cap,cur,hv,hg,hh,r⟩
    · exact .inl h2
    · refine .inr ⟨g,cap,cur,hv,hg,?_,r⟩
      rw [hk g ⟨_,by injection hv,rfl⟩]
      exact hh
def Rd (A:Option Addr)(xs:List Value):Pr where
  fp k:=xs≠[]∧∃ a,A=some a∧a.block=k
  p w:=∀ (j:Nat) u,xs[j]?=some u→∃ a,A=some a∧w.cell? (a.add j)=some u
  st:=by
    intro w w' hk h j u hu
    obtain ⟨a,ha,hc⟩:=h j u hu
    refine ⟨a,ha,?_⟩
    rw [← hc]
    exact World.cell?_of_block (hk _ ⟨(by intro e;subst e;simp at hu),a,ha,by rw [pA]⟩)
def ag (A:Option Addr)(k:Nat):Value:=.pointer (A.map (·.add k))
section
variable {w:World}{e:TypeId}{sz n c:Nat}{A:Option Addr}{xs:List Value}
theorem Own.len (h:(Own e sz A n c xs).p w):xs.length=n*sz:=h.1
theorem cR (h:(Own e sz A n c xs).p w)(hx:0<xs.length):∃ g cur,A=some ⟨g,0,none⟩∧w.heap[g]?=some (.cells cur e (0,0))∧n≤c∧c≤maxLen∧cur.size=c*sz∧cur.toList.take (n*sz)=xs:=by
 rcases h.2 with ⟨_,h2⟩|⟨g,cap,cur,hv,_,hh,h3,h4,h5,h6⟩
 ·have:=h.1;subst h2
  omega
 injection hv with h7 h8 h9
 subst h7 h9;exact ⟨g,cur,rfl,hh,h3,h4,h5,h6⟩
theorem Own.cell (h:(Own e sz A n c xs).p w){k:Nat}{v:Value}(hk:xs[k]?=some v):∃ g,A=some ⟨g,0,none⟩∧w.cell? ⟨g,k,none⟩=some v∧w.frozen? ⟨g,k,none⟩=false:=by
 have hlt:=(List.getElem?_eq_some_iff.1 hk).1;obtain ⟨g,cur,rfl,hh,_,_,_,h6⟩:=cR h oe;refine ⟨g,rfl,?_,frozen_of_row w g k cur e hh⟩;rw [cell_of_row w g k cur e (0,0) hh];rw [← h6,List.getElem?_take] at hk
 split at hk
 ·simpa using hk
 cases hk
theorem Own.cap (h:(Own e sz A n c xs).p w):n≤c∧c≤maxLen:=by
 rcases h.2 with ⟨hv,h2⟩|⟨g,cap,cur,hv,_,hh,h3,h4,h5,h6⟩
 ·injection hv with _ h3 h4
  subst h2 h4;exact ⟨Nat.zero_le _,Nat.zero_le _⟩
 injection hv with _ _ h9
 subst h9;exact ⟨h3,h4⟩
end
abbrev Env:=List (Nat×Value)
def look (s:Nat):Env→Option Value
  |[]=>none
  |(k,v)::Γ=>bif Nat.beq s k then some v else look s Γ
def ev (Γ:Env):Operand→Option Value
  | .tmp t=>look t Γ
  | .const v=>some v
  | .global g=>some (.pointer (some ⟨g,0,none⟩))
  | .func f=>some (.func (.func f) #[] #[])
def evs (Γ:Env):List Operand→Option (List Value)
  |[]=>some []
  |x::xs=>match ev Γ x,evs Γ xs with
    |some v,some vs=>some (v::vs)
    |_,_=>none
structure Fr (n:Nat)(ds:List Deferred)(a:Act)(Γ:Env):Prop where
  size:a.tmps.size=n
  dfs:a.defers=ds
  vals:∀ s v,look s Γ=some v→a.tmps[s]?=some v
section
variable {n:Nat}{ds:List Deferred}{a:Act}{Γ:Env}
theorem Fr.eval (h:Fr n ds a Γ){x:Operand}{v:Value}(hx:ev Γ x=some v):a.eval x=v:=by
 cases x with
 |tmp t=>
  have:=h.vals t v hx
  simp [Act.eval,this]
 |const u=>injection hx
 |global g=>injection hx
 |func f=>injection hx
theorem Fr.put (h:Fr n ds a Γ){d:Nat}(hd:d<n)(v:Value):Fr n ds (a.put (some d) v) ((d,v)::Γ):=by
 refine ⟨by simp [Act.put,h.size],h.dfs,?_⟩;intro s u hs
 simp only [look] at hs
 cases hb:Nat.beq s d with
 |true=>
  rw [hb] at hs;obtain rfl:=Nat.eq_of_beq_eq_true hb
  simp only [cond_true,Option.some.injEq] at hs;subst hs
  simp [Act.put,h.size,hd]
 |false=>
  rw [hb] at hs;have hne:d≠s:=fun e=>by subst e;simp at hb
  simp only [cond_false] at hs;have:=h.vals s u hs
  simp only [Act.put];rw [Array.getElem?_setIfInBounds_ne hne]
  exact this
theorem Fr.put_none (h:Fr n ds a Γ)(v:Value):Fr n ds (a.put none v) Γ:=h
def tt (Γ:Env):Env→Prop
  |[]=>True
  |(s,v)::Γ'=>look s Γ=some v∧tt Γ Γ'
theorem tt.look {Γ:Env}:∀ {Γ':Env},tt Γ Γ'→∀ s v,look s Γ'=some v→look s Γ=some v
  |[],_,s,v,h=>by cases h
  |(k,u)::Γ',hl,s,v,h=>by
    simp only [Sl.look] at h
    cases hb:Nat.beq s k with
    |true=>
      rw [hb] at h
      obtain rfl:=Nat.eq_of_beq_eq_true hb
      simp only [cond_true,Option.some.injEq] at h
      subst h
      exact hl.1
    |false=>
      rw [hb] at h
      exact tt.look hl.2 s v h
theorem Fr.le (h:Fr n ds a Γ){Γ':Env}(hl:tt Γ Γ'):Fr n ds a Γ':=⟨h.size,h.dfs,fun s v hs=>h.vals s v (hl.look s v hs)⟩
end
structure Ti where
  desc:TypeDesc
  size:Nat
  bytes:Nat
  zero:Value
def au (t:Nat):List (Nat×Ti)→Option Ti
  |[]=>none
  |(k,i)::l=>bif Nat.beq t k then some i else au t l
structure TiOk (P:Program)(t:Nat)(i:Ti):Prop where
  und:P.underlying t=some i.desc
  inf:∃ j,P.info? t=some j∧j.size=i.size∧j.bytes=i.bytes∧j.zero=some i.zero
structure Cx where
  P:Program
  tab:List (Nat×Ti)
  ok:∀ t i,au t tab=some i→TiOk P t i
  mixed:P.follows .mixedOrders=true
theorem aa {P:Program}{t:Nat}{i:Ti}{l:List (Nat×Ti)}(h:TiOk P t i)(hl:∀ t i,au t l=some i→TiOk P t i):∀ u j,au u ((t,i)::l)=some j→TiOk P u j:=by
 intro u j hu
 simp only [au] at hu
 cases hb:Nat.beq u t with
 |true=>
  rw [hb] at hu;obtain rfl:=Nat.eq_of_beq_eq_true hb
  simp only [cond_true,Option.some.injEq] at hu;subst hu
  exact h
 |false=>
  rw [hb] at hu
  exact hl u j hu
theorem xu {P:Program}:∀ t i,au t []=some i→TiOk P t i:=by intro t i h;cases h
def QE (β:Base)(n:Nat)(ds:List Deferred)(Q:Exit→Act→World→Prop)(e:Exit)(Γ:Env)(R H:List Pr):Prop:=
  ∀ a w,Fr n ds a Γ→Sat β w R H→Q e a w
def C (X:Cx)(β:Base)(n:Nat)(ds:List Deferred)(Q:Exit→Act→World→Prop)(c:Code)(Γ:Env)(R H:List Pr):Prop:=
  ∀ a w,Fr n ds a Γ→Sat β w R H→c.wp X.P Q a w
def L (X:Cx)(β:Base)(n:Nat)(ds:List Deferred)(ops:Array Oper)(Q:Exit→Act→World→Prop)(rest:List Oper)(Γ:Env)(R H:List Pr):Prop:=
  ∀ a w,Fr n ds a Γ→Sat β w R H→wpList X.P ops Q rest a w
def Ev (X:Cx)(β:Base)(Γ:Env)(R H:List Pr)(op:Op)(v:Value):Prop:=
  ∀ (ρ:Operand→Value) (w:World),(∀ x u,ev Γ x=some u→ρ x=u)→Sat β w R H→∀ o:Oper,o.op=op→(execOp ρ o).run X.P w=.ok (.value v) w
section
variable {X:Cx}{β:Base}{n:Nat}{ds:List Deferred}{ops:Array Oper}{Q:Exit→Act→World→Prop}{rest:List Oper}{Γ:Env}{R H:List Pr}
theorem Fr.agree {a:Act}(h:Fr n ds a Γ):∀ x u,ev Γ x=some u→a.eval x=u:=fun _ _ hx=>h.eval hx
theorem L.nil (h:QE β n ds Q .normal Γ R H):L X β n ds ops Q [] Γ R H:=fun a w hf hs=>h a w hf hs
theorem L.step {op:Op}{v:Value}{d ty:Nat}{pos:String}{af:Array Edge}(h:Ev X β Γ R H op v)(hd:Nat.blt d n=true)(k:L X β n ds ops Q rest ((d,v)::Γ) R H):
    L X β n ds ops Q (⟨some d,op,ty,pos,af,none⟩::rest) Γ R H:=by
 intro a w hf hs;refine wpList_plain rfl fun K hK=>?_
 apply Y 0x62e;rw [h a.eval w hf.agree hs _ rfl]
 exact hK _ _ (k _ _ (hf.put oP v) hs)
end
def bop (op:BinOp)(k:IntKind)(a b:Int):Int:=
  match op with
  | .and=>k.wrap (BitVec.ofInt k.bits a&&&BitVec.ofInt k.bits b).toNat
  | .or=>k.wrap (BitVec.ofInt k.bits a|||BitVec.ofInt k.bits b).toNat
  | .xor=>k.wrap (BitVec.ofInt k.bits a^^^BitVec.ofInt k.bits b).toNat
  |_=>k.wrap (BitVec.ofInt k.bits a&&& ~~~(BitVec.ofInt k.bits b)).toNat
def Jd (op:BinOp)(k:IntKind)(a b:Int):Option Value:=
  match op with
  | .add=>some (.int k (k.wrap (a+b)))
  | .sub=>some (.int k (k.wrap (a-b)))
  | .mul=>some (.int k (k.wrap (a*b)))
  | .and=>some (.int k (bop .and k a b))
  | .or=>some (.int k (bop .or k a b))
  | .xor=>some (.int k (bop .xor k a b))
  | .andNot=>some (.int k (bop .andNot k a b))
  | .eql=>some (.bool (a==b))
  | .neq=>some (.bool (a !=b))
  | .lss=>some (.bool (decide (a<b)))
  | .leq=>some (.bool (decide (a≤b)))
  | .gtr=>some (.bool (decide (a>b)))
  | .geq=>some (.bool (decide (a≥b)))
  |_=>none
def ui:TypeDesc→Bool
  | .interface _=>true
  |_=>false
def ye:TypeDesc→Bool
  | .struct _=>true
  | .array _ _=>true
  |_=>false
def RJ (T:List (Nat×Ti))(Γ:Env):List Operand→List TypeId→Option Value
  |[x],[t]=>match au t T,ev Γ x with
    |some i,some (.slice _ n _)=>match i.desc with| .slice _=>some (.int .i64 n)|_=>none
    |some i,some (.string s)=>match i.desc with| .string=>some (.int .i64 s.size)|_=>none
    |some i,some (.agg _)=>match i.desc with| .array k _=>some (.int .i64 k)|_=>none
    |_,_=>none
  |_,_=>none
def My (_T:List (Nat×Ti))(Γ:Env)(mx:Bool):List Operand→Option Value
  |[x,y]=>match ev Γ x,ev Γ y with
    |some (.int k a),some (.int _ b)=>some (.int k (if mx then (if a<b then b else a) else (if b<a then b else a)))
    |_,_=>none
  |_=>none
def sP (T:List (Nat×Ti))(cs:List Value)(f:Field):Option Value:=
  match au f.type T with
  |some i=>if ye i.desc then some (.agg (List.toArray ((cs.drop f.offset).take i.size))) else cs[f.offset]?
  |none=>none
def pev (T:List (Nat×Ti))(Γ:Env):Op→Option Value
  | .move x=>ev Γ x
  | .assign x=>ev Γ x
  | .pick c a b=>match ev Γ c with
    |some (.bool true)=>ev Γ a
    |some (.bool false)=>ev Γ b
    |_=>none
  | .binOp op _ x y _=>match ev Γ x,ev Γ y with
    |some (.int k a),some (.int k' b)=>if k=k' then Jd op k a b else none
    |_,_=>none
  | .unOp op _ x=>match op,ev Γ x with
    | .not,some (.bool b)=>some (.bool (!b))
    | .neg,some (.int k m)=>some (.int k (k.wrap (0-m)))
    |_,_=>none
  | .convert s d x=>match au s T,au d T,ev Γ x with
    |some _,some i,some (.int _ m)=>match i.desc with| .int k=>some (.int k (k.wrap m))|_=>none
    |_,_,_=>none
  | .extract t i=>match ev Γ t with
    |some (.tuple vs)=>vs[i]?
    |_=>none
  | .makeFunc fn first cap=>match evs Γ first.toList,evs Γ cap.toList with
    |some f,some c=>some (.func fn (List.toArray f) (List.toArray c))
    |_,_=>none
  | .makeInterface t x=>match au t T,ev Γ x with
    |some i,some v=>if ui i.desc then none else some (.iface t v)
    |_,_=>none
  | .field t x f=>match au t T,ev Γ x with
    |some i,some (.agg cs)=>match i.desc with
      | .struct fs=>match fs[f]? with
        |some fd=>sP T cs.toList fd
        |none=>none
      |_=>none
    |_,_=>none
  | .call c=>match c.callee with
    | .builtin .len=>RJ T Γ c.args.toList c.argTypes.toList
    | .builtin .min=>My T Γ false c.args.toList
    | .builtin .max=>My T Γ true c.args.toList
    |_=>none
  |_=>none
section
variable {X:Cx}{β:Base}{Γ:Env}{R H:List Pr}
theorem fU {ρ:Operand→Value}(h:∀ x u,ev Γ x=some u→ρ x=u):∀ {xs:List Operand} {vs:List Value},evs Γ xs=some vs→xs.map ρ=vs
  |[],vs,e=>by injection e
  |x::xs,vs,e=>by
    simp only [evs] at e
    split at e
    · rename_i v us h1 h2
      injection e with e
      subst e
      rw [List.map_cons,h _ _ h1,fU h h2]
    · cases e
theorem nq {P:Program}(w:World){t:TypeId}{i:Ti}(hi:TiOk P t i)(cs:Array Value)(off:Nat)(v:Value)
    (h:(if ye i.desc then some (Value.agg (List.toArray ((cs.toList.drop off).take i.size))) else cs.toList[off]?)=some v):(part t cs off).run P w=.ok v w:=by
 obtain ⟨hu,j,hj,h1,h2,h3⟩:=hi;have hA:(isAgg t).run P w=.ok (ye i.desc) w:=by
  unfold isAgg;rw [Sem.run_bind,run_underlying hu w]
  cases i.desc<;>rfl
 by_cases ha:ye i.desc=true
 ·rw [if_pos ha] at h
  injection h with h
  subst h
  simp only [part,Sem.run_bind,hA,ha,Result.andThen_ok,if_true]
  simp only [sizeOf,typeInfo,Sem.run_bind,run_program,hj,Result.andThen_ok,Sem.run_pure,h1]
  congr 2
  apply Array.ext'
  simp
 rw [if_neg ha] at h;have ha':ye i.desc=false:=by simpa using ha
 have h':cs[off]?=some v:=qi
 simp [part,hA,ha',h']
theorem Eg {P:Program}{w:World}{op:BinOp}{k:IntKind}{a b:Int}{v:Value}(h:Jd op k a b=some v)(t:TypeId):(binOp op t (.int k a) (.int k b)).run P w=.ok v w:=by
 cases op<;>simp only [Jd,Option.some.injEq] at h<;>first
  |(cases h;done)
  |(subst h;simp [binOp,Op.intArith,Op.intCmp];done)
  |(subst h;simp [binOp,Op.intBits,bop];done)
theorem Ev.pure {op:Op}{v:Value}(h:pev X.tab Γ op=some v):Ev X β Γ R H op v:=by
 intro ρ w hρ hs o ho
 cases op with
 |move x=>simp only [pev] at h;simp [execOp,ho,hρ _ _ h]
 |assign x=>simp only [pev] at h;simp [execOp,ho,hρ _ _ h]
 |pick c a b=>
  simp only [pev] at h
  split at h
  ·rename_i h1
   simp [execOp,ho,hρ _ _ h1,hρ _ _ h,asBool]
  ·rename_i h1
   simp [execOp,ho,hρ _ _ h1,hρ _ _ h,asBool]
  cases h
 |binOp bo xt x y yt=>
  simp only [pev] at h
  split at h
  ·rename_i k a k' b h1 h2
   split at h
   ·rename_i hk;subst hk;have hg:(eqGuard bo xt x y (.int k a) (.int k b)).run X.P w=.ok () w:=by
     unfold eqGuard
     split<;>rfl
    simp [execOp,ho,hρ _ _ h1,hρ _ _ h2,hg,Eg h xt]
   cases h
  cases h
 |unOp uo t x=>
  simp only [pev] at h
  split at h
  ·rename_i b h1;injection h with h;subst h;simp [execOp,ho,hρ _ _ h1,Op.unary]
  ·rename_i k m h1;injection h with h;subst h;simp [execOp,ho,hρ _ _ h1,Op.unary,Op.intArith]
  cases h
 |convert s d x=>
  simp only [pev] at h
  split at h
  ·rename_i i0 i kk m h1 h2 h3
   split at h
   ·rename_i k hk
    injection h with h
    subst h;apply Y 0x2ee;intro e1;have e2:=(X.ok _ _ h2).und;rw [hk] at e2
    simp only [execOp,ho,hρ _ _ h3,convert]
    simp [run_underlying e1,run_underlying e2,Conv.intToInt]
   cases h
  cases h
 |extract t i=>
  simp only [pev] at h
  split at h
  ·rename_i vs h1
   simp [execOp,ho,hρ _ _ h1,Instr.extract,h]
  cases h
 |makeFunc fn first cap=>
  simp only [pev] at h
  split at h
  ·rename_i f c h1 h2
   injection h with h
   subst h;have e1:=fU hρ h1;have e2:=fU hρ h2;have e1':first.map ρ=List.toArray f:=Qj
   have e2':cap.map ρ=List.toArray c:=by apply Array.ext';simpa using e2
   simp [execOp,ho,Instr.makeFunc,e1',e2']
  cases h
 |makeInterface t x=>
  simp only [pev] at h
  split at h
  ·rename_i i u h1 h2
   split at h
   ·cases h
   rename_i hi
   injection h with h
   subst h;apply Y 0x2ee;intro e1
   simp only [execOp,ho,hρ _ _ h2,Instr.makeInterface];rw [Sem.run_bind,Sem.run_bind,run_underlying e1]
   cases hd:i.desc<;>simp [hd,ui] at hi ⊢
  cases h
 |field t x f=>
  simp only [pev] at h
  split at h
  ·rename_i i cs h1 h2
   split at h
   ·rename_i fs hd
    split at h
    ·rename_i fd hfd;apply Y 0x2ee;intro e1;rw [hd] at e1
     unfold sP at h
     split at h
     ·rename_i fi hfi;have hp:=nq (P:=X.P) w (X.ok _ _ hfi) cs fd.offset v h
      simp [execOp,ho,hρ _ _ h2,Instr.field,run_underlying e1,hfd,asAgg,hp]
     cases h
    cases h
   cases h
  cases h
 |call c=>
  obtain ⟨cal,args,tys⟩:=c
  simp only [pev] at h
  split at h
  ·unfold RJ at h
   split at h
   ·rename_i x t hx ht;obtain ⟨args⟩:=args;obtain ⟨tys⟩:=tys
    simp only at hx ht;subst hx ht
    split at h
    ·rename_i i a k cc h1 h2
     split at h
     ·rename_i hd
      injection h with h
      subst h;apply Y 0x2ee;intro e1;rw [hd] at e1;exact Zm 0x8b0f
     cases h
    ·rename_i i s h1 h2
     split at h
     ·rename_i hd
      injection h with h
      subst h;apply Y 0x2ee;intro e1;rw [hd] at e1;exact Zm 0x8b0f
     cases h
    ·rename_i i cs h1 h2
     split at h
     ·rename_i hd
      injection h with h
      subst h;apply Y 0x2ee;intro e1;rw [hd] at e1;exact Zm 0x8b0f
     cases h
    cases h
   cases h
  ·unfold My at h
   split at h
   ·rename_i x y hx;obtain ⟨args⟩:=args
    simp only at hx;subst hx
    split at h
    ·rename_i k a k' b h1 h2
     injection h with h
     subst h
     simp [execOp,ho,resolve,invoke,builtin,hρ _ _ h1,hρ _ _ h2,Builtin.min_,Builtin.min2]
    cases h
   cases h
  ·unfold My at h
   split at h
   ·rename_i x y hx;obtain ⟨args⟩:=args
    simp only at hx;subst hx
    split at h
    ·rename_i k a k' b h1 h2
     injection h with h
     subst h
     simp [execOp,ho,resolve,invoke,builtin,hρ _ _ h1,hρ _ _ h2,Builtin.max_,Builtin.max2]
    cases h
   cases h
  cases h
 |_=>simp [pev] at h
end
section
variable {X:Cx}{β:Base}{Γ:Env}{R H:List Pr}
theorem j9 {a:Int}(h0: -9223372036854775808≤a)(h1:a≤9223372036854775807):IntKind.i64.wrap a=a:=oac
theorem Ev.cast {op:Op}{v u:Value}(h:Ev X β Γ R H op v)(e:v=u):Ev X β Γ R H op u:=e▸h
theorem Ev.add {t ty:Nat}{x y:Operand}{a b:Int}(hx:ev Γ x=some (.int .i64 a))(hy:ev Γ y=some (.int .i64 b))(h0: -9223372036854775808≤a+b)(h1:a+b≤9223372036854775807):
    Ev X β Γ R H (.binOp .add t x y ty) (.int .i64 (a+b)):=
  (Ev.pure (v:=.int .i64 (IntKind.i64.wrap (a+b))) qA).cast obd
theorem Ev.sub {t ty:Nat}{x y:Operand}{a b:Int}(hx:ev Γ x=some (.int .i64 a))(hy:ev Γ y=some (.int .i64 b))(h0: -9223372036854775808≤a-b)(h1:a-b≤9223372036854775807):
    Ev X β Γ R H (.binOp .sub t x y ty) (.int .i64 (a-b)):=
  (Ev.pure (v:=.int .i64 (IntKind.i64.wrap (a-b))) qA).cast obd
theorem Ev.mul {t ty:Nat}{x y:Operand}{a b:Int}(hx:ev Γ x=some (.int .i64 a))(hy:ev Γ y=some (.int .i64 b))(h0: -9223372036854775808≤a*b)(h1:a*b≤9223372036854775807):
    Ev X β Γ R H (.binOp .mul t x y ty) (.int .i64 (a*b)):=
  (Ev.pure (v:=.int .i64 (IntKind.i64.wrap (a*b))) qA).cast obd
theorem ky {P:Program}{w:World}(op:BinOp)(t:TypeId)(x y:Operand)(j k:IntKind)(a b:Int):(eqGuard op t x y (.int j a) (.int k b)).run P w=.ok () w:=by
 unfold eqGuard
 split<;>rfl
theorem Ev.rem {t ty:Nat}{x y:Operand}{k:IntKind}{a b:Int}(hx:ev Γ x=some (.int k a))(hy:ev Γ y=some (.int k b))(h0:0≤a)(h1:0<b):
    Ev X β Γ R H (.binOp .rem t x y ty) (.int k (a%b)):=by
 intro ρ w hρ hs o ho;have hb:¬ b=0:=oe
 simp [execOp,ho,hρ _ _ hx,hρ _ _ hy,ky,binOp,Op.intDiv,hb,Int.tmod_eq_emod_of_nonneg h0]
theorem Ev.quo {t ty:Nat}{x y:Operand}{a b:Int}(hx:ev Γ x=some (.int .i64 a))(hy:ev Γ y=some (.int .i64 b))(h0:0≤a)(h1:0<b)(h2:a≤9223372036854775807):
    Ev X β Γ R H (.binOp .quo t x y ty) (.int .i64 (a/b)):=by
 intro ρ w hρ hs o ho;have hb:¬ b=0:=oe;have h3:0≤a/b:=Int.ediv_nonneg h0 oe;have h4:a/b≤a:=Int.ediv_le_self _ h0
 simp [execOp,ho,hρ _ _ hx,hρ _ _ hy,ky,binOp,Op.intDiv,hb,Int.tdiv_eq_ediv_of_nonneg h0,j9 (a:=a/b) oe oe]
theorem pF {s d:Nat}{x:Operand}{k:IntKind}{m:Int}{i j:Ti}(hs:au s X.tab=some i)(hd:au d X.tab=some j)(hj:j.desc=.int .i64)(hx:ev Γ x=some (.int k m))
    (h0: -9223372036854775808≤m) (h1:m≤9223372036854775807):Ev X β Γ R H (.convert s d x) (.int .i64 m):=
  (Ev.pure (v:=.int .i64 (IntKind.i64.wrap m)) oaj).cast obd
def Src (R H:List Pr)(A:Option Addr)(xs:List Value):Prop:=∀ β w,Sat β w R H→∀ (j:Nat) u,xs[j]?=some u→∃ a,A=some a∧w.cell? (a.add j)=some u
theorem Src.r (j:Nat){A:Option Addr}{xs:List Value}(h:R[j]?=some (Rd A xs)):Src R H A xs:=fun _ _ hs=>hs.rd _ (List.mem_of_getElem? h)
theorem Src.o (j:Nat){e:TypeId}{sz:Nat}{A:Option Addr}{n c:Nat}{xs:List Value}(h:H[j]?=some (Own e sz A n c xs)):Src R H A xs:=by
 intro β w hs k u hu;obtain ⟨g,hA,hc,_⟩:=Own.cell (hs.own j _ h) hu;exact Zm 0x9e0f
theorem Src.take {A:Option Addr}{xs:List Value}(h:Src R H A xs)(m:Nat):Src R H A (xs.take m):=fun β w hs j u hu=>h β w hs j u (by
  rw [List.getElem?_take] at hu
  split at hu
  · exact hu
  · cases hu)
theorem Src.cast {A:Option Addr}{xs ys:List Value}(h:Src R H A xs)(e:xs=ys):Src R H A ys:=e▸h
def bF (A:Option Addr)(c l sz:Nat):Option Addr:=if c=l then A else A.map (·.add (l*sz))
theorem Src.sub {A:Option Addr}{xs:List Value}(h:Src R H A xs)(c l sz:Nat)(hl:xs.length≤c*sz):Src R H (bF A c l sz) (xs.drop (l*sz)):=by
 intro β w hs j u hu;rw [List.getElem?_drop] at hu;have hlt:=(List.getElem?_eq_some_iff.1 hu).1;obtain ⟨a,hA,hc⟩:=h β w hs _ u hu
 unfold bF;rw [if_neg (by rintro rfl;omega)];exact ⟨a.add (l*sz),by rw [hA];rfl,by rw [lN];exact hc⟩
theorem zA {P:Program}(w:World){t:TypeId}{i:Ti}(hi:TiOk P t i):(isAgg t).run P w=.ok (ye i.desc) w:=by
 unfold isAgg;rw [Sem.run_bind,run_underlying hi.und w]
 cases i.desc<;>rfl
theorem eI {P:Program}(w:World){t:TypeId}{i:Ti}(hi:TiOk P t i):(sizeOf t).run P w=.ok i.size w:=by
 obtain ⟨_,j,hj,h1,_⟩:=hi
 simp [sizeOf,typeInfo,hj,h1]
theorem Ev.load {t k:Nat}{x:Operand}{i:Ti}{A:Option Addr}{xs:List Value}{v:Value}(ht:au t X.tab=some i)(ha:ye i.desc=false)(hx:ev Γ x=some (ag A k))(hs:Src R H A xs)
    (hv:xs[k]?=some v):Ev X β Γ R H (.load t x) v:=by
 intro ρ w hρ hw o ho;obtain ⟨a,rfl,hc⟩:=hs β w hw k v hv;have hx':ρ x=.pointer (some (a.add k)):=hρ _ _ hx;apply Y 0xad0f;intro hA;rw [ha] at hA
 simp [execOp,ho,hx',Instr.loadAt,Instr.sureAddr,loadVar,hA,hc]
theorem ab {t k:Nat}{x:Operand}{i:Ti}{A:Option Addr}{xs vs:List Value}(ht:au t X.tab=some i)(ha:ye i.desc=true)(hx:ev Γ x=some (ag A k))(hs:Src R H A xs)
    (hv:(xs.drop k).take i.size=vs) (hl:vs.length=i.size) (h0:0<i.size):Ev X β Γ R H (.load t x) (.agg (List.toArray vs)):=by
 intro ρ w hρ hw o ho;have hget:∀ (j:Nat) u,vs[j]?=some u→xs[k+j]?=some u:=by
  intro j u hu;rw [← hv,List.getElem?_take] at hu
  split at hu
  ·rw [List.getElem?_drop] at hu
   exact hu
  cases hu
 apply Y 0x5c1f;intro u0 hu0;obtain ⟨a,rfl,_⟩:=hs β w hw _ _ (hget 0 u0 hu0);have hx':ρ x=.pointer (some (a.add k)):=hρ _ _ hx;apply Y 0xad0f;intro hA;apply Y 0x4ee;intro hS;rw [ha] at hA;have hlc:=run_loadCells_list (P:=X.P) w (a.add k) vs (fun j u hu=>by
  obtain ⟨b,hb,hc⟩:=hs β w hw _ _ (hget j u hu)
  injection hb with hb
  subst hb;rw [lN]
  exact hc)
 rw [hl] at hlc
 simp [execOp,ho,hx',Instr.loadAt,Instr.sureAddr,loadVar,hA,hS,hlc]
theorem Ev.fieldAddr {t f k m:Nat}{x:Operand}{i fi:Ti}{fs:Array Field}{fd:Field}{A:Option Addr}{xs:List Value}(ht:au t X.tab=some i)(hd:i.desc=.struct fs)(hf:fs[f]?=some fd)
    (hft:au fd.type X.tab=some fi) (hfs:Nat.blt 0 fi.size=true) (hx:ev Γ x=some (ag A k)) (hs:Src R H A xs) (h0:0<xs.length) (hm:k+fd.offset=m):Ev X β Γ R H (.fieldAddr t x f) (ag A m):=by
 intro ρ w hρ hw o ho;apply Y 0x360f;intro u0 hu0;obtain ⟨a,rfl,_⟩:=hs β w hw _ _ hu0;have hx':ρ x=.pointer (some (a.add k)):=hρ _ _ hx;apply Y 0x35e;intro e1;rw [hd] at e1;have hS:=eI (P:=X.P) w (X.ok _ _ hft);have hz:¬ fi.size=0:=by rw [Nat.blt_eq] at hfs;omega
 subst hm
 simp [execOp,ho,hx',Instr.fieldAt,Instr.sureAddr,run_underlying e1,hf,fieldPlace,hS,hz,lN,ag]
theorem Ev.nilCheck {k:Nat}{x:Operand}{A:Option Addr}{xs:List Value}(hx:ev Γ x=some (ag A k))(hs:Src R H A xs)(h0:0<xs.length):Ev X β Γ R H (.nilCheck x) (ag A k):=by
 intro ρ w hρ hw o ho;apply Y 0x360f;intro u0 hu0;obtain ⟨a,rfl,_⟩:=hs β w hw _ _ hu0;have hx':ρ x=.pointer (some (a.add k)):=hρ _ _ hx
 simp [execOp,ho,hx',ag]
theorem cT {t e k m n c:Nat}{x y:Operand}{kd:IntKind}{q:Int}{i ei:Ti}{A:Option Addr}{xs:List Value}(ht:au t X.tab=some i)(hd:i.desc=.slice e)(he:au e X.tab=some ei)
    (hx:ev Γ x=some (.slice A n c)) (hy:ev Γ y=some (.int kd q)) (hq:q=(k:Int)) (hk:k<n) (hs:Src R H A xs) (h0:0<xs.length) (hm:k*ei.size=m):Ev X β Γ R H (.indexAddr t x y) (ag A m):=by
 intro ρ w hρ hw o ho;apply Y 0x360f;intro u0 hu0;obtain ⟨a,rfl,_⟩:=hs β w hw _ _ hu0;apply Y 0x35e;intro e1;rw [hd] at e1;apply Y 0xb6e;intro hS;subst hq hm;have hb:(0:Int)≤k∧(k:Int)<n:=oe
 simp [execOp,ho,hρ _ _ hx,hρ _ _ hy,Instr.indexAt,asIntOf,run_underlying e1,hS,ag,hk]
theorem ae {t e k n c:Nat}{x y:Operand}{kd:IntKind}{q:Int}{i ei:Ti}{A:Option Addr}{xs:List Value}(ht:au t X.tab=some i)(hd:i.desc=.slice e)(he:au e X.tab=some ei)(hz:ei.size=1)
    (hx:ev Γ x=some (.slice A n c)) (hy:ev Γ y=some (.int kd q)) (hq:q=(k:Int)) (hk:k<n) (hs:Src R H A xs) (h0:0<xs.length):Ev X β Γ R H (.indexAddr t x y) (ag A k):=
  cT ht hd he hx hy hq hk hs h0 (by rw [hz,Nat.mul_one])
theorem aV {t e k m n b:Nat}{x y:Operand}{kd:IntKind}{q:Int}{i ei:Ti}{A:Option Addr}{xs:List Value}(ht:au t X.tab=some i)(hd:i.desc=.array n e)(he:au e X.tab=some ei)
    (hx:ev Γ x=some (ag A b)) (hy:ev Γ y=some (.int kd q)) (hq:q=(k:Int)) (hk:k<n) (hs:Src R H A xs) (h0:0<xs.length) (hm:b+k*ei.size=m):Ev X β Γ R H (.indexAddr t x y) (ag A m):=by
 intro ρ w hρ hw o ho;apply Y 0x360f;intro u0 hu0;obtain ⟨a,rfl,_⟩:=hs β w hw _ _ hu0;have hx':ρ x=.pointer (some (a.add b)):=hρ _ _ hx;apply Y 0x35e;intro e1;rw [hd] at e1;apply Y 0xb6e;intro hS;subst hq hm
 simp [execOp,ho,hx',hρ _ _ hy,Instr.indexAt,asIntOf,Instr.sureAddr,run_underlying e1,hS,ag,hk,lN]
theorem br {t e n c h:Nat}{x y:Operand}{kd:IntKind}{q:Int}{i ei:Ti}{A:Option Addr}(ht:au t X.tab=some i)(hd:i.desc=.slice e)(he:au e X.tab=some ei)(hx:ev Γ x=some (.slice A n c))
    (hy:ev Γ y=some (.int kd q)) (hq:q=(h:Int)) (hh:h≤c):Ev X β Γ R H (.slice t x none (some y) none) (.slice A h c):=by
 intro ρ w hρ hw o ho;apply Y 0x35e;intro e1;rw [hd] at e1;apply Y 0xb6e;intro hS;subst hq;have hA:A.map (fun a=>a.add (0*ei.size))=A:=oaV;have hA':A.map (fun a=>a.add 0)=A:=oaV
 simp [execOp,ho,hρ _ _ hx,hρ _ _ hy,Instr.sliceAt,Instr.slice,Instr.sliceBounds,Instr.sliceBound,asIntOf,run_underlying e1,hS,hh,hA']
theorem bx {t e n c l:Nat}{x y:Operand}{kd:IntKind}{q:Int}{i ei:Ti}{A:Option Addr}(ht:au t X.tab=some i)(hd:i.desc=.slice e)(he:au e X.tab=some ei)(hx:ev Γ x=some (.slice A n c))
    (hy:ev Γ y=some (.int kd q)) (hq:q=(l:Int)) (hl:l≤n):Ev X β Γ R H (.slice t x (some y) none none) (.slice (bF A c l ei.size) (n-l) (c-l)):=by
 intro ρ w hρ hw o ho;apply Y 0x35e;intro e1;rw [hd] at e1;apply Y 0xb6e;intro hS;subst hq
 simp [execOp,ho,hρ _ _ hx,hρ _ _ hy,Instr.sliceAt,Instr.slice,Instr.sliceBounds,Instr.sliceBound,asIntOf,run_underlying e1,hS,hl,bF]
theorem dB {t e n c l h:Nat}{x y z:Operand}{kd kd':IntKind}{q q':Int}{i ei:Ti}{A:Option Addr}(ht:au t X.tab=some i)(hd:i.desc=.slice e)(he:au e X.tab=some ei)(hx:ev Γ x=some (.slice A n c))
    (hy:ev Γ y=some (.int kd q)) (hz:ev Γ z=some (.int kd' q')) (hq:q=(l:Int)) (hq':q'=(h:Int)) (hl:l≤h) (hh:h≤c):Ev X β Γ R H (.slice t x (some y) (some z) none) (.slice (bF A c l ei.size) (h-l) (c-l)):=by
 intro ρ w hρ hw o ho;apply Y 0x35e;intro e1;rw [hd] at e1;apply Y 0xb6e;intro hS;subst hq hq'
 simp [execOp,ho,hρ _ _ hx,hρ _ _ hy,hρ _ _ hz,Instr.sliceAt,Instr.slice,Instr.sliceBounds,Instr.sliceBound,asIntOf,run_underlying e1,hS,hl,hh,bF]
end
end Go.Sl
