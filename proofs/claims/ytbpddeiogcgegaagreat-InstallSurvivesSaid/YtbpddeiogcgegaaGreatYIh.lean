/-
  Part of a proof.
-/
import Derived.Test.YtbpddeiogcgegaaGreatYIc
set_option maxHeartbeats 0
set_option maxRecDepth 4000
set_option linter.all false
namespace Go.Sl
structure Upd where
  y:Lay
  k:Pkg
  old:List UInt8
  S:Nat
  N:Nat
  L:Int
  bad:Nat
  z0:List UInt8
  z1:List UInt8
def Upd.p (U:Upd):Pln:=U.k.pl
def Upd.new (U:Upd):List UInt8:=U.p.new U.old
def Upd.K (U:Upd):Nat:=U.p.seq.length
def Upd.H (U:Upd):Nat:=U.p.st.length
def Upd.V (U:Upd):Nat:=U.y.us.length
def Upd.O (U:Upd)(t:Nat):List UInt8:=ctF U.old t U.S
def Upd.W (U:Upd)(t:Nat):List UInt8:=ctF U.new t U.S
def Upd.q (U:Upd)(k:Nat):Nat:=(U.p.seq.getD k 0).toNat
def Upd.r (U:Upd)(k:Nat):List UInt8:=iQ (U.p.seq.getD k 0) (U.O (U.q k)) (U.W (U.q k))
def Upd.rl (U:Upd)(k:Nat):List UInt8:=((List.range k).map U.r).flatten
def Upd.e (U:Upd)(k:Nat):Nat:=(U.rl k).length
structure UpdOk (U:Upd):Prop where
  s1:38≤U.S
  s2:U.S≤4096
  n2:U.N≤64
  yn:1≤U.y.n∧U.y.n≤(U.N:Int)
  g1:1≤U.y.gs.length∧U.y.gs.length≤8
  rr:∀ x∈U.y.rest,U.y.n≤x∧x<(U.N:Int)
  nd:U.y.rest.Nodup
  ok:U.p.ok=true
  psz:U.p.sz=(U.S:Int)
  pn:U.p.n=U.y.n
  st:U.p.st.length≤U.y.ls.length
  inn:U.p.inn=(U.S:Int)*U.y.n
  out:U.p.out=(U.S:Int)*U.y.n
  ol:(U.old.length:Int)=U.p.inn
  nde:ndT U.old U.new U.S U.p.seq≤65535
  us:U.y.us.length=ndU (ndT U.old U.new U.S U.p.seq) U.S
  ver:U.k.ver=5
  bd:(U.bad:Int)=U.y.gs.getD 0 0∨U.N≤U.bad
theorem eA {α:Type}{l m:List α}{i:Nat}(h:l.length≤i)(d:α):(l++m).getD i d=m.getD (i-l.length) d:=by simp [List.getD_eq_getElem?_getD,List.getElem?_append_right h]
section
variable {U:Upd}
theorem UpdOk.fit (u:UpdOk U){f:Fl}(hf:f.size=U.S):PlnFit f U.y U.p:=⟨u.ok,by rw [hf];exact u.psz,u.pn,u.st⟩
def flS (S:Nat):Fl:=⟨S,[],[],0,[]⟩
theorem UpdOk.fit0 (u:UpdOk U):PlnFit (flS U.S) U.y U.p:=u.fit rfl
theorem UpdOk.tz (u:UpdOk U):U.p.sz.toNat=U.S:=by have:=u.psz;omega
theorem UpdOk.n1 (u:UpdOk U):U.y.n.toNat≤U.N∧1≤U.y.n.toNat∧((U.y.n.toNat:Nat):Int)=U.y.n:=by have:=u.yn;omega
theorem UpdOk.pn' (u:UpdOk U):U.p.n.toNat=U.y.n.toNat:=by rw [u.pn]
theorem UpdOk.at_ (u:UpdOk U){k:Nat}(hk:k<U.K):U.p.seq.getD k 0=(U.q k:Int)∧U.q k<U.y.n.toNat:=by
 obtain ⟨t,h1,h2,_⟩:=u.fit0.at_ hk;rw [u.pn'] at h2
 unfold Upd.q
 omega
theorem UpdOk.st_at (u:UpdOk U){i:Nat}(hi:i<U.H):0≤U.p.st.getD i 0∧U.p.st.getD i 0<U.y.n:=u.fit0.sts hi
theorem UpdOk.k64 (u:UpdOk U):U.K≤64:=by
 have h:=u.fit0.perm.length_eq;rw [bb] at h;have h2:=fX U.p.sy U.p.inn U.p.sz.toNat U.p.n.toNat;have:=u.n1;have:=u.pn';have:=u.n2
 unfold Upd.K
 omega
theorem CF (t:Nat):(U.O t).length=U.S:=bU _ _ _
theorem IT (t:Nat):(U.W t).length=U.S:=bU _ _ _
theorem UpdOk.rcd (u:UpdOk U){k:Nat}(hk:k<U.K):RecIs (U.q k) (U.O (U.q k)) (U.W (U.q k)) (U.r k):=by
 apply Y 0x810f;intro h;have:=u.n1;have:=u.n2;have:=u.s1;have:=u.s2;refine RecIs.of ?_ oe (by rw [CF,IT]) obw obw
 unfold Upd.r;rw [h.1]
theorem HU (s:List (Nat×Nat)):ndS s=4*s.length+tot s:=by
 induction s with
 |nil=>rfl
 |cons a s ih=>
  have h1:ndS (a::s)=4+(a.2-a.1)+ndS s:=by simp [ndS]
  have h2:tot (a::s)=(a.2-a.1)+tot s:=rfl;rw [h1,h2,ih,List.length_cons]
  omega
theorem UpdOk.rec_len (u:UpdOk U){k:Nat}(hk:k<U.K):(U.r k).length=ndR U.old U.new U.S (U.p.seq.getD k 0)∧5≤(U.r k).length:=by
 have h:=(u.rcd hk).len;refine ⟨?_,by omega⟩;rw [h,ndR,Hw,HU,m7]
 unfold Upd.O Upd.W Upd.q
 omega
theorem ns (k:Nat):U.rl (k+1)=U.rl k++U.r k:=by simp [Upd.rl,List.range_succ]
theorem Kx:U.e 0=0:=rfl
theorem gi (k:Nat):U.e (k+1)=U.e k+(U.r k).length:=by unfold Upd.e;rw [ns,List.length_append]
theorem lg {i k:Nat}(h:i≤k):U.e i≤U.e k:=by
 induction k with
 |zero=>rw [show i=0 by omega];exact Nat.le_refl _
 |succ k ih=>
  rw [gi]
  by_cases e:i=k+1
  ·subst e;rw [gi];exact Zm 0x83e
  have:=ih oe
  omega
theorem F2 {i k j:Nat}(h:i≤k)(hj:j<U.e i):(U.rl k).getD j 0=(U.rl i).getD j 0:=by
 induction k with
 |zero=>rw [show i=0 by omega]
 |succ k ih=>
  by_cases e:i=k+1
  ·rw [e]
  have h1:=lg (U:=U) (show i≤k by omega);rw [ns,fS (show j<(U.rl k).length from Nat.lt_of_lt_of_le hj h1),ih oe]
theorem tN {i k:Nat}(h:i<k):auB (U.rl k) (U.e i) (U.e (i+1))=U.r i:=by
 have h1:=lg (U:=U) (show i+1≤k by omega);have h2:=gi (U:=U) i;refine aF (d:=0) (by rw [uQ oe h1];omega) fun j hj=>?_
 rw [uQ oe h1] at hj;rw [pz hj,F2 (i:=i+1) oe oe,ns,eA (show (U.rl i).length≤U.e i+j from Nat.le_add_right _ _)]
 congr 1
 show U.e i+j-U.e i=j
 omega
theorem UpdOk.e_sum (u:UpdOk U):∀ k,k≤U.K→U.e k=ndT U.old U.new U.S (U.p.seq.take k)
  |0,_=>by rw [List.take_zero];rfl
  |k+1,hk=>by rw [gi,jS hk,u.e_sum k oe,(u.rec_len hk).1]
theorem UpdOk.e_all (u:UpdOk U):U.e U.K=ndT U.old U.new U.S U.p.seq:=by
 rw [u.e_sum U.K (Nat.le_refl _)]
 unfold Upd.K;rw [List.take_length]
theorem UpdOk.e_lt (u:UpdOk U){k:Nat}(hk:k≤U.K):U.e k≤65535:=by
 have:=lg (U:=U) hk;have:=u.e_all;have:=u.nde
 omega
theorem UpdOk.e_room (u:UpdOk U){k:Nat}(hk:k≤U.K):U.e k≤U.V*U.S:=by
 have h1:=lg (U:=U) hk;have h2:=u.us;have:=u.s1
 unfold ndU at h2;rw [← u.e_all] at h2;have h3:=Nat.div_add_mod (U.e U.K+U.S-1) U.S;have h4:=Nat.mod_lt (U.e U.K+U.S-1) (show 0<U.S by omega);rw [Nat.mul_comm] at h3;have:U.V=(U.e U.K+U.S-1)/U.S:=h2;rw [this]
 omega
theorem UpdOk.e_pos (u:UpdOk U){k:Nat}(h0:1≤k)(hk:k≤U.K):5≤U.e k:=by
 obtain ⟨i,rfl⟩:∃ i,k=i+1:=⟨k-1,by omega⟩;have:=(u.rec_len (show i<U.K by omega)).2;rw [gi]
 omega
def Upd.R (U:Upd)(i:Nat):Nat:=(U.y.rest.getD i 0).toNat
def Upd.RN (U:Upd):Nat:=4+U.y.gs.length+U.y.us.length+U.y.ls.length
theorem jM:U.y.rest.length=U.RN:=by
 unfold Lay.rest Upd.RN;exact Zm 0x561f
theorem UpdOk.r_in (u:UpdOk U){i:Nat}(hi:i<U.RN):U.y.n≤U.y.rest.getD i 0∧U.y.rest.getD i 0<(U.N:Int)∧((U.R i:Nat):Int)=U.y.rest.getD i 0∧U.y.n.toNat≤U.R i∧U.R i<U.N:=by
 have h:=u.rr (U.y.rest.getD i 0) (by
  rw [List.getD_eq_getElem?_getD,List.getElem?_eq_getElem (by rw [jM];exact hi)]
  exact List.getElem_mem _)
 have:=u.yn
 unfold Upd.R
 omega
theorem UpdOk.r_ne (u:UpdOk U){i j:Nat}(hi:i<U.RN)(hj:j<U.RN)(h:i≠j):U.R i≠U.R j:=by
 intro e;have h1:=(u.r_in hi).2.2.1;have h2:=(u.r_in hj).2.2.1;have h3:U.y.rest.getD i 0=U.y.rest.getD j 0:=oe
 rcases Nat.lt_or_gt_of_ne h with q|q
 ·exact cK u.nd i j q (by rw [jM];exact hj) h3
 exact cK u.nd j i q (by rw [jM];exact hi) h3.symm
theorem R_g {i:Nat}(hi:i<U.y.gs.length):U.y.gs.getD i 0=U.y.rest.getD (4+i) 0:=by
 unfold Lay.rest;rw [fS OO,fS OO,eA Ob]
 congr 1
 simp
theorem R_u {i:Nat}(hi:i<U.y.us.length):U.y.us.getD i 0=U.y.rest.getD (4+U.y.gs.length+i) 0:=by
 unfold Lay.rest;rw [fS OO,eA OO]
 congr 1
 simp
 omega
theorem R_l {i:Nat}(_hi:i<U.y.ls.length):U.y.ls.getD i 0=U.y.rest.getD (4+U.y.gs.length+U.y.us.length+i) 0:=by
 unfold Lay.rest;rw [eA OO]
 congr 1
 simp
 omega
inductive Pos where
  |pre (i:Nat)|sta (i:Nat)|w0 (k:Nat)|w1 (k:Nat)|w2 (k:Nat)|mig|b0 (k:Nat)|b1 (k:Nat)|idl
def Upd.s (U:Upd)(g:Nat):Pos→List Int
  | .pre i=>[1,(i:Int),0,0,0,0,(g:Int),5,4]
  | .sta i=>[2,(i:Int),0,0,0,0,(g:Int),5,4]
  | .w0 k=>[3,(k:Int),0,(U.e k:Int),0,0,(g:Int),5,4]
  | .w1 k=>[3,(k:Int),1,(U.e (k+1):Int),0,0,(g:Int),5,4]
  | .w2 k=>[3,(k:Int),2,(U.e (k+1):Int),0,0,(g:Int),5,4]
  | .mig=>[4,0,0,(U.e U.K:Int),0,0,(g:Int),5,4]
  | .b0 k=>[6,0,0,(U.e k:Int),0,1,(g:Int),5,4]
  | .b1 k=>[6,0,1,(U.e k:Int),0,1,(g:Int),5,4]
  | .idl=>[0,0,0,0,0,0,(g:Int),4,4]
def Upd.nx (U:Upd):Pos→Pos
  | .pre i=>if i<U.V then .pre (i+1) else .sta 0
  | .sta i=>if i<U.H then .sta (i+1) else .w0 0
  | .w0 k=>if k<U.K then .w1 k else .mig
  | .w1 k=>.w2 k
  | .w2 k=>.w0 (k+1)
  | .mig=>.mig
  | .b0 k=>if k=0 then .idl else .b1 k
  | .b1 k=>.b0 (k-1)
  | .idl=>.idl
def Upd.on (U:Upd):Pos→Prop
  | .pre i=>i≤U.V
  | .sta i=>i≤U.H
  | .w0 k=>k≤U.K
  | .w1 k=>k<U.K
  | .w2 k=>k<U.K
  | .mig=>True
  | .b0 k=>k≤U.K
  | .b1 k=>1≤k∧k≤U.K
  | .idl=>True
def Pos.last:Pos→Bool
  | .mig=>true
  | .idl=>true
  |_=>false
theorem UpdOk.v64 (u:UpdOk U):U.V≤64∧U.H≤64:=by
 have hl:=jM (U:=U);have hn:U.RN≤U.N:=by
  have hnd:((List.range U.RN).map U.R).Nodup:=by
   apply Y 0x551f
   exact List.Pairwise.imp_of_mem (fun ha hb h=>u.r_ne (List.mem_range.1 ha) (List.mem_range.1 hb) (Nat.ne_of_lt h)) List.pairwise_lt_range
  have hsub:((List.range U.RN).map U.R) ⊆ List.range U.N:=fun x hx=>by
   obtain ⟨i,hi,rfl⟩:=List.mem_map.1 hx
   exact List.mem_range.2 (u.r_in (List.mem_range.1 hi)).2.2.2.2
  have:=hnd.length_le_of_subset hsub
  simpa using this
 have:=u.n2;have:=u.st
 unfold Upd.RN at hn
 unfold Upd.V Upd.H
 omega
theorem JG {l:List Int}(h:∀ k,k<9→0≤l.getD k 0∧l.getD k 0<(256^wds.getD k 0:Nat)):aN l=true:=by
 unfold aN eK;apply Y 0xa00f;intro k hk
 unfold EP
 exact decide_eq_true (h k (List.mem_range.1 hk))
theorem xE {a b c d e f g h i:Int}(ha:0≤a∧a<256)(hb:0≤b∧b<65536)(hc:0≤c∧c<256)(hd:0≤d∧d<4294967296)(he:0≤e∧e<256)(hf:0≤f∧f<256)(hg:0≤g∧g<256)(hh:0≤h∧h<65536)(hi:0≤i∧i<65536):aN [a,b,c,d,e,f,g,h,i]=true:=by
 refine JG fun k hk=>?_
 match k,hk with
 |0,_=>exact ha
 |1,_=>exact hb
 |2,_=>exact hc
 |3,_=>exact hd
 |4,_=>exact he
 |5,_=>exact hf
 |6,_=>exact hg
 |7,_=>exact hh
 |8,_=>exact hi
theorem NN (g:Nat)(x:Pos):(U.s g x).length=9:=by cases x<;>rfl
theorem UpdOk.s_right (u:UpdOk U){g:Nat}(hg:g<256){x:Pos}(hx:U.on x):aN (U.s g x)=true:=by
 have:=u.v64;have:=u.k64
 cases x<;>unfold Upd.on at hx<;>unfold Upd.s
 ·exact Zm 0x8ae
 ·exact Zm 0x8ae
 ·have:=u.e_lt hx;exact Zm 0x8ae
 ·have:=u.e_lt (show _+1≤U.K from hx);exact Zm 0x8ae
 ·have:=u.e_lt (show _+1≤U.K from hx);exact Zm 0x8ae
 ·have:=u.e_lt (Nat.le_refl U.K);exact Zm 0x8ae
 ·have:=u.e_lt hx;exact Zm 0x8ae
 ·have:=u.e_lt hx.2;exact Zm 0x8ae
 exact Zm 0x8ae
theorem So (g h:Nat){x:Pos}(hl:x.last=false):U.s g x≠U.s h (U.nx x):=by
 have d0:∀ {a b:Int} {l m:List Int},a≠b→a::l≠b::m:=fun h e=>h (List.cons.inj e).1
 have d1:∀ {a b c:Int} {l m:List Int},a≠b→c::a::l≠c::b::m:=fun h e=>h (List.cons.inj (List.cons.inj e).2).1
 have d2:∀ {a b c d d':Int} {l m:List Int},a≠b→c::d::a::l≠c::d'::b::m:=fun h e=>h (List.cons.inj (List.cons.inj (List.cons.inj e).2).2).1
 cases x with
 |pre i=>
  apply Y 0x3ce
  split
  ·exact d1 (a:=(i:Int)) (b:=((i+1:Nat):Int)) oe
  exact d0 (a:=1) (b:=2) ob
 |sta i=>
  apply Y 0x3ce
  split
  ·exact d1 (a:=(i:Int)) (b:=((i+1:Nat):Int)) oe
  exact d0 (a:=2) (b:=3) ob
 |w0 k=>
  apply Y 0x3ce
  split
  ·exact d2 (a:=0) (b:=1) ob
  exact d0 (a:=3) (b:=4) ob
 |w1 k=>exact d2 (a:=1) (b:=2) ob
 |w2 k=>exact d2 (a:=2) (b:=0) ob
 |mig=>cases hl
 |b0 k=>
  apply Y 0x3ce
  split
  ·exact d0 (a:=6) (b:=0) ob
  exact d2 (a:=0) (b:=1) ob
 |b1 k=>exact d2 (a:=1) (b:=0) ob
 |idl=>cases hl
theorem Ha {g h:Nat}(hg:g≠h)(x:Pos):U.s g x≠U.s h x:=by
 intro e;have:=congrArg (fun l=>l.getD 6 0) e
 cases x<;>exact hg (Int.ofNat.inj this)
end
theorem BE {D:List (List UInt8)}{b:List UInt8}{n S:Nat}(hN:n≤D.length)(hS:1≤S)(h:∀ t,t<n→D.getD t []=ctF b t S)(hb:b.length=n*S):(D.take n).flatten=b:=by
 have e1:(D.take n).flatten=yp D (NI (List.range n)) n:=by
  unfold yp NI;rw [show (((List.range n).map fun (t:Nat)=>(t:Int)).take n)=(List.range n).map fun (t:Nat)=>(t:Int) from List.take_of_length_le (by rw [List.length_map,List.length_range];exact Nat.le_refl _),List.flatMap_map,List.flatMap_def]
  congr 1;refine List.ext_getElem OO fun i h1 h2=>?_
  rw [List.length_take] at h1
  simp [List.getD_eq_getElem?_getD,show i<D.length by omega]
 have hl:∀ i,i<(NI (List.range n)).length→(D.getD ((NI (List.range n)).getD i 0).toNat []).length=S:=fun i hi=>by
  rw [bb,List.length_range] at hi;rw [iE (by rw [List.length_range];exact hi),List.getElem_range,Int.toNat_natCast,h i hi,bU]
 have hn:(NI (List.range n)).length=n:=Q3;have hlen:=fY hl n oe;rw [e1];refine aF (d:=0) (by rw [hlen,hb]) fun i hi=>?_
 rw [hlen] at hi;have hd:i/S<n:=(Nat.div_lt_iff_lt_mul oe).2 hi;have hm:=Nat.mod_lt i (show 0<S by omega);have hq:=Nat.div_add_mod i S;rw [Nat.mul_comm] at hq;rw [pq hS hl n oe i hi,iE (by rw [List.length_range];exact hd),List.getElem_range,Int.toNat_natCast,h _ hd,BY hm,hq]
 unfold ctB;rw [if_pos oe]
section
variable {U:Upd}{f:Fl}{Q:Int}{g:Nat}{h:Bool}
theorem UpdOk.ol' (u:UpdOk U):U.old.length=U.y.n.toNat*U.S∧U.new.length=U.y.n.toNat*U.S:=by
 have h1:=u.ol;have h2:=u.inn;have h3:=u.out;have h4:=u.fit0.out;apply Y 0x8ce;intro h5;have h6:((U.y.n.toNat*U.S:Nat):Int)=(U.S:Int)*U.y.n:=by rw [Int.natCast_mul,h5.2.2,Int.mul_comm]
 have h7:U.new.length=U.p.sy.length:=by unfold Upd.new Pln.new;rw [dX]
 omega
structure Bas (U:Upd)(f:Fl)(Q:Int):Prop where
  ok:f.Ok
  sz:f.size=U.S
  nn:f.data.length=U.N
  lm:f.limit=U.L
  lv:∀ i,i≠U.bad→f.dead.getD i false=false
  wr:∀ i,i≠U.bad→f.wear.getD i 0≤Q
  z0:av f U.y.s0=U.z0
  z1:av f U.y.s1=U.z1
def Im (U:Upd)(f:Fl)(k:Nat):Prop:=∀ t,t<U.y.n.toNat→f.data.getD t []=tK U.p U.old k t
def Im2 (U:Upd)(f:Fl)(k x:Nat):Prop:=∀ t,t<U.y.n.toNat→t≠x→f.data.getD t []=tK U.p U.old k t
def Sh (U:Upd)(f:Fl)(j:Nat):Prop:=∀ i,i<j→av f (U.y.ls.getD i 0)=U.O (U.p.st.getD i 0).toNat
def Bl (U:Upd)(f:Fl)(j:Nat):Prop:=∀ i,i<j→av f (U.y.us.getD i 0)=List.replicate U.S 255
def Ar (U:Upd)(f:Fl)(i k:Nat):Prop:=Au f U.y.us (U.rl U.K) (U.e i) (U.e k)
def pK (U:Upd)(g:Nat)(f:Fl):Pos→Prop
  | .pre i=>i≤U.V∧Im U f 0∧Bl U f i
  | .sta i=>i≤U.H∧Im U f 0∧Sh U f i∧Ar U f 0 0
  | .w0 k=>k≤U.K∧Im U f k∧Sh U f U.H∧Ar U f k (min (k+1) U.K)
  | .w1 k=>k<U.K∧Im U f k∧Sh U f U.H∧Ar U f (k+1) (k+1)
  | .w2 k=>k<U.K∧Im2 U f k (U.q k)∧Sh U f U.H∧Ar U f (k+1) (k+1)∧av f (U.y.gs.getD g 0)=U.W (U.q k)
  | .mig=>Im U f U.K∧Ar U f U.K U.K
  | .b0 k=>k≤U.K∧Im U f k∧Ar U f U.K U.K
  | .b1 k=>(1≤k∧k≤U.K)∧Im2 U f k (U.q (k-1))∧Ar U f U.K U.K∧av f (U.y.gs.getD g 0)=U.O (U.q (k-1))
  | .idl=>Im U f 0
theorem pK.on {x:Pos}(G:pK U g f x):U.on x:=by
 cases x
 ·exact G.1
 ·exact G.1
 ·exact G.1
 ·exact G.1
 ·exact G.1
 ·trivial
 ·exact G.1
 ·exact G.1
 trivial
def Upd.X (U:Upd)(g:Nat)(f:Fl):Pos→Nx
  | .pre i=>if i<U.V then aM f (U.y.us.getD i 0) (List.replicate U.S 255) else nxD
  | .sta i=>if i<U.H then aM f (U.y.ls.getD i 0) (U.O (U.p.st.getD i 0).toNat) else nxD
  | .w0 k=>if k<U.K then towS f U.y.us (U.e k:Int) (U.r k) else nxD
  | .w1 k=>aM f (U.y.gs.getD g 0) (U.W (U.q k))
  | .w2 k=>aM f (U.q k:Int) (U.W (U.q k))
  | .mig=>nxD
  | .b0 k=>if k=0 then nxD else aM f (U.y.gs.getD g 0) (U.O (U.q (k-1)))
  | .b1 k=>aM f (U.q (k-1):Int) (U.O (U.q (k-1)))
  | .idl=>nxD
def Pos.stg:Pos→Bool
  | .w1 _=>true
  | .b0 k=>decide (k≠0)
  |_=>false
def Upd.sw (U:Upd)(g:Nat)(f:Fl)(x:Pos):Prop:=x.stg=true∧((U.X g f x).e=171∨(U.X g f x).e=172)∧g+1<U.y.gs.length
instance (U:Upd)(g:Nat)(f:Fl)(x:Pos):Decidable (U.sw g f x):=by unfold Upd.sw;infer_instance
def Pos.fine (h:Bool):Pos→Prop
  | .b0 _=>True
  | .b1 _=>True
  |_=>h=true
def Upd.go (U:Upd)(g:Nat)(f:Fl)(x:Pos):Nx:=
  if U.sw g f x then aO f U.y.a U.y.b (U.s (g+1) x) else b8 f U.y (U.X g f x) (U.s g (U.nx x))
theorem Bas.lay (u:UpdOk U)(B:Bas U f Q):fg f U.y=true:=by
 have:=u.s1;have:=u.yn;have:=u.g1
 unfold fg;rw [decide_eq_true B.ok,Bool.true_and];refine decide_eq_true ⟨by rw [B.sz];exact u.s1,u.yn.1,by rw [B.nn];exact u.yn.2,u.g1.1,u.g1.2,fun x hx=>?_,u.nd⟩;rw [B.nn]
 exact u.rr x hx
theorem Bas.fit (u:UpdOk U)(B:Bas U f Q):PlnFit f U.y U.p:=u.fit B.sz
theorem Bas.fitE (u:UpdOk U)(B:Bas U f Q){s:List Int}(h7:s.getD 7 0=5):fitE f U.y s U.k true=0:=by
 apply Y 0x9ce;intro h1
 unfold Sl.fitE;rw [if_neg (by rw [h7,u.ver];simp),if_neg (by rw [show U.k.pl.ok=true from u.ok];simp),if_neg];rw [show U.k.pl.sz=(U.S:Int) from u.psz,show U.k.pl.n=U.y.n from u.pn,B.sz];rintro (h|h|h)
 ·exact h rfl
 ·exact h rfl
 have:(U.k.pl.st.length:Int)≤U.y.ls.length:=Int.ofNat_le.2 h1
 omega
theorem du {y:Lay}{k:Pkg}{s:List Int}(hl:fg f y=true)(h0:(a6 f y.a y.b).2.2=0)(hs:(a6 f y.a y.b).1=s):
    aU f y k h=if sPh s=0∨sPh s=4∨sPh s=5 then nxD else if sPh s=6 then dP f y s else if sPh s>6 then nxE 240 else if Sl.fitE f y s k h≠0 then nxE (Sl.fitE f y s k h) else if sPh s=1 then ff f y s k.pl else if sPh s=2 then gN f y s k.pl else dD f y s k.pl:=by
 unfold aU;rw [if_neg (by rw [hl];decide),if_neg (fun q=>q h0),hs]
theorem b7 (f:Fl)(y:Lay)(s:List Int):b8 f y nxD s=aO f y.a y.b s:=if_neg (by rintro (h|h);exact h rfl;cases h)
theorem eD {x:Pos}(h:x.stg=false):U.go g f x=b8 f U.y (U.X g f x) (U.s g (U.nx x)):=if_neg (fun q=>by have:=q.1;rw [h] at this;cases this)
theorem UpdOk.need (u:UpdOk U):U.p.need U.old=(0,nd5 U.V U.H U.K U.S (ndG U.old U.new U.S U.p.seq)):=by
 have e0:dV U.p.lf U.p.sz U.p.n U.p.inn U.p.out U.p.ops U.p.seq U.p.st U.old=0:=ub u.ok u.ol (by rw [u.tz];exact u.nde)
 unfold Pln.need;rw [e0,jR e0,u.tz];have:U.V=ndU (ndT U.old (a7 U.old (ah U.p.ops)) U.S U.p.seq) U.S:=u.us;rw [this]
 rfl
theorem Im.img (u:UpdOk U)(B:Bas U f Q){b:List UInt8}(hb:b.length=U.y.n.toNat*U.S)(h:∀ t,t<U.y.n.toNat→f.data.getD t []=ctF b t U.S):eQ f U.y.n=b:=by
 have:=u.n1;have:=u.s1
 exact BE oa4 oe h hb
theorem Im.zero (u:UpdOk U)(I:Im U f 0){t:Nat}(ht:t<U.y.n.toNat):f.data.getD t []=U.O t:=by
 rw [I t ht,ql,u.tz]
 rfl
theorem Im.all (u:UpdOk U)(I:Im U f U.K){t:Nat}(ht:t<U.y.n.toNat):f.data.getD t []=U.W t:=by
 rw [I t ht]
 unfold Upd.K;rw [DC u.fit0 u.ol (by rw [u.pn'];exact ht),u.tz]
 rfl
theorem Im.at_ (u:UpdOk U){k:Nat}(I:Im U f k)(hk:k<U.K):av f (U.p.seq.getD k 0)=U.O (U.q k):=by
 apply Y 0x810f;intro h1
 show f.data.getD (U.q k) []=_;rw [I _ h1.2,(nm u.fit0 hk h1.1.symm).2,u.tz]
 rfl
theorem Bas.cnt (u:UpdOk U)(B:Bas U f Q){k:Nat}(hk:k<U.K)(I:Im U f k)(H:Sh U f U.H):U.p.cntE f U.y (k:Int)=0∧U.p.cntV f U.y (k:Int)=U.W (U.q k):=by
 have hrow:=B.ok.rows;apply Y 0x8ce;intro hn;have hfit:ER f.data (f.size:Int) U.y.n U.p.sz U.p.n.toNat U.p.st U.y.ls=true:=by
  refine uy.2 ⟨by rw [B.sz,u.psz],by rw [u.pn'];exact hn.2.2.symm,u.st,fun t ht=>?_,fun i hi=>?_⟩
  ·rw [u.pn'] at ht
   exact np oe oa4 (by rw [Int.toNat_natCast,hrow t oa4])
  apply Y 0x9ce;intro hst;have h1:=u.r_in (i:=4+U.y.gs.length+U.y.us.length+i) oQ;rw [← R_l oe] at h1;have h2:=u.yn
  exact np oe oa4 (by rw [hrow _ oa4])
 have e0:U.p.cntE f U.y (k:Int)=0:=GD u.ok (by unfold Upd.K at hk;omega) hfit;refine ⟨e0,(n7 e0).trans ?_⟩;have:=(B.fit u).in_ (old:=U.old) u.ol (D:=f.data) (k:=k) hk (fun t ht=>I t (by rw [← u.pn'];exact ht)) (fun i hi=>by
  have:=H i hi
  unfold Upd.O at this;rw [u.tz]
  exact this)
 rw [this,u.tz]
 rfl
theorem Ar.last (u:UpdOk U)(B:Bas U f Q){k:Nat}(h1:1≤k)(hk:k≤U.K)(A:Ar U f U.K U.K):bG (aR f U.y.us) (f.size:Int) (U.e k:Int)=⟨U.r (k-1),(U.e (k-1):Int),0⟩:=by
 obtain ⟨i,rfl⟩:∃ i,k=i+1:=⟨k-1,by omega⟩;have hi:i<U.K:=oe;have ha:=u.at_ hi;have:=u.n1;have:=u.n2;have:=u.s1;have:=u.s2;have hm:=lg (U:=U) hk;have hu:UOk f U.y.us:=⟨u.v64.1,fun s hs=>by
  have h3:=u.r_in (i:=4+U.y.gs.length+s) oQ;rw [← R_u hs] at h3;have:=u.yn;rw [B.nn]
  omega⟩
 have hal:=j5 B.ok hu;have her:=u.e_room (Nat.le_refl U.K);have hes:=gi (U:=U) i;rw [gi,show i+1-1=i from rfl];refine Ey (i:=U.q i) (o:=U.O (U.q i)) (w:=U.W (U.q i)) oe (by unfold Upd.r;rw [ha.1]) (by rw [CF,IT]) obw obw (by rw [CF,B.sz];exact Nat.le_refl _) (by rw [B.sz];omega) ?_ fun q hq=>?_
 ·rw [hal,B.sz,← hes]
  exact Nat.le_trans hm her
 rw [A.lo _ oe,F2 (i:=i+1) hk oe,ns,eA (show (U.rl i).length≤U.e i+q from Nat.le_add_right _ _)]
 congr 1
 show U.e i+q-U.e i=q
 omega
theorem Kj (u:UpdOk U)(B:Bas U f Q){x:Pos}(G:pK U g f x)(hg:g<U.y.gs.length)(h0:(a6 f U.y.a U.y.b).2.2=0)(hs:(a6 f U.y.a U.y.b).1=U.s g x)(hx:x.last=false)(hh:x.fine h):
    aU f U.y U.k h=U.go g f x:=by
 have hl:=B.lay u;rw [du hl h0 hs];have hne:∀ {a b:Nx} {c:Prop} [Decidable c],¬c→(if c then a else b)=b:=fun hc=>if_neg hc
 cases x with
 |mig=>cases hx
 |idl=>cases hx
 |pre i=>
  apply Y 0x110f;intro hh;subst hh;obtain ⟨hi,I,Z⟩:=G;rw [eD rfl];have e1:eQ f U.y.n=U.old:=Im.img u B u.ol'.1 fun t ht=>Im.zero u I ht
  have e2:(U.old.take U.p.inn.toNat)=U.old:=List.take_of_length_le (by have:=u.ol;omega);have e3:U.k.pl.need ((eQ f U.y.n).take U.k.pl.inn.toNat)=(0,nd5 U.V U.H U.K U.S (ndG U.old U.new U.S U.p.seq)):=by
   rw [e1,show U.k.pl.inn=U.p.inn from rfl,e2]
   exact u.need
  show (if (1:Int)=0∨(1:Int)=4∨(1:Int)=5 then nxD else if (1:Int)=6 then _ else if (1:Int)>6 then _ else if Sl.fitE f U.y (U.s g (.pre i)) U.k true≠0 then _ else if (1:Int)=1 then _ else _)=_;rw [if_neg ob,if_neg ob,if_neg ob,if_neg qQ,if_pos rfl]
  unfold ff;rw [e3,if_neg (fun h=>h rfl),if_neg (by show ¬(U.V:Int)>(U.y.us.length:Int);unfold Upd.V;omega)]
  show (if (i:Int)≥(U.V:Int) then _ else _)=_
  simp only [Upd.X]
  by_cases hiv:i<U.V
  ·rw [if_neg oe,if_pos hiv]
   simp only [Upd.nx,if_pos hiv];rw [B.sz]
   show b8 f U.y (aM f (U.y.us.getD ((i:Int)).toNat 0) _) _=_;rw [Int.toNat_natCast]
   rfl
  rw [if_pos oe,if_neg hiv]
  simp only [Upd.nx,if_neg hiv];rw [b7]
  rfl
 |sta i=>
  apply Y 0x110f;intro hh;subst hh;obtain ⟨hi,I,S,A⟩:=G;rw [eD rfl]
  show (if (2:Int)=0∨(2:Int)=4∨(2:Int)=5 then nxD else if (2:Int)=6 then _ else if (2:Int)>6 then _ else if Sl.fitE f U.y (U.s g (.sta i)) U.k true≠0 then _ else if (2:Int)=1 then _ else if (2:Int)=2 then _ else _)=_;rw [if_neg ob,if_neg ob,if_neg ob,if_neg qQ,if_neg ob,if_pos rfl]
  unfold gN
  show (if (i:Int)≥(U.H:Int) then _ else _)=_
  simp only [Upd.X]
  by_cases hiv:i<U.H
  ·have hst:=u.st_at hiv;apply Y 0x8ce;intro hn;rw [if_neg oe,if_pos hiv]
   simp only [Upd.nx,if_pos hiv]
   show b8 f U.y (aM f (U.y.ls.getD ((i:Int)).toNat 0) (av f (U.p.st.getD ((i:Int)).toNat 0))) _=_;rw [Int.toNat_natCast];have:av f (U.p.st.getD i 0)=U.O (U.p.st.getD i 0).toNat:=Im.zero u I oe;rw [this]
   rfl
  rw [if_pos oe,if_neg hiv]
  simp only [Upd.nx,if_neg hiv];rw [b7]
  rfl
 |w0 k=>
  apply Y 0x110f;intro hh;subst hh;obtain ⟨hk,I,S,A⟩:=G;rw [eD rfl]
  show (if (3:Int)=0∨(3:Int)=4∨(3:Int)=5 then nxD else if (3:Int)=6 then _ else if (3:Int)>6 then _ else if Sl.fitE f U.y (U.s g (.w0 k)) U.k true≠0 then _ else if (3:Int)=1 then _ else if (3:Int)=2 then _ else _)=_;apply Y 0x851f
  unfold dD
  show (if (k:Int)≥(U.K:Int) then _ else _)=_
  simp only [Upd.X]
  by_cases hiv:k<U.K
  ·obtain ⟨c1,c2⟩:=B.cnt u hiv I S;rw [if_neg oe,if_pos hiv]
   simp only [Upd.nx,if_pos hiv]
   show (if (0:Int)>2 then _ else if (0:Int)=2 then _ else if U.p.cntE f U.y (k:Int)≠0 then _ else if (0:Int)=1 then _ else b8 f U.y (towS f U.y.us (U.e k:Int) (iQ (U.p.seq.getD ((k:Int)).toNat 0) (av f (U.p.seq.getD ((k:Int)).toNat 0)) (U.p.cntV f U.y (k:Int)))) [3,(k:Int),1,(U.e k:Int)+((iQ (U.p.seq.getD ((k:Int)).toNat 0) (av f (U.p.seq.getD ((k:Int)).toNat 0)) (U.p.cntV f U.y (k:Int))).length:Int),0,0,(g:Int),5,4])=_;rw [if_neg ob,if_neg ob,if_neg (by rw [c1];exact fun h=>h rfl),if_neg ob,Int.toNat_natCast,I.at_ u hiv,c2]
   show b8 f U.y (towS f U.y.us (U.e k:Int) (U.r k)) [3,(k:Int),1,(U.e k:Int)+((U.r k).length:Int),0,0,(g:Int),5,4]=_;rw [show (U.e k:Int)+((U.r k).length:Int)=(U.e (k+1):Int) by rw [gi];omega]
   rfl
  obtain rfl:k=U.K:=oe;rw [if_pos oe,if_neg hiv]
  simp only [Upd.nx,if_neg hiv];rw [b7]
  rfl
 |w1 k=>
  apply Y 0x110f;intro hh;subst hh;obtain ⟨hk,I,S,A⟩:=G;obtain ⟨c1,c2⟩:=B.cnt u hk I S
  show (if (3:Int)=0∨(3:Int)=4∨(3:Int)=5 then nxD else if (3:Int)=6 then _ else if (3:Int)>6 then _ else if Sl.fitE f U.y (U.s g (.w1 k)) U.k true≠0 then _ else if (3:Int)=1 then _ else if (3:Int)=2 then _ else _)=_;apply Y 0x851f
  unfold dD
  show (if (k:Int)≥(U.K:Int) then _ else if (1:Int)>2 then _ else if (1:Int)=2 then _ else if U.p.cntE f U.y (k:Int)≠0 then _ else if (1:Int)=1 then sgF f U.y (U.s g (.w1 k)) (U.p.cntV f U.y (k:Int)) else _)=_;rw [if_neg oe,if_neg ob,if_neg ob,if_neg (by rw [c1];exact fun h=>h rfl),if_pos rfl,c2]
  unfold sgF Upd.go
  show (if (g:Int)≥(U.y.gs.length:Int) then _ else if ((aM f (U.y.gs.getD ((g:Int)).toNat 0) (U.W (U.q k))).e=171∨(aM f (U.y.gs.getD ((g:Int)).toNat 0) (U.W (U.q k))).e=172)∧(g:Int)+1<(U.y.gs.length:Int) then _ else _)=_;rw [if_neg oe,Int.toNat_natCast]
  by_cases hsw:U.sw g f (.w1 k)
  ·obtain ⟨_,q1,q2⟩:=hsw;rw [if_pos ⟨q1,by omega⟩,if_pos ⟨rfl,q1,q2⟩]
   rfl
  rw [if_neg (fun q=>hsw ⟨rfl,q.1,by omega⟩),if_neg hsw]
  rfl
 |w2 k=>
  apply Y 0x110f;intro hh;subst hh;obtain ⟨hk,I,S,A,T⟩:=G;apply Y 0x810f;intro ha;rw [eD rfl]
  show (if (3:Int)=0∨(3:Int)=4∨(3:Int)=5 then nxD else if (3:Int)=6 then _ else if (3:Int)>6 then _ else if Sl.fitE f U.y (U.s g (.w2 k)) U.k true≠0 then _ else if (3:Int)=1 then _ else if (3:Int)=2 then _ else _)=_;apply Y 0x851f
  unfold dD
  show (if (k:Int)≥(U.K:Int) then _ else if (2:Int)>2 then _ else if (2:Int)=2 then b8 f U.y (plF f U.y (U.s g (.w2 k)) (U.p.seq.getD ((k:Int)).toNat 0)) _ else _)=_;rw [if_neg oe,if_neg ob,if_pos rfl,Int.toNat_natCast,ha.1]
  unfold plF
  show b8 f U.y (if (g:Int)≥(U.y.gs.length:Int) then _ else aM f (U.q k:Int) (av f (U.y.gs.getD ((g:Int)).toNat 0))) _=_;rw [if_neg oe,Int.toNat_natCast,T]
  rfl
 |b0 k=>
  obtain ⟨hk,I,A⟩:=G;apply Y 0xaa2f;rw [if_neg ob,if_pos rfl]
  unfold dP
  show (if (U.e k:Int)=0 then _ else _)=_
  by_cases h0:k=0
  ·subst h0;rw [if_pos (by rw [Kx];rfl),eD rfl]
   simp only [Upd.X,Upd.nx,if_pos];rw [b7]
   rfl
  have hp:=u.e_pos (show 1≤k by omega) hk;have hL:=A.last u B (show 1≤k by omega) hk;have hlst:l3 f U.y (U.s g (.b0 k))=⟨U.r (k-1),(U.e (k-1):Int),0⟩:=hL;have hk1:k-1<U.K:=oe;have ha:=u.at_ hk1;have hR:=u.rcd hk1;have hT:l8 f U.y (U.s g (.b0 k))=(U.q (k-1):Int):=by
   unfold l8;rw [hlst]
   exact congrArg Int.ofNat hR.head
  have hrow:av f (U.q (k-1):Int)=U.W (U.q (k-1)):=by
   show f.data.getD ((U.q (k-1):Int)).toNat []=_;rw [Int.toNat_natCast,I _ ha.2];have:=(nm u.fit0 (old:=U.old) (t:=U.q (k-1)) hk1 ha.1.symm).1;rw [show k-1+1=k by omega] at this;rw [this,u.tz]
   rfl
  rw [if_neg oe]
  show (if (0:Int)>1 then _ else if (l3 f U.y (U.s g (.b0 k))).e≠0 then _ else if l8 f U.y (U.s g (.b0 k))≥U.y.n then _ else if (0:Int)=1 then _ else _)=_;apply Y 0x8ce;intro hn;rw [if_neg ob,hlst,hT,if_neg (fun h=>h rfl),if_neg oe,if_neg ob,hrow,if_neg (by rw [show resE (U.W (U.q (k-1))) (Fnd.mk (U.r (k-1)) (U.e (k-1):Int) 0).b=0 from hR.resE];exact fun h=>h rfl)];rw [show vx (U.W (U.q (k-1))) (Fnd.mk (U.r (k-1)) (U.e (k-1):Int) 0).b=U.O (U.q (k-1)) from hR.res]
  unfold sgF Upd.go
  show (if (g:Int)≥(U.y.gs.length:Int) then _ else if ((aM f (U.y.gs.getD ((g:Int)).toNat 0) (U.O (U.q (k-1)))).e=171∨(aM f (U.y.gs.getD ((g:Int)).toNat 0) (U.O (U.q (k-1)))).e=172)∧(g:Int)+1<(U.y.gs.length:Int) then _ else _)=_;rw [if_neg oe,Int.toNat_natCast];have hX:U.X g f (.b0 k)=aM f (U.y.gs.getD g 0) (U.O (U.q (k-1))):=if_neg h0;have hsg:(Pos.b0 k).stg=true:=decide_eq_true h0
  by_cases hsw:U.sw g f (.b0 k)
  ·obtain ⟨_,q1,q2⟩:=id hsw;rw [hX] at q1;rw [if_pos ⟨q1,by omega⟩,if_pos hsw]
   rfl
  rw [if_neg (fun q=>hsw ⟨hsg,by rw [hX];exact q.1,by omega⟩),if_neg hsw,hX]
  simp only [Upd.nx,if_neg h0]
  rfl
 |b1 k=>
  obtain ⟨⟨h1,hk⟩,I,A,T⟩:=G;rw [eD rfl];apply Y 0xaa2f;rw [if_neg ob,if_pos rfl]
  unfold dP;have hp:=u.e_pos h1 hk;have hL:=A.last u B h1 hk;have hlst:l3 f U.y (U.s g (.b1 k))=⟨U.r (k-1),(U.e (k-1):Int),0⟩:=hL;have hk1:k-1<U.K:=oe;have ha:=u.at_ hk1;have hR:=u.rcd hk1;apply Y 0x8ce;intro hn;have hT:l8 f U.y (U.s g (.b1 k))=(U.q (k-1):Int):=by
   unfold l8;rw [hlst]
   exact congrArg Int.ofNat hR.head
  show (if (U.e k:Int)=0 then _ else if (1:Int)>1 then _ else if (l3 f U.y (U.s g (.b1 k))).e≠0 then _ else if l8 f U.y (U.s g (.b1 k))≥U.y.n then _ else if (1:Int)=1 then b8 f U.y (plF f U.y (U.s g (.b1 k)) (l8 f U.y (U.s g (.b1 k)))) _ else _)=_;rw [if_neg oe,if_neg ob,hlst,hT,if_neg (fun h=>h rfl),if_neg oe,if_pos rfl]
  unfold plF
  show b8 f U.y (if (g:Int)≥(U.y.gs.length:Int) then _ else aM f (U.q (k-1):Int) (av f (U.y.gs.getD ((g:Int)).toNat 0))) _=_;rw [if_neg oe,Int.toNat_natCast,T]
  rfl
end
end Go.Sl
