/-
  Part of a proof.
-/
import Derived.Test.YtbpddeiogcgegaaGreatYIh
set_option maxHeartbeats 0
set_option maxRecDepth 4000
set_option linter.all false
namespace Go.Sl
section
variable {f h:Fl}{sec:Int}{want:List UInt8}
theorem xr (hs:h.size=f.size)(hn:h.data.length=f.data.length)(hl:h.limit=f.limit)(hr:h.data.getD sec.toNat []=f.data.getD sec.toNat [])(hd:h.dead.getD sec.toNat false=f.dead.getD sec.toNat false)(hw:h.wear.getD sec.toNat 0=f.wear.getD sec.toNat 0):aM h sec want=aM f sec want:=by
 have hx:bQ h sec want=bQ f sec want:=by unfold bQ;rw [hr,hs]
 have hsec:=c6 f sec want;have hE:ao h (bQ h sec want)=ao f (bQ f sec want):=by
  rw [hx]
  unfold ao;rw [hsec,hn,hs,hd,hw,hl]
 unfold aM;rw [hE,hx,hn,hs,hr]
theorem xq {us:List Int}{at_:Int}{b:List UInt8}(hs:h.size=f.size)(hr:∀ s,s<us.length→h.data.getD (us.getD s 0).toNat []=f.data.getD (us.getD s 0).toNat [])(hd:h.dead=f.dead):towS h us at_ b=towS f us at_ b:=by
 have ha:aR h us=aR f us:=by
  unfold aR;have:∀ u∈us,h.data.getD u.toNat []=f.data.getD u.toNat []:=fun u hu=>by
   obtain ⟨i,hi,rfl⟩:=List.getElem_of_mem hu;have:=hr i hi
   rwa [List.getD_eq_getElem?_getD (l:=us),List.getElem?_eq_getElem hi] at this
  rw [List.flatMap_def,List.flatMap_def]
  congr 1
  exact List.map_congr_left this
 have hA:∀ s,iF h us b at_.toNat s=iF f us b at_.toNat s:=fun s=>by unfold iF;rw [hs]
 by_cases hB:cQ f us at_ b
 ·have hB':cQ h us at_ b:=by unfold cQ at hB ⊢;rw [hs];exact hB
  rw [yG hB',yG hB]
 have hB':¬cQ h us at_ b:=by unfold cQ at hB ⊢;rw [hs];exact hB
 unfold towS;rw [if_neg hB',if_neg hB,ha,hs,hd]
 simp only [hA]
end
section
variable {U:Upd}{f h:Fl}{Q:Int}{g:Nat}
theorem UpdOk.uok (u:UpdOk U)(hn:f.data.length=U.N):UOk f U.y.us:=⟨u.v64.1,fun s hs=>by
  have h3:=u.r_in (i:=4+U.y.gs.length+s) oQ
  rw [← R_u hs] at h3
  have:=u.yn
  rw [hn]
  omega⟩
theorem UpdOk.udist (u:UpdOk U):Fz U.y.us:=fun s t hs ht e=>by
  have h1:=R_u hs;have h2:=R_u ht
  have e1:(U.y.us.getD s 0).toNat=U.R (4+U.y.gs.length+s):=by rw [h1];rfl
  have e2:(U.y.us.getD t 0).toNat=U.R (4+U.y.gs.length+t):=by rw [h2];rfl
  by_cases hst:s=t
  · exact hst
  · exact absurd (by rw [← e1,← e2,e]) (u.r_ne (i:=4+U.y.gs.length+s) (j:=4+U.y.gs.length+t) oQ oQ oe)
theorem Dh {i:Nat}(hi:i<U.y.us.length):(U.y.us.getD i 0).toNat=U.R (4+U.y.gs.length+i):=by rw [R_u hi];rfl
theorem Ja {i:Nat}(hi:i<U.y.gs.length):(U.y.gs.getD i 0).toNat=U.R (4+i):=by rw [R_g hi];rfl
theorem Mw {i:Nat}(hi:i<U.y.ls.length):(U.y.ls.getD i 0).toNat=U.R (4+U.y.gs.length+U.y.us.length+i):=by rw [R_l hi];rfl
theorem UpdOk.bad4 (u:UpdOk U):U.bad=U.R 4∨U.N≤U.bad:=by
 have h4:=u.g1
 rcases u.bd with hb|hb
 ·left;have h1:U.y.gs.getD 0 0=U.y.rest.getD 4 0:=R_g (U:=U) (i:=0) oe;have h2:=u.r_in (i:=4) oQ
  omega
 exact .inr hb
theorem UpdOk.nbad (u:UpdOk U){i:Nat}(hi:i<U.RN)(h4:i≠4):U.R i≠U.bad:=by
 rcases u.bad4 with h|h
 ·rw [h]
  exact u.r_ne hi (by unfold Upd.RN;have:=u.g1;omega) h4
 have:=(u.r_in hi).2.2.2.2
 omega
theorem UpdOk.tbad (u:UpdOk U){t:Nat}(ht:t<U.y.n.toNat):t≠U.bad:=by
 have:=u.n1
 rcases u.bad4 with h|h
 ·have:=(u.r_in (i:=4) (by unfold Upd.RN;have:=u.g1;omega)).2.2.2.1
  omega
 omega
def One (f h:Fl)(j:Nat):Prop:=h.size=f.size∧∀ i,i≠j→h.data.getD i []=f.data.getD i []
theorem One.im {j k:Nat}(u:UpdOk U)(o:One f h j)(hj:U.y.n.toNat≤j)(I:Im U f k):Im U h k:=fun t ht=>by
  have:=u.n1
  rw [o.2 t oe]
  exact I t ht
theorem One.im2 {j k x:Nat}(o:One f h j)(hj:U.y.n.toNat≤j∨j=x)(I:Im2 U f k x):Im2 U h k x:=fun t ht hx=>by
  rw [o.2 t oe]
  exact I t ht hx
theorem One.sh {j k:Nat}(u:UpdOk U)(o:One f h j)(hk:k≤U.H)(hj:∀ i,i<k→j≠U.R (4+U.y.gs.length+U.y.us.length+i))(I:Sh U f k):Sh U h k:=fun i hi=>by
  have hl:=u.st
  have e:=Mw (U:=U) (i:=i) (by unfold Upd.H at hk;omega)
  have:=I i hi
  unfold av at this ⊢
  rw [e] at this ⊢
  rw [o.2 _ (fun q=>hj i hi q.symm)]
  exact this
theorem One.bl {j k:Nat}(o:One f h j)(hk:k≤U.V)(hj:∀ i,i<k→j≠U.R (4+U.y.gs.length+i))(I:Bl U f k):Bl U h k:=fun i hi=>by
  have e:=Dh (U:=U) (i:=i) (by unfold Upd.V at hk;omega)
  have:=I i hi
  unfold av at this ⊢
  rw [e] at this ⊢
  rw [o.2 _ (fun q=>hj i hi q.symm)]
  exact this
theorem One.ar {j i k:Nat}(o:One f h j)(hj:∀ s,s<U.V→j≠U.R (4+U.y.gs.length+s))(A:Ar U f i k):Ar U h i k:=
  (Au.same A o.1 fun s hs=>by
    rw [Dh hs]
    exact o.2 _ (fun q=>hj s hs q.symm)).1
theorem One.row {j i:Nat}(o:One f h j)(hj:j≠i):h.data.getD i []=f.data.getD i []:=o.2 i (fun q=>hj q.symm)
theorem pK.one {j:Nat}{x:Pos}(u:UpdOk U)(hg:g<U.y.gs.length)(o:One f h j)(hj:j=U.R 0∨j=U.R 1)(G:pK U g f x):pK U g h x:=by
 have hR:∀ i,2≤i→i<U.RN→j≠U.R i:=fun i h2 hi=>by
  rcases hj with rfl|rfl
  ·exact u.r_ne oQ hi oe
  exact u.r_ne oQ hi oe
 have hn:U.y.n.toNat≤j:=by
  rcases hj with rfl|rfl
  ·exact (u.r_in (i:=0) oQ).2.2.2.1
  exact (u.r_in (i:=1) oQ).2.2.2.1
 apply Y 0x9ce;intro hst;have hsh:∀ k,k≤U.H→Sh U f k→Sh U h k:=fun k hk=>o.sh u hk fun i hi=>hR _ oe (by unfold Upd.RN;unfold Upd.H at hk;omega)
 have har:∀ i k,Ar U f i k→Ar U h i k:=fun i k=>o.ar fun s hs=>hR _ oe (by unfold Upd.RN;unfold Upd.V at hs;omega)
 have hgr:av h (U.y.gs.getD g 0)=av f (U.y.gs.getD g 0):=by
  unfold av;rw [Ja hg]
  exact o.row (hR _ oe oQ)
 cases x with
 |pre i=>exact ⟨G.1,o.im u hn G.2.1,o.bl G.1 (fun s hs=>hR _ oe (by have:=G.1;unfold Upd.V at this;unfold Upd.RN;omega)) G.2.2⟩
 |sta i=>exact ⟨G.1,o.im u hn G.2.1,hsh _ G.1 G.2.2.1,har _ _ G.2.2.2⟩
 |w0 k=>exact ⟨G.1,o.im u hn G.2.1,hsh _ (Nat.le_refl _) G.2.2.1,har _ _ G.2.2.2⟩
 |w1 k=>exact ⟨G.1,o.im u hn G.2.1,hsh _ (Nat.le_refl _) G.2.2.1,har _ _ G.2.2.2⟩
 |w2 k=>exact ⟨G.1,o.im2 (.inl hn) G.2.1,hsh _ (Nat.le_refl _) G.2.2.1,har _ _ G.2.2.2.1,hgr.trans G.2.2.2.2⟩
 |mig=>exact ⟨o.im u hn G.1,har _ _ G.2⟩
 |b0 k=>exact ⟨G.1,o.im u hn G.2.1,har _ _ G.2.2⟩
 |b1 k=>exact ⟨G.1,o.im2 (.inl hn) G.2.1,har _ _ G.2.2.1,hgr.trans G.2.2.2⟩
 |idl=>exact o.im u hn G
theorem Rt {j:Nat}{x:Pos}(u:UpdOk U)(hg:g<U.y.gs.length)(ho:U.on x)(o:One f h j)(hj:j=U.R 0∨j=U.R 1)(hn:h.data.length=f.data.length)(hl:h.limit=f.limit)(hd:h.dead=f.dead)(hw:∀ i,i≠j→h.wear.getD i 0=f.wear.getD i 0):U.X g h x=U.X g f x:=by
 have hR:∀ i,2≤i→i<U.RN→U.R i≠j:=fun i h2 hi=>by
  rcases hj with rfl|rfl
  ·exact u.r_ne hi oQ oe
  exact u.r_ne hi oQ oe
 have hn':U.y.n.toNat≤j:=by
  rcases hj with rfl|rfl
  ·exact (u.r_in (i:=0) oQ).2.2.2.1
  exact (u.r_in (i:=1) oQ).2.2.2.1
 have tw:∀ {sec:Int} {want:List UInt8},sec.toNat≠j→aM h sec want=aM f sec want:=fun q=>xr o.1 hn hl (o.2 _ q) (by rw [hd]) (hw _ q)
 apply Y 0x9ce;intro hst
 cases x with
 |pre i=>
  simp only [Upd.X]
  split
  ·rename_i hi
   exact tw (by rw [Dh hi];exact hR _ oe (by unfold Upd.RN;unfold Upd.V at hi;omega))
  rfl
 |sta i=>
  simp only [Upd.X]
  split
  ·rename_i hi
   exact tw (by rw [Mw (by unfold Upd.H at hi;omega)];exact hR _ oe (by unfold Upd.RN;unfold Upd.H at hi;omega))
  rfl
 |w0 k=>
  simp only [Upd.X]
  split
  ·exact xq o.1 (fun s hs=>by rw [Dh hs];exact o.2 _ (hR _ oe oQ)) hd
  rfl
 |w1 k=>exact tw qj
 |w2 k=>exact tw QB
 |mig=>rfl
 |b0 k=>
  simp only [Upd.X]
  split
  ·rfl
  exact tw qj
 |b1 k=>exact tw qD
 |idl=>rfl
theorem Ar.next (u:UpdOk U){k:Nat}(hk:k<U.K)(A:Ar U f k k)(hs:f.size=U.S):Ar U f k (k+1):=by
 have h1:=lg (U:=U) (Nat.le_succ k);have h2:=u.e_room (show k+1≤U.K by omega);refine ⟨h1,lg (U:=U) (show k+1≤U.K by omega),by rw [hs];exact h2,A.lo,fun q h3 h4=>?_,fun q h3 h4=>A.hi q (Nat.le_trans h1 h3) h4⟩;rw [A.hi q h3 (Nat.lt_of_lt_of_le h4 (by rw [hs];exact h2)),KT]
theorem pK.next (u:UpdOk U)(B:Bas U f Q){x:Pos}(hl:x.last=false)(G:pK U g f x)(hX:(U.X g f x).done=true):pK U g f (U.nx x):=by
 apply Y 0x8ce;intro hn;apply Y 0x4a1f;intro hlen;apply Y 0x5a1f;intro hwlen;have rin:∀ i,i<U.RN→0≤U.y.rest.getD i 0∧U.y.rest.getD i 0<(f.data.length:Int):=fun i hi=>by
  have:=u.r_in hi;have:=u.yn;rw [B.nn]
  omega
 apply Y 0x9a1f;intro imin
 cases x with
 |mig=>cases hl
 |idl=>cases hl
 |pre i=>
  obtain ⟨hi,I,Z⟩:=G
  simp only [Upd.X] at hX
  by_cases hv:i<U.V
  ·rw [if_pos hv] at hX
   simp only [Upd.nx,if_pos hv];refine ⟨hv,I,fun s hs=>?_⟩
   by_cases e:s=i
   ·subst e;refine eF ?_ (by rw [List.length_replicate,B.sz]) hX;rw [R_u hv]
    exact rin _ (by unfold Upd.RN;unfold Upd.V at hv;omega)
   exact Z s oe
  simp only [Upd.nx,if_neg hv];obtain rfl:i=U.V:=oe;refine ⟨Nat.zero_le _,I,fun s hs=>absurd hs (Nat.not_lt_zero _),⟨Nat.le_refl _,Nat.zero_le _,Nat.zero_le _,fun q hq=>absurd hq (Nat.not_lt_zero _),fun q _ hq=>absurd hq (Nat.not_lt_zero _),fun q _ hq=>?_⟩⟩;have hz:=B.ok.s1;have hd:q/f.size<U.y.us.length:=(Nat.div_lt_iff_lt_mul oe).2 hq;apply Y 0x250f;intro hm;rw [j6 B.ok (u.uok B.nn) B.ok rfl rfl hq,byt];have:=Z (q/f.size) hd
  unfold av at this;rw [this,bO _ _ _ _ (by rw [← B.sz];exact hm)]
 |sta i=>
  obtain ⟨hi,I,S,A⟩:=G
  simp only [Upd.X] at hX
  by_cases hv:i<U.H
  ·rw [if_pos hv] at hX
   simp only [Upd.nx,if_pos hv];refine ⟨hv,I,fun s hs=>?_,A⟩
   by_cases e:s=i
   ·subst e;apply Y 0x9ce;intro hst;refine eF ?_ (hlen _) hX;rw [R_l (by unfold Upd.H at hv;omega)]
    exact rin _ (by unfold Upd.RN;unfold Upd.H at hv;omega)
   exact S s oe
  simp only [Upd.nx,if_neg hv];obtain rfl:i=U.H:=oe;refine ⟨Nat.zero_le _,I,S,?_⟩
  by_cases hk:0<U.K
  ·rw [show min (0+1) U.K=0+1 by omega]
   exact A.next u hk B.sz
  rw [show min (0+1) U.K=0 by omega]
  exact A
 |w0 k=>
  obtain ⟨hk,I,S,A⟩:=G
  simp only [Upd.X] at hX
  by_cases hv:k<U.K
  ·rw [if_pos hv] at hX;rw [show min (k+1) U.K=k+1 by omega] at A
   simp only [Upd.nx,if_pos hv];refine ⟨hv,I,S,?_⟩
   rcases A.step B.ok (u.uok B.nn) u.udist (fun s hs=>B.lv _ Qs) with ⟨h1,_⟩|⟨o,s,h1,h2,_⟩
   ·exact h1
   rw [tN hv] at h2;rw [h2] at hX
   cases hX
  simp only [Upd.nx,if_neg hv];obtain rfl:k=U.K:=oe;rw [show min (U.K+1) U.K=U.K by omega] at A;exact ⟨I,A⟩
 |w1 k=>
  obtain ⟨hk,I,S,A⟩:=G
  by_cases hg:g<U.y.gs.length
  ·refine ⟨hk,fun t ht _=>I t ht,S,A,eF ?_ (hwlen _) hX⟩;rw [R_g hg]
   exact rin _ oQ
  have hX':(aM f (U.y.gs.getD g 0) (U.W (U.q k))).done=true:=hX;refine ⟨hk,fun t ht _=>I t ht,S,A,eF ?_ (hwlen _) hX'⟩;rw [List.getD_eq_getElem?_getD,List.getElem?_eq_none oe]
  show 0≤(0:Int)∧(0:Int)<_;rw [B.nn]
  omega
 |w2 k=>
  obtain ⟨hk,I,S,A,T⟩:=G;apply Y 0x810f;intro ha;have hX':(aM f (U.q k:Int) (U.W (U.q k))).done=true:=hX;have hr:=eF (imin _ ha.2) (hwlen _) hX';refine ⟨hk,fun t ht=>?_,S,?_⟩
  ·by_cases e:t=U.q k
   ·subst e;rw [(nm u.fit0 hk ha.1.symm).1,u.tz]
    unfold av at hr;rw [Int.toNat_natCast] at hr
    exact hr
   rw [re u.fit0 hk (by rw [ha.1];omega)]
   exact I t ht e
  by_cases h2:k+1<U.K
  ·rw [show min (k+1+1) U.K=k+1+1 by omega]
   exact A.next u h2 B.sz
  rw [show min (k+1+1) U.K=k+1 by omega]
  exact A
 |b0 k=>
  obtain ⟨hk,I,A⟩:=G
  by_cases h0:k=0
  ·subst h0
   exact I
  simp only [Upd.X,if_neg h0] at hX
  simp only [Upd.nx,if_neg h0];refine ⟨⟨by omega,hk⟩,fun t ht _=>I t ht,A,eF ?_ (hlen _) hX⟩
  by_cases hg:g<U.y.gs.length
  ·rw [R_g hg]
   exact rin _ oQ
  rw [List.getD_eq_getElem?_getD,List.getElem?_eq_none oe]
  show 0≤(0:Int)∧(0:Int)<_;rw [B.nn]
  omega
 |b1 k=>
  obtain ⟨⟨h1,hk⟩,I,A,T⟩:=G;obtain ⟨i,rfl⟩:∃ i,k=i+1:=⟨k-1,by omega⟩;rw [show i+1-1=i from rfl] at I T;have ha:=u.at_ (show i<U.K by omega);have hX':(aM f (U.q i:Int) (U.O (U.q i))).done=true:=hX;have hr:=eF (imin _ ha.2) (hlen _) hX';refine ⟨by omega,fun t ht=>?_,A⟩
  show _=tK U.p U.old i t
  by_cases e:t=U.q i
  ·subst e;rw [(nm u.fit0 (show i<U.K by omega) ha.1.symm).2,u.tz]
   unfold av at hr;rw [Int.toNat_natCast] at hr
   exact hr
  rw [← re u.fit0 (show i<U.K by omega) (by rw [ha.1];omega)]
  exact I t ht e
end
section
variable {U:Upd}{f h:Fl}{Q:Int}{g:Nat}
def Upd.gm (U:Upd)(g:Nat)(f:Fl):Pos→Nat
  | .pre i=>if i<U.V then bMu f (U.y.us.getD i 0) else 0
  | .sta i=>if i<U.H then tMu f (U.y.ls.getD i 0) (U.O (U.p.st.getD i 0).toNat) else 0
  | .w0 k=>if k<U.K then uMu f U.y.us (U.rl U.K) (U.e k) (U.e (k+1)) else 0
  | .w1 k=>tMu f (U.y.gs.getD g 0) (U.W (U.q k))
  | .w2 k=>tMu f (U.q k:Int) (U.W (U.q k))
  | .mig=>0
  | .b0 k=>if k=0 then 0 else tMu f (U.y.gs.getD g 0) (U.O (U.q (k-1)))
  | .b1 k=>tMu f (U.q (k-1):Int) (U.O (U.q (k-1)))
  | .idl=>0
def Upd.ge (U:Upd)(g:Nat)(f:Fl):Pos→Nat
  | .pre i=>if i<U.V then bMu f (U.y.us.getD i 0) else 0
  | .sta i=>if i<U.H then tEr f (U.y.ls.getD i 0) (U.O (U.p.st.getD i 0).toNat) else 0
  | .w0 _=>0
  | .w1 k=>tEr f (U.y.gs.getD g 0) (U.W (U.q k))
  | .w2 k=>tEr f (U.q k:Int) (U.W (U.q k))
  | .mig=>0
  | .b0 k=>if k=0 then 0 else tEr f (U.y.gs.getD g 0) (U.O (U.q (k-1)))
  | .b1 k=>tEr f (U.q (k-1):Int) (U.O (U.q (k-1)))
  | .idl=>0
def Upd.nb (U:Upd)(k:Nat):Nat:=(U.e (k+1)-1)/U.S+1-U.e k/U.S
def Upd.rs (U:Upd)(k:Nat):Nat:=if k<U.K then (U.V-1-U.e k/U.S)+(U.K-k) else 0
theorem UpdOk.rs_step (u:UpdOk U){k:Nat}(hk:k<U.K):U.nb k+U.rs (k+1)≤U.rs k:=by
 have hz:0<U.S:=by have:=u.s1;omega
 have h1:=u.e_room (show k+1≤U.K by omega);have h2:=(u.rec_len hk).2;have h3:=gi (U:=U) k;have hA:U.e k/U.S≤(U.e (k+1)-1)/U.S:=Nat.div_le_div_right oe;have hB:(U.e (k+1)-1)/U.S<U.V:=(Nat.div_lt_iff_lt_mul hz).2 oe;have hC:(U.e (k+1)-1)/U.S≤U.e (k+1)/U.S:=Nat.div_le_div_right oe
 unfold Upd.nb Upd.rs;rw [if_pos hk]
 split
 ·rename_i hk2;have h4:=u.e_room (show k+1+1≤U.K by omega);have h5:=(u.rec_len hk2).2;have h6:=gi (U:=U) (k+1);have hD:U.e (k+1)/U.S<U.V:=(Nat.div_lt_iff_lt_mul hz).2 oe
  omega
 omega
def Upd.gb (U:Upd):Pos→Nat
  | .pre i=>if i<U.V then 1 else 0
  | .sta i=>if i<U.H then 2 else 0
  | .w0 k=>if k<U.K then U.nb k else 0
  | .w1 _=>2
  | .w2 _=>2
  | .mig=>0
  | .b0 k=>if k=0 then 0 else 2
  | .b1 _=>2
  | .idl=>0
def Upd.geb (U:Upd):Pos→Nat
  | .pre i=>if i<U.V then 1 else 0
  | .sta i=>if i<U.H then 1 else 0
  | .w0 _=>0
  | .w1 _=>1
  | .w2 _=>1
  | .mig=>0
  | .b0 k=>if k=0 then 0 else 1
  | .b1 _=>1
  | .idl=>0
theorem Kr (hs:f.size=U.S)(hz:1≤f.size)(x:Pos):U.gm g f x≤U.gb x∧U.ge g f x≤U.geb x:=by
 cases x with
 |pre i=>simp only [Upd.gm,Upd.ge,Upd.gb,Upd.geb];split;exact ⟨GG _ _,GG _ _⟩;exact ⟨Nat.le_refl _,Nat.le_refl _⟩
 |sta i=>simp only [Upd.gm,Upd.ge,Upd.gb,Upd.geb];split;exact ⟨gT _ _ _,pR _ _ _⟩;exact ⟨Nat.le_refl _,Nat.le_refl _⟩
 |w0 k=>
  simp only [Upd.gm,Upd.ge,Upd.gb,Upd.geb]
  split
  ·refine ⟨?_,Nat.le_refl _⟩;have:=Jk (f:=f) (us:=U.y.us) (R:=U.rl U.K) (p:=U.e k) (e:=U.e (k+1)) hz;rw [hs] at this
   exact this
  exact ⟨Nat.le_refl _,Nat.le_refl _⟩
 |w1 k=>exact ⟨gT _ _ _,pR _ _ _⟩
 |w2 k=>exact ⟨gT _ _ _,pR _ _ _⟩
 |mig=>exact ⟨Nat.le_refl _,Nat.le_refl _⟩
 |b0 k=>simp only [Upd.gm,Upd.ge,Upd.gb,Upd.geb];split;exact ⟨Nat.le_refl _,Nat.le_refl _⟩;exact ⟨gT _ _ _,pR _ _ _⟩
 |b1 k=>exact ⟨gT _ _ _,pR _ _ _⟩
 |idl=>exact ⟨Nat.le_refl _,Nat.le_refl _⟩
def Upd.l0 (U:Upd):Pos→Nat
  | .pre i=>(U.V-(i+1))+2*U.H+U.rs 0+4*U.K
  | .sta i=>2*(U.H-(i+1))+U.rs 0+4*U.K
  | .w0 k=>U.rs (k+1)+4*(U.K-k)
  | .w1 k=>U.rs (k+1)+4*(U.K-(k+1))+2
  | .w2 k=>U.rs (k+1)+4*(U.K-(k+1))
  | .mig=>0
  | .b0 k=>if k=0 then 0 else 2+4*(k-1)
  | .b1 k=>4*(k-1)
  | .idl=>0
def Upd.le0 (U:Upd):Pos→Nat
  | .pre i=>(U.V-(i+1))+U.H+2*U.K
  | .sta i=>(U.H-(i+1))+2*U.K
  | .w0 k=>2*(U.K-k)
  | .w1 k=>2*(U.K-(k+1))+1
  | .w2 k=>2*(U.K-(k+1))
  | .mig=>0
  | .b0 k=>if k=0 then 0 else 1+2*(k-1)
  | .b1 k=>2*(k-1)
  | .idl=>0
def Upd.r0 (U:Upd):Pos→Nat
  | .pre i=>(U.V-i)+U.H+3*U.K+3
  | .sta i=>(U.H-i)+3*U.K+2
  | .w0 k=>3*(U.K-k)+1
  | .w1 k=>3*(U.K-k)
  | .w2 k=>3*(U.K-k)-1
  | .mig=>0
  | .b0 k=>2*k+1
  | .b1 k=>2*k
  | .idl=>0
theorem HD {x:Pos}(ho:U.on x)(hl:x.last=false):U.r0 (U.nx x)+1=U.r0 x:=by
 cases x with
 |mig=>cases hl
 |idl=>cases hl
 |pre i=>simp only [Upd.on] at ho;simp only [Upd.nx];split<;>simp only [Upd.r0]<;>omega
 |sta i=>simp only [Upd.on] at ho;simp only [Upd.nx];split<;>simp only [Upd.r0]<;>omega
 |w0 k=>simp only [Upd.on] at ho;simp only [Upd.nx];split<;>simp only [Upd.r0]<;>omega
 |w1 k=>simp only [Upd.on] at ho;simp only [Upd.nx,Upd.r0];omega
 |w2 k=>simp only [Upd.on] at ho;simp only [Upd.nx,Upd.r0];omega
 |b0 k=>simp only [Upd.nx];split<;>simp only [Upd.r0]<;>omega
 |b1 k=>simp only [Upd.on] at ho;simp only [Upd.nx,Upd.r0];omega
theorem UpdOk.l0_next (u:UpdOk U){x:Pos}(ho:U.on x)(hl:x.last=false):U.gb (U.nx x)+U.l0 (U.nx x)≤U.l0 x∧U.geb (U.nx x)+U.le0 (U.nx x)≤U.le0 x:=by
 cases x with
 |mig=>cases hl
 |idl=>cases hl
 |pre i=>
  simp only [Upd.on] at ho;apply Y 0x3ce
  split
  ·apply Y 0x4b0f
   split<;>omega
  apply Y 0x4b0f
  split<;>omega
 |sta i=>
  simp only [Upd.on] at ho;apply Y 0x3ce
  split
  ·apply Y 0x4b0f
   split<;>omega
  apply Y 0x4b0f
  split
  ·rename_i hk;have:=u.rs_step hk
   omega
  rename_i hk;have:U.rs (0+1)=0:=if_neg oe
  omega
 |w0 k=>
  simp only [Upd.on] at ho;apply Y 0x3ce
  split<;>simp only [Upd.gb,Upd.geb,Upd.l0,Upd.le0]<;>omega
 |w1 k=>simp only [Upd.nx,Upd.gb,Upd.geb,Upd.l0,Upd.le0];omega
 |w2 k=>
  simp only [Upd.nx,Upd.gb,Upd.geb,Upd.l0,Upd.le0]
  split
  ·rename_i hk;have:=u.rs_step hk
   omega
  rename_i hk;have:U.rs (k+1+1)=0:=if_neg oe
  omega
 |b0 k=>
  apply Y 0x3ce
  split
  ·rename_i hk;subst hk;exact ⟨Nat.le_refl _,Nat.le_refl _⟩
  rename_i hk
  simp only [Upd.gb,Upd.geb,Upd.l0,Upd.le0,if_neg hk]
  omega
 |b1 k=>
  simp only [Upd.on] at ho
  simp only [Upd.nx,Upd.gb,Upd.geb,Upd.l0,Upd.le0]
  split<;>omega
def Upd.sp (U:Upd)(g:Nat):Nat:=U.y.gs.length-1-g
def Upd.rm (U:Upd)(g:Nat)(x:Pos):Nat:=U.r0 x+U.sp g
def Upd.lt (U:Upd)(g:Nat)(x:Pos):Nat:=U.l0 x+2*U.sp g
def Upd.lte (U:Upd)(g:Nat)(x:Pos):Nat:=U.le0 x+U.sp g
theorem AC {o:Fo}(ok:f.Ok)(hE:ao f o=0)(mk:Nat→UInt8):One f (aS f o mk) o.sec.toNat:=by
 have C:=Chg.cut ok hE mk;exact ⟨C.s,C.oth⟩
theorem Bas.cut {o:Fo}(B:Bas U f Q)(hE:ao f o=0)(h2:o.sec.toNat≠U.R 2)(h3:o.sec.toNat≠U.R 3)(mk:Nat→UInt8):Bas U (aS f o mk) (Q+1):=by
 have C:=Chg.cut B.ok hE mk;refine ⟨C.ok,C.s.trans B.sz,C.n.trans B.nn,C.l.trans B.lm,fun i hi=>by rw [C.d];exact B.lv i hi,fun i hi=>?_,?_,?_⟩
 ·have hw:=B.wr i hi
  by_cases e:i=o.sec.toNat
  ·subst e;have:=C.ws
   split at this<;>omega
  rw [C.wo i e]
  omega
 ·rw [← B.z0]
  exact C.oth _ (fun e=>h2 e.symm)
 rw [← B.z1]
 exact C.oth _ (fun e=>h3 e.symm)
theorem Bas.tow {sec:Int}{want:List UInt8}(B:Bas U f Q)(hQ:Q<U.L)(hs:0≤sec∧sec<(f.data.length:Int))(hb:sec.toNat≠U.bad)(hw:want.length=f.size):
    (av f sec=want∧aM f sec want=⟨fo0,true,0⟩)∨(av f sec≠want∧aM f sec want=⟨bQ f sec want,false,0⟩∧ao f (bQ f sec want)=0):=by
 have:=B.wr _ hb
 exact yE hs hw (B.lv _ hb) (by rw [B.lm];omega)
theorem pK.goal (u:UpdOk U)(B:Bas U f Q)(hQ:Q<U.L){x:Pos}(G:pK U g f x)(hg:g<U.y.gs.length):
    ((U.X g f x).done=true∧(U.X g f x).e=0)∨
    (∃ o,U.X g f x=⟨o,false,0⟩∧ao f o=0∧(∀ i,i<4→o.sec.toNat≠U.R i)∧(∀ mk,pK U g (aS f o mk) x)∧
      ∀ mk:Nat→UInt8,(∀ i,mk i=255)→U.gm g (aS f o mk) x+1≤U.gm g f x∧U.ge g (aS f o mk) x+(if o.kind=1 then 1 else 0)≤U.ge g f x)∨
    (x.stg=true∧((U.X g f x).e=171∨(U.X g f x).e=172)∧U.R (4+g)=U.bad):=by
 apply Y 0x8ce;intro hn;have hz:=B.ok.s1;apply Y 0x9ce;intro hst;apply Y 0x4a1f;intro hlen;apply Y 0x5a1f;intro hwlen;have rin:∀ i,i<U.RN→0≤U.y.rest.getD i 0∧U.y.rest.getD i 0<(f.data.length:Int):=fun i hi=>by
  have:=u.r_in hi;have:=u.yn;rw [B.nn]
  omega
 apply Y 0x9a1f;intro imin;have img4:∀ t,t<U.y.n.toNat→∀ i,i<4→t≠U.R i:=fun t ht i hi=>by
  have:=(u.r_in (i:=i) oQ).2.2.2.1
  omega
 have r4:∀ j,4≤j→j<U.RN→∀ i,i<4→U.R j≠U.R i:=fun j h4 hj i hi=>u.r_ne hj oQ oe
 have tsec:∀ (sec:Int) (want:List UInt8),(bQ f sec want).sec.toNat=sec.toNat:=fun sec want=>by rw [c6]
 cases x with
 |mig=>exact .inl ⟨rfl,rfl⟩
 |idl=>exact .inl ⟨rfl,rfl⟩
 |pre i=>
  obtain ⟨hi,I,Z⟩:=G;apply Y 0x3b0f
  by_cases hv:i<U.V
  ·simp only [if_pos hv];have hV:4+U.y.gs.length+i<U.RN:=by unfold Upd.RN;unfold Upd.V at hv;omega
   apply Y 0xf50f;intro hs;rw [← R_u hv] at hs;have hj:=Dh hv
   rcases B.tow hQ hs oax (show (List.replicate U.S 255).length=f.size by rw [List.length_replicate,B.sz]) with ⟨_,h2⟩|⟨h1,h2,hE⟩
   ·left;rw [h2];exact Zm 0xb5e
   right
   left;refine ⟨_,h2,hE,fun j hj4=>?_,fun mk=>?_,fun mk hmk=>?_⟩
   ·rw [tsec,hj]
    exact r4 _ oe hV j hj4
   ·apply Y 0x7ce;intro o;rw [tsec,hj] at o;exact ⟨hi,o.im u (u.r_in hV).2.2.2.1 I,o.bl oe (fun s hs=>u.r_ne hV (by unfold Upd.RN;unfold Upd.V at hv;omega) oe) Z⟩
   rw [← B.sz] at h1 hE ⊢
   exact KR B.ok hs h1 hE hmk
  left;rw [if_neg hv];exact Zm 0xb5e
 |sta i=>
  obtain ⟨hi,I,S,A⟩:=G;apply Y 0x3b0f
  by_cases hv:i<U.H
  ·simp only [if_pos hv];have hvl:i<U.y.ls.length:=by unfold Upd.H at hv;omega
   have hV:4+U.y.gs.length+U.y.us.length+i<U.RN:=oQ;apply Y 0xf50f;intro hs;rw [← R_l hvl] at hs;have hj:=Mw hvl
   rcases B.tow hQ hs oax (hlen (U.p.st.getD i 0).toNat) with ⟨_,h2⟩|⟨h1,h2,hE⟩
   ·left;rw [h2];exact Zm 0xb5e
   right
   left;refine ⟨_,h2,hE,fun j hj4=>?_,fun mk=>?_,fun mk hmk=>?_⟩
   ·rw [tsec,hj]
    exact r4 _ oe hV j hj4
   ·apply Y 0x7ce;intro o;rw [tsec,hj] at o;exact ⟨hi,o.im u (u.r_in hV).2.2.2.1 I,o.sh u hi (fun s hs=>u.r_ne hV oQ oe) S,o.ar (fun s hs=>u.r_ne hV (by unfold Upd.RN;unfold Upd.V at hs;omega) (by unfold Upd.V at hs;omega)) A⟩
   exact gP hs (hlen _) h1 hE hmk
  left;rw [if_neg hv];exact Zm 0xb5e
 |w0 k=>
  obtain ⟨hk,I,S,A⟩:=G;apply Y 0x3b0f
  by_cases hv:k<U.K
  ·simp only [if_pos hv];have hA:=A;rw [show min (k+1) U.K=k+1 by omega] at A;have hlv:∀ s,s<U.y.us.length→f.dead.getD (U.y.us.getD s 0).toNat false=false:=fun s hs=>B.lv _ Qs
   rcases A.step B.ok (u.uok B.nn) u.udist hlv with ⟨_,h2,_⟩|⟨o,s,hs,h2,hE,hsec,hkd,h3,h4⟩
   ·left;rw [tN hv] at h2;rw [h2];exact Zm 0xb5e
   right
   left;rw [tN hv] at h2;have hV:4+U.y.gs.length+s<U.RN:=oQ;have hj:o.sec.toNat=U.R (4+U.y.gs.length+s):=by rw [hsec,Dh hs]
   refine ⟨o,h2,hE,fun j hj4=>?_,fun mk=>?_,fun mk hmk=>?_⟩
   ·rw [hj]
    exact r4 _ oe hV j hj4
   ·apply Y 0x7ce;intro oo;rw [hj] at oo;refine ⟨hk,oo.im u (u.r_in hV).2.2.2.1 I,oo.sh u (Nat.le_refl _) (fun i hi=>u.r_ne hV (by unfold Upd.RN;unfold Upd.H at hi;omega) oe) S,?_⟩;rw [show min (k+1) U.K=k+1 by omega]
    exact h3 mk
   refine ⟨h4 mk hmk,?_⟩;rw [if_neg oe];exact Zm 0x83e
  left;rw [if_neg hv];exact Zm 0xb5e
 |w1 k=>
  obtain ⟨hk,I,S,A⟩:=G;have hV:4+g<U.RN:=oQ;apply Y 0xf50f;intro hs;rw [← R_g hg] at hs;have hj:=Ja hg;have hX:U.X g f (.w1 k)=aM f (U.y.gs.getD g 0) (U.W (U.q k)):=rfl;rw [hX]
  rcases me hs (hwlen (U.q k)) with ⟨_,h2⟩|⟨h1,h2,hE⟩|⟨h1,h2⟩
  ·left;rw [h2];exact Zm 0xb5e
  ·right
   left;refine ⟨_,h2,hE,fun j hj4=>?_,fun mk=>?_,fun mk hmk=>?_⟩
   ·rw [tsec,hj]
    exact r4 _ oe hV j hj4
   ·apply Y 0x7ce;intro o;rw [tsec,hj] at o;exact ⟨hk,o.im u (u.r_in hV).2.2.2.1 I,o.sh u (Nat.le_refl _) (fun s hs=>u.r_ne hV (by unfold Upd.RN;unfold Upd.H at hs;omega) oe) S,o.ar (fun s hs=>u.r_ne hV (by unfold Upd.RN;unfold Upd.V at hs;omega) oe) A⟩
   exact gP hs (hwlen _) h1 hE hmk
  right
  right;refine ⟨rfl,h2,?_⟩
  by_cases hb:U.R (4+g)=U.bad
  ·exact hb
  exfalso
  rcases B.tow hQ hs (by rw [hj];exact hb) (hwlen (U.q k)) with ⟨q,_⟩|⟨_,q,_⟩
  ·exact h1 q
  rw [q] at h2
  rcases h2 with h2|h2<;>cases h2
 |w2 k=>
  obtain ⟨hk,I,S,A,T⟩:=G;apply Y 0x810f;intro ha;have hX:U.X g f (.w2 k)=aM f (U.q k:Int) (U.W (U.q k)):=rfl;rw [hX]
  rcases B.tow hQ (imin _ ha.2) oaU (hwlen (U.q k)) with ⟨_,h2⟩|⟨h1,h2,hE⟩
  ·left;rw [h2];exact Zm 0xb5e
  right
  left;refine ⟨_,h2,hE,fun j hj4=>?_,fun mk=>?_,fun mk hmk=>?_⟩
  ·rw [tsec,Int.toNat_natCast]
   exact img4 _ ha.2 j hj4
  ·apply Y 0x7ce;intro o;rw [tsec,Int.toNat_natCast] at o;refine ⟨hk,o.im2 (.inr rfl) I,o.sh u (Nat.le_refl _) (fun s hs=>?_) S,o.ar (fun s hs=>?_) A,?_⟩
   ·have:=(u.r_in (i:=4+U.y.gs.length+U.y.us.length+s) (by unfold Upd.RN;unfold Upd.H at hs;omega)).2.2.2.1;have:=ha.2
    omega
   ·have:=(u.r_in (i:=4+U.y.gs.length+s) (by unfold Upd.RN;unfold Upd.V at hs;omega)).2.2.2.1;have:=ha.2
    omega
   refine Eq.trans ?_ T
   unfold av;rw [Ja hg];have:=(u.r_in (i:=4+g) oQ).2.2.2.1;have:=ha.2
   exact o.row (i:=U.R (4+g)) oe
  exact gP (imin _ ha.2) (hwlen _) h1 hE hmk
 |b0 k=>
  obtain ⟨hk,I,A⟩:=G;apply Y 0x3b0f
  by_cases h0:k=0
  ·left;rw [if_pos h0];exact Zm 0xb5e
  simp only [if_neg h0];have hV:4+g<U.RN:=oQ;apply Y 0xf50f;intro hs;rw [← R_g hg] at hs;have hj:=Ja hg
  rcases me hs (hlen (U.q (k-1))) with ⟨_,h2⟩|⟨h1,h2,hE⟩|⟨h1,h2⟩
  ·left;rw [h2];exact Zm 0xb5e
  ·right
   left;refine ⟨_,h2,hE,fun j hj4=>?_,fun mk=>?_,fun mk hmk=>?_⟩
   ·rw [tsec,hj]
    exact r4 _ oe hV j hj4
   ·apply Y 0x7ce;intro o;rw [tsec,hj] at o;exact ⟨hk,o.im u (u.r_in hV).2.2.2.1 I,o.ar (fun s hs=>u.r_ne hV (by unfold Upd.RN;unfold Upd.V at hs;omega) oe) A⟩
   exact gP hs (hlen _) h1 hE hmk
  right
  right;refine ⟨decide_eq_true h0,h2,?_⟩
  by_cases hb:U.R (4+g)=U.bad
  ·exact hb
  exfalso
  rcases B.tow hQ hs (by rw [hj];exact hb) (hlen (U.q (k-1))) with ⟨q,_⟩|⟨_,q,_⟩
  ·exact h1 q
  rw [q] at h2
  rcases h2 with h2|h2<;>cases h2
 |b1 k=>
  obtain ⟨⟨hk1,hk⟩,I,A,T⟩:=G;have ha:=u.at_ (show k-1<U.K by omega);have hX:U.X g f (.b1 k)=aM f (U.q (k-1):Int) (U.O (U.q (k-1))):=rfl;rw [hX]
  rcases B.tow hQ (imin _ ha.2) oaU (hlen (U.q (k-1))) with ⟨_,h2⟩|⟨h1,h2,hE⟩
  ·left;rw [h2];exact Zm 0xb5e
  right
  left;refine ⟨_,h2,hE,fun j hj4=>?_,fun mk=>?_,fun mk hmk=>?_⟩
  ·rw [tsec,Int.toNat_natCast]
   exact img4 _ ha.2 j hj4
  ·apply Y 0x7ce;intro o;rw [tsec,Int.toNat_natCast] at o;refine ⟨⟨hk1,hk⟩,o.im2 (.inr rfl) I,o.ar (fun s hs=>?_) A,?_⟩
   ·have:=(u.r_in (i:=4+U.y.gs.length+s) (by unfold Upd.RN;unfold Upd.V at hs;omega)).2.2.2.1;have:=ha.2
    omega
   refine Eq.trans ?_ T
   unfold av;rw [Ja hg];have:=(u.r_in (i:=4+g) oQ).2.2.2.1;have:=ha.2
   exact o.row (i:=U.R (4+g)) oe
  exact gP (imin _ ha.2) (hlen _) h1 hE hmk
end
end Go.Sl
