/-
  Part of a proof.
-/
import Derived.Test.YtbpddeiogcgegaaGreatYWInD
set_option maxHeartbeats 0
set_option maxRecDepth 4000
set_option linter.all false
namespace Go.Sl
def cei (r w:Nat):Nat:=(r+w-1)/w
theorem Fc {w:Nat}(hw:1≤w):cei 0 w=0:=Nat.div_eq_of_lt oe
theorem Fe {r w:Nat}(hw:1≤w)(h:w≤r):cei r w=cei (r-w) w+1:=by
 unfold cei;rw [show r+w-1=(r-w+w-1)+w from by omega,Nat.add_div_right _ hw]
theorem ph {r w:Nat}(hw:1≤w)(h:1≤r):1≤cei r w:=(Nat.one_le_div_iff oe).2 oe
theorem po {r q w:Nat}(h:r≤q):cei r w≤cei q w:=Nat.div_le_div_right oe
theorem pj (r:Nat):cei r 1=r:=by unfold cei;rw [Nat.div_one];omega
theorem Ck {r w:Nat}(hw:1≤w)(h:1≤r):cei (r-w) w+1≤cei r w:=by
 by_cases hr:w≤r
 ·rw [Fe hw hr];exact Zm 0x83e
 rw [show r-w=0 from by omega,Fc hw]
 exact ph hw h
def jpt (w rem q m:Nat):Nat:=if rem=0 then 0 else if q=0 then rem+m+2*cei rem w-3 else rem+2*cei (rem-q) w
def jet (w rem q m:Nat):Nat:=if rem=0 then 0 else if q=0 then (if m=3 then 1 else 0)+cei rem w-1 else cei (rem-q) w
section
variable {w rem q m:Nat}
theorem EA (h:1≤rem)(hq:0<q):jpt w (rem-1) (q-1) 3+1≤jpt w rem q m:=by
 unfold jpt;rw [if_neg (show ¬rem=0 from by omega),if_neg (show ¬q=0 from by omega)]
 split
 ·omega
 split
 ·rw [show rem-q=rem-1 from by omega]
  omega
 rw [show rem-1-(q-1)=rem-q from by omega]
 omega
theorem EC (h:1≤rem)(hq:0<q):jet w (rem-1) (q-1) 3≤jet w rem q m:=by
 unfold jet;rw [if_neg (show ¬rem=0 from by omega),if_neg (show ¬q=0 from by omega),if_pos rfl]
 split
 ·omega
 split
 ·rw [show rem-q=rem-1 from by omega]
  omega
 rw [show rem-1-(q-1)=rem-q from by omega];exact Zm 0x83e
theorem Kg (hw:1≤w)(h:1≤rem)(hm:1≤m):jpt w (rem-1) (w-1) 3+1≤jpt w rem 0 m:=by
 have h1:=Ck hw h;have h2:=ph hw h
 unfold jpt;rw [if_neg (show ¬rem=0 from by omega),if_pos rfl]
 split
 ·omega
 split
 ·have hw1:w=1:=oe;subst hw1;rw [pj,pj]
  omega
 rw [show rem-1-(w-1)=rem-w from by omega]
 omega
theorem Kh (hw:1≤w)(h:1≤rem):jet w (rem-1) (w-1) 3≤jet w rem 0 m:=by
 have h1:=Ck hw h
 unfold jet;rw [if_neg (show ¬rem=0 from by omega),if_pos rfl,if_pos rfl]
 split
 ·omega
 split
 ·have hw1:w=1:=oe;subst hw1;rw [pj,pj]
  omega
 rw [show rem-1-(w-1)=rem-w from by omega]
 omega
theorem N6 {k:Nat}(hw:1≤w)(h:1≤rem)(hm:k<m):jpt w rem 0 k+1≤jpt w rem 0 m:=by
 have h2:=ph hw h
 unfold jpt;rw [if_neg (show ¬rem=0 from by omega),if_pos rfl,if_neg (show ¬rem=0 from by omega),if_pos rfl]
 omega
theorem N7 {k:Nat}(hw:1≤w)(h:1≤rem)(hk:k≠3):jet w rem 0 k+1≤jet w rem 0 3∧jet w rem 0 k≤jet w rem 0 m:=by
 have h2:=ph hw h
 unfold jet;rw [if_neg (show ¬rem=0 from by omega),if_pos rfl,if_neg (show ¬rem=0 from by omega),if_pos rfl,if_neg hk,if_neg (show ¬rem=0 from by omega),if_pos rfl,if_pos rfl]
 omega
theorem Gn (hm:m≤3):jpt w rem q m≤rem+2*cei rem w:=by
 have h1:=po (w:=w) (Nat.sub_le rem q)
 unfold jpt
 split
 ·omega
 split<;>omega
theorem Gp:jet w rem q m≤cei rem w:=by
 have h1:=po (w:=w) (Nat.sub_le rem q)
 unfold jet
 split
 ·omega
 split
 ·split<;>omega
 exact h1
theorem EB {k:Nat}(h:k≤m):jpt w rem q k≤jpt w rem q m:=by
 unfold jpt
 split
 ·exact Zm 0x83e
 split<;>omega
theorem ED {k:Nat}(_h:k≤3):jet w rem q k≤jet w rem q 3:=by
 unfold jet
 split
 ·exact Zm 0x83e
 split
 ·rw [if_pos rfl];split<;>omega
 exact Zm 0x83e
end
section
variable {f:Fl}{sec oth a b:Int}{g t:Nat}{s p:List Int}{mk:Nat→UInt8}
theorem uL {x:Fo}(J:Jb f sec oth g s t)(hpl:p.length=9)(hp:aN p=true)(hx:x=⟨2,sec,8+30*((scJ f sec oth g).free:Int),ak p⟩)(hfr:(scJ f sec oth g).free<bC f)(hw:∀ i,mk i=255):
    (scJ (aS f x mk) sec oth g).free=(scJ f sec oth g).free+1:=by
 have hsl:=cB hp;have hE:ao f x=0:=by
  have hkl:=(bX J.sl hfr).2;rw [hx]
  exact eV J.sr J.sd ⟨by omega,by omega⟩
 have hxs:x.sec=sec:=obp;apply Y 0x3c1f;intro h1 h2 h3;rw [hxs] at h1 h2 h3;apply Y 0x710f;intro K;apply Y 0x410f;intro hpc
 generalize hf':aS f x mk=f' at*;apply Y 0x6a1f;intro hb0
 generalize hk:(scJ f sec oth g).free=k at*;have hbk:=hb0 k (Nat.le_refl _) hfr;replace h3:=h3 hbk;rw [show x.data=ak p by rw [hx]] at h3;have hl':(av f' sec).length=f.size:=QW;have hs30:=bX (f:=f) hl' hfr;apply Y 0x891f;intro hold;have hnew:scJ f' sec oth g=stepL (av f' sec) (scJ f sec oth g) k:=by
  have e1:scJ f' sec oth g=bN (av f' sec) (lgx sec oth g) (k+1):=by
   unfold scJ;rw [hpc];refine fO hfr fun i hi hi2=>?_
   rw [h1 i hi2 oe]
   exact hb0 i oe hi2
  rw [e1,bp,hold]
  congr 1
  exact iN fun i hi=>h1 i oe oe
 have hwhole:aX (av f' sec) k=ak p:=by
  refine aF (d:=0) (by rw [hs30.1,hsl]) fun j hj=>?_
  rw [hs30.1] at hj;rw [h3 j hj,hw,fv]
 have hst:cm (aX (av f' sec) k)=some p:=by rw [hwhole];exact cX hpl hp
 have hb:bZ (aX (av f' sec) k)=false:=by
  cases hb:bZ (aX (av f' sec) k) with
  |false=>rfl
  |true=>
   have:=ja (by rw [hs30.1];decide) hb;rw [hst] at this
   cases this
 rw [hnew,kj hb hst]
theorem uK {x:Fo}(J:Jb f sec oth g s t)(hpl:p.length=9)(hp:aN p=true)(hx:x=⟨2,oth,0,ed (g+1)⟩)
    (hdr:(av f oth).drop 8=ak p++List.replicate (f.size-8-(ak p).length) 255) (he:(av (aS f x mk) oth).take 8=ed (g+1)):
    (scJ (aS f x mk) oth sec (g+1)).free=1:=by
 apply Y 0x610f;intro hz;have hE:ao f x=0:=by
  rw [hx];exact Zm 0x5d1f
 have hxs:x.sec=oth:=obp;apply Y 0xe91f;intro hn;have hxd:x.data=ed (g+1):=obp;apply Y 0x3c0f;intro hr;apply Y 0x710f;intro K;apply Y 0x650f;intro hol;have hout:(av (aS f x mk) oth).drop 8=(av f oth).drop 8:=by
  refine aF (d:=0) Q9 fun i hi=>?_
  rw [List.length_drop,hr,cu] at hi;rw [bn,bn,hr,nr oe hn,hxs];rw [hxd,ez,show x.at_=0 by rw [hx]]
  omega
 apply Y 0x410f;intro hpc;have hrow:av (aS f x mk) oth=al f.size ((g+1:Nat):Int) (ak p):=by
  exact Zm 0x261f
 have hgo:scJ (aS f x mk) oth sec (g+1)={ lgx oth sec (g+1) with free:=1,s:=p,found:=true }:=by
  unfold scJ;rw [hpc,hrow];have h1:0<bC f:=jQ hz;apply Y 0x4c1f;intro k hk;rw [hk,jK (f:=f) rfl hz hpl hp k oe]
 rw [hgo]
end
structure SameJ (f h:Fl)(a b:Int):Prop where
  ok:h.Ok
  s:h.size=f.size
  n:h.data.length=f.data.length
  ra:av h a=av f a
  rb:av h b=av f b
  da:h.dead.getD a.toNat false=f.dead.getD a.toNat false
  db:h.dead.getD b.toNat false=f.dead.getD b.toNat false
section
variable {f h:Fl}{sec oth a b:Int}{g t G m rem P E:Nat}{s p:List Int}
theorem SameJ.swap (S:SameJ f h a b):SameJ f h b a:=⟨S.ok,S.s,S.n,S.rb,S.ra,S.db,S.da⟩
theorem SameJ.plc (S:SameJ f h a b):bC h=bC f:=by unfold bC;rw [S.s]
theorem SameJ.sc (S:SameJ f h sec oth):scJ h sec oth g=scJ f sec oth g:=by unfold scJ;rw [S.ra,S.plc]
theorem SameJ.jb (S:SameJ f h sec oth)(J:Jb f sec oth g s t):Jb h sec oth g s t:=
  ⟨S.ok,J.ne,by rw [S.n];exact J.sr,by rw [S.n];exact J.tr,by rw [S.s];exact J.sz,by rw [S.da];exact J.sd,by rw [S.db];exact J.od,J.g0,J.g1,by rw [S.ra];exact J.head,by rw [S.sc];exact J.fnd,by rw [S.sc];exact J.st,by rw [S.sc];exact J.tn⟩
theorem SameJ.o1 (S:SameJ f h sec oth)(O:O1 f oth g):O1 h oth g:=by unfold O1;rw [S.rb];exact O
theorem SameJ.of (S:SameJ f h a b)(hp:sec=a∧oth=b∨sec=b∧oth=a):SameJ f h sec oth:=by
 rcases hp with ⟨rfl,rfl⟩|⟨rfl,rfl⟩
 ·exact S
 exact S.swap
def JV2 (f:Fl)(a b:Int)(s p:List Int)(t G rem P E:Nat):Prop:=
  ∃ sec oth g,(sec=a∧oth=b∨sec=b∧oth=a)∧g≤G∧Jb f sec oth g s t∧(O1 f oth g∨O2 f sec oth g p)∧
    jpt (bC f) rem (bC f-(scJ f sec oth g).free) (jmu f sec oth g s p)≤P∧jet (bC f) rem (bC f-(scJ f sec oth g).free) (jmu f sec oth g s p)≤E
def JC2 (f:Fl)(a b:Int)(s:List Int)(t G rem P E:Nat):Prop:=
  ∃ sec oth g,(sec=a∧oth=b∨sec=b∧oth=a)∧g≤G∧Jb f sec oth g s t∧O1 f oth g∧
    jpt (bC f) rem (bC f-(scJ f sec oth g).free) 3≤P∧jet (bC f) rem (bC f-(scJ f sec oth g).free) 3≤E
theorem JV2.jv (h:JV2 f a b s p t G rem P E):JV f a b s p t G 3:=by
 obtain ⟨sec,oth,g,h1,h2,h3,h4,_⟩:=h;exact ⟨sec,oth,g,h1,h2,h3,h4,jm ..⟩
theorem JC2.jc (h:JC2 f a b s t G rem P E):JC f a b s t G:=by
 obtain ⟨sec,oth,g,h1,h2,h3,h4,_⟩:=h;exact ⟨sec,oth,g,h1,h2,h3,h4⟩
theorem JC2.jv (h:JC2 f a b s t G rem P E)(p:List Int):JV2 f a b s p t G rem P E:=by
 apply Y 0x260f;intro sec oth g h1 h2 h3 h4 h5 h6;exact ⟨sec,oth,g,h1,h2,h3,.inl h4,Nat.le_trans (EB (jm ..)) h5,Nat.le_trans (ED (jm ..)) h6⟩
theorem JV.jv2 (h:JV f a b s p t G m)(rem:Nat):JV2 f a b s p t G rem (rem+2*cei rem (bC f)) (cei rem (bC f)):=by
 obtain ⟨sec,oth,g,h1,h2,h3,h4,_⟩:=h;exact ⟨sec,oth,g,h1,h2,h3,h4,Gn (jm ..),Gp⟩
theorem JC.jc2 (h:JC f a b s t G)(rem:Nat):JC2 f a b s t G rem (rem+2*cei rem (bC f)) (cei rem (bC f)):=by
 apply Y 0xcb1f;intro sec oth g h1 h2 h3 h4;exact ⟨sec,oth,g,h1,h2,h3,h4,Gn (Nat.le_refl _),Gp⟩
theorem JV2.mono {u H Q F:Nat}(h:JV2 f a b s p t G rem P E)(ht:t≤u)(hG:G≤H)(hP:P≤Q)(hE:E≤F):JV2 f a b s p u H rem Q F:=by
 apply Y 0x260f;intro sec oth g h1 h2 h3 h4 h5 h6;exact Zm 0x4e1f
theorem JC2.mono {u H Q F:Nat}(h:JC2 f a b s t G rem P E)(ht:t≤u)(hG:G≤H)(hP:P≤Q)(hE:E≤F):JC2 f a b s u H rem Q F:=by
 apply Y 0x260f;intro sec oth g h1 h2 h3 h4 h5 h6;exact Zm 0x4e1f
theorem SameJ.jc2 (S:SameJ f h a b)(H:JC2 f a b s t G rem P E):JC2 h a b s t G rem P E:=by
 obtain ⟨sec,oth,g,h1,h2,h3,h4,h5,h6⟩:=H;have T:=S.of h1;exact ⟨sec,oth,g,h1,h2,T.jb h3,T.o1 h4,by rw [T.plc,T.sc];exact h5,by rw [T.plc,T.sc];exact h6⟩
theorem JV2.go (h:JV2 f a b s p t G rem P E)(hG:G+1<4294967296)(hpl:p.length=9)(hr:aN p=true)(hsp:s≠p)(hm:1≤rem)(hw:f.wear.getD a.toNat 0<f.limit∧f.wear.getD b.toNat 0<f.limit):
    (aO f a b p).e=0∧(aO f a b p).done=false∧ao f (aO f a b p).x=0∧((aO f a b p).x.sec=a∨(aO f a b p).x.sec=b)∧
    (∀ mk:Nat→UInt8,JV (aS f (aO f a b p).x mk) a b s p (t+1) G 3∨JC (aS f (aO f a b p).x mk) a b p t (G+1))∧
    ∀ mk:Nat→UInt8,(∀ i,mk i=255)→∃ Q F,Q+1≤P∧F+(if (aO f a b p).x.kind=1 then 1 else 0)≤E∧
      (JV2 (aS f (aO f a b p).x mk) a b s p t G rem Q F∨JC2 (aS f (aO f a b p).x mk) a b p t (G+1) (rem-1) Q F):=by
 apply Y 0x260f;intro sec oth g hp hg J O hP hE;have hF:=J.find (J.ogen O oe) hp;have hk:=DG f sec oth g;have hle:=DH f sec oth g;have hpr:(oth=a∧sec=b∨oth=b∧sec=a):=by rcases hp with ⟨x,y⟩|⟨x,y⟩;exact .inr ⟨y,x⟩;exact .inl ⟨y,x⟩
 have hjm:jmu f sec oth g s p=if (scJ f sec oth g).free<bC f then 1 else if dm (av f oth) (al f.size ((g:Int)+1) (ak p))=true then 1 else 1+tMu f oth (al f.size 0 (ak p)):=if_neg hsp;have hsl:=cB hr;apply Y 0x610f;intro hz;have hw1:1≤bC f:=jQ hz;have hs1:sec=a∨sec=b:=by rcases hp with ⟨x,_⟩|⟨x,_⟩;exact .inl x;exact .inr x
 have hs2:oth=a∨oth=b:=by rcases hp with ⟨_,x⟩|⟨_,x⟩;exact .inr x;exact .inl x
 by_cases hfr:(scJ f sec oth g).free<bC f
 ·rw [if_pos hfr] at hjm;have O':O1 f oth g:=by
   rcases O with O|O
   ·exact O
   have:=O.1
   omega
  have hx:=AK (f:=f) (a:=a) (b:=b) (s:=p) hF.symm J.fnd hr obP hfr;rw [hk.1] at hx;have hn:aO f a b p=⟨⟨2,sec,8+30*((scJ f sec oth g).free:Int),ak p⟩,false,0⟩:=by
   rw [hx]
   unfold ec;rw [if_neg (by rw [J.sd];exact Bool.false_ne_true)]
  have A:=fun mk=>KI (mk:=mk) J hpl hr rfl hfr
  have hE0:=(A (fun _=>0)).1;rw [hn];refine ⟨rfl,rfl,hE0,hs1,fun mk=>?_,fun mk hmk=>?_⟩
  ·obtain ⟨_,h1,h2⟩:=A mk
   dsimp only
   rcases h1 with ⟨u,hu,hb,hnw⟩|hb
   ·refine .inl ⟨sec,oth,g,hp,hg,hb.mono oe,.inl ?_,jm ..⟩
    unfold O1;rw [h2]
    exact O'
   refine .inr ⟨sec,oth,g,hp,by omega,hb,?_⟩
   unfold O1;rw [h2]
   exact O'
  obtain ⟨_,h1,h2⟩:=A mk;have hfe:=uL J hpl hr rfl hfr hmk;apply Y 0xec0f;intro K;have hpc:bC (aS f ⟨2,sec,8+30*((scJ f sec oth g).free:Int),ak p⟩ mk)=bC f:=Qg
  dsimp only
  rcases h1 with ⟨u,hu,hb,hnw⟩|hb
  ·exact absurd hmk hnw
  have e1:=EA (w:=bC f) (rem:=rem) (q:=bC f-(scJ f sec oth g).free) (m:=jmu f sec oth g s p) hm oe;have e2:=EC (w:=bC f) (rem:=rem) (q:=bC f-(scJ f sec oth g).free) (m:=jmu f sec oth g s p) hm oe;refine ⟨jpt (bC f) (rem-1) (bC f-(scJ f sec oth g).free-1) 3,jet (bC f) (rem-1) (bC f-(scJ f sec oth g).free-1) 3,by omega,?_,.inr ⟨sec,oth,g,hp,by omega,hb,?_,?_,?_⟩⟩
  ·rw [if_neg ob]
   omega
  ·unfold O1;rw [h2]
   exact O'
  ·rw [hpc,hfe,Nat.sub_sub];exact Zm 0x83e
  rw [hpc,hfe,Nat.sub_sub];exact Zm 0x83e
 ·rw [if_neg hfr] at hjm;have hfe:(scJ f sec oth g).free=bC f:=oe;rw [hfe,Nat.sub_self] at hP hE
  cases hrd:dm (av f oth) (al f.size ((g:Int)+1) (ak p)) with
  |true=>
   rw [if_pos hrd] at hjm;have hx:=AJ (f:=f) (a:=a) (b:=b) (s:=p) hF.symm J.fnd hr obP hfr (by rw [hk.2.1,hk.2.2];exact hrd);rw [hk.2.1,hk.2.2,df,show ((g:Int)+1)=((g+1:Nat):Int) by push_cast;rfl,dA oe] at hx;have hn:aO f a b p=⟨⟨2,oth,0,ed (g+1)⟩,false,0⟩:=by
    rw [hx]
    unfold ec;rw [if_neg (by rw [J.od];exact Bool.false_ne_true)]
   unfold dm at hrd;rw [Bool.and_eq_true,df,eC,show ((g:Int)+1)=((g+1:Nat):Int) by push_cast;rfl,dA oe] at hrd;have B:=fun mk=>KH (mk:=mk) J oe hpl hr rfl hfe hrd.2 (eq_of_beq hrd.1)
   have hE0:=(B (fun _=>0)).1;rw [hn];refine ⟨rfl,rfl,hE0,hs2,fun mk=>?_,fun mk hmk=>?_⟩
   ·dsimp only
    rcases (B mk).2 with ⟨h1,h2,hnw⟩|⟨h1,h2⟩
    ·exact .inl ⟨sec,oth,g,hp,hg,h1.mono oe,.inr h2,jm ..⟩
    exact .inr ⟨oth,sec,g+1,hpr,by omega,h1,h2⟩
   apply Y 0xec0f;intro K;have hpc:bC (aS f ⟨2,oth,0,ed (g+1)⟩ mk)=bC f:=Qg
   dsimp only
   rcases (B mk).2 with ⟨h1,h2,hnw⟩|⟨h1,h2⟩
   ·exact absurd hmk hnw
   have hfo:=uK (mk:=mk) J hpl hr rfl (eq_of_beq hrd.1) h1.head;have e1:=Kg (w:=bC f) (rem:=rem) (m:=jmu f sec oth g s p) hw1 hm oe;have e2:=Kh (w:=bC f) (rem:=rem) (m:=jmu f sec oth g s p) hw1 hm;refine ⟨jpt (bC f) (rem-1) (bC f-1) 3,jet (bC f) (rem-1) (bC f-1) 3,by omega,?_,.inr ⟨oth,sec,g+1,hpr,by omega,h1,h2,?_,?_⟩⟩
   ·rw [if_neg ob]
    omega
   ·rw [hpc,hfo];exact Zm 0x83e
   rw [hpc,hfo];exact Zm 0x83e
  |false=>
   rw [if_neg (by rw [hrd];exact Bool.false_ne_true)] at hjm;have O':O1 f oth g:=by
    rcases O with O|⟨_,h1,_,h2⟩
    ·exact O
    exfalso
    unfold dm at hrd;rw [df,eC,show ((g:Int)+1)=((g+1:Nat):Int) by push_cast;rfl,dA oe,h1,h2,beq_self_eq_true] at hrd
    cases hrd
   have hx:=AI (f:=f) (a:=a) (b:=b) (s:=p) hF.symm J.fnd hr obP hfr (by rw [hk.2.1,hk.2.2];exact hrd);rw [hk.2.1] at hx;apply Y 0x371f;intro hwl;have hne:av f oth≠al f.size 0 (ak p):=by
    intro e
    unfold dm at hrd;rw [e,df,eC,eC,beq_self_eq_true,show ((g:Int)+1)=((g+1:Nat):Int) by push_cast;rfl,dA oe] at hrd;rw [show bL (al f.size 0 (ak p)) (ed (g+1)) 8=true from c5 fun i hi=>by
     rw [← bu hi,df,show su 0=List.replicate 8 255 from rfl,bO _ _ _ _ hi]
     exact eO _] at hrd
    cases hrd
   have hwo:f.wear.getD oth.toNat 0<f.limit:=by rcases hs2 with rfl|rfl;exact hw.1;exact hw.2
   have Cc:=fun mk=>KG (mk:=mk) J O' hr rfl hwo
   have hE0:=(Cc (fun _=>0)).1;have hn:aO f a b p=⟨bQ f oth (al f.size 0 (ak p)),false,0⟩:=by
    rw [hx]
    exact gO J.tr hwl hne hE0
   have htm:tMu f oth (al f.size 0 (ak p))=if gq (av f oth) (al f.size 0 (ak p)) f.size=true then 1 else 2:=if_neg hne;rw [hn];refine ⟨rfl,rfl,hE0,by rw [c6];exact hs2,fun mk=>?_,fun mk hmk=>?_⟩
   ·obtain ⟨_,h1,h2,h3⟩:=Cc mk
    dsimp only
    exact .inl ⟨sec,oth,g,hp,hg,h1.mono oe,.inl h2,jm ..⟩
   obtain ⟨_,h1,h2,h3⟩:=Cc mk
   dsimp only;apply Y 0xec0f;intro K;have hpc:bC (aS f (bQ f oth (al f.size 0 (ak p))) mk)=bC f:=Qg;have hlt:tMu (aS f (bQ f oth (al f.size 0 (ak p))) mk) oth (al f.size 0 (ak p))<tMu f oth (al f.size 0 (ak p)):=by
    have:=m6 (f:=f) J.tr hwl (by rw [gO J.tr hwl hne hE0];exact fun h=>by rcases h with h|h;cases h;exact h rfl);rw [gO J.tr hwl hne hE0] at this
    rwa [fV (mk':=fun _=>255) (fun i _=>hmk i)]
   have hj:jmu (aS f (bQ f oth (al f.size 0 (ak p))) mk) sec oth g s p≤1+tMu (aS f (bQ f oth (al f.size 0 (ak p))) mk) oth (al f.size 0 (ak p))∧(tMu (aS f (bQ f oth (al f.size 0 (ak p))) mk) oth (al f.size 0 (ak p))=0→jmu (aS f (bQ f oth (al f.size 0 (ak p))) mk) sec oth g s p≤1):=by
    unfold jmu;rw [if_neg hsp,h3,hpc,if_neg hfr,K.s]
    split
    ·exact ⟨by omega,fun _=>Nat.le_refl _⟩
    exact ⟨Nat.le_refl _,fun h=>by rw [h];exact Nat.le_refl _⟩
   have h2m:=gT f oth (al f.size 0 (ak p));have e1:=N6 (w:=bC f) (rem:=rem) (k:=jmu (aS f (bQ f oth (al f.size 0 (ak p))) mk) sec oth g s p) (m:=jmu f sec oth g s p) hw1 hm oe;have e2:=N7 (w:=bC f) (rem:=rem) (k:=jmu (aS f (bQ f oth (al f.size 0 (ak p))) mk) sec oth g s p) (m:=jmu f sec oth g s p) hw1 hm oe;refine ⟨jpt (bC f) rem 0 (jmu (aS f (bQ f oth (al f.size 0 (ak p))) mk) sec oth g s p),jet (bC f) rem 0 (jmu (aS f (bQ f oth (al f.size 0 (ak p))) mk) sec oth g s p),by omega,?_,.inl ⟨sec,oth,g,hp,hg,h1,.inl h2,?_,?_⟩⟩
   ·split
    ·rename_i hkd;have h3m:jmu f sec oth g s p=3:=by
      cases hb:gq (av f oth) (al f.size 0 (ak p)) f.size with
      |true=>rw [show (bQ f oth (al f.size 0 (ak p)))=⟨2,oth,0,al f.size 0 (ak p)⟩ from fq hb] at hkd;cases hkd
      |false=>rw [hb] at htm;rw [if_neg Bool.false_ne_true] at htm;omega
     rw [h3m] at hE
     omega
    omega
   ·rw [hpc,h3,hfe,Nat.sub_self];exact Zm 0x83e
   rw [hpc,h3,hfe,Nat.sub_self];exact Zm 0x83e
theorem JV2.find (h:JV2 f a b s p t G rem P E)(hG:G+1<4294967296):(aY f a b).found=true∧(aY f a b).s=s∧(aY f a b).torn≤t:=h.jv.find hG
theorem JC2.find (h:JC2 f a b s t G rem P E)(hG:G+1<4294967296):(aY f a b).found=true∧(aY f a b).s=s∧(aY f a b).torn≤t:=h.jc.find hG
end
theorem AX (o m:UInt8):kS o o m=o:=by
 apply UInt8.eq_of_toBitVec_eq
 unfold kS
 ext i hi
 simp only [UInt8.toBitVec_or,UInt8.toBitVec_and,UInt8.toBitVec_not,BitVec.getElem_or,BitVec.getElem_and,BitVec.getElem_not]
 cases o.toBitVec[i]<;>cases m.toBitVec[i]<;>rfl
theorem wa {o d m:UInt8}(h:o&&&d=d):kS o (o&&&d) m&&&d=d:=by
 rw [h]
 apply UInt8.eq_of_toBitVec_eq
 unfold kS
 ext i hi;have h':=congrArg (fun x:UInt8=>x.toBitVec[i]) h
 simp only [UInt8.toBitVec_or,UInt8.toBitVec_and,UInt8.toBitVec_not,BitVec.getElem_or,BitVec.getElem_and,BitVec.getElem_not] at h' ⊢
 cases ho:o.toBitVec[i]<;>cases hd:d.toBitVec[i]<;>cases m.toBitVec[i]<;>rw [ho,hd] at h'<;>first|rfl|cases h'
theorem uB {p:Nat→Bool}{m t s:Nat}(h:(List.range m).find? p=some t)(hs:s<t):p s=false:=by
 cases hp:p s with
 |false=>rfl
 |true=>
  have htm:=(eS h).1
  cases hf:(List.range (s+1)).find? p with
  |none=>exact absurd hp (List.find?_eq_none.1 hf s (List.mem_range.2 oe))
  |some t'=>
   have h1:=(eS hf).1;rw [k7 hf oe] at h
   injection h with h
   omega
theorem KT (x:UInt8):255&&&x=x:=by
 apply UInt8.eq_of_toBitVec_eq
 show (BitVec.allOnes 8)&&&x.toBitVec=x.toBitVec
 exact BitVec.allOnes_and
def byt (g:Fl)(us:List Int)(s k:Nat):UInt8:=(g.data.getD (us.getD s 0).toNat []).getD k 0
def Fz (us:List Int):Prop:=∀ s t,s<us.length→t<us.length→(us.getD s 0).toNat=(us.getD t 0).toNat→s=t
theorem lq {g:Fl}{us:List Int}{p s:Nat}{b:List UInt8}(ok:g.Ok)(hu:UOk g us)(hs:s<us.length):
    cZ (aR g us) b p g.size s=false↔∀ k,k<g.size→p≤s*g.size+k→s*g.size+k<p+b.length→byt g us s k=b.getD (s*g.size+k-p) 0:=by
 have hA:=j5 ok hu;have hm:(s+1)*g.size≤us.length*g.size:=Nat.mul_le_mul_right _ hs;have e1:(s+1)*g.size=s*g.size+g.size:=Nat.succ_mul _ _
 by_cases hf:frm p g.size s<too p g.size b.length s
 ·have hcl:=il (b:=b) (p:=p) (z:=g.size) (s:=s) oe;have hfr:s*g.size≤frm p g.size s∧p≤frm p g.size s∧too p g.size b.length s≤s*g.size+g.size∧too p g.size b.length s≤p+b.length:=by unfold frm too;omega
  constructor
  ·intro h k hk h1 h2;have he:((aR g us).drop (frm p g.size s)).take (too p g.size b.length s-frm p g.size s)=bJ b p g.size s:=by
    by_cases hc:((aR g us).drop (frm p g.size s)).take (too p g.size b.length s-frm p g.size s)=bJ b p g.size s
    ·exact hc
    rw [lh hf hc] at h
    cases h
   have hq:frm p g.size s≤s*g.size+k∧s*g.size+k<too p g.size b.length s:=by unfold frm too;omega
   have e:=congrArg (fun l=>l.getD (s*g.size+k-frm p g.size s) (0:UInt8)) he;rw [iq oe] at e;rw [show frm p g.size s-p+(s*g.size+k-frm p g.size s)=s*g.size+k-p from by omega] at e;rw [← e,byt,← fZ ok hu hs hk];apply Y 0x1b0f;rw [if_pos oe,show frm p g.size s+(s*g.size+k-frm p g.size s)=s*g.size+k from by omega]
  intro h;refine ll (aF (d:=0) (by rw [hcl,List.length_take,List.length_drop];omega) (fun j hj=>?_));rw [List.length_take,List.length_drop] at hj;rw [iq oe];have:=h (frm p g.size s+j-s*g.size) oe oe oe;rw [byt,← fZ ok hu hs oe,show s*g.size+(frm p g.size s+j-s*g.size)=frm p g.size s+j from by omega,show frm p g.size s+j-p=frm p g.size s-p+j from by omega] at this;rw [← this];apply Y 0x1b0f;rw [if_pos oe]
 refine ⟨fun _ k hk h1 h2=>absurd ?_ hf,fun _=>dM hf⟩
 unfold frm too
 omega
structure Tw (f:Fl)(us:List Int)(p:Nat)(b:List UInt8)(g:Fl):Prop where
  ok:g.Ok
  size:g.size=f.size
  wear:g.wear=f.wear
  limit:g.limit=f.limit
  dead:g.dead=f.dead
  dl:g.data.length=f.data.length
  out:∀ i,(∀ s,s<us.length→(us.getD s 0).toNat≠i)→g.data.getD i []=f.data.getD i []
  inn:∀ s k,s<us.length→k<f.size→p≤s*f.size+k→s*f.size+k<p+b.length→byt g us s k&&&b.getD (s*f.size+k-p) 0=b.getD (s*f.size+k-p) 0
  oth:∀ s k,s<us.length→k<f.size→¬(p≤s*f.size+k∧s*f.size+k<p+b.length)→byt g us s k=byt f us s k
section
variable {f g:Fl}{us:List Int}{p:Nat}{b:List UInt8}
theorem place {z p n m:Nat}(hz:1≤z)(h:p+n≤m*z){i:Nat}(hi:i<n):(p+i)/z<m∧(p+i)%z<z∧(p+i)/z*z+(p+i)%z=p+i:=by
 have h1:=Nat.div_add_mod (p+i) z;rw [Nat.mul_comm] at h1;exact ⟨(Nat.div_lt_iff_lt_mul oe).2 oe,Nat.mod_lt _ oe,h1⟩
theorem Tw.okN (h:Tw f us p b g)(hu:UOk f us)(hr:p+b.length≤us.length*f.size):okN (aR g us) b p b.length=true:=by
 have hz:=h.ok.s1;rw [h.size] at hz
 simp only [Sl.okN,List.all_eq_true,List.mem_range,beq_iff_eq];intro i hi;obtain ⟨h1,h2,h3⟩:=place hz hr hi;have:=h.inn _ _ h1 h2 oe oe;rw [byt,← fZ h.ok (hu.of h.dl) h1 (by rw [h.size];exact h2),h.size,h3,show p+i-p=i from by omega] at this
 exact this
theorem Tw.bad (h:Tw f us p b g)(hr:p+b.length≤us.length*f.size):¬cQ g us (p:Int) b:=by
 unfold cQ;rw [h.size]
 omega
theorem Tw.stepL (h:Tw f us p b g)(hu:UOk f us)(nd:Fz us)(hd:∀ s,s<us.length→f.dead.getD (us.getD s 0).toNat false=false){s:Nat}(hs:s<us.length)(hf:frm p f.size s<too p f.size b.length s)(mk:Nat→UInt8):
    ao g (iF g us b p s)=0∧Tw f us p b (dw g (iF g us b p s) mk)∧
      (∀ t k,t<us.length→k<f.size→byt (dw g (iF g us b p s) mk) us t k=if s=t∧p≤s*f.size+k∧s*f.size+k<p+b.length then kS (byt g us s k) (b.getD (s*f.size+k-p) 0) (mk k) else byt g us t k):=by
 have hz:=h.ok.s1;have hus:=hu.r s hs;have hsz:=h.size;have hcl:=il (b:=b) (p:=p) (z:=f.size) (s:=s) oe;have hfr:s*f.size≤frm p f.size s∧p≤frm p f.size s∧too p f.size b.length s≤s*f.size+f.size∧too p f.size b.length s≤p+b.length:=by
  unfold frm too;rw [Nat.succ_mul]
  omega
 have eX:iF g us b p s=⟨2,us.getD s 0,((frm p f.size s-s*f.size:Nat):Int),bJ b p f.size s⟩:=by unfold iF;rw [hsz]
 have hE:ao g (iF g us b p s)=0:=by
  rw [eX];refine iw (.inr rfl) ⟨hus.1,?_,fun _=>⟨?_,?_,?_⟩⟩ ?_ ?_
  ·rw [h.dl]
   dsimp only
   omega
  ·dsimp only
   omega
  ·dsimp only;rw [hsz]
   omega
  ·dsimp only;rw [hsz,hcl]
   omega
  ·rw [h.dead]
   exact hd s hs
  rintro ⟨h1,_⟩
  cases h1
 have hgl:(us.getD s 0).toNat<g.data.length:=by rw [h.dl];omega
 have hby:∀ t k,t<us.length→k<f.size→byt (dw g (iF g us b p s) mk) us t k=if s=t∧p≤s*f.size+k∧s*f.size+k<p+b.length then kS (byt g us s k) (b.getD (s*f.size+k-p) 0) (mk k) else byt g us t k:=by
  intro t k ht hk
  by_cases hst:s=t
  ·subst hst;have e1:byt (dw g (iF g us b p s) mk) us s k=kS (byt g us s k) (w9 (iF g us b p s) k (byt g us s k)) (mk k):=by
    show ((g.data.set (iF g us b p s).sec.toNat (ji g (iF g us b p s) mk)).getD (us.getD s 0).toNat []).getD k 0=_;rw [show (iF g us b p s).sec=us.getD s 0 from rfl,aT hgl,ji,ai oe]
    rfl
   rw [e1,eX]
   by_cases hq:p≤s*f.size+k∧s*f.size+k<p+b.length
   ·have hq2:frm p f.size s≤s*f.size+k∧s*f.size+k<too p f.size b.length s:=by
     unfold frm too;rw [Nat.succ_mul]
     omega
    rw [if_pos ⟨rfl,hq⟩,lG oa6 ou]
    dsimp only;rw [show ((k:Int)-((frm p f.size s-s*f.size:Nat):Int)).toNat=s*f.size+k-frm p f.size s from by omega,iq oe,show frm p f.size s-p+(s*f.size+k-frm p f.size s)=s*f.size+k-p from by omega,h.inn s k hs hk hq.1 hq.2]
   ·rw [if_neg (by rintro ⟨_,h1⟩;exact hq h1),iA oa6 (by
     dsimp only
     unfold frm too at*;rw [Nat.succ_mul] at*
     omega),AX]
  rw [if_neg (by rintro ⟨h1,_⟩;exact hst h1)]
  show ((g.data.set (us.getD s 0).toNat (ji g (iF g us b p s) mk)).getD (us.getD t 0).toNat []).getD k 0=_;rw [getD_set_ne (fun e=>hst (nd s t hs ht e))]
  rfl
 refine ⟨hE,⟨BW h.ok hE mk,h.size,?_,h.limit,h.dead,by rw [ba];exact h.dl,fun i hi=>?_,fun t k ht hk h1 h2=>?_,fun t k ht hk h1=>?_⟩,hby⟩
 ·show (if (iF g us b p s).kind=1 then g.wear.set (iF g us b p s).sec.toNat (g.wear.getD (iF g us b p s).sec.toNat 0+1) else g.wear)=_;rw [if_neg (by show ¬(2:Int)=1;decide)]
  exact h.wear
 ·rw [← h.out i hi]
  show (g.data.set (us.getD s 0).toNat (ji g (iF g us b p s) mk)).getD i []=_;rw [getD_set_ne (hi s hs)]
 ·rw [hby t k ht hk]
  split
  ·rename_i h3;obtain ⟨rfl,_⟩:=h3;have:=h.inn s k hs hk h1 h2
   conv=>lhs;lhs;arg 2;rw [← this]
   exact wa this
  exact h.inn t k ht hk h1 h2
 rw [hby t k ht hk,if_neg (by rintro ⟨rfl,h3⟩;exact h1 h3)]
 exact h.oth t k ht hk h1
theorem Tw.done1L (h:Tw f us p b g)(hu:UOk f us)(nd:Fz us)(hd:∀ s,s<us.length→f.dead.getD (us.getD s 0).toNat false=false){s:Nat}(hs:s<us.length)(hn:(List.range us.length).find? (cZ (aR g us) b p g.size)=some s):
    (List.range (s+1)).find? (cZ (aR (dw g (iF g us b p s) (fun _=>255)) us) b p g.size)=none:=by
 have hsz:=h.size;have hf:frm p f.size s<too p f.size b.length s:=by
  have:=(eS hn).2;rw [← hsz]
  by_cases hc:frm p g.size s<too p g.size b.length s
  ·exact hc
  rw [dM hc] at this
  cases this
 obtain ⟨h1,h2,h3⟩:=h.stepL hu nd hd hs hf (fun _=>255);apply Y 0x440f;intro t ht;have ht':=List.mem_range.1 ht;have ht2:t<us.length:=oe;have key:=(lq (p:=p) (b:=b) h2.ok (hu.of h2.dl) ht2).2 (fun k hk hq1 hq2=>by
  have hk':k<f.size:=by rw [← hsz];exact hk
  rw [h3 t k ht2 hk']
  by_cases hst:s=t
  ·subst hst
   have hq1':p≤s*f.size+k:=by rw [← hsz];exact hq1
   have hq2':s*f.size+k<p+b.length:=by rw [← hsz];exact hq2
   rw [if_pos ⟨rfl,hq1',hq2'⟩,fv,← hsz]
   rfl
  ·rw [if_neg (by rintro ⟨h4,_⟩;exact hst h4)]
   have hno:cZ (aR g us) b p g.size t=false:=by
    have:=uB hn (by omega:t<s)
    exact this
   exact (lq h.ok (hu.of h.dl) ht2).1 hno k (by rw [hsz];exact hk') hq1 hq2)
 rw [show (dw g (iF g us b p s) (fun _=>255)).size=g.size from rfl] at key;rw [key]
 decide
theorem Tw.towL (h:Tw f us p b g)(hu:UOk f us)(hd:∀ s,s<us.length→f.dead.getD (us.getD s 0).toNat false=false)(hr:p+b.length≤us.length*f.size):
    ((List.range us.length).find? (cZ (aR g us) b p g.size)=none∧towS g us (p:Int) b=⟨fo0,true,0⟩)∨
    ∃ s,s<us.length∧frm p f.size s<too p f.size b.length s∧(List.range us.length).find? (cZ (aR g us) b p g.size)=some s∧towS g us (p:Int) b=⟨iF g us b p s,false,0⟩:=by
 have h1:=h.bad hr;have h2:=h.okN hu hr
 cases hn:(List.range us.length).find? (cZ (aR g us) b p g.size) with
 |none=>exact .inl ⟨rfl,pP h1 h2 hn⟩
 |some s=>
  refine .inr ⟨s,(eS hn).1,?_,rfl,pO h1 h2 hn (by rw [h.dead];exact hd _ (eS hn).1)⟩;have:=(eS hn).2;rw [← h.size]
  by_cases hc:frm p g.size s<too p g.size b.length s
  ·exact hc
  rw [dM hc] at this
  cases this
end
section
variable {f:Fl}{us:List Int}{p:Nat}{b:List UInt8}
end
section
variable (b:List UInt8)(ls:List (List (UInt8×UInt8)))(f:Fl)(us:List Int)
variable {b ls f us}
theorem z7 (x:UInt8)(old:List UInt8)(s:List (Nat×Nat)):(l7 x old s).length=(iG x old s s.length).length+2∧(l7 x old s).drop ((l7 x old s).length-2)=tw ((iG x old s s.length).length+2):=by
 have h1:(l7 x old s).length=(iG x old s s.length).length+2:=by simp [l7,tw]
 refine ⟨h1,?_⟩;rw [h1,Nat.add_sub_cancel]
 exact List.drop_left
theorem Ey {A:List UInt8}{i e z:Nat}{o w r:List UInt8}(hi:i<64)(h:r=iQ (i:Int) o w)(hl:o.length=w.length)(h1:1≤o.length)(h2:o.length≤4096)(hz:o.length≤z)(hz2:z<65536)(he:e+r.length≤A.length)
    (hA:∀ q,q<r.length→A.getD (e+q) 0=r.getD q 0):bG A (z:Int) ((e+r.length:Nat):Int)=⟨r,(e:Int),0⟩:=by
 have rI:=RecIs.of h hi hl h1 h2;have hB:¬cV (i:Int) o w:=Ql;have hr:r=l7 (UInt8.ofInt (i:Int)) o (aA o w o.length):=by rw [h,gz hB]
 obtain ⟨t1,t2⟩:=z7 (UInt8.ofInt (i:Int)) o (aA o w o.length);rw [← hr] at t1 t2;have hle:=rI.le;have hlen:=rI.len;have hbe:be2 (A.drop (e+r.length-2))=r.length:=by
  have e1:be2 (r.drop (r.length-2))=r.length:=by
   rw [t2,← t1];have:=te (n:=r.length) oe []
   rwa [List.append_nil] at this
  rw [show A.drop (e+r.length-2)=A.drop (e+(r.length-2)) from by rw [Nat.add_sub_assoc oe]];refine Eq.trans ?_ e1
  unfold be2
  simp only [List.getD_eq_getElem?_getD,List.getElem?_drop];have g0:=hA (r.length-2) oe;have g1:=hA (r.length-2+1) oe
  simp only [List.getD_eq_getElem?_getD] at g0 g1
  simp only [Nat.add_zero];rw [Nat.add_assoc,g0,g1]
 have hlb:fa A (e+r.length)=r:=by
  unfold fa;rw [hbe,Nat.add_sub_cancel];refine aF (d:=0) qt (fun q hq=>?_);rw [List.length_take,List.length_drop] at hq;rw [← hA q oe];apply Y 0x1b0f;rw [if_pos oe]
 have hp:bS r (z:Int)≠none:=by
  rw [hr,rT (by rw [vS hi];exact hi) h2 hz hz2]
  exact Option.some_ne_none _
 have hn:((e+r.length:Nat):Int).toNat=e+r.length:=Int.toNat_natCast _;have hbad:¬cx A (z:Int) ((e+r.length:Nat):Int):=by
  unfold cx;rw [hn,hbe,hlb];rintro (q|q|q|q)
  ·omega
  ·omega
  ·omega
  exact hp q
 unfold bG;rw [if_neg hbad,hn,hbe,hlb]
 congr 1
 omega
end
section
variable {f:Fl}{sec:Int}{want:List UInt8}
theorem yE (hs:0≤sec∧sec<(f.data.length:Int))(hw:want.length=f.size)(hd:f.dead.getD sec.toNat false=false)(hl:f.wear.getD sec.toNat 0<f.limit):
    (av f sec=want∧aM f sec want=⟨fo0,true,0⟩)∨(av f sec≠want∧aM f sec want=⟨bQ f sec want,false,0⟩∧ao f (bQ f sec want)=0):=by
 by_cases h:av f sec=want
 ·exact .inl ⟨h,u6 hs hw h⟩
 have hE:ao f (bQ f sec want)=0:=by
  cases hb:gq (f.data.getD sec.toNat []) want f.size with
  |true=>rw [fq hb];exact eV hs hd ⟨Int.le_refl _,by omega⟩
  |false=>rw [fo hb];exact ir hs hd oe
 exact .inr ⟨h,gO hs hw h hE,hE⟩
theorem me (hs:0≤sec∧sec<(f.data.length:Int))(hw:want.length=f.size):
    (av f sec=want∧aM f sec want=⟨fo0,true,0⟩)∨(av f sec≠want∧aM f sec want=⟨bQ f sec want,false,0⟩∧ao f (bQ f sec want)=0)∨(av f sec≠want∧((aM f sec want).e=171∨(aM f sec want).e=172)):=by
 by_cases h:av f sec=want
 ·exact .inl ⟨h,u6 hs hw h⟩
 apply Y 0x510f;intro hin
 by_cases hd:f.dead.getD sec.toNat false=false
 ·by_cases hl:f.wear.getD sec.toNat 0=f.limit∧gq (f.data.getD sec.toNat []) want f.size=false
  ·refine .inr (.inr ⟨h,.inr ?_⟩);have hE:ao f (bQ f sec want)=172:=by
    rw [fo hl.2]
    exact pg (.inl rfl) ⟨hs.1,by dsimp only;omega,fun h=>by cases h⟩ hd ⟨rfl,hl.1⟩
   rw [kg hin h rfl oai]
   exact hE
  have hE:ao f (bQ f sec want)=0:=by
   cases hb:gq (f.data.getD sec.toNat []) want f.size with
   |true=>rw [fq hb];exact eV hs hd ⟨Int.le_refl _,by omega⟩
   |false=>rw [fo hb];exact ir hs hd (fun e=>hl ⟨e,hb⟩)
  exact .inr (.inl ⟨h,gO hs hw h hE,hE⟩)
 refine .inr (.inr ⟨h,.inl ?_⟩);have hE:ao f (bQ f sec want)=171:=by
  cases hb:gq (f.data.getD sec.toNat []) want f.size with
  |true=>rw [fq hb];exact c8 (.inr rfl) ⟨hs.1,by dsimp only;omega,fun _=>by dsimp only;omega⟩ obV
  |false=>rw [fo hb];exact c8 (.inl rfl) ⟨hs.1,by dsimp only;omega,fun h=>by cases h⟩ obV
 rw [kg hin h rfl oai]
 exact hE
def tEr (f:Fl)(sec:Int)(want:List UInt8):Nat:=if tMu f sec want=2 then 1 else 0
theorem pR (f:Fl)(sec:Int)(want:List UInt8):tEr f sec want≤1:=by unfold tEr;split<;>decide
theorem gP (hs:0≤sec∧sec<(f.data.length:Int))(hw:want.length=f.size)(hne:av f sec≠want)(hE:ao f (bQ f sec want)=0){mk:Nat→UInt8}(hmk:∀ i,mk i=255):
    tMu (aS f (bQ f sec want) mk) sec want+1≤tMu f sec want∧tEr (aS f (bQ f sec want) mk) sec want+(if (bQ f sec want).kind=1 then 1 else 0)≤tEr f sec want:=by
 have hlt:tMu (aS f (bQ f sec want) mk) sec want<tMu f sec want:=by
  have:=m6 (f:=f) hs hw (by rw [gO hs hw hne hE];exact fun h=>by rcases h with h|h;cases h;exact h rfl);rw [gO hs hw hne hE] at this
  rwa [fV (mk':=fun _=>255) (fun i _=>hmk i)]
 have h2:=gT f sec want;refine ⟨hlt,?_⟩;have hE':tEr (aS f (bQ f sec want) mk) sec want=0:=by
  unfold tEr;rw [if_neg oe]
 rw [hE']
 split
 ·rename_i hk
  cases hb:gq (f.data.getD sec.toNat []) want f.size with
  |true=>rw [fq hb] at hk;cases hk
  |false=>
   unfold tEr tMu av;rw [if_neg (show ¬f.data.getD sec.toNat []=want from hne),hb]
   decide
 omega
def bMu (f:Fl)(sec:Int):Nat:=if av f sec=List.replicate f.size 255 then 0 else 1
theorem GG (f:Fl)(sec:Int):bMu f sec≤1:=by unfold bMu;split<;>decide
theorem Sv (ok:f.Ok)(hs:0≤sec∧sec<(f.data.length:Int))(hne:av f sec≠List.replicate f.size 255):bQ f sec (List.replicate f.size 255)=⟨1,sec,0,[]⟩:=by
 cases hb:gq (f.data.getD sec.toNat []) (List.replicate f.size 255) f.size with
 |false=>exact fo hb
 |true=>
  have hl:(av f sec).length=f.size:=ok.rows _ oe;refine absurd (aF (d:=0) (by rw [hl,List.length_replicate]) fun i hi=>?_) hne;have h1:=vb hb (i:=i) oe;rw [bO _ _ _ _ oe] at h1 ⊢;have h2:(av f sec).getD i 0&&&255=(av f sec).getD i 0:=by
   refine uO fun j hj=>?_
   have h3:∀ j,(h:j<8)→((255:UInt8).toBitVec)[j]=true:=ob;rw [UInt8.toBitVec_and,BitVec.getElem_and,h3 j hj,Bool.and_true]
  rw [← h2]
  exact h1
theorem KR (ok:f.Ok)(hs:0≤sec∧sec<(f.data.length:Int))(hne:av f sec≠List.replicate f.size 255)(hE:ao f (bQ f sec (List.replicate f.size 255))=0){mk:Nat→UInt8}(hmk:∀ i,mk i=255):
    bMu (aS f (bQ f sec (List.replicate f.size 255)) mk) sec+1≤bMu f sec∧bMu (aS f (bQ f sec (List.replicate f.size 255)) mk) sec+(if (bQ f sec (List.replicate f.size 255)).kind=1 then 1 else 0)≤bMu f sec:=by
 have hx:=Sv ok hs hne;have e:av (aS f (bQ f sec (List.replicate f.size 255)) mk) sec=List.replicate f.size 255:=by
  apply Y 0xd82f
  exact ke hs hx
 apply Y 0xfc0f;intro K;have e1:bMu (aS f (bQ f sec (List.replicate f.size 255)) mk) sec=0:=by
  unfold bMu;rw [K.s,if_pos e]
 have e2:bMu f sec=1:=by
  unfold bMu;rw [if_neg hne]
 rw [e1,e2];refine ⟨Nat.le_refl _,?_⟩
 split<;>omega
end
structure Au (f:Fl)(us:List Int)(R:List UInt8)(p e:Nat):Prop where
  pe:p≤e
  eR:e≤R.length
  el:e≤us.length*f.size
  lo:∀ q,q<p→(aR f us).getD q 0=R.getD q 0
  md:∀ q,p≤q→q<e→(aR f us).getD q 0&&&R.getD q 0=R.getD q 0
  hi:∀ q,e≤q→q<us.length*f.size→(aR f us).getD q 0=255
def auB (R:List UInt8)(p e:Nat):List UInt8:=(R.drop p).take (e-p)
theorem uQ {R:List UInt8}{p e:Nat}(h1:p≤e)(h2:e≤R.length):(auB R p e).length=e-p:=by
 unfold auB;apply Y 0xaa0f
 omega
theorem pz {R:List UInt8}{p e i:Nat}(h:i<e-p):(auB R p e).getD i 0=R.getD (p+i) 0:=by
 unfold auB;rw [bu h,bn]
section
variable {f g:Fl}{us:List Int}{R:List UInt8}{p e:Nat}
theorem Au.len (h:Au f us R p e):(auB R p e).length=e-p:=uQ h.pe h.eR
theorem Au.tw (h:Au f us R p e)(ok:f.Ok)(hu:UOk f us):Tw f us p (auB R p e) f:=by
 have hl:=h.len;have hpe:=h.pe;refine ⟨ok,rfl,rfl,rfl,rfl,rfl,fun _ _=>rfl,fun s k hs hk h1 h2=>?_,fun _ _ _ _ _=>rfl⟩;rw [hl] at h2;rw [pz oe,show p+(s*f.size+k-p)=s*f.size+k from by omega,byt,← fZ ok hu hs hk]
 exact h.md _ h1 oe
def uMu (f:Fl)(us:List Int)(R:List UInt8)(p e:Nat):Nat:=
  match (List.range us.length).find? (cZ (aR f us) (auB R p e) p f.size) with
  |none=>0
  |some s=>(e-1)/f.size+1-s
theorem Jk (hz:1≤f.size):uMu f us R p e≤(e-1)/f.size+1-p/f.size:=by
 unfold uMu
 split
 ·omega
 rename_i s hs;have h1:=(eS hs).2;have hf:frm p f.size s<too p f.size (auB R p e).length s:=by
  by_cases hc:frm p f.size s<too p f.size (auB R p e).length s
  ·exact hc
  rw [dM hc] at h1
  cases h1
 have h2:p/f.size≤s:=by
  have h3:p<(s+1)*f.size:=by unfold frm too at hf;omega
  have:=(Nat.div_lt_iff_lt_mul (show 0<f.size by omega)).2 h3
  omega
 omega
theorem j6 (ok:f.Ok)(hu:UOk f us){h:Fl}(hh:h.Ok)(hs:h.size=f.size)(hn:h.data.length=f.data.length){q:Nat}(hq:q<us.length*f.size):(aR h us).getD q 0=byt h us (q/f.size) (q%f.size):=by
 have hz:=ok.s1;apply Y 0x391f;intro hd;apply Y 0x250f;intro hm;have h1:=fZ hh (hu.of hn) (s:=q/f.size) (k:=q%f.size) hd (by rw [hs];exact hm);rw [hs,Nat.mul_comm,Nat.div_add_mod] at h1
 exact h1
theorem Au.step (h:Au f us R p e)(ok:f.Ok)(hu:UOk f us)(nd:Fz us)(hd:∀ s,s<us.length→f.dead.getD (us.getD s 0).toNat false=false):
    (Au f us R e e∧towS f us (p:Int) (auB R p e)=⟨fo0,true,0⟩∧uMu f us R p e=0)∨
    ∃ x s,s<us.length∧towS f us (p:Int) (auB R p e)=⟨x,false,0⟩∧ao f x=0∧x.sec=us.getD s 0∧x.kind=2∧(∀ mk,Au (aS f x mk) us R p e)∧
      ∀ mk:Nat→UInt8,(∀ i,mk i=255)→uMu (aS f x mk) us R p e+1≤uMu f us R p e:=by
 have hz:=ok.s1;have hl:=h.len;have hpe:=h.pe;have hel:=h.el;have T:=h.tw ok hu
 rcases T.towL hu hd (by rw [hl];omega) with ⟨h1,h2⟩|⟨s,hs,hf,hn,h2⟩
 ·refine .inl ⟨⟨Nat.le_refl _,h.eR,hel,fun q hq=>?_,fun q h3 h4=>absurd h3 oe,h.hi⟩,h2,by unfold uMu;rw [h1]⟩
  by_cases hqp:q<p
  ·exact h.lo q hqp
  have hd:q/f.size<us.length:=(Nat.div_lt_iff_lt_mul oe).2 oe;apply Y 0x250f;intro hm;apply Y 0x291f;intro e1;have hno:cZ (aR f us) (auB R p e) p f.size (q/f.size)=false:=by
   have:=List.find?_eq_none.1 h1 _ (List.mem_range.2 hd)
   simpa using this
  have:=(lq ok hu hd).1 hno (q%f.size) hm oe (by rw [hl];omega);rw [j6 ok hu ok rfl rfl oe,this,pz oe]
  congr 1
  omega
 refine .inr ⟨iF f us (auB R p e) p s,s,hs,h2,?_⟩;have S:=fun mk=>T.stepL hu nd hd hs hf mk
 have hE:=(S (fun _=>0)).1;refine ⟨hE,rfl,rfl,fun mk=>?_,fun mk hmk=>?_⟩
 ·obtain ⟨_,q2,q3⟩:=S mk;rw [bz hE];have hsz:(dw f (iF f us (auB R p e) p s) mk).size=f.size:=rfl;have val:∀ q,q<us.length*f.size→(aR (dw f (iF f us (auB R p e) p s) mk) us).getD q 0=if s=q/f.size∧p≤q∧q<e then kS ((aR f us).getD q 0) (R.getD q 0) (mk (q%f.size)) else (aR f us).getD q 0:=fun q hq=>by
   apply Y 0x391f;intro hd;apply Y 0x250f;intro hm;apply Y 0x291f;intro e1;rw [j6 ok hu q2.ok rfl q2.dl hq,q3 _ _ hd hm,j6 ok hu ok rfl rfl hq]
   by_cases hc:s=q/f.size∧p≤q∧q<e
   ·rw [if_pos hc,if_pos (by rw [hl,hc.1,e1];omega),← hc.1,show s*f.size+q%f.size=q from by rw [hc.1];exact e1,pz oe,show p+(q-p)=q from by omega]
   rw [if_neg hc,if_neg];apply Y 0x7ae;intro h3 h4;refine hc ⟨h3,?_⟩;rw [hl,h3,e1] at h4
   omega
  refine ⟨hpe,h.eR,hel,fun q hq=>?_,fun q h3 h4=>?_,fun q h3 h4=>?_⟩
  ·rw [val q oe,if_neg oe]
   exact h.lo q hq
  ·rw [val q oe]
   split
   ·have:=h.md q h3 h4
    conv=>lhs;lhs;arg 2;rw [← this]
    exact wa this
   exact h.md q h3 h4
  rw [val q h4,if_neg oe]
  exact h.hi q h3 h4
 have D:=T.done1L hu nd hd hs hn;apply Y 0xd82f;have e1:uMu f us R p e=(e-1)/f.size+1-s:=by unfold uMu;rw [hn]
 have hsb:s≤(e-1)/f.size:=by
  have h3:s*f.size<e:=by unfold frm too at hf;rw [hl] at hf;omega
  exact (Nat.le_div_iff_mul_le oe).2 oe
 rw [e1]
 unfold uMu
 split
 ·omega
 rename_i s' hs';have h4:s<s':=by
  rcases Nat.lt_or_ge s s' with h|h
  ·exact h
  have:=List.find?_eq_none.1 D s' (List.mem_range.2 oe)
  exact absurd (eS hs').2 this
 show (e-1)/f.size+1-s'+1≤_
 omega
theorem Au.same {h:Fl}(H:Au f us R p e)(hs:h.size=f.size)(hr:∀ s,s<us.length→h.data.getD (us.getD s 0).toNat []=f.data.getD (us.getD s 0).toNat []):Au h us R p e∧aR h us=aR f us:=by
 have ha:aR h us=aR f us:=by
  unfold aR;have:∀ u∈us,h.data.getD u.toNat []=f.data.getD u.toNat []:=fun u hu=>by
   obtain ⟨i,hi,rfl⟩:=List.getElem_of_mem hu;have:=hr i hi
   rwa [List.getD_eq_getElem?_getD (l:=us),List.getElem?_eq_getElem hi] at this
  rw [List.flatMap_def,List.flatMap_def]
  congr 1
  exact List.map_congr_left this
 refine ⟨⟨H.pe,H.eR,by rw [hs];exact H.el,?_,?_,?_⟩,ha⟩
 ·rw [ha]
  exact H.lo
 ·rw [ha]
  exact H.md
 rw [ha,hs]
 exact H.hi
end
end Go.Sl
