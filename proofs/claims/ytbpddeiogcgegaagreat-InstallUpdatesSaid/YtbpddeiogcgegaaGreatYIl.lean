/-
  Part of a proof.
-/
import Derived.Test.YtbpddeiogcgegaaGreatYIj
import Derived.Test.YtbpddeiogcgegaaGreatYWInW
set_option maxHeartbeats 0
set_option maxRecDepth 4000
set_option linter.all false
namespace Go.Sl
section
variable {U:Upd}{f h:Fl}{Q:Int}{g:Nat}
def Upd.to (U:Upd)(g:Nat)(f:Fl)(x x':Pos)(g':Nat):Prop:=
  (¬U.sw g f x∧(U.X g f x).done=true∧(U.X g f x).e=0∧x'=U.nx x∧g'=g)∨(U.sw g f x∧x'=x∧g'=g+1)
theorem Pn {x x':Pos}{g':Nat}(T:U.to g f x x' g'):U.go g f x=aO f U.y.a U.y.b (U.s g' x'):=by
 rcases T with ⟨h1,h2,h3,rfl,rfl⟩|⟨h1,rfl,rfl⟩
 ·unfold Upd.go;rw [if_neg h1]
  unfold b8;rw [if_neg];rintro (q|q)
  ·exact q h3
  rw [h2] at q
  cases q
 exact if_pos h1
theorem GV (u:UpdOk U)(B:Bas U f Q){x x':Pos}{g':Nat}(hl:x.last=false)(G:pK U g f x)(hg:g<U.y.gs.length)(T:U.to g f x x' g'):pK U g' f x'∧g'<U.y.gs.length:=by
 rcases T with ⟨h1,h2,h3,rfl,rfl⟩|⟨h1,rfl,rfl⟩
 ·exact ⟨G.next u B hl h2,hg⟩
 refine ⟨?_,h1.2.2⟩;have hs:=h1.1
 cases x' with
 |w1 k=>exact G
 |b0 k=>exact G
 |pre i=>cases hs
 |sta i=>cases hs
 |w0 k=>cases hs
 |w2 k=>cases hs
 |mig=>cases hs
 |b1 k=>cases hs
 |idl=>cases hs
theorem Jo (u:UpdOk U){x x':Pos}{g':Nat}(hl:x.last=false)(ho:U.on x)(T:U.to g f x x' g'):
    U.rm g' x'+1=U.rm g x∧U.gb x'+U.lt g' x'≤U.lt g x∧U.geb x'+U.lte g' x'≤U.lte g x∧U.s g x≠U.s g' x'∧(x'=x∨x'=U.nx x):=by
 rcases T with ⟨h1,h2,h3,rfl,rfl⟩|⟨h1,rfl,rfl⟩
 ·have a:=HD ho hl;have b:=u.l0_next ho hl
  unfold Upd.rm Upd.lt Upd.lte;exact ⟨by omega,by omega,by omega,So _ _ hl,.inr rfl⟩
 have hg:=h1.2.2;have hs:=h1.1;have hb:U.gb x'≤2∧U.geb x'≤1:=by
  cases x' with
  |w1 k=>exact ⟨Nat.le_refl _,Nat.le_refl _⟩
  |b0 k=>simp only [Upd.gb,Upd.geb];split<;>omega
  |pre i=>cases hs
  |sta i=>cases hs
  |w0 k=>cases hs
  |w2 k=>cases hs
  |mig=>cases hs
  |b1 k=>cases hs
  |idl=>cases hs
 unfold Upd.rm Upd.lt Upd.lte Upd.sp;exact ⟨by omega,by omega,by omega,Ha oe _,.inl rfl⟩
theorem ej {sec:Int}{want:List UInt8}(hs:h.size=f.size)(hr:h.data.getD sec.toNat []=f.data.getD sec.toNat []):tMu h sec want=tMu f sec want∧tEr h sec want=tEr f sec want∧bMu h sec=bMu f sec:=by
 have e:tMu h sec want=tMu f sec want:=by unfold tMu av;rw [hr,hs]
 refine ⟨e,by unfold tEr;rw [e],?_⟩
 unfold bMu av;rw [hr,hs]
theorem Kq {j:Nat}{x:Pos}(u:UpdOk U)(hg:g<U.y.gs.length)(ho:U.on x)(o:One f h j)(hj:j=U.R 0∨j=U.R 1)(G:pK U g f x):U.gm g h x=U.gm g f x∧U.ge g h x=U.ge g f x:=by
 have hR:∀ i,2≤i→i<U.RN→U.R i≠j:=fun i h2 hi=>by
  rcases hj with rfl|rfl
  ·exact u.r_ne hi oQ oe
  exact u.r_ne hi oQ oe
 have hn':U.y.n.toNat≤j:=by
  rcases hj with rfl|rfl
  ·exact (u.r_in (i:=0) oQ).2.2.2.1
  exact (u.r_in (i:=1) oQ).2.2.2.1
 apply Y 0x9ce;intro hst
 cases x with
 |pre i=>
  simp only [Upd.gm,Upd.ge]
  split
  ·rename_i hi;have:=(ej (want:=[]) (sec:=U.y.us.getD i 0) o.1 (o.2 _ (by rw [Dh hi];exact hR _ oe (by unfold Upd.RN;unfold Upd.V at hi;omega)))).2.2;exact ⟨this,this⟩
  exact Zm 0xb5e
 |sta i=>
  simp only [Upd.gm,Upd.ge]
  split
  ·rename_i hi;have:=ej (want:=U.O (U.p.st.getD i 0).toNat) (sec:=U.y.ls.getD i 0) o.1 (o.2 _ (by rw [Mw (by unfold Upd.H at hi;omega)];exact hR _ oe (by unfold Upd.RN;unfold Upd.H at hi;omega)));exact ⟨this.1,this.2.1⟩
  exact Zm 0xb5e
 |w0 k=>
  simp only [Upd.gm,Upd.ge]
  split
  ·refine ⟨?_,trivial⟩;have hA:=(Au.same (h:=h) G.2.2.2 o.1 fun s hs=>by rw [Dh hs];exact o.2 _ (hR _ oe oQ)).2
   unfold uMu;rw [hA,o.1]
  exact rt
 |w1 k=>
  have:=ej (want:=U.W (U.q k)) (sec:=U.y.gs.getD g 0) o.1 (o.2 _ qj);exact ⟨this.1,this.2.1⟩
 |w2 k=>
  have:=ej (want:=U.W (U.q k)) (sec:=(U.q k:Int)) o.1 (o.2 _ QB);exact ⟨this.1,this.2.1⟩
 |mig=>exact ⟨rfl,rfl⟩
 |b0 k=>
  simp only [Upd.gm,Upd.ge]
  split
  ·exact Zm 0xb5e
  have:=ej (want:=U.O (U.q (k-1))) (sec:=U.y.gs.getD g 0) o.1 (o.2 _ qj);exact ⟨this.1,this.2.1⟩
 |b1 k=>
  have:=ej (want:=U.O (U.q (k-1))) (sec:=(U.q (k-1):Int)) o.1 (o.2 _ qD);exact ⟨this.1,this.2.1⟩
 |idl=>exact ⟨rfl,rfl⟩
def Upd.w (U:Upd):Nat:=(U.S-8)/30
def Upd.wst (U:Upd)(r:Nat):Nat:=r+2*cei r U.w
theorem Bas.plc (B:Bas U f Q):bC f=U.w:=by unfold bC Upd.w;rw [B.sz]
structure Iv (U:Upd)(f:Fl)(x:Pos)(g t G off P E:Nat)(Q:Int):Prop where
  B:Bas U f Q
  H:pK U g f x
  l:g<U.y.gs.length
  j:JC2 f U.y.a U.y.b (U.s g x) t G (U.rm g x+off) P E∨∃ x' g',(x.last=false∧U.to g f x x' g')∧JV2 f U.y.a U.y.b (U.s g x) (U.s g' x') t G (U.rm g x+off) P E
variable {x:Pos}{t G off P E:Nat}
theorem Iv.find (I:Iv U f x g t G off P E Q)(hG:G+1<4294967296):(aY f U.y.a U.y.b).found=true∧(aY f U.y.a U.y.b).s=U.s g x∧(aY f U.y.a U.y.b).torn≤t:=by
 rcases I.j with h|⟨x',g',_,h⟩
 ·exact h.find hG
 exact h.find hG
theorem Iv.read (I:Iv U f x g t G off P E Q)(hG:G+1<4294967296):(a6 f U.y.a U.y.b).2.2=0∧(a6 f U.y.a U.y.b).1=U.s g x∧(a6 f U.y.a U.y.b).2.1≤t:=by
 have h:=I.find hG;rw [rH h.1];exact ⟨rfl,h.2.1,h.2.2⟩
theorem NW {v:Nx}(h1:v.e=0)(h2:v.done=false):v=⟨v.x,false,0⟩:=by
 cases v
 simp only at h1 h2;rw [h1,h2]
theorem RF {x x':Pos}{g':Nat}(T:U.to g f x x' g'):g'=g∨U.sw g f x:=by
 rcases T with ⟨_,_,_,_,h⟩|⟨h,_,_⟩
 ·exact .inl h
 exact .inr h
theorem Iv.step (u:UpdOk U){hb:Bool}(I:Iv U f x g t G off P E Q)(hQ:Q<U.L)(hG:G+2<4294967296)(hl:x.last=false)(hh:x.fine hb)(he:U.sw g f x∨(U.X g f x).e=0):
    ∃ o,aU f U.y U.k hb=⟨o,false,0⟩∧ao f o=0∧
      (∀ mk:Nat→UInt8,∃ x' g',((x'=x∨x'=U.nx x)∧(g'=g∨U.sw g f x))∧Iv U (aS f o mk) x' g' (t+1) (G+1) off (U.wst (U.rm g' x'+off)) (cei (U.rm g' x'+off) U.w) (Q+1))∧
      ∀ mk:Nat→UInt8,(∀ i,mk i=255)→∃ x' g' P' E',((x'=x∨x'=U.nx x)∧(g'=g∨U.sw g f x))∧Iv U (aS f o mk) x' g' t (G+1) off P' E' (Q+1)∧
        P'+U.gm g' (aS f o mk) x'+U.lt g' x'+1≤P+U.gm g f x+U.lt g x∧E'+U.ge g' (aS f o mk) x'+U.lte g' x'+(if o.kind=1 then 1 else 0)≤E+U.ge g f x+U.lte g x:=by
 have hr:=I.read oe;have hon:=I.H.on;have hins:=Kj (h:=hb) u I.B I.H I.l hr.1 hr.2.1 hl hh;have hR0:0<U.RN∧1<U.RN∧2<U.RN∧3<U.RN:=oQ;have jpart:∀ x' g',U.to g f x x' g'→JV2 f U.y.a U.y.b (U.s g x) (U.s g' x') t G (U.rm g x+off) P E→∃ o,aU f U.y U.k hb=⟨o,false,0⟩∧ao f o=0∧
  (∀ mk:Nat→UInt8,∃ x' g',((x'=x∨x'=U.nx x)∧(g'=g∨U.sw g f x))∧Iv U (aS f o mk) x' g' (t+1) (G+1) off (U.wst (U.rm g' x'+off)) (cei (U.rm g' x'+off) U.w) (Q+1))∧
  ∀ mk:Nat→UInt8,(∀ i,mk i=255)→∃ x' g' P' E',((x'=x∨x'=U.nx x)∧(g'=g∨U.sw g f x))∧Iv U (aS f o mk) x' g' t (G+1) off P' E' (Q+1)∧
   P'+U.gm g' (aS f o mk) x'+U.lt g' x'+1≤P+U.gm g f x+U.lt g x∧E'+U.ge g' (aS f o mk) x'+U.lte g' x'+(if o.kind=1 then 1 else 0)≤E+U.ge g f x+U.lte g x:=by
  intro x' g' T J;obtain ⟨hG',hg'⟩:=GV u I.B hl I.H I.l T;obtain ⟨p1,p2,p3,p4,p5⟩:=Jo u hl hon T;have hb256:g'<256:=oaB;have hwa:f.wear.getD U.y.a.toNat 0<f.limit∧f.wear.getD U.y.b.toNat 0<f.limit:=by
   have h1:=I.B.wr (U.R 0) (u.nbad hR0.1 oe);have h2:=I.B.wr (U.R 1) (u.nbad hR0.2.1 oe);rw [I.B.lm];exact ⟨Int.lt_of_le_of_lt h1 hQ,Int.lt_of_le_of_lt h2 hQ⟩
  obtain ⟨q1,q2,q3,q4,q5,q6⟩:=J.go oe (NN _ _) (u.s_right hb256 hG'.on) p4 oe hwa;refine ⟨(aO f U.y.a U.y.b (U.s g' x')).x,by rw [hins,Pn T];exact NW q1 q2,q3,?_⟩
  generalize (aO f U.y.a U.y.b (U.s g' x')).x=o at q3 q4 q5 q6;have hsec:o.sec.toNat=U.R 0∨o.sec.toNat=U.R 1:=by
   rcases q4 with e|e
   ·rw [e]
    exact .inl rfl
   rw [e]
   exact .inr rfl
  have h23:o.sec.toNat≠U.R 2∧o.sec.toNat≠U.R 3:=by
   rcases hsec with e|e
   ·rw [e];exact ⟨u.r_ne hR0.1 hR0.2.2.1 ob,u.r_ne hR0.1 hR0.2.2.2 ob⟩
   rw [e];exact ⟨u.r_ne hR0.2.1 hR0.2.2.1 ob,u.r_ne hR0.2.1 hR0.2.2.2 ob⟩
  have keep:∀ mk,Bas U (aS f o mk) (Q+1)∧pK U g (aS f o mk) x∧pK U g' (aS f o mk) x'∧U.to g (aS f o mk) x x' g'∧U.gm g (aS f o mk) x=U.gm g f x∧U.ge g (aS f o mk) x=U.ge g f x:=fun mk=>by
   have C:=Chg.cut I.B.ok q3 mk;have oo:=AC I.B.ok q3 mk;have hX:=Rt u I.l hon oo hsec C.n C.l C.d C.wo;refine ⟨I.B.cut q3 h23.1 h23.2 mk,I.H.one u I.l oo hsec,hG'.one u hg' oo hsec,?_,Kq u I.l hon oo hsec I.H⟩
   unfold Upd.to Upd.sw at T ⊢;rw [hX]
   exact T
  refine ⟨fun mk=>?_,fun mk hmk=>?_⟩
  ·obtain ⟨k1,k2,k3,k4,_⟩:=keep mk
   rcases q5 mk with hv|hc
   ·refine ⟨x,g,⟨.inl rfl,.inl rfl⟩,k1,k2,I.l,.inr ⟨x',g',⟨hl,k4⟩,?_⟩⟩;have:=hv.jv2 (U.rm g x+off);rw [k1.plc] at this
    exact this.mono (Nat.le_refl _) (Nat.le_succ _) (Nat.le_refl _) (Nat.le_refl _)
   refine ⟨x',g',⟨p5,RF T⟩,k1,k3,hg',.inl ?_⟩;have:=hc.jc2 (U.rm g' x'+off);rw [k1.plc] at this
   exact this.mono (Nat.le_succ _) (Nat.le_refl _) (Nat.le_refl _) (Nat.le_refl _)
  obtain ⟨k1,k2,k3,k4,k5,k6⟩:=keep mk;obtain ⟨P',E',e1,e2,e3⟩:=q6 mk hmk
  rcases e3 with hv|hc
  ·refine ⟨x,g,P',E',⟨.inl rfl,.inl rfl⟩,⟨k1,k2,I.l,.inr ⟨x',g',⟨hl,k4⟩,hv.mono (Nat.le_refl _) (Nat.le_succ _) (Nat.le_refl _) (Nat.le_refl _)⟩⟩,?_,?_⟩
   ·rw [k5]
    omega
   rw [k6]
   omega
  have hz:=k1.ok.s1;have hgm:=Kr (g:=g') k1.sz hz x';refine ⟨x',g',P',E',⟨p5,RF T⟩,⟨k1,k3,hg',.inl ?_⟩,by omega,by omega⟩;rw [show U.rm g' x'+off=U.rm g x+off-1 by omega]
  exact hc
 rcases I.j with J|⟨x',g',T,J⟩
 ·by_cases hsw:U.sw g f x
  ·exact jpart x (g+1) (.inr ⟨hsw,rfl,rfl⟩) (J.jv _)
  have he0:(U.X g f x).e=0:=he.resolve_left hsw
  rcases I.H.goal u I.B hQ I.l with ⟨h1,h2⟩|⟨o,h1,hE,h4,hk,hf⟩|⟨_,h2,_⟩
  ·exact jpart (U.nx x) g (.inl ⟨hsw,h1,h2,rfl,rfl⟩) (J.jv _)
  ·refine ⟨o,?_,hE,fun mk=>?_,fun mk hmk=>?_⟩;rw [hins]
   unfold Upd.go;rw [if_neg hsw,h1]
   exact if_pos (.inr rfl)
   all_goals
    have C:=Chg.cut I.B.ok hE mk;have S:SameJ f (aS f o mk) U.y.a U.y.b:=⟨C.ok,C.s,C.n,C.oth _ (fun e=>h4 0 ob e.symm),C.oth _ (fun e=>h4 1 ob e.symm),by rw [C.d],by rw [C.d]⟩;have B':=I.B.cut hE (h4 2 ob) (h4 3 ob) mk;have J':=S.jc2 J
   ·refine ⟨x,g,⟨.inl rfl,.inl rfl⟩,B',hk mk,I.l,.inl ?_⟩;have:=J'.jc.jc2 (U.rm g x+off);rw [B'.plc] at this
    exact this.mono (Nat.le_succ _) (Nat.le_succ _) (Nat.le_refl _) (Nat.le_refl _)
   have:=hf mk hmk;exact ⟨x,g,P,E,⟨.inl rfl,.inl rfl⟩,⟨B',hk mk,I.l,.inl (J'.mono (Nat.le_refl _) (Nat.le_succ _) (Nat.le_refl _) (Nat.le_refl _))⟩,by omega,by omega⟩
  rw [he0] at h2
  rcases h2 with h2|h2<;>cases h2
 exact jpart x' g' T.2 J
end
def Pos.bk:Pos→Bool
  | .b0 _=>true
  | .b1 _=>true
  | .idl=>true
  |_=>false
def wS (f:Fl):Int:=f.wear.sum
theorem yP:∀ (l:List Int) (i:Nat) (v:Int),i<l.length→(l.set i v).sum=l.sum+(v-l.getD i 0)
  |[],_,_,h=>absurd h (Nat.not_lt_zero _)
  |a::l,0,v,_=>by simp [List.set];omega
  |a::l,i+1,v,h=>by
    have:=yP l i v qi
    simp only [List.set,List.sum_cons,List.getD_cons_succ]
    omega
section
variable {U:Upd}{f h:Fl}{Q:Int}{g:Nat}{x:Pos}{t G off P E:Nat}
theorem Kz {o:Fo}(ok:f.Ok)(hE:ao f o=0)(mk:Nat→UInt8):wS (aS f o mk)=wS f+(if o.kind=1 then 1 else 0):=by
 rw [bz hE]
 unfold wS dw
 dsimp only
 split
 ·rw [yP _ _ _ (by rw [ok.wl];exact (ga hE).lt)]
  omega
 omega
theorem J3 (x:Pos):(U.nx x).bk=x.bk:=by
 cases x<;>simp only [Upd.nx]<;>(try split)<;>rfl
theorem uz {hb:Bool}(hh:hb=true∨x.bk=true)(hl:x.last=false):x.fine hb:=by
 cases x with
 |b0 k=>trivial
 |b1 k=>trivial
 |idl=>cases hl
 |mig=>cases hl
 |pre i=>exact hh.resolve_right Bool.false_ne_true
 |sta i=>exact hh.resolve_right Bool.false_ne_true
 |w0 k=>exact hh.resolve_right Bool.false_ne_true
 |w1 k=>exact hh.resolve_right Bool.false_ne_true
 |w2 k=>exact hh.resolve_right Bool.false_ne_true
theorem Iv.sound (u:UpdOk U)(hb:U.N≤U.bad)(I:Iv U f x g t G off P E Q)(hQ:Q<U.L):(U.X g f x).e=0:=by
 rcases I.H.goal u I.B hQ I.l with ⟨_,h2⟩|⟨o,h1,_⟩|⟨_,_,h3⟩
 ·exact h2
 ·rw [h1]
 have:=(u.r_in (i:=4+g) (by have:=I.l;unfold Upd.RN;omega)).2.2.2.2
 omega
theorem Iv.done (u:UpdOk U)(I:Iv U f x g t G off P E Q)(hG:G+1<4294967296)(hl:x.last=true)(hb:Bool):aU f U.y U.k hb=nxD:=by
 have hr:=I.read hG;rw [du (I.B.lay u) hr.1 hr.2.1]
 cases x with
 |mig=>exact if_pos (.inr (.inl rfl))
 |idl=>exact if_pos (.inl rfl)
 |pre i=>cases hl
 |sta i=>cases hl
 |w0 k=>cases hl
 |w1 k=>cases hl
 |w2 k=>cases hl
 |b0 k=>cases hl
 |b1 k=>cases hl
def Upd.M (U:Upd)(f:Fl)(g:Nat)(x:Pos)(P:Nat):Nat:=P+U.gm g f x+U.lt g x
def Upd.ME (U:Upd)(f:Fl)(g:Nat)(x:Pos)(E:Nat):Nat:=E+U.ge g f x+U.lte g x
theorem Iv.stay (u:UpdOk U)(hb:U.N≤U.bad)(I:Iv U f x g t G off P E Q)(hQ:Q<U.L):¬U.sw g f x:=fun h=>by
  have e:=I.sound u hb hQ
  rcases h.2.1 with q|q
  · rw [e] at q;cases q
  · rw [e] at q;cases q
theorem Iv.run (u:UpdOk U)(hbad:U.N≤U.bad){hb:Bool}:∀ (m:Nat) (f:Fl) (x:Pos) (g t G P E:Nat) (Q:Int),Iv U f x g t G off P E Q→Q+(m:Int)<U.L→G+m+2<4294967296→(hb=true∨x.bk=true)→
    ∃ x' P' E',(aK U.y U.k hb m f).e=0∧(aK U.y U.k hb m f).n≤m∧x'.bk=x.bk∧Iv U (aK U.y U.k hb m f).f x' g t (G+(aK U.y U.k hb m f).n) off P' E' (Q+((aK U.y U.k hb m f).n:Int))∧
      U.M (aK U.y U.k hb m f).f g x' P'+(aK U.y U.k hb m f).n≤U.M f g x P∧wS (aK U.y U.k hb m f).f+(U.ME (aK U.y U.k hb m f).f g x' E':Int)≤wS f+(U.ME f g x E:Int)∧((aK U.y U.k hb m f).n=m∨x'.last=true)
  |0,f,x,g,t,G,P,E,Q,I,hQ,hG,hh=>by
    refine ⟨x,P,E,rfl,Nat.le_refl _,rfl,?_,Nat.le_refl _,Int.le_refl _,.inl rfl⟩
    rw [show aK U.y U.k hb 0 f=⟨f,0,0⟩ from rfl]
    simpa using I
  |m+1,f,x,g,t,G,P,E,Q,I,hQ,hG,hh=>by
    cases hl:x.last with
    |true=>
      have e:=I.done u oe hl hb
      have e2:aK U.y U.k hb (m+1) f=⟨f,0,0⟩:=by
        unfold aK
        rw [e]
        exact if_pos (.inr rfl)
      rw [e2]
      exact ⟨x,P,E,rfl,Nat.zero_le _,rfl,by simpa using I,Nat.le_refl _,Int.le_refl _,.inr hl⟩
    |false=>
      obtain ⟨o,e,hE,_,hs⟩:=I.step u (hb:=hb) oe oe hl (uz hh hl) (.inr (I.sound u hbad oe))
      obtain ⟨x',g',P',E',⟨hx,hgg⟩,I',h1,h2⟩:=hs (fun _=>255) (fun _=>rfl)
      obtain rfl:g'=g:=hgg.resolve_right (I.stay u hbad oe)
      have hbk:x'.bk=x.bk:=by
        rcases hx with rfl|rfl
        · rfl
        · exact J3 x
      have e2:aK U.y U.k hb (m+1) f=⟨(aK U.y U.k hb m (aS f o fun _=>255)).f,(aK U.y U.k hb m (aS f o fun _=>255)).n+1,(aK U.y U.k hb m (aS f o fun _=>255)).e⟩:=by
        rw [bz hE]
        rw [aK,e]
        dsimp only
        rw [if_neg (by rintro (q|q);exact q rfl;cases q),if_neg (fun q=>q hE)]
      have hw:=Kz I.B.ok hE (fun _=>255)
      obtain ⟨x2,P2,E2,r1,r2,r3,r4,r5,r6,r7⟩:=Iv.run u hbad (hb:=hb) m (aS f o fun _=>255) x' g' t (G+1) P' E' (Q+1) I' oe oe (by rw [hbk];exact hh)
      rw [e2]
      generalize aK U.y U.k hb m (aS f o fun _=>255)=r at*
      unfold Upd.M Upd.ME at*
      refine ⟨x2,P2,E2,r1,Nat.succ_le_succ r2,r3.trans hbk,?_,by dsimp only;omega,?_,r7.imp (fun q=>by dsimp only;omega) id⟩
      · dsimp only
        rw [show G+(r.n+1)=G+1+r.n by omega,show Q+((r.n+1:Nat):Int)=Q+1+(r.n:Int) by omega]
        exact r4
      · dsimp only
        split at h2<;>rename_i hk
        · rw [if_pos hk] at hw
          omega
        · rw [if_neg hk] at hw
          omega
theorem Iv.end_ (u:UpdOk U)(hbad:U.N≤U.bad){hb:Bool}{m:Nat}(I:Iv U f x g t G off P E Q)(hQ:Q+(m:Int)<U.L)(hG:G+m+2<4294967296)(hh:hb=true∨x.bk=true)(hm:U.M f g x P≤m):
    ∃ x' P' E',(aK U.y U.k hb m f).e=0∧(aK U.y U.k hb m f).n≤m∧x'.bk=x.bk∧x'.last=true∧Iv U (aK U.y U.k hb m f).f x' g t (G+(aK U.y U.k hb m f).n) off P' E' (Q+((aK U.y U.k hb m f).n:Int))∧
      U.M (aK U.y U.k hb m f).f g x' P'+(aK U.y U.k hb m f).n≤U.M f g x P∧wS (aK U.y U.k hb m f).f+(U.ME (aK U.y U.k hb m f).f g x' E':Int)≤wS f+(U.ME f g x E:Int):=by
 obtain ⟨x',P',E',r1,r2,r3,r4,r5,r6,r7⟩:=Iv.run u hbad (hb:=hb) m f x g t G P E Q I hQ hG hh;refine ⟨x',P',E',r1,r2,r3,?_,r4,r5,r6⟩
 rcases r7 with e|e
 ·cases hl:x'.last with
  |true=>rfl
  |false=>
   exfalso;obtain ⟨o,_,hE,_,hs⟩:=r4.step u (hb:=hb) oe oe hl (uz (by rw [r3];exact hh) hl) (.inr (r4.sound u hbad oe));obtain ⟨x2,g2,P2,E2,_,_,h1,_⟩:=hs (fun _=>255) (fun _=>rfl)
   unfold Upd.M at r5 hm
   omega
 exact e
end
end Go.Sl
section
namespace Go.Sl
section
variable {U:Upd}{f:Fl}{Q:Int}{g:Nat}{x:Pos}{t G off P E:Nat}
theorem KF (r w:Nat):cei r w≤r/w+1:=by
 unfold cei
 by_cases h:w=0
 ·subst h
  simp
 exact Nat.le_trans (Nat.div_le_div_right (show r+w-1≤r+w by omega)) (by rw [Nat.add_div_right _ (Nat.pos_of_ne_zero h)];exact Nat.le_refl _)
theorem Hn (k:Nat):U.rs k≤U.V+U.K:=by
 unfold Upd.rs
 generalize U.e k/U.S=d
 split<;>omega
theorem UpdOk.pot_le (u:UpdOk U)(ho:U.on x):U.gb x+U.l0 x≤2*U.V+2*U.H+5*U.K∧U.r0 x≤U.V+U.H+3*U.K+3∧U.geb x+U.le0 x≤U.V+U.H+2*U.K:=by
 have h0:=Hn (U:=U) 0
 cases x with
 |pre i=>simp only [Upd.on] at ho;simp only [Upd.gb,Upd.l0,Upd.r0,Upd.geb,Upd.le0];split<;>omega
 |sta i=>simp only [Upd.on] at ho;simp only [Upd.gb,Upd.l0,Upd.r0,Upd.geb,Upd.le0];split<;>omega
 |w0 k=>
  simp only [Upd.on] at ho;have h1:=Hn (U:=U) k;apply Y 0x9d0f;intro h2;apply Y 0xd51f
  split
  ·have h3:=u.rs_step (k:=k) oe
   omega
  omega
 |w1 k=>
  simp only [Upd.on] at ho;apply Y 0x9d0f;intro h2;apply Y 0xd51f
  omega
 |w2 k=>
  simp only [Upd.on] at ho;apply Y 0x9d0f;intro h2;apply Y 0xd51f
  omega
 |mig=>simp only [Upd.gb,Upd.l0,Upd.r0,Upd.geb,Upd.le0];omega
 |b0 k=>simp only [Upd.on] at ho;simp only [Upd.gb,Upd.l0,Upd.r0,Upd.geb,Upd.le0];split<;>omega
 |b1 k=>simp only [Upd.on] at ho;simp only [Upd.gb,Upd.l0,Upd.r0,Upd.geb,Upd.le0];omega
 |idl=>simp only [Upd.gb,Upd.l0,Upd.r0,Upd.geb,Upd.le0];omega
def Upd.no (U:Upd):Nat:=HV U.V U.H U.K (ndN U.V U.H U.K) (ndC (ndN U.V U.H U.K) (ndW U.S))
theorem UpdOk.w_eq (u:UpdOk U):ndW U.S=U.w:=by
 have:=u.s1
 unfold ndW Upd.w;have:1≤(U.S-8)/30:=(Nat.le_div_iff_mul_le ob).2 oe
 omega
theorem UpdOk.wst_le (u:UpdOk U){r:Nat}(h:r≤ndN U.V U.H U.K):U.wst r≤ndN U.V U.H U.K+2*ndC (ndN U.V U.H U.K) (ndW U.S)∧cei r U.w≤ndC (ndN U.V U.H U.K) (ndW U.S):=by
 have h1:=po (w:=U.w) h;have h2:=KF (ndN U.V U.H U.K) U.w;rw [u.w_eq]
 unfold Upd.wst ndC ndQ
 omega
theorem Iv.M_le (u:UpdOk U)(hg:U.y.gs.length≤2)(I:Iv U f x g t G off P E Q)(hP:P≤U.wst (U.rm g x)):U.M f g x P≤U.no:=by
 have h1:=u.pot_le I.H.on;have h2:=Kr (g:=g) I.B.sz I.B.ok.s1 x;have h3:=u.wst_le (r:=U.rm g x) (by unfold Upd.rm Upd.sp ndN;omega)
 unfold Upd.M Upd.no HV Upd.lt Upd.sp
 omega
end
namespace Raw
variable (x:Raw)
def U (b:Nat):Upd:=⟨x.lay,x.pkg,x.img,x.S,x.n+x.more,100000,b,av x.fl x.lay.s0,av x.fl x.lay.s1⟩
theorem gs_len:x.lay.gs.length=x.sg:=dE _ _
theorem us_len:x.lay.us.length=x.u:=dE _ _
theorem ls_len:x.lay.ls.length=x.st.length:=dE _ _
theorem lay_in:(∀ v∈x.lay.rest,(x.n:Int)≤v∧v<((x.n+x.more:Nat):Int))∧x.lay.rest.Nodup:=by
 have h:=x.lay_ok
 unfold fg at h;rw [Bool.and_eq_true,decide_eq_true_eq,decide_eq_true_eq,x.fl_len] at h;exact ⟨h.2.2.2.2.2.2.1,h.2.2.2.2.2.2.2⟩
theorem U_ok {b:Nat}(hb:(b:Int)=x.lay.gs.getD 0 0∨x.n+x.more≤b):UpdOk (x.U b):=by
 apply Y 0x57e;intro h1;apply Y 0x67e;intro h2;apply Y 0x910f;intro h3;apply Y 0xace;intro h4;have h5:=x.T_le;refine ⟨by show 38≤x.S;omega,by show x.S≤4096;omega,by show x.n+x.more≤64;omega,⟨by show (1:Int)≤(x.n:Int);omega,by show (x.n:Int)≤((x.n+x.more:Nat):Int);omega⟩,?_,x.lay_in.1,x.lay_in.2,x.pln_ok,rfl,rfl,?_,?_,?_,?_,?_,?_,rfl,hb⟩
 ·rw [show (x.U b).y.gs.length=x.sg from x.gs_len]
  omega
 ·rw [show (x.U b).y.ls.length=x.st.length from x.ls_len];exact Zm 0x83e
 ·show (x.m:Int)=(x.S:Int)*(x.n:Int)
  unfold m;rw [Int.natCast_mul,Int.mul_comm]
 ·show (x.m:Int)=(x.S:Int)*(x.n:Int)
  unfold m;rw [Int.natCast_mul,Int.mul_comm]
 ·show (x.img.length:Int)=(x.m:Int);rw [x.img_len]
 ·show ndT x.img x.new x.S x.seq≤65535
  omega
 exact x.us_len
theorem U_no (b:Nat):(x.U b).no=x.no:=by
 unfold Upd.no no;rw [show (x.U b).V=x.u from x.us_len]
 rfl
theorem U_start (b:Nat)(off:Nat):Iv (x.U b) x.fl (.pre 0) 0 0 1 off ((x.U b).wst ((x.U b).rm 0 (.pre 0)+off)) (cei ((x.U b).rm 0 (.pre 0)+off) (x.U b).w) 1:=by
 apply Y 0xace;intro h4;have hd:∀ i,x.fl0.dead.getD i false=false:=fun i=>by have:=x.live i;rwa [x.fl_fresh.d] at this
 have B:Bas (x.U b) x.fl 1:=⟨x.fl_ok,x.fl_size,x.fl_len,x.fl_fresh.l,fun i _=>x.live i,fun i _=>x.wear_le i,rfl,rfl⟩;refine ⟨B,⟨Nat.zero_le _,fun k hk=>?_,fun i hi=>absurd hi (Nat.not_lt_zero _)⟩,?_,.inl ?_⟩
 ·rw [ql];have hk:k<x.n:=hk;rw [x.fl_fresh.oth k oe oe]
  exact x.dat_img hk
 ·rw [show (x.U b).y.gs.length=x.sg from x.gs_len]
  omega
 have h:=(FN x.fits0 rfl vq x.fl_fresh ⟨hd _,hd _⟩).jc2 ((x.U b).rm 0 (.pre 0)+off);rw [B.plc] at h
 exact h
theorem mig_img {b g t G off P E:Nat}{f:Fl}{Q:Int}(u:UpdOk (x.U b))(I:Iv (x.U b) f .mig g t G off P E Q):eQ f (x.n:Int)=x.new:=
  Im.img u I.B u.ol'.2 (fun _ ht=>Im.all u I.H.1 ht)
theorem idl_img {b g t G off P E:Nat}{f:Fl}{Q:Int}(u:UpdOk (x.U b))(I:Iv (x.U b) f .idl g t G off P E Q):eQ f (x.n:Int)=x.img:=
  Im.img u I.B u.ol'.1 (fun _ ht=>Im.zero u I.H ht)
theorem Gv {y:Pos}(h1:y.bk=false)(h2:y.last=true):y=.mig:=by
 cases y with
 |mig=>rfl
 |idl=>cases h1
 |pre i=>cases h2
 |sta i=>cases h2
 |w0 k=>cases h2
 |w1 k=>cases h2
 |w2 k=>cases h2
 |b0 k=>cases h2
 |b1 k=>cases h2
theorem KK {y:Pos}(h1:y.bk=true)(h2:y.last=true):y=.idl:=by
 cases y with
 |mig=>cases h1
 |idl=>rfl
 |pre i=>cases h2
 |sta i=>cases h2
 |w0 k=>cases h2
 |w1 k=>cases h2
 |w2 k=>cases h2
 |b0 k=>cases h2
 |b1 k=>cases h2
theorem upd_mig:(aK x.lay x.pkg true x.no x.fl).e=0∧(aK x.lay x.pkg true x.no x.fl).n≤x.no∧∃ P E,Iv (x.U (x.n+x.more)) x.yF .mig 0 0 (1+(aK x.lay x.pkg true x.no x.fl).n) 0 P E (1+((aK x.lay x.pkg true x.no x.fl).n:Int)):=by
 apply Y 0xab1f;intro u;have I:=x.U_start (x.n+x.more) 0;have hno:=x.no_le;have hM:=I.M_le u (by rw [show (x.U (x.n+x.more)).y.gs.length=x.sg from x.gs_len];have:=x.sg_le;omega) (Nat.le_refl _);rw [x.U_no] at hM;obtain ⟨x',P',E',r1,hn,r2,r3,r4,r5,r6⟩:=I.end_ u (Nat.le_refl _) (hb:=true) (m:=x.no) (by show (1:Int)+(x.no:Int)<100000;omega) oe (.inl rfl) hM;obtain rfl:=Gv (r2.trans rfl) r3;exact ⟨r1,hn,P',E',r4⟩
theorem upd_end:∃ e:Int,(aK x.lay x.pkg true x.no x.fl).e=0∧(aK x.lay x.pkg true x.no x.fl).n≤x.no∧a6 x.yF x.lay.a x.lay.b=([4,0,0,e,0,0,0,5,4],0,0)∧fg x.yF x.lay=true∧eQ x.yF (x.n:Int)=x.new∧aU x.yF x.lay x.pkg true=nxD:=by
 apply Y 0xab1f;intro u;obtain ⟨r1,hn,P,E,r4⟩:=x.upd_mig;have hno:=x.no_le;have hr:=r4.read oe;refine ⟨((x.U (x.n+x.more)).e (x.U (x.n+x.more)).K:Int),r1,hn,?_,r4.B.lay u,x.mig_img u r4,r4.done u oe rfl true⟩;have e1:(a6 x.yF x.lay.a x.lay.b).2.2=0:=hr.1;have e2:(a6 x.yF x.lay.a x.lay.b).1=_:=hr.2.1;have e3:(a6 x.yF x.lay.a x.lay.b).2.1≤0:=hr.2.2
 generalize a6 x.yF x.lay.a x.lay.b=q at e1 e2 e3;obtain ⟨q1,q2,q3⟩:=q
 dsimp only at e1 e2 e3;obtain rfl:q2=0:=oe;rw [e1,e2]
 rfl
end Raw
end Go.Sl
end
namespace Go.Proofs.YtbpddeiogcgegaaGreat
open Go.Sl
theorem N5 {f:Fl}{y:Lay}(h:fg f y=true):0≤y.n∧y.n≤(f.data.length:Int):=by
 unfold fg at h;rw [Bool.and_eq_true,decide_eq_true_eq,decide_eq_true_eq] at h;exact ⟨by have:=h.2.2.1;omega,h.2.2.2.1⟩
theorem Bw (f:Fl)(a:Fa)(ok:f.Ok)(hh:a.hs.length=f.data.length)(x:Raw)(g0:Fl)(c:Ca)(m:List UInt8)(MA:Option Addr)(mc:Nat)(hq:Bool)(hly:fg f x.lay=true)(him:eQ f x.lay.n=m):
    Ctr X 26 [flV f a,.agg (List.toArray (mcA g0 c.b x.lay c.G c.U c.V c.gc c.uc c.vc (.int .i64 5::.int .i64 4::.int .i64 (x.S:Int)::.int .i64 (x.n:Int)::.bool false::.int .i64 (x.m:Int)::.int .i64 (x.m:Int)::.slice c.O x.ops.length c.oc::.slice c.Q x.seq.length c.qc::.slice c.H x.st.length c.hc::.slice none 0 0::.bool hq::.slice c.I x.img.length c.ic::.slice c.N x.new.length c.nc::.int .i64 (x.st.length:Int)::.int .i64 (x.u:Int)::.int .i64 x.nd.r::.int .i64 x.nd.e::.int .i64 x.nd.o::[]))),.slice MA m.length mc] (flR f a++[Rd c.G (I64 x.lay.gs),Rd c.U (I64 x.lay.us),Rd c.V (I64 x.lay.ls),Rd MA (U8 m)]) [] (fun v R' H'=>v=.bool true∧R'=[]∧H'=[]):=by
 apply Y 0xc2e;intro hok;refine co Tryz.func26 ?_;intro β;apply Y 0x2a;intro A3;apply Y 0xdd;intro A4;apply Y 0xfee15ea0e8d28;refine mq 0 rfl (ab (vs:=(flL f a)) rfl rfl rfl (Src.r 1 rfl) rfl rfl ob) ?_;apply Y 0x330f;refine mq 2 rfl (ab (vs:=(hY x.lay c.G c.U c.V c.gc c.uc c.vc)) rfl rfl rfl (Src.r 0 rfl) rfl rfl ob) ?_;refine mfo 3 ?_;refine an (CW true (yz (f.size:Int) f a hh (by have:=ok.n2;omega) x.lay c.G c.U c.V c.gc c.uc c.vc oJ (eY x)) (by rw [uh ok];exact hly)) ?_;apply Y 0x88e629;refine my 5 rfl (ab (vs:=(flL f a)) rfl rfl rfl (Src.r 1 rfl) rfl rfl ob) ?_;refine my 6 rfl (faR 0) ?_;refine my 7 rfl (ab (vs:=(hY x.lay c.G c.U c.V c.gc c.uc c.vc)) rfl rfl rfl (Src.r 0 rfl) rfl rfl ob) ?_;refine my 10 rfl (Ev.pure rfl) ?_;refine my 11 rfl (j8 rfl rfl rfl rfl rfl rfl rfl (Src.r 9 rfl)) ?_;apply Y 0x7b4e;refine an (Bp f a ok hh x.lay c.G c.U c.V c.gc c.uc c.vc oJ (eY x) (N5 hly)) ?_;rintro _ _ _ ⟨IA,ic,-,rfl,rfl,rfl⟩;rw [him];apply Y 0x7c7e63c;refine sp (j8 rfl rfl rfl rfl rfl rfl rfl (Src.o 0 rfl)) ?_;apply Y 0x727ec9;refine sp (Ev.cast (u:=.bool true) (xk rfl rfl) Ob) ?_;exact Zm 0xd1e3923e1b9c82e636be6
theorem xP (x:Raw)(LA XO:Option Addr)(lc xoc:Nat)(hl:x.l.length≤9223372036854775807)(hol:x.old.length≤9223372036854775807):
    Ctr X 5 [.agg (List.toArray [.slice LA x.l.length lc,.int .u8 (x.w0.toNat:Int),.int .u8 (x.w1.toNat:Int),.int .u8 (x.w2.toNat:Int),.int .u8 (x.w3.toNat:Int),.slice XO x.old.length xoc])] [Rd LA (m5 x.l),Rd XO (U8 x.old)] [] (fun v R' H'=>v=.bool true∧R'=[]∧H'=[]):=by
 apply Y 0x57e;intro hS;apply Y 0x67e;intro hn;obtain ⟨ue,he0,hnle,hrd,hly,him,hnx⟩:=x.upd_end;refine co Tryz.func5 ?_;intro β;apply Y 0x2a;intro A1;apply Y 0xfb28;refine an (mj) ?_;apply Y 0xa72f2129;refine a8 (uP x LA XO lc xoc hl hol) ?_;apply Y 0x2e0f;intro c hcb hcc hcv hcu;apply Y 0x88;intro A4;apply Y 0xdc172fdce62fdcfb7b59;refine sp (ab (vs:=(.int .i64 5::.int .i64 4::.int .i64 (x.S:Int)::.int .i64 (x.n:Int)::.bool false::.int .i64 (x.m:Int)::.int .i64 (x.m:Int)::.slice c.O x.ops.length c.oc::.slice c.Q x.seq.length c.qc::.slice c.H x.st.length c.hc::.slice none 0 0::.bool true::[])) rfl rfl rfl (Src.r 0 rfl) rfl rfl ob) ?_;apply Y 0x942fdcdc;refine a8 (tM x.fl c.b x.fl_ok hcb x.lay c.G c.U c.V c.gc c.uc c.vc oJ (eY x) hcc x.pkg (.slice none 0 0) true c.O c.Q c.H c.oc c.qc c.hc (gY x) hcv x.no (by have:=x.no_le;omega)) ?_;apply Y 0xa1e;intro b hb hbc;rw [he0];rw [show (aK x.lay x.pkg true x.no x.fl).f=x.yF from rfl] at hb hbc ⊢;apply Y 0x88;intro A5;apply Y 0xdcfb7b59;refine sp (ab (vs:=(flL x.yF b)) rfl rfl rfl (Src.r 0 rfl) rfl rfl ob) ?_;refine sp (faR 5) ?_;apply Y 0x372f;refine an (tQ x.yF b x.yF_kept.ok hb ⟨x.lay.n,x.lay.a,x.lay.b,x.lay.s0,x.lay.s1,c.G,x.lay.gs.length,c.gc,c.U,x.lay.us.length,c.uc,c.V,x.lay.ls.length,c.vc⟩ hbc) ?_;apply Y 0x29
 dsimp only;rw [hrd];apply Y 0x8855;intro A6;apply Y 0xd0efb28359;refine sp (ab (vs:=(flL x.yF b)) rfl rfl rfl (Src.r 1 rfl) rfl rfl ob) ?_;refine sp (faR 6) ?_;refine sp (ab (vs:=(hY x.lay c.G c.U c.V c.gc c.uc c.vc)) rfl rfl rfl (Src.r 6 rfl) rfl rfl ob) ?_;refine sp (faR 6) ?_;refine sp (ab (vs:=(.int .i64 5::.int .i64 4::.int .i64 (x.S:Int)::.int .i64 (x.n:Int)::.bool false::.int .i64 (x.m:Int)::.int .i64 (x.m:Int)::.slice c.O x.ops.length c.oc::.slice c.Q x.seq.length c.qc::.slice c.H x.st.length c.hc::.slice none 0 0::.bool true::[])) rfl rfl rfl (Src.r 6 rfl) rfl rfl ob) ?_;refine a8 (vV x.yF b x.yF_kept.ok hb x.lay c.G c.U c.V c.gc c.uc c.vc oJ (eY x) hbc x.pkg (.slice none 0 0) true c.O c.Q c.H c.oc c.qc c.hc (gY x) hcv) ?_;apply Y 0x89;intro ZA Zc;rw [hnx];apply Y 0x88;intro A9;apply Y 0xc87800f799e73b15e7b59;refine L.bool 45 rfl (imp ey ?_) (imp ew ?_)<;>intro hg45
 ·apply Y 0x7800f799e7;refine sp (faR 8) ?_;apply Y 0x7;refine sp (faR 8) ?_;apply Y 0x7;refine sp (Ev.cast (u:=.int .i64 (x.no:Int)) (ldR 8) (congrArg (Value.int .i64) x.nd_o)) ?_;apply Y 0xc87;refine L.bool 53 rfl (imp of_decide_eq_true ?_) (imp of_decide_eq_false ?_)<;>intro hg53
  ·apply Y 0xc8b8;refine L.bool 57 rfl (imp ey ?_) (imp ew ?_)<;>intro hg57
   ·apply Y 0xc8b8;refine L.bool 61 rfl (imp ey ?_) (imp ew ?_)<;>intro hg61
    ·apply Y 0xc87a9e736e7;refine L.bool 66 rfl (imp ey ?_) (imp ew ?_)<;>intro hg66
     ·apply Y 0xc87a9e736e7;refine L.bool 71 rfl (imp ey ?_) (imp ew ?_)<;>intro hg71
      ·apply Y 0xc87a9e736e7;refine L.bool 76 rfl (imp ey ?_) (imp ew ?_)<;>intro hg76
       ·apply Y 0xc87a9e736e7;refine L.bool 81 rfl (imp ey ?_) (imp ew ?_)<;>intro hg81
        ·apply Y 0xc87a9e736e7;refine L.bool 86 rfl (imp ey ?_) (imp ew ?_)<;>intro hg86
         ·apply Y 0x799e7;refine sp (ab (vs:=(flL x.yF b)) rfl rfl rfl (Src.r 3 rfl) rfl rfl ob) ?_;apply Y 0x7;refine sp (ab (vs:=(mcA x.fl c.b x.lay c.G c.U c.V c.gc c.uc c.vc (.int .i64 5::.int .i64 4::.int .i64 (x.S:Int)::.int .i64 (x.n:Int)::.bool false::.int .i64 (x.m:Int)::.int .i64 (x.m:Int)::.slice c.O x.ops.length c.oc::.slice c.Q x.seq.length c.qc::.slice c.H x.st.length c.hc::.slice none 0 0::.bool true::.slice c.I x.img.length c.ic::.slice c.N x.new.length c.nc::.int .i64 (x.st.length:Int)::.int .i64 (x.u:Int)::.int .i64 x.nd.r::.int .i64 x.nd.e::.int .i64 x.nd.o::[]))) rfl rfl rfl (Src.r 8 rfl) rfl rfl ob) ?_;apply Y 0x7;refine sp (faR 8) ?_;apply Y 0x7;refine sp (ldR 8) ?_;apply Y 0x7;refine an (Bw x.yF b x.yF_kept.ok hb x x.fl c x.new c.N c.nc true hly him) ?_;apply Y 0x5cb529;refine L.bool 98 rfl ?_ ?_<;>intro hg98
          ·apply Y 0x395a57cb;exact ⟨congrArg Value.bool (decide_eq_true rfl),rfl,rfl⟩
          cases hg98
         exact (hg86 rfl).elim
        exact (hg81 rfl).elim
       exact (hg76 rfl).elim
      exact (hg71 rfl).elim
     exact (hg66 rfl).elim
    exact (hg61 rfl).elim
   exact (hg57 rfl).elim
  exact (hg53 oe).elim
 exact (hg45 rfl).elim
end Go.Proofs.YtbpddeiogcgegaaGreat
namespace Go.Sl
open Go.ChangeShapes Go.WideShapes Go.RowKit Go.Deep Go.Joins
section
variable {H:Type}{enc:TypeId×Value→H}{P:Program}{w:World}{base:Nat}{spare:Nat→Bool}{held:Bool}
theorem Az {t q e:TypeId}{fuel:Nat}{cs:List Value}{x:DataW H×List MemPlace}(ht:P.underlying t=some (.slice q))(hq:P.underlying q=some (.array 3 e))(he:P.underlying e=some (.int .u8))(ce:P.cellsOf e=1)(cq:P.cellsOf q=3)
    (h:DataW.trod enc P w base spare held fuel t cs=some x):
    ∃ (A:Option Addr) (c:Nat) (l:List T3),cs=[.slice A l.length c]∧l.length≤maxLen∧(Rd A (m5 l)).p w:=by
 rcases open_slice ht h with ⟨rfl,_⟩|⟨a,len,cap,m,k,D,Pl,rfl,_,hl,hm,hmm,_,hi⟩
 ·exact ⟨none,0,[],rfl,Nat.zero_le _,fun j u hu=>by simp [m5] at hu⟩
 apply Y 0xa81f;intro hle;have each:∀ i:Nat,∃ x:T3,i<len→∀ j,j<3→w.cell? ((a.add (i*3)).add j)=(I9 x)[j]?:=fun i=>by
  by_cases h1:i<len
  ·obtain ⟨cs',hc,htr⟩:=hi i oe;rw [cq] at hc;obtain ⟨_,hcl,hat⟩:=World.cells?_some hc;have g:=rV hq he ce (by simpa using hcl) htr;obtain ⟨x,h0⟩:=g 0 ob;obtain ⟨y,h1⟩:=g 1 ob;obtain ⟨z,h2⟩:=g 2 ob;refine ⟨(x,y,z),fun _ j hj=>?_⟩;rw [hat j hj]
   match j,hj with
   |0,_=>exact h0
   |1,_=>exact h1
   |2,_=>exact h2
  exact ⟨(0,0,0),fun h=>absurd h h1⟩
 apply Y 0x8c1f;intro F hF;apply Y 0x961f;intro hlen;have get:∀ i,i<len→((List.range len).map F).getD i (0,0,0)=F i:=fun i h=>by simp [h]
 refine ⟨some a,cap,(List.range len).map F,by rw [hlen],by rw [hlen];omega,fun j u hu=>⟨a,rfl,?_⟩⟩;have hj:j<len*3:=by
  have:=(List.getElem?_eq_some_iff.1 hu).1
  rwa [u1,hlen] at this
 have hd:j/3<len:=oe;have hu2:=hu;rw [show j=j/3*3+j%3 from by omega,jG (by rw [hlen];exact hd) oe,get _ hd] at hu2;rw [← hu2,← hF _ hd (j%3) oe,lN]
 congr 2
 omega
end
structure Brk where
  a:UInt8
  M:Option Addr
  mc:Nat
  k:List UInt8
def Brk.zero:Brk:=⟨0,none,0,[]⟩
def Brk.cells (x:Brk):List Value:=[.int .u8 (x.a.toNat:Int),.slice x.M x.k.length x.mc]
def s9 (l:List Brk):List Value:=l.flatMap Brk.cells
def pJ (l:List Brk):List Hd:=l.map fun x=>(x.M,x.mc)
def ta (l:List Brk):List (List UInt8):=l.map Brk.k
theorem wY (l:List Brk):(s9 l).length=l.length*2:=by
 induction l with
 |nil=>rfl
 |cons r l ih=>rw [show s9 (r::l)=r.cells++s9 l from rfl,List.length_append,ih];simp [Brk.cells];omega
theorem Cn:∀ (l:List Brk) (k:Nat),k<l.length→((s9 l).drop (k*2)).take 2=(l.getD k Brk.zero).cells
  |[],_,h=>absurd h (Nat.not_lt_zero _)
  |_::_,0,_=>rfl
  |_::l,k+1,h=>by
    rw [show (k+1)*2=k*2+2 from by omega]
    exact Cn l k qi
theorem pt {l:List Brk}{k:Nat}(hk:k<l.length):0<(s9 l).length:=by rw [wY];omega
theorem px {l:List Brk}{k q:Nat}(hk:k<l.length)(hq:q<2):(s9 l)[k*2+q]?=(l.getD k Brk.zero).cells[q]?:=by
 have h:=Cn l k hk;exact Zm 0x361f
theorem Fh (l:List Brk)(k:Nat):(ta l).getD k []=(l.getD k Brk.zero).k:=by
 unfold ta
 by_cases h:k<l.length
 ·exact Zm 0x7b0f
 simp [List.getD_eq_getElem?_getD,h,Brk.zero]
theorem Fi (l:List Brk)(k:Nat):(pJ l).getD k (none,0)=((l.getD k Brk.zero).M,(l.getD k Brk.zero).mc):=by
 unfold pJ
 by_cases h:k<l.length
 ·exact Zm 0x7b0f
 simp [List.getD_eq_getElem?_getD,h,Brk.zero]
section
variable {H:Type}{enc:TypeId×Value→H}{P:Program}{w:World}{base:Nat}{spare:Nat→Bool}{held:Bool}
theorem Pq {ls:List Value}(hl:ls.length=4)(hi:∀ i,i<4→∃ y:UInt8,ls[i]?=some (.int .u8 (y.toNat:Int))):∃ p q r s:UInt8,ls=[.int .u8 (p.toNat:Int),.int .u8 (q.toNat:Int),.int .u8 (r.toNat:Int),.int .u8 (s.toNat:Int)]:=by
 obtain ⟨p,h0⟩:=hi 0 ob;obtain ⟨q,h1⟩:=hi 1 ob;obtain ⟨r,h2⟩:=hi 2 ob;obtain ⟨s,h3⟩:=hi 3 ob
 match ls,hl,h0,h1,h2,h3 with
 |[a,b,c,d],_,h0,h1,h2,h3=>
  simp at h0 h1 h2 h3;exact ⟨p,q,r,s,by rw [h0,h1,h2,h3]⟩
theorem six {cs:List Value}(h:cs.length=6):cs=(cs.drop 0).take 1++(cs.drop 1).take 4++(cs.drop 5).take 1:=by
 match cs,h with
 |[_,_,_,_,_,_],_=>rfl
theorem rU {r:Reach}{b0:Nat}{t a q3 tl s e:TypeId}{f0 f1 f2:Field}{v:Value}{d:DataW H}{ps:List MemPlace}(ht:P.underlying t=some (.struct #[f0,f1,f2]))(t0:f0.type=tl)(t1:f1.type=a)(t2:f2.type=s)(o0:f0.offset=0)(o1:f1.offset=1)(o2:f2.offset=5)
    (htl:P.underlying tl=some (.slice q3)) (hq:P.underlying q3=some (.array 3 e)) (ha:P.underlying a=some (.array 4 e)) (hs:P.underlying s=some (.slice e)) (he:P.underlying e=some (.int .u8)) (ctl:P.cellsOf tl=1) (cq:P.cellsOf q3=3) (ca:P.cellsOf a=4) (cs1:P.cellsOf s=1) (ce:P.cellsOf e=1) (ct:P.cellsOf t=6)
    (hv:Value.okWide P w r b0 t v) (h:DataW.Trod enc P w base spare held t v d ps):
    ∃ (x:Raw) (LA XO:Option Addr) (lc xoc:Nat),v=.agg (List.toArray [.slice LA x.l.length lc,.int .u8 (x.w0.toNat:Int),.int .u8 (x.w1.toNat:Int),.int .u8 (x.w2.toNat:Int),.int .u8 (x.w3.toNat:Int),.slice XO x.old.length xoc])∧x.l.length≤maxLen∧x.old.length≤maxLen∧(Rd LA (m5 x.l)).p w∧(Rd XO (U8 x.old)).p w:=by
 obtain ⟨cs,rfl,hsz⟩:=okWide_struct ht hv;rw [ct] at hsz;obtain ⟨ls⟩:=cs;obtain ⟨fuel,hf⟩:=h;have hf':DataW.trod enc P w base spare held fuel t ls=some (d,ps):=hf;obtain ⟨xs,n,-,-,hl,hxl,hg⟩:=DataW.trod_struct ht hf';rw [ct] at hl
 match xs,hxl with
 |[y0,y1,y2],_=>
  have g0:=hg 0 f0 rfl;have g1:=hg 1 f1 rfl;have g2:=hg 2 f2 rfl;rw [t0,o0,ctl] at g0;rw [t1,o1,ca] at g1;rw [t2,o2,cs1] at g2;obtain ⟨LA,lc,l,e0,hll,f0⟩:=Az htl hq he ce cq (by simpa using g0);obtain ⟨p,q,u,z,e1⟩:=Pq (ls:=(ls.drop 1).take 4) oaA (rV (cs:=(ls.drop 1).take 4) ha he ce oaA (by simpa using g1));obtain ⟨XO,xoc,old,e2,-,hol,f2⟩:=AB hs he ce (by simpa using g2);refine ⟨⟨l,p,q,u,z,old⟩,LA,XO,lc,xoc,?_,hll,hol,f0,f2⟩;have e:=six hl;have e0':(ls.drop 0).take 1=[.slice LA l.length lc]:=by simpa using e0
  have e2':(ls.drop 5).take 1=[.slice XO old.length xoc]:=by simpa using e2
  rw [e0',e1,e2'] at e;rw [e]
  rfl
theorem two {cs:List Value}(h:cs.length=2):cs=(cs.drop 0).take 1++(cs.drop 1).take 1:=by
 match cs,h with
 |[_,_],_=>rfl
theorem AA {t s e:TypeId}{f0 f1:Field}{fuel:Nat}{cs:List Value}{x:DataW H×List MemPlace}(ht:P.underlying t=some (.struct #[f0,f1]))(t0:f0.type=e)(t1:f1.type=s)(o0:f0.offset=0)(o1:f1.offset=1)
    (he:P.underlying e=some (.int .u8)) (hs:P.underlying s=some (.slice e)) (ce:P.cellsOf e=1) (cs1:P.cellsOf s=1) (ct:P.cellsOf t=2)
    (h:DataW.trod enc P w base spare held fuel t cs=some x):∃ y:Brk,cs=y.cells∧y.k.length≤maxLen∧(Rd y.M (U8 y.k)).p w:=by
 obtain ⟨xs,n,-,-,hl,hxl,hg⟩:=DataW.trod_struct ht h;rw [ct] at hl
 match xs,hxl with
 |[y0,y1],_=>
  have g0:=hg 0 f0 rfl;have g1:=hg 1 f1 rfl;rw [t0,o0,ce] at g0;rw [t1,o1,cs1] at g1;obtain ⟨m,e0,-,wm⟩:=DataW.trod_int he (by simpa using g0);obtain ⟨M,mc,k,e1,-,hk,f1⟩:=AB hs he ce (by simpa using g1);refine ⟨⟨ix m,M,mc,k⟩,?_,hk,f1⟩;have e:=two hl;have e0':(cs.drop 0).take 1=[.int .u8 ((ix m).toNat:Int)]:=by rw [lE wm];simpa using e0
  have e1':(cs.drop 1).take 1=[.slice M k.length mc]:=by simpa using e1
  rw [e0',e1'] at e
  exact e
theorem tW {r:Reach}{b0:Nat}{q t s e:TypeId}{f0 f1:Field}{v:Value}{d:DataW H}{ps:List MemPlace}(hq:P.underlying q=some (.slice t))(ht:P.underlying t=some (.struct #[f0,f1]))(t0:f0.type=e)(t1:f1.type=s)(o0:f0.offset=0)(o1:f1.offset=1)
    (he:P.underlying e=some (.int .u8)) (hs:P.underlying s=some (.slice e)) (ce:P.cellsOf e=1) (cs1:P.cellsOf s=1) (ct:P.cellsOf t=2)
    (hv:Value.okWide P w r b0 q v) (h:DataW.Trod enc P w base spare held q v d ps):
    ∃ (A:Option Addr) (c:Nat) (l:List Brk),v=.slice A l.length c∧l.length≤maxLen∧(∀ k,(l.getD k Brk.zero).k.length≤maxLen)∧(Rd A (s9 l)).p w∧(KidsR (pJ l) (B8 (ta l))).p w:=by
 obtain ⟨A,n,c,rfl⟩:=okWide_slice hq hv;obtain ⟨fuel,hf⟩:=h;have hf':DataW.trod enc P w base spare held fuel q [.slice A n c]=some (d,ps):=by simpa [Value.cells] using hf
 rcases open_slice hq hf' with ⟨hcs,_⟩|⟨a,len,cap,m,k,D,Pl,hcs,_,hl,hm,hmm,_,hi⟩
 ·have e:=(List.cons.inj hcs).1;exact ⟨none,0,[],e,Nat.zero_le _,fun k=>by simp [Brk.zero],fun j u hu=>by simp [s9] at hu,fun i g v hg hv=>by simp [pJ] at hg⟩
 have ee:=(List.cons.inj hcs).1;apply Y 0xa81f;intro hle;have each:∀ i:Nat,∃ x:Brk,i<len→((∀ j,j<2→w.cell? ((a.add (i*2)).add j)=x.cells[j]?)∧x.k.length≤maxLen∧(Rd x.M (U8 x.k)).p w):=fun i=>by
  by_cases h1:i<len
  ·obtain ⟨cs',hc,htr⟩:=hi i oe;rw [ct] at hc;obtain ⟨y,rfl,q1,q2⟩:=AA ht t0 t1 o0 o1 he hs ce cs1 ct htr;obtain ⟨_,_,hat⟩:=World.cells?_some hc;exact ⟨y,fun _=>⟨fun j hj=>hat j hj,q1,q2⟩⟩
  exact ⟨Brk.zero,fun h=>absurd h h1⟩
 apply Y 0x8c1f;intro F hF;apply Y 0x961f;intro hlen;have get:∀ i,i<len→((List.range len).map F).getD i Brk.zero=F i:=fun i h=>by simp [h]
 refine ⟨some a,cap,(List.range len).map F,by rw [hlen];exact ee,by rw [hlen];omega,fun k=>?_,fun j u hu=>⟨a,rfl,?_⟩,fun i g v hg hv=>?_⟩
 ·by_cases h1:k<len
  ·rw [get k h1]
   exact (hF k h1).2.1
  rw [List.getD_eq_getElem?_getD,List.getElem?_eq_none (by rw [hlen];omega)];exact Zm 0xc1e
 ·have hj:j<len*2:=by
   have:=(List.getElem?_eq_some_iff.1 hu).1
   rwa [wY,hlen] at this
  have hd:j/2<len:=oe;have hu2:=hu;rw [show j=j/2*2+j%2 from by omega,px (by rw [hlen];exact hd) oe,get _ hd] at hu2;rw [← hu2,← (hF _ hd).1 (j%2) oe,lN]
  congr 2
  omega
 have h1:i<len:=by
  have:=(List.getElem?_eq_some_iff.1 hg).1
  simpa [pJ] using this
 have hg2:(pJ ((List.range len).map F))[i]?=some ((F i).M,(F i).mc):=by simp [pJ,h1]
 have hv2:(B8 (ta ((List.range len).map F)))[i]?=some (U8 (F i).k):=by simp [ta,B8,h1]
 rw [hg2] at hg;rw [hv2] at hv
 injection hg with hg
 injection hv with hv
 subst hg hv
 exact (hF i h1).2.2
end
end Go.Sl
