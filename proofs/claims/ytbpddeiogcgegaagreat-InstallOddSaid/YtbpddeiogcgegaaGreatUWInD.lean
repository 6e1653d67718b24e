/-
  Part of a proof.
-/
import Derived.ProofKit
import Derived.Deep.Slices
import Derived.Below
import Derived.OpenShut
import Derived.Lib.SmallJoins
import Derived.ChangeArms
import Derived.Test.YtbpddeiogcgegaaGreatUWSvG
set_option maxHeartbeats 0
set_option maxRecDepth 4000
set_option linter.all false
namespace Go.Proofs.YtbpddeiogcgegaaGreat
open Go.Sl
theorem bU {f:Fl}{y:Lay}{x:Nx}{s:List Int}(h:x.e≠0∨x.done=false):cj f y x s=x:=if_pos h
theorem ea {f:Fl}{y:Lay}{x:Nx}{s:List Int}(h:x.e=0)(h2:x.done=true):cj f y x s=aR f y.a y.b s:=if_neg (by rintro (q|q);exact q h;rw [h2] at q;cases q)
theorem iS {D:List (List UInt8)}{k:Nat}(h:k<D.length):(D.take (k+1)).flatten=(D.take k).flatten++D.getD k []:=by
 rw [aA D [] k h,List.flatten_append];exact Zm 0x51e
theorem jC {f:Fl}(ok:f.Ok):∀ {k:Nat},k≤f.data.length→((f.data.take k).flatten).length=k*f.size
  |0,_=>by simp
  |k+1,h=>by rw [iS h,List.length_append,jC ok oe,ok.rows k h,Nat.succ_mul]
theorem rH (B:Option Addr)(b:List UInt8)(bc n:Nat)(hbc:b.length≤bc):
    Ctr X 94 [.slice B b.length bc,.int .i64 (n:Int)] [] [] (fun v R' H'=>v=.slice B (b.take n).length bc∧R'=[]∧H'=[]):=by
 refine co Tryz.func94 ?_;intro β;apply Zu 0x2a9d1a<;>intro
 ·apply Y 0x1c;refine sp (bn (h:=n) rfl rfl rfl rfl rfl rfl oe) ?_;apply Y 0x4b891;exact ⟨by rw [List.length_take,Nat.min_eq_left oe];rfl,rfl,rfl⟩
 apply Y 0xd9c859;exact ⟨by rw [List.length_take,Nat.min_eq_right oe];rfl,rfl,rfl⟩
theorem yO (f:Fl)(a:Fa)(ok:f.Ok)(hh:a.hs.length=f.data.length)(y:Lay)(G U V:Option Addr)(gc uc vc:Nat)(hyn: -1000000≤y.n∧y.n≤1000000)(hyl:y.gs.length≤1000∧y.us.length≤1000∧y.ls.length≤1000)(hn0:0≤y.n∧y.n≤(f.data.length:Int)):
    Ctr X 65 [flV f a,.agg (List.toArray (di y G U V gc uc vc))] (flR f a) [] (fun v R' H'=>∃ (A:Option Addr) (c:Nat),(dX f y.n).length≤c∧v=.slice A (dX f y.n).length c∧R'=[]∧H'=[Own 5 1 A (dX f y.n).length c (U8 (dX f y.n))]):=by
 apply Y 0xc1e;intro hok;obtain ⟨os1,os2,on1,on2,owl,odl,orows,ol1,ol2,owear⟩:=ok;refine co Tryz.func65 ?_;intro β;apply Y 0x6a;intro A2;apply Y 0x7b;intro A3;apply Y 0x2bdb8c7c49;intro A7;apply Y 0xcd49;refine lp [] [] (fun q:Nat×Option Addr×Nat=>[(2,ag A2 0),(3,ag A3 0),(5,.slice q.2.1 ((f.data.take q.1).flatten).length q.2.2),(6,.int .i64 (q.1:Int))]) (kz [_,_,_,_,_,_]) (fun q=>[Own 5 1 q.2.1 ((f.data.take q.1).flatten).length q.2.2 (U8 ((f.data.take q.1).flatten))]) (fun q=>(q.1:Int)≤y.n) (fun q=>y.n.toNat-q.1) (0,A7,0) ot (lk [0,1,2,3,4,5] [0]) ?_;apply Y 0xf1e;intro k A c hk
 dsimp only at hk ⊢;apply Zu 0x791f8758<;>intro
 ·apply Y 0xb31f99;intro hrow;have e1:((f.data.take (k+1)).flatten)=((f.data.take k).flatten)++f.data.getD k []:=iS oe;have hil:((f.data.take k).flatten).length=k*f.size:=jC hok oe;apply Y 0xa21f;intro hkz;apply Y 0x73bab;refine sp (ae (k:=k) rfl rfl rfl rfl rfl rfl rfl oe (Src.r 2 rfl) ow) ?_;apply Y 0x430f;refine L.append (j:=0) rfl rfl rfl rfl ob rfl rfl rfl rfl ((Src.kid 3 rfl oC (k) oZ).cast (a7 _)) qA (bQ _) oe oH rfl (fun A20 cc20=>?_);apply Y 0x9a81e;refine QE.round (i:=(k,A,c)) ((k+1,A20,cc20)) ot ot (by exact lk [0,1,2,3,4,5] [0] ⟨rfl,rfl,QY,rfl,trivial⟩ (hh:=⟨(by exact congrArg some (ay oac oaO)),trivial⟩))
 apply Y 0x29e5a9;intro hAc;apply Y 0x91ee83878;obtain rfl:k=y.n.toNat:=oe;exact ⟨A,c,hAc,rfl,rfl,rfl⟩
theorem CF (f:Fl)(a:Fa)(ok:f.Ok)(hh:a.hs.length=f.data.length)(y:Lay)(G U V:Option Addr)(gc uc vc:Nat)(hyn: -1000000≤y.n∧y.n≤1000000)(hyl:y.gs.length≤1000∧y.us.length≤1000∧y.ls.length≤1000)(hcap:Caps f a)(p0 p1 p2 p3 p4 p5 p6 p7 p8:Int)(k:Pkg)(rv:Value)(h:Bool)(OA QA HA:Option Addr)(oc qc hc:Nat)(hpl:k.pl.ops.length≤9223372036854775807∧k.pl.seq.length≤1000000∧k.pl.st.length≤1000000):
    Ctr X 46 [flV f a,.agg (List.toArray (di y G U V gc uc vc)),.agg (List.toArray [.int .i64 p0,.int .i64 p1,.int .i64 p2,.int .i64 p3,.int .i64 p4,.int .i64 p5,.int .i64 p6,.int .i64 p7,.int .i64 p8]),.agg (List.toArray [.int .i64 k.ver,.int .i64 k.frm,.int .i64 k.pl.sz,.int .i64 k.pl.n,.bool k.pl.lf,.int .i64 k.pl.inn,.int .i64 k.pl.out,.slice OA k.pl.ops.length oc,.slice QA k.pl.seq.length qc,.slice HA k.pl.st.length hc,rv,.bool h])] [Rd OA (ck k.pl.ops),Rd QA (I64 k.pl.seq),Rd HA (I64 k.pl.st)] [] (fun v R' H'=>v=.int .i64 (fitE f y [p0,p1,p2,p3,p4,p5,p6,p7,p8] k h)∧R'=[]∧H'=[]):=by
 apply Y 0xc1e;intro hok;refine co Tryz.func46 ?_;intro β;apply Y 0x6a;intro A4;apply Y 0x7b;intro A5;apply Y 0x7b;intro A6;apply Y 0x7b;intro A7;apply Y 0xa8f7e21e21edb8c7c71ed1e45e26e49;intro A9;apply Zu 0x561f283bdb555b<;>intro hg17
 ·apply Y 0x1fd39;refine C.cond rfl (fun _=>?_) (fun h=>by cases h);apply Y 0x9fe6fe6c;rw [if_pos (.inl obw)]
 apply Zu 0xdd384d5e473e4a1e480e480e4<;>intro hc24
 ·apply Y 0x9fe6fe6c;rw [if_pos (.inr hc24)]
 apply Y 0xf7e8d;refine al (sk k.pl.sz k.pl.n k.pl.lf k.pl.inn k.pl.out k.pl.ops k.pl.seq k.pl.st OA QA HA oc qc hc hpl.1 hpl.2.1 hpl.2.2) ?_;apply Zu 0x3a3858188<;>intro hc28
 ·apply Y 0x9fe6fe6c;rw [if_neg (show ¬(h=false∨k.ver≠[p0,p1,p2,p3,p4,p5,p6,p7,p8].getD 7 0) by rintro (q|q);(rw [q] at hg17;cases hg17);exact q hc24),if_pos (show k.pl.ok=false by unfold Pln.ok;simpa using hc28)]
 apply Y 0x287ce5cef85859;refine L.bool 34 rfl (imp mC ?_) (imp mD ?_)<;>intro hg34
 ·apply Y 0x1ca1dea;refine C.cond rfl (fun _=>?_) (fun h=>by cases h);apply Y 0x9fe6fe6c;rw [if_neg (show ¬(h=false∨k.ver≠[p0,p1,p2,p3,p4,p5,p6,p7,p8].getD 7 0) by rintro (q|q);(rw [q] at hg17;cases hg17);exact q hc24),if_neg (show ¬k.pl.ok=false by rw [show k.pl.ok=true from by simpa [Pln.ok] using hc28];decide),if_pos (.inl hg34)]
 apply Zu 0x3e2fb846ce4b9e4eb<;>intro hg41
 ·apply Y 0x1ca39;refine C.cond rfl (fun _=>?_) (fun h=>by cases h);apply Y 0x9fe6fe6c;rw [if_neg (show ¬(h=false∨k.ver≠[p0,p1,p2,p3,p4,p5,p6,p7,p8].getD 7 0) by rintro (q|q);(rw [q] at hg17;cases hg17);exact q hc24),if_neg (show ¬k.pl.ok=false by rw [show k.pl.ok=true from by simpa [Pln.ok] using hc28];decide),if_pos (.inr (.inl hg41))]
 apply Zu 0x2af96ce4b9ef9eb<;>intro hc49
 ·apply Y 0x9fe6fe6c;rw [if_neg (show ¬(h=false∨k.ver≠[p0,p1,p2,p3,p4,p5,p6,p7,p8].getD 7 0) by rintro (q|q);(rw [q] at hg17;cases hg17);exact q hc24),if_neg (show ¬k.pl.ok=false by rw [show k.pl.ok=true from by simpa [Pln.ok] using hc28];decide),if_pos (.inr (.inr hc49))]
 apply Y 0x9fe6fed91a59;rw [if_neg (show ¬(h=false∨k.ver≠[p0,p1,p2,p3,p4,p5,p6,p7,p8].getD 7 0) by rintro (q|q);(rw [q] at hg17;cases hg17);exact q hc24),if_neg (show ¬k.pl.ok=false by rw [show k.pl.ok=true from by simpa [Pln.ok] using hc28];decide),if_neg (by rintro (q|q|q);exact q hg34;exact q hg41;exact hc49 q)]
theorem I2 :
    Ctr X 44 [] [] [] (fun v R' H'=>v=.agg (List.toArray [.int .i64 nxD.x.kind,.int .i64 nxD.x.sec,.int .i64 nxD.x.at_,.slice none nxD.x.data.length 0,.bool nxD.done,.int .i64 nxD.e])∧R'=[]∧H'=[]):=by
 refine co Tryz.func44 ?_;intro β;apply Y 0xa848;intro A0;exact Zm 0x33e3cee85b8b98
theorem eJ (f:Fl)(a:Fa)(ok:f.Ok)(hh:a.hs.length=f.data.length)(y:Lay)(G U V:Option Addr)(gc uc vc:Nat)(hyn: -1000000≤y.n∧y.n≤1000000)(hyl:y.gs.length≤1000∧y.us.length≤1000∧y.ls.length≤1000)(hcap:Caps f a)(x:Nx)(XA:Option Addr)(xc:Nat)(s:List Int)(hs:s.length=9):
    Ctr X 89 [flV f a,.agg (List.toArray (di y G U V gc uc vc)),.agg (List.toArray [.int .i64 x.x.kind,.int .i64 x.x.sec,.int .i64 x.x.at_,.slice XA x.x.data.length xc,.bool x.done,.int .i64 x.e]),.agg (List.toArray (st9 s))] (flR f a++[Rd XA (U8 x.x.data)]) [] (fun v R' H'=>∃ (O:Option Addr) (oc:Nat),v=.agg (List.toArray [.int .i64 (cj f y x s).x.kind,.int .i64 (cj f y x s).x.sec,.int .i64 (cj f y x s).x.at_,.slice O (cj f y x s).x.data.length oc,.bool (cj f y x s).done,.int .i64 (cj f y x s).e])∧R'=[Rd O (U8 (cj f y x s).x.data)]∧H'=[]):=by
 apply Y 0xc1e;intro hok;refine co Tryz.func89 ?_;intro β;apply Y 0x6a;intro A4;apply Y 0x7b;intro A5;apply Y 0x7b;intro A6;apply Y 0x7b;intro A7;apply Y 0xa8;intro A8;apply Y 0x283b788c7c71ed1e45e26e6de900f5cb;refine L.bool 12 rfl (imp mC ?_) (imp mD ?_)<;>intro hg12
 ·apply Y 0x1ca;refine C.cond rfl (fun _=>?_) (fun h=>by cases h);apply Zu 0xd01fc43f895ba30f48
  ·rw [bU (.inl hg12)];exact Zm 0x2
  rw [bU (.inl hg12)];exact Zm 0x2
 apply Zu 0x3a384a1e480e4<;>intro hc16
 ·apply Zu 0xd01fc43f895ba30f48
  ·rw [bU (.inr Q6)];exact Zm 0x2
  rw [bU (.inr Q6)];exact Zm 0x2
 apply Y 0x1c1feb1f8d;refine sp (ab (vs:=(st9 s)) rfl rfl rfl (Src.r 0 rfl) rfl rfl ob) ?_;refine aL (FC f a hok hh ⟨y.n,y.a,y.b,y.s0,y.s1,G,y.gs.length,gc,U,y.us.length,uc,V,y.ls.length,vc⟩ hcap s hs) ?_;apply Y 0x19;intro TO tc;apply Zu 0x25ecce85b4a
 ·rw [ea hg12 Q6];exact Zm 0x2
 rw [ea hg12 Q6];exact Zm 0x2
end Go.Proofs.YtbpddeiogcgegaaGreat
namespace Go.Sl
theorem nine {s:List Int}(h:s.length=9):s=[s.getD 0 0,s.getD 1 0,s.getD 2 0,s.getD 3 0,s.getD 4 0,s.getD 5 0,s.getD 6 0,s.getD 7 0,s.getD 8 0]:=by
 match s,h with
 |[_,_,_,_,_,_,_,_,_],_=>rfl
theorem xF (f:Fl)(a b:Int):(bj f a b).1.length=9:=by
 unfold bj
 split
 ·exact nU ..
 exact Zm 0x2
structure Chg (f g:Fl)(sec:Int)(w:Int):Prop where
  ok:g.Ok
  n:g.data.length=f.data.length
  s:g.size=f.size
  l:g.limit=f.limit
  d:g.dead=f.dead
  oth:∀ i,i≠sec.toNat→g.data.getD i []=f.data.getD i []
  wo:∀ i,i≠sec.toNat→g.wear.getD i 0=f.wear.getD i 0
  ws:f.wear.getD sec.toNat 0≤g.wear.getD sec.toNat 0∧g.wear.getD sec.toNat 0≤f.wear.getD sec.toNat 0+w
section
variable {f g h:Fl}{sec w v:Int}
theorem Chg.refl (ok:f.Ok):Chg f f sec 0:=⟨ok,rfl,rfl,rfl,rfl,fun _ _=>rfl,fun _ _=>rfl,by omega⟩
theorem Chg.trans (a:Chg f g sec w)(b:Chg g h sec v):Chg f h sec (w+v):=
  ⟨b.ok,b.n.trans a.n,b.s.trans a.s,b.l.trans a.l,b.d.trans a.d,fun i hi=>(b.oth i hi).trans (a.oth i hi),fun i hi=>(b.wo i hi).trans (a.wo i hi),by have:=a.ws;have:=b.ws;omega⟩
theorem Chg.mono (a:Chg f g sec w)(hv:w≤v):Chg f g sec v:=⟨a.ok,a.n,a.s,a.l,a.d,a.oth,a.wo,by have:=a.ws;omega⟩
theorem Chg.other {b:Int}(a:Chg f g sec w)(hb:b.toNat≠sec.toNat):aV g b=aV f b:=a.oth _ hb
theorem Chg.cut {x:Fo}(ok:f.Ok)(hE:aU f x=0)(mk:Nat→UInt8):Chg f (fK f x mk) x.sec (if x.kind=1 then 1 else 0):=by
 have K:=jH ok hE mk;have hs:=(dm hE).2.1;refine ⟨K.ok,K.n,K.s,K.l,K.d,fun i hi=>vq hE (fun e=>hi e.symm),fun i hi=>?_,?_⟩
 ·exact (kO hE oe).symm
 by_cases hk:x.kind=1
 ·have:=vp (mk:=mk) ok hE (k:=x.sec.toNat) hk oe;rw [if_pos hk];exact Zm 0x18
 have:=kO (mk:=mk) hE (k:=x.sec.toNat) (fun h=>hk h.1);rw [if_neg hk];exact Zm 0x18
theorem CT {at_:Int}{d:List UInt8}(hs:0≤sec∧sec<(f.data.length:Int))(hd:f.dead.getD sec.toNat false=false)(ha:0≤at_∧at_+(d.length:Int)≤(f.size:Int)):aU f ⟨2,sec,at_,d⟩=0:=
  iM (.inr rfl) ⟨hs.1,by dsimp only;omega,fun _=>by dsimp only;omega⟩ hd (fun h=>by cases h.1)
theorem zD (hs:0≤sec∧sec<(f.data.length:Int))(hd:f.dead.getD sec.toNat false=false)(hw:f.wear.getD sec.toNat 0≠f.limit):aU f ⟨1,sec,0,[]⟩=0:=
  iM (.inl rfl) ⟨hs.1,by dsimp only;omega,fun h=>by cases h⟩ hd (fun h=>hw h.2)
variable {want:List UInt8}
theorem G9 (hs:0≤sec∧sec<(f.data.length:Int))(hw:want.length=f.size)(hne:aV f sec≠want)(hE:aU f (dW f sec want)=0):aO f sec want=⟨dW f sec want,false,0⟩:=by
 apply Y 0xb90f;intro hin
 exact km hin hne rfl (by rw [hE];exact fun h=>h rfl)
theorem DH (hs:0≤sec∧sec<(f.data.length:Int))(hw:want.length=f.size)(he:aV f sec=want):aO f sec want=⟨fo0,true,0⟩:=by
 apply Y 0xb90f;intro hin
 exact ko hin he
theorem kA {k:Nat}(hs:0≤sec∧sec<(f.data.length:Int))(hw:want.length=f.size)(he:aV f sec=want):ao sec want k f=(f,0):=by
 rw [gJ (.inl (by rw [DH hs hw he])),DH hs hw he]
theorem kB {k:Nat}(ok:f.Ok)(hs:0≤sec∧sec<(f.data.length:Int))(hw:want.length=f.size)(hd:f.dead.getD sec.toNat false=false)(hb:k9 (aV f sec) want f.size=true):
    ∃ g,ao sec want (k+1) f=(g,0)∧aV g sec=want∧Chg f g sec 0:=by
 by_cases he:aV f sec=want
 ·exact ⟨f,kA hs hw he,he,Chg.refl ok⟩
 have hx:dW f sec want=⟨2,sec,0,want⟩:=sA hb;have hE:aU f (dW f sec want)=0:=by rw [hx];exact CT hs hd ⟨Int.le_refl _,by omega⟩
 apply Y 0x382f;intro ht;have hr:aV (fK f (dW f sec want) (fun _=>255)) sec=want:=by rw [cX hE];exact sv hs hw hb hx
 apply Y 0xa42f;intro C;rw [fj,hx,if_neg (by show ¬(2:Int)=1;decide),← hx] at C;refine ⟨fK f (dW f sec want) (fun _=>255),?_,hr,C⟩;rw [jk (by rw [ht];exact fun h=>by rcases h with h|h;cases h;exact h rfl),ht]
 exact kA (by rw [C.n];exact hs) (by rw [C.s];exact hw) hr
theorem kC {k:Nat}(ok:f.Ok)(hs:0≤sec∧sec<(f.data.length:Int))(hw:want.length=f.size)(hd:f.dead.getD sec.toNat false=false)(hl:f.wear.getD sec.toNat 0<f.limit):
    ∃ g,ao sec want (k+2) f=(g,0)∧aV g sec=want∧Chg f g sec 1:=by
 by_cases hb:k9 (aV f sec) want f.size=true
 ·obtain ⟨g,h1,h2,h3⟩:=kB (k:=k+1) ok hs hw hd hb;exact ⟨g,h1,h2,h3.mono ob⟩
 ·have hx:dW f sec want=⟨1,sec,0,[]⟩:=sx (show k9 (aV f sec) want f.size=false by simpa using hb);have he:aV f sec≠want:=by
   intro e
   apply hb;rw [e];refine List.all_eq_true.2 fun i _=>?_
   have:want.getD i 0&&& ~~~(want.getD i 0)=0:=(ey _ _).1 (by
    refine M1 fun i hi=>?_
    simp)
   rw [this];exact Zm 0x2
  have hE:aU f (dW f sec want)=0:=by rw [hx];exact zD hs hd oe
  apply Y 0x382f;intro ht;have hr:aV (fK f (dW f sec want) (fun _=>255)) sec=List.replicate f.size 255:=by rw [cX hE];exact mS hs hx
  apply Y 0xa42f;intro C;rw [fj,hx,if_pos (by show (1:Int)=1;rfl),← hx] at C;obtain ⟨g,h1,h2,h3⟩:=kB (k:=k) (f:=fK f (dW f sec want) (fun _=>255)) C.ok (by rw [C.n];exact hs) (by rw [C.s];exact hw) (by rw [C.d];exact hd) (by rw [hr,C.s];exact pq _ _);refine ⟨g,?_,h2,(C.trans h3).mono ob⟩;rw [jk (by rw [ht];exact fun h=>by rcases h with h|h;cases h;exact h rfl),ht]
  exact h1
end
theorem Ba (s:List Int):(ax s).length≤30:=by rcases sL s with h|h<;>rw [h]<;>decide
theorem CQ (n:Nat)(g:Int)(slot:List UInt8)(h:slot.length≤30):(an n g slot).length≤n+38:=by
 unfold an;apply Y 0x7b3f;have e:(if 0<g then br (c6 g.toNat 4) else List.replicate 8 255).length=8:=by
  split
  ·exact cA _
  exact List.length_replicate
 rw [e];exact Zm 0x18
theorem ny {f:Fl}{x:Fo}{m:Nat}(h:x.data.length≤m):(dL f x).x.data.length≤m:=by
 apply Y 0xcce
 split
 ·exact Zm 0xe2e
 exact Zm 0xc2e
theorem fX (f:Fl)(sec:Int)(want:List UInt8):(aO f sec want).x.data.length≤want.length:=by
 unfold aO
 split
 ·exact Zm 0xe2e
 split
 ·exact Zm 0xe2e
 split
 ·exact Zm 0xe2e
 unfold dW
 split
 ·exact Zm 0x2de
 exact Zm 0xe2e
theorem yd {f:Fl}(ok:f.Ok)(a b:Int)(s:List Int):(aR f a b s).x.data.length≤5000:=by
 have h:=ok.s2;have hs:=Ba s
 unfold aR
 split
 ·exact Zm 0xe2e
 split
 ·exact Zm 0xe2e
 split
 ·exact ny ot
 split
 ·exact ny (by dsimp only;rw [List.length_take];omega)
 have:=fX f (aq f a b).oth (an f.size 0 (ax s));have:=CQ f.size 0 (ax s) hs;exact Zm 0x18
structure Fresh (f:Fl)(a b:Int)(s:List Int)(g:Fl):Prop where
  ok:g.Ok
  n:g.data.length=f.data.length
  sz:g.size=f.size
  l:g.limit=f.limit
  d:g.dead=f.dead
  ra:aV g a=an f.size 1 (ax s)
  rb:aV g b=an f.size 0 []
  oth:∀ i,i≠a.toNat→i≠b.toNat→g.data.getD i []=f.data.getD i []
  w:∀ i,g.wear.getD i 0≤f.wear.getD i 0+1
theorem gU {f:Fl}{a b:Int}{s:List Int}(ok:f.Ok)(hf:du f a b=true)(hr:aY s=true)(hd:f.dead.getD a.toNat false=false∧f.dead.getD b.toNat false=false)(hl:f.wear.getD a.toNat 0<f.limit∧f.wear.getD b.toNat 0<f.limit):
    (bH f a b s).2=0∧Fresh f a b s (bH f a b s).1:=by
 have hft:=ft hf;have hsl:8+(ax s).length≤f.size:=by have:=m3 hr;omega
 have hne:a.toNat≠b.toNat:=oe;obtain ⟨g,g1,g2,g3⟩:=kC (k:=1) (sec:=a) (want:=an f.size 1 (ax s)) ok ⟨hft.2.1,hft.2.2.2.1⟩ (bZ hsl) hd.1 hl.1;obtain ⟨h,h1,h2,h3⟩:=kC (f:=g) (k:=1) (sec:=b) (want:=an f.size 0 []) g3.ok ⟨hft.2.2.1,by rw [g3.n];exact hft.2.2.2.2.1⟩ (by rw [g3.s];exact bZ O8) (by rw [g3.d];exact hd.2) (by rw [g3.wo _ (fun e=>hne e.symm),g3.l];exact hl.2);rw [nN hf hr g1 h1];apply Y 0xd4e;refine ⟨rfl,h3.ok,h3.n.trans g3.n,h3.s.trans g3.s,h3.l.trans g3.l,h3.d.trans g3.d,(h3.other hne).trans g2,h2,fun i hi hj=>(h3.oth i hj).trans (g3.oth i hi),fun i=>?_⟩;have e1:=g3.ws;have e2:=h3.ws
 by_cases ha:i=a.toNat
 ·subst ha;rw [h3.wo _ hne]
  exact e1.2
 by_cases hb:i=b.toNat
 ·subst hb;have:=g3.wo b.toNat ha;exact Zm 0x18
 rw [h3.wo i hb,g3.wo i ha];exact Zm 0x18
open Go.ChangeShapes Go.WideShapes Go.RowKit Go.Deep
theorem Gu {w:World}{a:Addr}{v:Value}(h:w.cell? a=some v):a.block<w.heap.size:=by
 rcases Nat.lt_or_ge a.block w.heap.size with h1|h1
 ·exact h1
 unfold World.cell? at h;rw [Array.getElem?_eq_none h1] at h
 simp at h
theorem Rd.lt {w:World}{A:Option Addr}{xs:List Value}(h:(Rd A xs).p w){k:Nat}(hk:(Rd A xs).fp k):k<w.heap.size:=by
 obtain ⟨hne,a,rfl,rfl⟩:=hk
 cases xs with
 |nil=>exact absurd rfl hne
 |cons u us=>
  obtain ⟨b,hb,hc⟩:=h 0 u rfl
  cases hb;have:=Gu hc
  rwa [mF] at this
theorem Sat.start {w:World}{R:List Pr}(hr:∀ r∈R,r.p w)(hf:∀ r∈R,∀ k,r.fp k→k<w.heap.size):Sat (bV w R []) w R []:=
  ⟨⟨rfl,rfl,rfl,Nat.le_refl _,fun _ _ _=>rfl⟩,hr,fun r h k hk=>⟨hf r h k hk,.inr (.inr ⟨r,h,hk⟩)⟩,fun i c h=>by simp at h,fun i c h=>by simp at h,fun i j c d h=>by simp at h,fun r _ j c h=>by simp at h⟩
theorem Sat.below {w w':World}{R R' H':List Pr}(h:Sat (bV w R []) w' R' H'):Below w.heap.size w w':=
  ⟨h.ext.os,h.ext.tape,h.ext.output,h.ext.size,fun k hk=>h.ext.block k hk (fun ⟨i,c,hi,_⟩=>by simp at hi)⟩
section
variable {H:Type}{enc:TypeId×Value→H}{P:Program}{w:World}{base:Nat}{spare:Nat→Bool}{held:Bool}
def gy (n:Int):UInt8:=UInt8.ofNat n.toNat
theorem jT {n:Int}(h:(Lit.int .u8 n).wf=true):Value.int .u8 ((gy n).toNat:Int)=.int .u8 n:=by
 have:0≤n∧n≤255:=by
  simp [Lit.wf,IntKind.min,IntKind.max,IntKind.signed,IntKind.bits] at h;exact Zm 0x18
 unfold gy
 congr 1
 simp;exact Zm 0x18
theorem x7 {t e:TypeId}{fuel:Nat}{cs:List Value}{x:DataW H×List MemPlace}(ht:P.underlying t=some (.slice e))(he:P.underlying e=some (.int .u8))(hc:P.cellsOf e=1)(h:DataW.trod enc P w base spare held fuel t cs=some x):
    ∃ (A:Option Addr) (c:Nat) (l:List UInt8),cs=[.slice A l.length c]∧l.length≤c∧l.length≤maxLen∧(Rd A (U8 l)).p w:=by
 rcases open_ints ht he hc h with ⟨rfl,_⟩|⟨a,len,cap,zs,rfl,_,hl,hm,hz,_,hcell,hwz⟩
 ·exact ⟨none,0,[],rfl,Nat.le_refl _,Nat.zero_le _,fun j u hu=>by simp [U8] at hu⟩
 have hle:len≤zs.length:=by rw [hz];split<;>omega
 have hlen:((zs.take len).map gy).length=len:=by rw [List.length_map,List.length_take];omega
 refine ⟨some a,cap,(zs.take len).map gy,by rw [hlen],by omega,by omega,fun j u hu=>⟨a,rfl,?_⟩⟩;have hj:j<len:=by
  have:=(List.getElem?_eq_some_iff.1 hu).1
  rwa [aJ,hlen] at this
 rw [hcell j oe,← hu];have hw:=hwz _ (List.getElem_mem (show j<zs.length by omega));have hu2:(U8 ((zs.take len).map gy))[j]?=some (.int .u8 ((gy (zs[j]'oe)).toNat:Int)):=by
  simp [U8,hj,show j<zs.length from by omega]
 rw [hu2,jT hw]
 simp [List.getD_eq_getElem?_getD,show j<zs.length from by omega]
end
open Go.ChangeShapes Go.WideShapes Go.RowKit Go.Deep Go.Joins
section
variable {H:Type}{enc:TypeId×Value→H}{P:Program}{w:World}{base:Nat}{spare:Nat→Bool}{held:Bool}
theorem gf {n:Nat}{t e:TypeId}{fuel:Nat}{cs:List Value}{x:DataW H×List MemPlace}(ht:P.underlying t=some (.array n e))(he:P.underlying e=some (.int .u8))(ce:P.cellsOf e=1)(hl:cs.length=n)
    (h:DataW.trod enc P w base spare held fuel t cs=some x):∀ i,i<n→∃ y:UInt8,cs[i]?=some (.int .u8 (y.toNat:Int)):=by
 intro i hi;obtain ⟨xs,m2,-,-,-,hxl,hg⟩:=DataW.trod_array ht h;have g:=hg i hi;rw [ce,List.getElem?_eq_getElem (by rw [hxl];exact hi)] at g;have e1:(cs.drop (i*1)).take 1=[cs[i]'oe]:=by
  rw [Nat.mul_one,List.drop_eq_getElem_cons oe,List.take_succ_cons,List.take_zero]
 rw [e1] at g;obtain ⟨z,hz,-,wz⟩:=DataW.trod_int he g;exact ⟨gy z,by rw [List.getElem?_eq_getElem oe,(List.cons.inj hz).1,jT wz]⟩
end
section
variable {H:Type}{enc:TypeId×Value→H}{P:Program}{w:World}{base:Nat}{spare:Nat→Bool}{held:Bool}
def u9 (r:List UInt8):List Value:=[.int .u8 ((r.getD 0 0).toNat:Int),.int .u8 ((r.getD 1 0).toNat:Int),.int .u8 ((r.getD 2 0).toNat:Int),.int .u8 ((r.getD 3 0).toNat:Int),.int .u8 ((r.getD 4 0).toNat:Int),.int .u8 ((r.getD 5 0).toNat:Int),.int .u8 ((r.getD 6 0).toNat:Int),.int .u8 ((r.getD 7 0).toNat:Int),.int .u8 ((r.getD 8 0).toNat:Int)]
theorem MJ {ls:List Value}(hl:ls.length=9)(hi:∀ i,i<9→∃ y:UInt8,ls[i]?=some (.int .u8 (y.toNat:Int))):∃ r:List UInt8,r.length=9∧ls=u9 r:=by
 apply Y 0x492f;intro y0 h0;apply Y 0x592f;intro y1 h1;apply Y 0x692f;intro y2 h2;apply Y 0x792f;intro y3 h3;obtain ⟨y4,h4⟩:=hi 4 ob;obtain ⟨y5,h5⟩:=hi 5 ob;obtain ⟨y6,h6⟩:=hi 6 ob;obtain ⟨y7,h7⟩:=hi 7 ob;obtain ⟨y8,h8⟩:=hi 8 ob
 match ls,hl,h0,h1,h2,h3,h4,h5,h6,h7,h8 with
 |[a,b,c,d,e,f,g,h,i],_,h0,h1,h2,h3,h4,h5,h6,h7,h8=>
  simp at h0 h1 h2 h3 h4 h5 h6 h7 h8;exact ⟨[y0,y1,y2,y3,y4,y5,y6,y7,y8],rfl,by rw [h0,h1,h2,h3,h4,h5,h6,h7,h8];rfl⟩
theorem B7 {t e:TypeId}{fuel:Nat}{cs:List Value}{x:DataW H×List MemPlace}(ht:P.underlying t=some (.array 9 e))(he:P.underlying e=some (.int .u8))(ce:P.cellsOf e=1)(hl:cs.length=9)
    (h:DataW.trod enc P w base spare held fuel t cs=some x):∃ r:List UInt8,r.length=9∧cs=u9 r:=MJ hl (gf ht he ce hl h)
end
structure Wr where
  r:List UInt8
  T:Option Addr
  tc:Nat
  ths:List Hd
  ts:List (List UInt8)
def Wr.zero:Wr:=⟨[],none,0,[],[]⟩
def Wr.cells (x:Wr):List Value:=u9 x.r++[.slice x.T x.ts.length x.tc]
section
variable {H:Type}{enc:TypeId×Value→H}{P:Program}{w:World}{base:Nat}{spare:Nat→Bool}{held:Bool}
end
section
variable {f:Fl}{x:Fo}{mk:Nat→UInt8}
end
def lgx (sec oth:Int)(g:Nat):Lg:={ lg0 with sec:=sec,oth:=oth,gen:=(g:Int) }
def IV (g:Nat):List UInt8:=br (c6 g 4)
def scJ (f:Fl)(sec oth:Int)(g:Nat):Lg:=bz (aV f sec) (lgx sec oth g) (ej f)
def O2 (f:Fl)(sec oth:Int)(g:Nat)(p:List Int):Prop:=
  (scJ f sec oth g).free=ej f∧cB (aV f oth) (IV (g+1)) 8=true∧(aV f oth).take 8≠IV (g+1)∧(aV f oth).drop 8=ax p++List.replicate (f.size-8-(ax p).length) 255
section
variable {f:Fl}{sec oth a b:Int}{g t:Nat}{s p:List Int}
end
section
variable {f g:Fl}{us:List Int}{p:Nat}{b:List UInt8}
theorem place {z p n m:Nat}(hz:1≤z)(h:p+n≤m*z){i:Nat}(hi:i<n):(p+i)/z<m∧(p+i)%z<z∧(p+i)/z*z+(p+i)%z=p+i:=by
 have h1:=Nat.div_add_mod (p+i) z;rw [Nat.mul_comm] at h1;exact ⟨(Nat.div_lt_iff_lt_mul oe).2 oe,Nat.mod_lt _ oe,h1⟩
end
structure PlnFit (f:Fl)(y:Lay)(p:Pln):Prop where
  ok:p.ok=true
  sz:p.sz=(f.size:Int)
  n:p.n=y.n
  st:p.st.length≤y.ls.length
theorem PlnFit.val {f:Fl}{y:Lay}{p:Pln}(h:PlnFit f y p):cF p.inn p.out p.ops=0∧p.lf=false∧kb p.sz p.n p.inn p.out=true∧pR p.seq=NI (aH (ah p.ops) p.inn p.sz.toNat p.n.toNat)∧stB (NI (aH (ah p.ops) p.inn p.sz.toNat p.n.toNat)) p.st=true∧plB (ah p.ops) p.inn p.sz.toNat p.n.toNat p.seq p.st=true:=eI.1 h.ok
theorem PlnFit.inn {f:Fl}{y:Lay}{p:Pln}(h:PlnFit f y p):0≤p.inn∧p.inn≤(f.size:Int)*y.n:=by
 apply Y 0x731f;intro h1;have h2:=fM h1.1;have h3:=(dy.1 h1.2.2.1).2.2.2.2.1;rw [h.sz,h.n] at h3;exact ⟨h2.1,h3⟩
theorem PlnFit.seqs {f:Fl}{y:Lay}{p:Pln}(h:PlnFit f y p){i:Nat}(hi:i<p.seq.length):0≤p.seq.getD i 0∧p.seq.getD i 0<y.n:=by
 apply Y 0x731f;intro h1;have hm:p.seq.getD i 0∈p.seq:=by
  apply Y 0x5b3f
  exact List.getElem_mem hi
 have h2:=(iv p.seq).mem_iff.2 hm;rw [h1.2.2.2.1] at h2;obtain ⟨t,ht,e⟩:=List.mem_map.1 h2;apply Y 0x842f;intro h3;apply Y 0x942f;intro hn;rw [h.n] at h3 hn;rw [← e];exact Zm 0x18
theorem PlnFit.sts {f:Fl}{y:Lay}{p:Pln}(h:PlnFit f y p){i:Nat}(hi:i<p.st.length):0≤p.st.getD i 0∧p.st.getD i 0<y.n:=by
 apply Y 0x731f;intro h1;obtain ⟨t,e,ht⟩:=(wI h1.2.2.2.2.1).2 i hi;apply Y 0x842f;intro h3;apply Y 0x942f;intro hn;rw [h.n] at h3 hn;rw [e];exact Zm 0x18
theorem PlnFit.cnt {f:Fl}{y:Lay}{p:Pln}(h:PlnFit f y p){k:Int}(hk:p.cntE f y k=0):(p.cntV f y k).length=f.size:=by
 unfold Pln.cntV
 unfold Pln.cntE at hk;rw [mi hk]
 unfold G1;rw [b9,h.sz]
 exact Int.toNat_natCast _
def flC (b:List UInt8)(S n t:Nat):List UInt8:=if t<n then ctF b t S else ctF [] t S
def flD (b:List UInt8)(S n k:Nat):List (List UInt8):=(List.range k).map (flC b S n)
theorem dO (b:List UInt8)(S n t:Nat):(flC b S n t).length=S:=by unfold flC;split<;>exact b9 _ _ _
theorem cV (b:List UInt8)(S n k:Nat):(flD b S n k).length=k:=by simp [flD]
theorem CE (b:List UInt8)(S n k:Nat):flD b S n (k+1)=flD b S n k++[flC b S n k]:=by simp [flD,List.range_succ]
theorem flD_get {b:List UInt8}{S n k t:Nat}(h:t<k):(flD b S n k).getD t []=flC b S n t:=ak h _
def upI (a c:Nat):List Int:=(List.range c).map fun (i:Nat)=>((a+i:Nat):Int)
theorem dY (a c:Nat):(upI a c).length=c:=by simp [upI]
theorem k7 (a c:Nat):upI a (c+1)=upI a c++[((a+c:Nat):Int)]:=by simp [upI,List.range_succ]
section
variable {X:Cx}{β:Base}{Γ:Env}{R H:List Pr}
end
def Rz:List Po:=[⟨1,2,2,0⟩,⟨1,0,2,0⟩]
def hP:Pp:=⟨2,2,false,4,4,Rz,[0,1],[0]⟩
end Go.Sl
