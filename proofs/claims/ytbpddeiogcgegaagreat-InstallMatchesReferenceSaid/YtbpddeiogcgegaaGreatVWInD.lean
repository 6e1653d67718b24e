/-
  Part of a proof.
-/
import Derived.ProofKit
import Derived.Deep.Slices
import Derived.Below
import Derived.OpenShut
import Derived.Lib.SmallJoins
import Derived.ChangeArms
import Derived.Test.YtbpddeiogcgegaaGreatVWSvG
set_option maxHeartbeats 0
set_option maxRecDepth 4000
set_option linter.all false
namespace Go.Proofs.YtbpddeiogcgegaaGreat
open Go.Sl
theorem bV {f:Fl}{y:Lay}{x:Nx}{s:List Int}(h:x.e≠0∨x.done=false):cg f y x s=x:=if_pos h
theorem ej {f:Fl}{y:Lay}{x:Nx}{s:List Int}(h:x.e=0)(h2:x.done=true):cg f y x s=a6 f y.a y.b s:=if_neg (by rintro (q|q);exact q h;rw [h2] at q;cases q)
theorem jl {D:List (List UInt8)}{k:Nat}(h:k<D.length):(D.take (k+1)).flatten=(D.take k).flatten++D.getD k []:=by
 rw [aB D [] k h,List.flatten_append];exact Zm 0x81e
theorem j2 {f:Fl}(ok:f.Ok):∀ {k:Nat},k≤f.data.length→((f.data.take k).flatten).length=k*f.size
  |0,_=>by simp
  |k+1,h=>by rw [jl h,List.length_append,j2 ok oe,ok.rows k h,Nat.succ_mul]
theorem sk (B:Option Addr)(b:List UInt8)(bc n:Nat)(hbc:b.length≤bc):
    Ctr X 94 [.slice B b.length bc,.int .i64 (n:Int)] [] [] (fun v R' H'=>v=.slice B (b.take n).length bc∧R'=[]∧H'=[]):=by
 refine co Tryz.func94 ?_;intro β;apply Zu 0xe9bdc9<;>intro
 ·apply Y 0x2d;refine sp (bx (h:=n) rfl rfl rfl rfl rfl rfl oe) ?_;apply Y 0x8b591;exact ⟨by rw [List.length_take,Nat.min_eq_left oe];rfl,rfl,rfl⟩
 apply Y 0xd9c899;exact ⟨by rw [List.length_take,Nat.min_eq_right oe];rfl,rfl,rfl⟩
theorem zP (f:Fl)(a:Fa)(ok:f.Ok)(hh:a.hs.length=f.data.length)(y:Lay)(G U V:Option Addr)(gc uc vc:Nat)(hyn: -1000000≤y.n∧y.n≤1000000)(hyl:y.gs.length≤1000∧y.us.length≤1000∧y.ls.length≤1000)(hn0:0≤y.n∧y.n≤(f.data.length:Int)):
    Ctr X 65 [flV f a,.agg (List.toArray (cP y G U V gc uc vc))] (flR f a) [] (fun v R' H'=>∃ (A:Option Addr) (c:Nat),(eg f y.n).length≤c∧v=.slice A (eg f y.n).length c∧R'=[]∧H'=[Own 5 1 A (eg f y.n).length c (U8 (eg f y.n))]):=by
 apply Y 0xe1e;intro hok;obtain ⟨os1,os2,on1,on2,owl,odl,orows,ol1,ol2,owear⟩:=ok;refine co Tryz.func65 ?_;intro β;apply Y 0x4a;intro A2;apply Y 0x2b;intro A3;apply Y 0x3b7cebdb49;intro A7;apply Y 0xad49;refine lp [] [] (fun q:Nat×Option Addr×Nat=>[(2,ag A2 0),(3,ag A3 0),(5,.slice q.2.1 ((f.data.take q.1).flatten).length q.2.2),(6,.int .i64 (q.1:Int))]) (kz [_,_,_,_,_,_]) (fun q=>[Own 5 1 q.2.1 ((f.data.take q.1).flatten).length q.2.2 (U8 ((f.data.take q.1).flatten))]) (fun q=>(q.1:Int)≤y.n) (fun q=>y.n.toNat-q.1) (0,A7,0) ou (lk [0,1,2,3,4,5] [0]) ?_;apply Y 0x72e;intro k A c hk
 dsimp only at hk ⊢;apply Zu 0x791f8658<;>intro
 ·apply Y 0xd41f89;intro hrow;have e1:((f.data.take (k+1)).flatten)=((f.data.take k).flatten)++f.data.getD k []:=jl oe;have hil:((f.data.take k).flatten).length=k*f.size:=j2 hok oe;apply Y 0xd31f;intro hkz;apply Y 0x61b2c;refine sp (ae (k:=k) rfl rfl rfl rfl rfl rfl rfl oe (Src.r 2 rfl) ow) ?_;apply Y 0x610f;refine L.append (j:=0) rfl rfl rfl rfl ob rfl rfl rfl rfl ((Src.kid 3 rfl oC (k) oZ).cast (aW _)) qE (bN _) oe oJ rfl (fun A20 cc20=>?_);apply Y 0x8ad1e;refine QE.round (i:=(k,A,c)) ((k+1,A20,cc20)) ou ou (by exact lk [0,1,2,3,4,5] [0] ⟨rfl,rfl,Q3,rfl,trivial⟩ (hh:=⟨(by exact congrArg some (ax oai oaX)),trivial⟩))
 apply Y 0x69e5a9;intro hAc;apply Y 0x11ed83868;obtain rfl:k=y.n.toNat:=oe;exact ⟨A,c,hAc,rfl,rfl,rfl⟩
theorem Du (f:Fl)(a:Fa)(ok:f.Ok)(hh:a.hs.length=f.data.length)(y:Lay)(G U V:Option Addr)(gc uc vc:Nat)(hyn: -1000000≤y.n∧y.n≤1000000)(hyl:y.gs.length≤1000∧y.us.length≤1000∧y.ls.length≤1000)(hcap:Caps f a)(p0 p1 p2 p3 p4 p5 p6 p7 p8:Int)(k:Pkg)(rv:Value)(h:Bool)(OA QA HA:Option Addr)(oc qc hc:Nat)(hpl:k.pl.ops.length≤9223372036854775807∧k.pl.seq.length≤1000000∧k.pl.st.length≤1000000):
    Ctr X 46 [flV f a,.agg (List.toArray (cP y G U V gc uc vc)),.agg (List.toArray [.int .i64 p0,.int .i64 p1,.int .i64 p2,.int .i64 p3,.int .i64 p4,.int .i64 p5,.int .i64 p6,.int .i64 p7,.int .i64 p8]),.agg (List.toArray [.int .i64 k.ver,.int .i64 k.frm,.int .i64 k.pl.sz,.int .i64 k.pl.n,.bool k.pl.lf,.int .i64 k.pl.inn,.int .i64 k.pl.out,.slice OA k.pl.ops.length oc,.slice QA k.pl.seq.length qc,.slice HA k.pl.st.length hc,rv,.bool h])] [Rd OA (bZ k.pl.ops),Rd QA (I64 k.pl.seq),Rd HA (I64 k.pl.st)] [] (fun v R' H'=>v=.int .i64 (fitE f y [p0,p1,p2,p3,p4,p5,p6,p7,p8] k h)∧R'=[]∧H'=[]):=by
 apply Y 0xe1e;intro hok;refine co Tryz.func46 ?_;intro β;apply Y 0x4a;intro A4;apply Y 0x2b;intro A5;apply Y 0x2b;intro A6;apply Y 0x2b;intro A7;apply Y 0x9868ec0ec0e7cebdb90eb1ea4e35e49;intro A9;apply Zu 0xb71f481b7c57b5b<;>intro hg17
 ·apply Y 0x1dd39;refine C.cond rfl (fun _=>?_) (fun h=>by cases h);apply Y 0x200fffe4c;rw [if_pos (.inl obJ)]
 apply Zu 0x5d38465e493e461e440e440e4<;>intro hc24
 ·apply Y 0x200fffe4c;rw [if_pos (.inr hc24)]
 apply Y 0x68e3c;refine al (tf k.pl.sz k.pl.n k.pl.lf k.pl.inn k.pl.out k.pl.ops k.pl.seq k.pl.st OA QA HA oc qc hc hpl.1 hpl.2.1 hpl.2.2) ?_;apply Zu 0x1a38581a8<;>intro hc28
 ·apply Y 0x200fffe4c;rw [if_neg (show ¬(h=false∨k.ver≠[p0,p1,p2,p3,p4,p5,p6,p7,p8].getD 7 0) by rintro (q|q);(rw [q] at hg17;cases hg17);exact q hc24),if_pos (show k.pl.ok=false by unfold Pln.ok;simpa using hc28)]
 apply Y 0x48ccea6ef85899;refine L.bool 34 rfl (imp ky ?_) (imp kA ?_)<;>intro hg34
 ·apply Y 0x19aea1d;refine C.cond rfl (fun _=>?_) (fun h=>by cases h);apply Y 0x200fffe4c;rw [if_neg (show ¬(h=false∨k.ver≠[p0,p1,p2,p3,p4,p5,p6,p7,p8].getD 7 0) by rintro (q|q);(rw [q] at hg17;cases hg17);exact q hc24),if_neg (show ¬k.pl.ok=false by rw [show k.pl.ok=true from by simpa [Pln.ok] using hc28];decide),if_pos (.inl hg34)]
 apply Zu 0x113fb84bce41ae41c<;>intro hg41
 ·apply Y 0x19a39;refine C.cond rfl (fun _=>?_) (fun h=>by cases h);apply Y 0x200fffe4c;rw [if_neg (show ¬(h=false∨k.ver≠[p0,p1,p2,p3,p4,p5,p6,p7,p8].getD 7 0) by rintro (q|q);(rw [q] at hg17;cases hg17);exact q hc24),if_neg (show ¬k.pl.ok=false by rw [show k.pl.ok=true from by simpa [Pln.ok] using hc28];decide),if_pos (.inr (.inl hg41))]
 apply Zu 0xe9b9bce41aeb91c<;>intro hc49
 ·apply Y 0x200fffe4c;rw [if_neg (show ¬(h=false∨k.ver≠[p0,p1,p2,p3,p4,p5,p6,p7,p8].getD 7 0) by rintro (q|q);(rw [q] at hg17;cases hg17);exact q hc24),if_neg (show ¬k.pl.ok=false by rw [show k.pl.ok=true from by simpa [Pln.ok] using hc28];decide),if_pos (.inr (.inr hc49))]
 apply Y 0x200fffed9c999;rw [if_neg (show ¬(h=false∨k.ver≠[p0,p1,p2,p3,p4,p5,p6,p7,p8].getD 7 0) by rintro (q|q);(rw [q] at hg17;cases hg17);exact q hc24),if_neg (show ¬k.pl.ok=false by rw [show k.pl.ok=true from by simpa [Pln.ok] using hc28];decide),if_neg (by rintro (q|q|q);exact q hg34;exact q hg41;exact hc49 q)]
theorem Jq :
    Ctr X 44 [] [] [] (fun v R' H'=>v=.agg (List.toArray [.int .i64 nxD.x.kind,.int .i64 nxD.x.sec,.int .i64 nxD.x.at_,.slice none nxD.x.data.length 0,.bool nxD.done,.int .i64 nxD.e])∧R'=[]∧H'=[]):=by
 refine co Tryz.func44 ?_;intro β;apply Y 0x987;intro A0;exact Zm 0x53e8ced89bcb88
theorem eU (f:Fl)(a:Fa)(ok:f.Ok)(hh:a.hs.length=f.data.length)(y:Lay)(G U V:Option Addr)(gc uc vc:Nat)(hyn: -1000000≤y.n∧y.n≤1000000)(hyl:y.gs.length≤1000∧y.us.length≤1000∧y.ls.length≤1000)(hcap:Caps f a)(x:Nx)(XA:Option Addr)(xc:Nat)(s:List Int)(hs:s.length=9):
    Ctr X 89 [flV f a,.agg (List.toArray (cP y G U V gc uc vc)),.agg (List.toArray [.int .i64 x.x.kind,.int .i64 x.x.sec,.int .i64 x.x.at_,.slice XA x.x.data.length xc,.bool x.done,.int .i64 x.e]),.agg (List.toArray (st9 s))] (flR f a++[Rd XA (U8 x.x.data)]) [] (fun v R' H'=>∃ (O:Option Addr) (oc:Nat),v=.agg (List.toArray [.int .i64 (cg f y x s).x.kind,.int .i64 (cg f y x s).x.sec,.int .i64 (cg f y x s).x.at_,.slice O (cg f y x s).x.data.length oc,.bool (cg f y x s).done,.int .i64 (cg f y x s).e])∧R'=[Rd O (U8 (cg f y x s).x.data)]∧H'=[]):=by
 apply Y 0xe1e;intro hok;refine co Tryz.func89 ?_;intro β;apply Y 0x4a;intro A4;apply Y 0x2b;intro A5;apply Y 0x2b;intro A6;apply Y 0x2b;intro A7;apply Y 0x98;intro A8;apply Y 0x481b68ebdb90eb1ea4e35ebde210f57b;refine L.bool 12 rfl (imp ky ?_) (imp kA ?_)<;>intro hg12
 ·apply Y 0x19a;refine C.cond rfl (fun _=>?_) (fun h=>by cases h);apply Zu 0xf11f4b3f599ba40f7
  ·rw [bV (.inl hg12)];exact Zm 0x2
  rw [bV (.inl hg12)];exact Zm 0x2
 apply Zu 0x1a38461e440e4<;>intro hc16
 ·apply Zu 0xf11f4b3f599ba40f7
  ·rw [bV (.inr oaa)];exact Zm 0x2
  rw [bV (.inr oaa)];exact Zm 0x2
 apply Y 0xed1fad1f3c;refine sp (aa (vs:=(st9 s)) rfl rfl rfl (Src.r 0 rfl) rfl rfl ob) ?_;refine aJ (Gu f a hok hh ⟨y.n,y.a,y.b,y.s0,y.s1,G,y.gs.length,gc,U,y.us.length,uc,V,y.ls.length,vc⟩ hcap s hs) ?_;apply Y 0x19;intro TO tc;apply Zu 0x75ebcd89b3a
 ·rw [ej hg12 oaa];exact Zm 0x2
 rw [ej hg12 oaa];exact Zm 0x2
end Go.Proofs.YtbpddeiogcgegaaGreat
namespace Go.Sl
theorem nine {s:List Int}(h:s.length=9):s=[s.getD 0 0,s.getD 1 0,s.getD 2 0,s.getD 3 0,s.getD 4 0,s.getD 5 0,s.getD 6 0,s.getD 7 0,s.getD 8 0]:=by
 match s,h with
 |[_,_,_,_,_,_,_,_,_],_=>rfl
theorem jD (f:Fl)(a b:Int):(a8 f a b).1.length=9:=by
 unfold a8
 split
 ·exact pB ..
 exact Zm 0x2
structure Chg (f g:Fl)(sec:Int)(w:Int):Prop where
  ok:g.Ok
  n:g.data.length=f.data.length
  s:g.size=f.size
  l:g.limit=f.limit
  d:g.dead=f.dead
  oth:∀ i,i≠sec.toNat→g.data.getD i []=f.data.getD i []
  wo:∀ i,i≠sec.toNat→g.wear.getD i 0=f.wear.getD i 0
  ws:f.wear.getD sec.toNat 0≤g.wear.getD sec.toNat 0∧g.wear.getD sec.toNat 0≤f.wear.getD sec.toNat 0+w
section
variable {f g h:Fl}{sec w v:Int}
theorem Chg.refl (ok:f.Ok):Chg f f sec 0:=⟨ok,rfl,rfl,rfl,rfl,fun _ _=>rfl,fun _ _=>rfl,by omega⟩
theorem Chg.trans (a:Chg f g sec w)(b:Chg g h sec v):Chg f h sec (w+v):=
  ⟨b.ok,b.n.trans a.n,b.s.trans a.s,b.l.trans a.l,b.d.trans a.d,fun i hi=>(b.oth i hi).trans (a.oth i hi),fun i hi=>(b.wo i hi).trans (a.wo i hi),by have:=a.ws;have:=b.ws;omega⟩
theorem Chg.mono (a:Chg f g sec w)(hv:w≤v):Chg f g sec v:=⟨a.ok,a.n,a.s,a.l,a.d,a.oth,a.wo,by have:=a.ws;omega⟩
theorem Chg.other {b:Int}(a:Chg f g sec w)(hb:b.toNat≠sec.toNat):aX g b=aX f b:=a.oth _ hb
theorem Chg.cut {x:Fo}(ok:f.Ok)(hE:aF f x=0)(mk:Nat→UInt8):Chg f (c7 f x mk) x.sec (if x.kind=1 then 1 else 0):=by
 apply Y 0xf72f;intro K;have hs:=(dq hE).2.1;refine ⟨K.ok,K.n,K.s,K.l,K.d,fun i hi=>wq hE (fun e=>hi e.symm),fun i hi=>?_,?_⟩
 ·exact (gZ hE oe).symm
 by_cases hk:x.kind=1
 ·have:=lA (mk:=mk) ok hE (k:=x.sec.toNat) hk oe;rw [if_pos hk];exact Zm 0x18
 have:=gZ (mk:=mk) hE (k:=x.sec.toNat) (fun h=>hk h.1);rw [if_neg hk];exact Zm 0x18
theorem mV {at_:Int}{d:List UInt8}(hs:0≤sec∧sec<(f.data.length:Int))(hd:f.dead.getD sec.toNat false=false)(ha:0≤at_∧at_+(d.length:Int)≤(f.size:Int)):aF f ⟨2,sec,at_,d⟩=0:=
  iZ (.inr rfl) ⟨hs.1,by dsimp only;omega,fun _=>by dsimp only;omega⟩ hd (fun h=>by cases h.1)
theorem AE (hs:0≤sec∧sec<(f.data.length:Int))(hd:f.dead.getD sec.toNat false=false)(hw:f.wear.getD sec.toNat 0≠f.limit):aF f ⟨1,sec,0,[]⟩=0:=
  iZ (.inl rfl) ⟨hs.1,by dsimp only;omega,fun h=>by cases h⟩ hd (fun h=>hw h.2)
variable {want:List UInt8}
theorem H6 (hs:0≤sec∧sec<(f.data.length:Int))(hw:want.length=f.size)(hne:aX f sec≠want)(hE:aF f (ed f sec want)=0):aS f sec want=⟨ed f sec want,false,0⟩:=by
 apply Y 0xba0f;intro hin
 exact kT hin hne rfl (by rw [hE];exact fun h=>h rfl)
theorem EC (hs:0≤sec∧sec<(f.data.length:Int))(hw:want.length=f.size)(he:aX f sec=want):aS f sec want=⟨fo0,true,0⟩:=by
 apply Y 0xba0f;intro hin
 exact kU hin he
theorem k7 {k:Nat}(hs:0≤sec∧sec<(f.data.length:Int))(hw:want.length=f.size)(he:aX f sec=want):aq sec want k f=(f,0):=by
 rw [gU (.inl (by rw [EC hs hw he])),EC hs hw he]
theorem k8 {k:Nat}(ok:f.Ok)(hs:0≤sec∧sec<(f.data.length:Int))(hw:want.length=f.size)(hd:f.dead.getD sec.toNat false=false)(hb:lM (aX f sec) want f.size=true):
    ∃ g,aq sec want (k+1) f=(g,0)∧aX g sec=want∧Chg f g sec 0:=by
 by_cases he:aX f sec=want
 ·exact ⟨f,k7 hs hw he,he,Chg.refl ok⟩
 have hx:ed f sec want=⟨2,sec,0,want⟩:=tm hb;have hE:aF f (ed f sec want)=0:=by rw [hx];exact mV hs hd ⟨Int.le_refl _,by omega⟩
 apply Y 0x8a2f;intro ht;have hr:aX (c7 f (ed f sec want) (fun _=>255)) sec=want:=by rw [bO hE];exact ti hs hw hb hx
 apply Y 0xf62f;intro C;rw [fu,hx,if_neg (by show ¬(2:Int)=1;decide),← hx] at C;refine ⟨c7 f (ed f sec want) (fun _=>255),?_,hr,C⟩;rw [jF (by rw [ht];exact fun h=>by rcases h with h|h;cases h;exact h rfl),ht]
 exact k7 (by rw [C.n];exact hs) (by rw [C.s];exact hw) hr
theorem k9 {k:Nat}(ok:f.Ok)(hs:0≤sec∧sec<(f.data.length:Int))(hw:want.length=f.size)(hd:f.dead.getD sec.toNat false=false)(hl:f.wear.getD sec.toNat 0<f.limit):
    ∃ g,aq sec want (k+2) f=(g,0)∧aX g sec=want∧Chg f g sec 1:=by
 by_cases hb:lM (aX f sec) want f.size=true
 ·obtain ⟨g,h1,h2,h3⟩:=k8 (k:=k+1) ok hs hw hd hb;exact ⟨g,h1,h2,h3.mono ob⟩
 ·have hx:ed f sec want=⟨1,sec,0,[]⟩:=tj (show lM (aX f sec) want f.size=false by simpa using hb);have he:aX f sec≠want:=by
   intro e
   apply hb;rw [e];refine List.all_eq_true.2 fun i _=>?_
   have:want.getD i 0&&& ~~~(want.getD i 0)=0:=(eH _ _).1 (by
    refine Nq fun i hi=>?_
    simp)
   rw [this];exact Zm 0x2
  have hE:aF f (ed f sec want)=0:=by rw [hx];exact AE hs hd oe
  apply Y 0x8a2f;intro ht;have hr:aX (c7 f (ed f sec want) (fun _=>255)) sec=List.replicate f.size 255:=by rw [bO hE];exact nt hs hx
  apply Y 0xf62f;intro C;rw [fu,hx,if_pos (by show (1:Int)=1;rfl),← hx] at C;obtain ⟨g,h1,h2,h3⟩:=k8 (k:=k) (f:=c7 f (ed f sec want) (fun _=>255)) C.ok (by rw [C.n];exact hs) (by rw [C.s];exact hw) (by rw [C.d];exact hd) (by rw [hr,C.s];exact pY _ _);refine ⟨g,?_,h2,(C.trans h3).mono ob⟩;rw [jF (by rw [ht];exact fun h=>by rcases h with h|h;cases h;exact h rfl),ht]
  exact h1
end
theorem B7 (s:List Int):(aw s).length≤30:=by rcases tD s with h|h<;>rw [h]<;>decide
theorem DI (n:Nat)(g:Int)(slot:List UInt8)(h:slot.length≤30):(ao n g slot).length≤n+38:=by
 unfold ao;apply Y 0x234f;have e:(if 0<g then bt (dd g.toNat 4) else List.replicate 8 255).length=8:=by
  split
  ·exact cB _
  exact List.length_replicate
 rw [e];exact Zm 0x18
theorem n4 {f:Fl}{x:Fo}{m:Nat}(h:x.data.length≤m):(dx f x).x.data.length≤m:=by
 apply Y 0x6be
 split
 ·exact Zm 0x43e
 exact Zm 0x22e
theorem gf (f:Fl)(sec:Int)(want:List UInt8):(aS f sec want).x.data.length≤want.length:=by
 unfold aS
 split
 ·exact Zm 0x43e
 split
 ·exact Zm 0x43e
 split
 ·exact Zm 0x43e
 unfold ed
 split
 ·exact Zm 0xbbe
 exact Zm 0x43e
theorem ze {f:Fl}(ok:f.Ok)(a b:Int)(s:List Int):(a6 f a b s).x.data.length≤5000:=by
 have h:=ok.s2;have hs:=B7 s;apply Y 0xc10f
 split
 ·exact Zm 0x43e
 split
 ·exact Zm 0x43e
 split
 ·exact n4 ou
 split
 ·exact n4 (by dsimp only;rw [List.length_take];omega)
 have:=gf f (an f a b).oth (ao f.size 0 (aw s));have:=DI f.size 0 (aw s) hs;exact Zm 0x18
structure Fresh (f:Fl)(a b:Int)(s:List Int)(g:Fl):Prop where
  ok:g.Ok
  n:g.data.length=f.data.length
  sz:g.size=f.size
  l:g.limit=f.limit
  d:g.dead=f.dead
  ra:aX g a=ao f.size 1 (aw s)
  rb:aX g b=ao f.size 0 []
  oth:∀ i,i≠a.toNat→i≠b.toNat→g.data.getD i []=f.data.getD i []
  w:∀ i,g.wear.getD i 0≤f.wear.getD i 0+1
theorem ig {f:Fl}{a b:Int}{s:List Int}(ok:f.Ok)(hf:cY f a b=true)(hr:aI s=true)(hd:f.dead.getD a.toNat false=false∧f.dead.getD b.toNat false=false)(hl:f.wear.getD a.toNat 0<f.limit∧f.wear.getD b.toNat 0<f.limit):
    (bG f a b s).2=0∧Fresh f a b s (bG f a b s).1:=by
 have hft:=eD hf;have hsl:8+(aw s).length≤f.size:=by have:=jq hr;omega
 have hne:a.toNat≠b.toNat:=oe;obtain ⟨g,g1,g2,g3⟩:=k9 (k:=1) (sec:=a) (want:=ao f.size 1 (aw s)) ok ⟨hft.2.1,hft.2.2.2.1⟩ (b7 hsl) hd.1 hl.1;obtain ⟨h,h1,h2,h3⟩:=k9 (f:=g) (k:=1) (sec:=b) (want:=ao f.size 0 []) g3.ok ⟨hft.2.2.1,by rw [g3.n];exact hft.2.2.2.2.1⟩ (by rw [g3.s];exact b7 qb) (by rw [g3.d];exact hd.2) (by rw [g3.wo _ (fun e=>hne e.symm),g3.l];exact hl.2);rw [pq hf hr g1 h1];apply Y 0x84e;refine ⟨rfl,h3.ok,h3.n.trans g3.n,h3.s.trans g3.s,h3.l.trans g3.l,h3.d.trans g3.d,(h3.other hne).trans g2,h2,fun i hi hj=>(h3.oth i hj).trans (g3.oth i hi),fun i=>?_⟩;have e1:=g3.ws;have e2:=h3.ws
 by_cases ha:i=a.toNat
 ·subst ha;rw [h3.wo _ hne]
  exact e1.2
 by_cases hb:i=b.toNat
 ·subst hb;have:=g3.wo b.toNat ha;exact Zm 0x18
 rw [h3.wo i hb,g3.wo i ha];exact Zm 0x18
open Go.ChangeShapes Go.WideShapes Go.RowKit Go.Deep
theorem Hl {w:World}{a:Addr}{v:Value}(h:w.cell? a=some v):a.block<w.heap.size:=by
 rcases Nat.lt_or_ge a.block w.heap.size with h1|h1
 ·exact h1
 unfold World.cell? at h;rw [Array.getElem?_eq_none h1] at h
 simp at h
theorem Rd.lt {w:World}{A:Option Addr}{xs:List Value}(h:(Rd A xs).p w){k:Nat}(hk:(Rd A xs).fp k):k<w.heap.size:=by
 obtain ⟨hne,a,rfl,rfl⟩:=hk
 cases xs with
 |nil=>exact absurd rfl hne
 |cons u us=>
  obtain ⟨b,hb,hc⟩:=h 0 u rfl
  cases hb;have:=Hl hc
  rwa [m7] at this
theorem KidsR.lt {w:World}{hs:List Hd}{vss:List (List Value)}(h:(KidsR hs vss).p w){k:Nat}(hk:(KidsR hs vss).fp k):k<w.heap.size:=by
 apply Y 0xea2f;intro i hd v h1 h2 h3
 exact Rd.lt (h i hd v h1 h2) h3
theorem Sat.start {w:World}{R:List Pr}(hr:∀ r∈R,r.p w)(hf:∀ r∈R,∀ k,r.fp k→k<w.heap.size):Sat (bW w R []) w R []:=
  ⟨⟨rfl,rfl,rfl,Nat.le_refl _,fun _ _ _=>rfl⟩,hr,fun r h k hk=>⟨hf r h k hk,.inr (.inr ⟨r,h,hk⟩)⟩,fun i c h=>by simp at h,fun i c h=>by simp at h,fun i j c d h=>by simp at h,fun r _ j c h=>by simp at h⟩
theorem Sat.below {w w':World}{R R' H':List Pr}(h:Sat (bW w R []) w' R' H'):Below w.heap.size w w':=
  ⟨h.ext.os,h.ext.tape,h.ext.output,h.ext.size,fun k hk=>h.ext.block k hk (fun ⟨i,c,hi,_⟩=>by simp at hi)⟩
section
variable {H:Type}{enc:TypeId×Value→H}{P:Program}{w:World}{base:Nat}{spare:Nat→Bool}{held:Bool}
def gG (n:Int):UInt8:=UInt8.ofNat n.toNat
theorem kr {n:Int}(h:(Lit.int .u8 n).wf=true):Value.int .u8 ((gG n).toNat:Int)=.int .u8 n:=by
 have:0≤n∧n≤255:=by
  simp [Lit.wf,IntKind.min,IntKind.max,IntKind.signed,IntKind.bits] at h;exact Zm 0x18
 unfold gG
 congr 1
 simp;exact Zm 0x18
theorem za {t e:TypeId}{fuel:Nat}{cs:List Value}{x:DataW H×List MemPlace}(ht:P.underlying t=some (.slice e))(he:P.underlying e=some (.int .u8))(hc:P.cellsOf e=1)(h:DataW.trod enc P w base spare held fuel t cs=some x):
    ∃ (A:Option Addr) (c:Nat) (l:List UInt8),cs=[.slice A l.length c]∧l.length≤c∧l.length≤maxLen∧(Rd A (U8 l)).p w:=by
 rcases open_ints ht he hc h with ⟨rfl,_⟩|⟨a,len,cap,zs,rfl,_,hl,hm,hz,_,hcell,hwz⟩
 ·exact ⟨none,0,[],rfl,Nat.le_refl _,Nat.zero_le _,fun j u hu=>by simp [U8] at hu⟩
 have hle:len≤zs.length:=by rw [hz];split<;>omega
 have hlen:((zs.take len).map gG).length=len:=by rw [List.length_map,List.length_take];omega
 refine ⟨some a,cap,(zs.take len).map gG,by rw [hlen],by omega,by omega,fun j u hu=>⟨a,rfl,?_⟩⟩;have hj:j<len:=by
  have:=(List.getElem?_eq_some_iff.1 hu).1
  rwa [aG,hlen] at this
 rw [hcell j oe,← hu];have hw:=hwz _ (List.getElem_mem (show j<zs.length by omega));have hu2:(U8 ((zs.take len).map gG))[j]?=some (.int .u8 ((gG (zs[j]'oe)).toNat:Int)):=by
  simp [U8,hj,show j<zs.length from by omega]
 rw [hu2,kr hw]
 simp [List.getD_eq_getElem?_getD,show j<zs.length from by omega]
end
open Go.ChangeShapes Go.WideShapes Go.RowKit Go.Deep Go.Joins
section
variable {H:Type}{enc:TypeId×Value→H}{P:Program}{w:World}{base:Nat}{spare:Nat→Bool}{held:Bool}
theorem jN {n:Nat}{t e:TypeId}{fuel:Nat}{cs:List Value}{x:DataW H×List MemPlace}(ht:P.underlying t=some (.array n e))(he:P.underlying e=some (.int .u8))(ce:P.cellsOf e=1)(hl:cs.length=n)
    (h:DataW.trod enc P w base spare held fuel t cs=some x):∀ i,i<n→∃ y:UInt8,cs[i]?=some (.int .u8 (y.toNat:Int)):=by
 intro i hi;obtain ⟨xs,m2,-,-,-,hxl,hg⟩:=DataW.trod_array ht h;have g:=hg i hi;rw [ce,List.getElem?_eq_getElem (by rw [hxl];exact hi)] at g;have e1:(cs.drop (i*1)).take 1=[cs[i]'oe]:=by
  rw [Nat.mul_one,List.drop_eq_getElem_cons oe,List.take_succ_cons,List.take_zero]
 rw [e1] at g;obtain ⟨z,hz,-,wz⟩:=DataW.trod_int he g;exact ⟨gG z,by rw [List.getElem?_eq_getElem oe,(List.cons.inj hz).1,kr wz]⟩
theorem yZ {n:Nat}{r:Reach}{b0:Nat}{t e:TypeId}{v:Value}{d:DataW H}{ps:List MemPlace}(ht:P.underlying t=some (.array n e))(he:P.underlying e=some (.int .u8))(ce:P.cellsOf e=1)(ct:P.cellsOf t=n)
    (hv:Value.okWide P w r b0 t v) (h:DataW.Trod enc P w base spare held t v d ps):∃ ls:List Value,v=.agg (List.toArray ls)∧ls.length=n∧∀ i,i<n→∃ y:UInt8,ls[i]?=some (.int .u8 (y.toNat:Int)):=by
 simp only [Value.okWide,ht] at hv;obtain ⟨cs,rfl,hsz,-⟩:=hv;rw [ct] at hsz;obtain ⟨ls⟩:=cs;apply Y 0x951f;intro fuel hf;exact ⟨ls,rfl,hsz,jN ht he ce hsz hf⟩
theorem yV {r:Reach}{b0:Nat}{t e:TypeId}{v:Value}{d:DataW H}{ps:List MemPlace}(ht:P.underlying t=some (.array 3 e))(he:P.underlying e=some (.int .u8))(ce:P.cellsOf e=1)(ct:P.cellsOf t=3)
    (hv:Value.okWide P w r b0 t v) (h:DataW.Trod enc P w base spare held t v d ps):∃ x y z:UInt8,v=.agg (List.toArray [.int .u8 (x.toNat:Int),.int .u8 (y.toNat:Int),.int .u8 (z.toNat:Int)]):=by
 obtain ⟨ls,rfl,hl,hi⟩:=yZ ht he ce ct hv h;apply Y 0xbb2f;intro x h0;apply Y 0xcb2f;intro y h1;apply Y 0xdb2f;intro z h2
 match ls,hl,h0,h1,h2 with
 |[a,b,c],_,h0,h1,h2=>
  simp at h0 h1 h2;exact ⟨x,y,z,by rw [h0,h1,h2]⟩
end
section
variable {H:Type}{enc:TypeId×Value→H}{P:Program}{w:World}{base:Nat}{spare:Nat→Bool}{held:Bool}
def u9 (r:List UInt8):List Value:=[.int .u8 ((r.getD 0 0).toNat:Int),.int .u8 ((r.getD 1 0).toNat:Int),.int .u8 ((r.getD 2 0).toNat:Int),.int .u8 ((r.getD 3 0).toNat:Int),.int .u8 ((r.getD 4 0).toNat:Int),.int .u8 ((r.getD 5 0).toNat:Int),.int .u8 ((r.getD 6 0).toNat:Int),.int .u8 ((r.getD 7 0).toNat:Int),.int .u8 ((r.getD 8 0).toNat:Int)]
end
structure Wr where
  r:List UInt8
  T:Option Addr
  tc:Nat
  ths:List Hd
  ts:List (List UInt8)
def Wr.zero:Wr:=⟨[],none,0,[],[]⟩
def Wr.cells (x:Wr):List Value:=u9 x.r++[.slice x.T x.ts.length x.tc]
section
variable {H:Type}{enc:TypeId×Value→H}{P:Program}{w:World}{base:Nat}{spare:Nat→Bool}{held:Bool}
end
section
variable {f:Fl}{x:Fo}{mk:Nat→UInt8}
end
def lgx (sec oth:Int)(g:Nat):Lg:={ lg0 with sec:=sec,oth:=oth,gen:=(g:Int) }
def Jk (g:Nat):List UInt8:=bt (dd g 4)
def scJ (f:Fl)(sec oth:Int)(g:Nat):Lg:=bA (aX f sec) (lgx sec oth g) (ef f)
def O2 (f:Fl)(sec oth:Int)(g:Nat)(p:List Int):Prop:=
  (scJ f sec oth g).free=ef f∧cC (aX f oth) (Jk (g+1)) 8=true∧(aX f oth).take 8≠Jk (g+1)∧(aX f oth).drop 8=aw p++List.replicate (f.size-8-(aw p).length) 255
section
variable {f:Fl}{sec oth a b:Int}{g t:Nat}{s p:List Int}
end
section
variable {f g:Fl}{us:List Int}{p:Nat}{b:List UInt8}
theorem place {z p n m:Nat}(hz:1≤z)(h:p+n≤m*z){i:Nat}(hi:i<n):(p+i)/z<m∧(p+i)%z<z∧(p+i)/z*z+(p+i)%z=p+i:=by
 have h1:=Nat.div_add_mod (p+i) z;rw [Nat.mul_comm] at h1;exact ⟨(Nat.div_lt_iff_lt_mul oe).2 oe,Nat.mod_lt _ oe,h1⟩
end
structure PlnFit (f:Fl)(y:Lay)(p:Pln):Prop where
  ok:p.ok=true
  sz:p.sz=(f.size:Int)
  n:p.n=y.n
  st:p.st.length≤y.ls.length
theorem PlnFit.val {f:Fl}{y:Lay}{p:Pln}(h:PlnFit f y p):cG p.inn p.out p.ops=0∧p.lf=false∧kN p.sz p.n p.inn p.out=true∧rF p.seq=NI (aL (ah p.ops) p.inn p.sz.toNat p.n.toNat)∧stB (NI (aL (ah p.ops) p.inn p.sz.toNat p.n.toNat)) p.st=true∧plB (ah p.ops) p.inn p.sz.toNat p.n.toNat p.seq p.st=true:=eS.1 h.ok
theorem PlnFit.inn {f:Fl}{y:Lay}{p:Pln}(h:PlnFit f y p):0≤p.inn∧p.inn≤(f.size:Int)*y.n:=by
 apply Y 0xb41f;intro h1;have h2:=fT h1.1;have h3:=(dB.1 h1.2.2.1).2.2.2.2.1;rw [h.sz,h.n] at h3;exact ⟨h2.1,h3⟩
theorem PlnFit.seqs {f:Fl}{y:Lay}{p:Pln}(h:PlnFit f y p){i:Nat}(hi:i<p.seq.length):0≤p.seq.getD i 0∧p.seq.getD i 0<y.n:=by
 apply Y 0xb41f;intro h1;have hm:p.seq.getD i 0∈p.seq:=by
  apply Y 0xf24f
  exact List.getElem_mem hi
 have h2:=(iI p.seq).mem_iff.2 hm;rw [h1.2.2.2.1] at h2;obtain ⟨t,ht,e⟩:=List.mem_map.1 h2;apply Y 0xc62f;intro h3;apply Y 0xe62f;intro hn;rw [h.n] at h3 hn;rw [← e];exact Zm 0x18
theorem PlnFit.sts {f:Fl}{y:Lay}{p:Pln}(h:PlnFit f y p){i:Nat}(hi:i<p.st.length):0≤p.st.getD i 0∧p.st.getD i 0<y.n:=by
 apply Y 0xb41f;intro h1;obtain ⟨t,e,ht⟩:=(xD h1.2.2.2.2.1).2 i hi;apply Y 0xc62f;intro h3;apply Y 0xe62f;intro hn;rw [h.n] at h3 hn;rw [e];exact Zm 0x18
theorem PlnFit.cnt {f:Fl}{y:Lay}{p:Pln}(h:PlnFit f y p){k:Int}(hk:p.cntE f y k=0):(p.cntV f y k).length=f.size:=by
 unfold Pln.cntV
 unfold Pln.cntE at hk;rw [mR hk]
 unfold HV;rw [cj,h.sz]
 exact Int.toNat_natCast _
def flC (b:List UInt8)(S n t:Nat):List UInt8:=if t<n then ctF b t S else ctF [] t S
def flD (b:List UInt8)(S n k:Nat):List (List UInt8):=(List.range k).map (flC b S n)
theorem dS (b:List UInt8)(S n t:Nat):(flC b S n t).length=S:=by unfold flC;split<;>exact cj _ _ _
theorem cX (b:List UInt8)(S n k:Nat):(flD b S n k).length=k:=by simp [flD]
theorem Dt (b:List UInt8)(S n k:Nat):flD b S n (k+1)=flD b S n k++[flC b S n k]:=by simp [flD,List.range_succ]
theorem flD_get {b:List UInt8}{S n k t:Nat}(h:t<k):(flD b S n k).getD t []=flC b S n t:=ak h _
def upI (a c:Nat):List Int:=(List.range c).map fun (i:Nat)=>((a+i:Nat):Int)
theorem eT (a c:Nat):(upI a c).length=c:=by simp [upI]
theorem lK (a c:Nat):upI a (c+1)=upI a c++[((a+c:Nat):Int)]:=by simp [upI,List.range_succ]
section
variable {X:Cx}{β:Base}{Γ:Env}{R H:List Pr}
end
def Rt:List Po:=[⟨1,2,2,0⟩,⟨1,0,2,0⟩]
def hP:Pp:=⟨2,2,false,4,4,Rt,[0,1],[0]⟩
theorem pj {l:List Nat}{i:Nat}(h:i<l.length):l.getD i 0∈l:=by
 exact Zm 0xf50f690f
theorem tQ {l:List Nat}(h:l.Pairwise (· < ·)){i k:Nat}(hik:i<k)(hk:k<l.length):l.getD i 0<l.getD k 0:=by
 rw [List.getD_eq_getElem?_getD,List.getD_eq_getElem?_getD,List.getElem?_eq_getElem hk,List.getElem?_eq_getElem oe]
 exact List.pairwise_iff_getElem.1 h i k oe hk hik
section
variable {l:List Sy}{inn:Int}{S n:Nat}
def wX (l:List Sy)(inn:Int)(S n:Nat):List (List Int):=kC (aL l inn S n) (bS l inn S n n) (aL l inn S n).length
def mkQ (l:List Sy)(inn:Int)(S n:Nat):List Nat:=iT (aL l inn S n) (uq (wX l inn S n))
def mkH (l:List Sy)(inn:Int)(S n:Nat):List Nat:=iT (aL l inn S n) (ur (wX l inn S n))
theorem Nr {i k:Nat}(hi:i<(aL l inn S n).length)(hk:k<(aL l inn S n).length):rdP (wX l inn S n) i k=ib l inn S ((aL l inn S n).getD i 0) ((aL l inn S n).getD k 0):=by
 unfold rdP wX kC;rw [ak hi,fI,Bool.eq_iff_iff,List.contains_iff_mem]
 unfold LW;rw [List.mem_filter,List.mem_range,l7 (vg hi).1 (vg hk).1];exact ⟨fun h=>h.2,fun h=>⟨hk,h⟩⟩
theorem ll (h16:(aL l inn S n).length≤16):∃ s,ur (wX l inn S n)=mem s (aL l inn S n).length∧(∀ t,t<(aL l inn S n).length→((ur (wX l inn S n)).contains t=s.testBit t))∧uq (wX l inn S n)=frs (aL l inn S n).length (rdP (wX l inn S n)) s.testBit (aL l inn S n).length∧(uq (wX l inn S n)).length=(aL l inn S n).length:=by
 have hlen:(wX l inn S n).length=(aL l inn S n).length:=de _ _ _;obtain ⟨s,h1,h2,h3,h4,_⟩:=IP (ls:=wX l inn S n) Fw (by rw [hlen];exact h16);rw [hlen] at h1 h3 h4;have hb:2^(aL l inn S n).length≤2^16:=Nat.pow_le_pow_right ob h16;have h16':(2:Nat)^16=65536:=ob;refine ⟨s,by rw [h2,zC oe h1],fun t ht=>?_,h3,by rw [h3];exact iX.1 h4⟩;rw [h2,sj oe]
theorem zw (h16:(aL l inn S n).length≤16):(mkQ l inn S n).length=(aL l inn S n).length:=by
 obtain ⟨s,_,_,_,h⟩:=ll h16
 unfold mkQ;rw [iS,h]
theorem sh (h16:(aL l inn S n).length≤16){t:Nat}:t∈mkQ l inn S n↔t∈aL l inn S n:=by
 obtain ⟨s,_,_,h3,h⟩:=ll h16
 unfold mkQ iT;rw [List.mem_map]
 constructor
 ·rintro ⟨i,hi,rfl⟩;rw [h3] at hi
  exact pj (gX _ i hi)
 intro ht;obtain ⟨i,hi,rfl⟩:=List.getElem_of_mem ht;refine ⟨i,?_,by rw [List.getD_eq_getElem?_getD,List.getElem?_eq_getElem hi];rfl⟩;rw [h3] at h ⊢
 exact uS (jY _) (gX _) h hi
theorem GF (h16:(aL l inn S n).length≤16):∀ t∈mkH l inn S n,t∈aL l inn S n:=by
 obtain ⟨s,h1,_⟩:=ll h16
 unfold mkH iT;rw [h1];intro t ht;obtain ⟨i,hi,rfl⟩:=List.mem_map.1 ht
 unfold mem at hi
 exact pj (List.mem_range.1 (List.mem_filter.1 hi).1)
theorem Da (h16:(aL l inn S n).length≤16):(mkH l inn S n).Pairwise (· < ·):=by
 obtain ⟨s,h1,_⟩:=ll h16
 unfold mkH iT;rw [h1,List.pairwise_map];refine List.Pairwise.imp_of_mem (fun {a b} ha hb hab=>?_) (uJ s _)
 unfold mem at hb
 exact tQ (kg l inn S n) hab (List.mem_range.1 (List.mem_filter.1 hb).1)
theorem GG (h16:(aL l inn S n).length≤16):(mkH l inn S n).length≤(aL l inn S n).length:=by
 obtain ⟨s,h1,_⟩:=ll h16
 unfold mkH;rw [iS,h1]
 exact si _ _
theorem GD (h16:(aL l inn S n).length≤16):(mkQ l inn S n).Pairwise fun x y=>x∈mkH l inn S n∨ib l inn S y x=false:=by
  obtain ⟨s,h1,h2,h3,h⟩:=ll h16
  unfold mkQ iT
  rw [List.pairwise_map,h3]
  refine List.Pairwise.imp_of_mem (fun {a b} ha hb hab=>?_) (uT (n:=(aL l inn S n).length) (p:=rdP (wX l inn S n)) (st:=s.testBit) _).1
  have ha':=gX _ _ ha
  have hb':=gX _ _ hb
  rcases hab with g|g
  · refine .inl ?_
    unfold mkH iT
    exact List.mem_map.2 ⟨a,List.contains_iff_mem.1 (by rw [h2 a ha'];exact g),rfl⟩
  · exact .inr (by rw [← Nr hb' ha'];exact g)
theorem Lv {l:List Nat}{t:Nat}:((t:Nat):Int)∈NI l↔t∈l:=by
 rw [← List.contains_iff_mem,fI,List.contains_iff_mem]
theorem vw (t:Nat):∀ l:List Nat,(NI l).idxOf (t:Int)=l.idxOf t
  |[]=>rfl
  |a::l=>by
    show ((a:Int)::NI l).idxOf (t:Int)=_
    rw [List.idxOf_cons,List.idxOf_cons,vw t l,show ((a:Int)==(t:Int))=(a==t) by rw [Bool.eq_iff_iff,beq_iff_eq,beq_iff_eq];omega]
theorem Fy (l:List Nat)(t:Nat):eM (NI l) (t:Int)=if t∈l then ((l.idxOf t:Nat):Int) else -1:=by
 unfold eM;rw [fI,vw]
 by_cases h:t∈l
 ·rw [if_pos (List.contains_iff_mem.2 h),if_pos h]
 rw [if_neg (fun g=>h (List.contains_iff_mem.1 g)),if_neg h]
theorem IZ (h16:(aL l inn S n).length≤16):stB (NI (aL l inn S n)) (NI (mkH l inn S n))=true:=by
 refine fj fun i hi=>?_
 rw [bp] at hi;have hg:=kI hi;have hc:(NI (aL l inn S n)).contains ((NI (mkH l inn S n)).getD i 0)=true:=by
  rw [hg,fI,List.contains_iff_mem]
  exact GF h16 _ (List.getElem_mem hi)
 by_cases h0:0<i
 ·refine lP hc ?_;have:=tQ (Da h16) (show i-1<i by omega) hi;have e1:=kI (l:=mkH l inn S n) (i:=i-1) oe;rw [List.getD_eq_getElem?_getD,List.getD_eq_getElem?_getD,List.getElem?_eq_getElem hi,List.getElem?_eq_getElem oe] at this;rw [e1,hg]
  simp only [Option.getD_some] at this;exact Zm 0x18
 exact lQ hc h0
theorem I0 (h16:(aL l inn S n).length≤16):plB l inn S n (NI (mkQ l inn S n)) (NI (mkH l inn S n))=true:=by
 refine fj fun u hu=>fj fun t ht=>?_
 cases hr:ib l inn S u t with
 |false=>rfl
 |true=>
  have h1:=l8 hr;have hum:u∈mkQ l inn S n:=(sh h16).2 (dG.2 ⟨hu,h1.1⟩);have htm:t∈mkQ l inn S n:=(sh h16).2 (dG.2 ⟨ht,h1.2⟩);rw [Bool.not_true,Bool.false_or]
  by_cases hs:t∈mkH l inn S n
  ·exact mr (by rw [fI];exact List.contains_iff_mem.2 hs)
  refine mo fun hlt=>?_
  rw [Fy,Fy,if_pos hum,if_pos htm] at hlt;have hul:=List.idxOf_lt_length_iff.2 hum;have htl:=List.idxOf_lt_length_iff.2 htm;have:=List.pairwise_iff_getElem.1 (GD h16) _ _ htl hul oe;rw [List.getElem_idxOf,List.getElem_idxOf,hr] at this
  rcases this with g|g
  ·exact hs g
  cases g
end
section
variable {lf:Bool}{inn out sz n:Int}{ops:List Po}{ol:Nat}
theorem E5 (h:mkE lf inn out sz n ops ol=0):cG inn out ops=0∧lf=false∧kN sz n inn out=true∧(ol:Int)=inn∧(aL (ah ops) inn sz.toNat n.toNat).length≤16:=by
 unfold mkE at h
 split at h
 ·exact Zm 0x18
 rename_i h1
 split at h
 ·exact Zm 0x18
 rename_i h2
 split at h
 ·exact Zm 0x18
 rename_i h3
 split at h
 ·exact Zm 0x18
 rename_i h4
 split at h
 ·exact Zm 0x18
 rename_i h5;refine ⟨by omega,by simpa using h2,by simpa using h3,by omega,by omega⟩
theorem E4 (h:mkE lf inn out sz n ops ol=0):mkP lf inn out sz n ops ol=⟨sz,n,lf,inn,out,ops,NI (mkQ (ah ops) inn sz.toNat n.toNat),NI (mkH (ah ops) inn sz.toNat n.toNat)⟩:=E3 h
theorem IY (h:mkE lf inn out sz n ops ol=0):eN lf sz n inn out ops (NI (mkQ (ah ops) inn sz.toNat n.toNat)) (NI (mkH (ah ops) inn sz.toNat n.toNat))=true:=by
 obtain ⟨h1,h2,h3,h4,h5⟩:=E5 h;refine eS.2 ⟨h1,h2,h3,(jo (kg _ _ _ _)).2 ⟨by rw [bp,zw h5],fun t ht=>Lv.2 ((sh h5).2 ht)⟩,IZ h5,I0 h5⟩
theorem GE:(mkP lf inn out sz n ops ol).ops.length≤ops.length∧(mkP lf inn out sz n ops ol).q.length≤16∧(mkP lf inn out sz n ops ol).h.length≤16:=by
 by_cases h:mkE lf inn out sz n ops ol=0
 ·have h5:=(E5 h).2.2.2.2;rw [E4 h];refine ⟨Nat.le_refl _,?_,?_⟩
  ·rw [bp,zw h5]
   exact h5
  rw [bp]
  exact Nat.le_trans (GG h5) h5
 rw [zx h];exact ⟨Nat.zero_le _,by decide,by decide⟩
end
section
variable {f:Fl}{y:Lay}{p:Pln}
def Pln.sy (p:Pln):List Sy:=ah p.ops
def Pln.new (p:Pln)(old:List UInt8):List UInt8:=bg old p.sy
theorem PlnFit.sz1 (h:PlnFit f y p):1≤p.sz.toNat∧1≤p.n∧p.inn≤p.sz*p.n∧p.out≤p.sz*p.n∧p.n≤64:=by
 have:=dB.1 h.val.2.2.1;exact Zm 0x18
end
structure Upd where
  y:Lay
  k:Pkg
  old:List UInt8
  S:Nat
  N:Nat
  L:Int
  bad:Nat
  z0:List UInt8
  z1:List UInt8
def Upd.p (U:Upd):Pln:=U.k.pl
def Upd.new (U:Upd):List UInt8:=U.p.new U.old
def Upd.K (U:Upd):Nat:=U.p.seq.length
def Upd.H (U:Upd):Nat:=U.p.st.length
def Upd.V (U:Upd):Nat:=U.y.us.length
def Upd.O (U:Upd)(t:Nat):List UInt8:=ctF U.old t U.S
def Upd.W (U:Upd)(t:Nat):List UInt8:=ctF U.new t U.S
def Upd.q (U:Upd)(k:Nat):Nat:=(U.p.seq.getD k 0).toNat
def Upd.r (U:Upd)(k:Nat):List UInt8:=gT (U.p.seq.getD k 0) (U.O (U.q k)) (U.W (U.q k))
def Upd.rl (U:Upd)(k:Nat):List UInt8:=((List.range k).map U.r).flatten
def Upd.e (U:Upd)(k:Nat):Nat:=(U.rl k).length
section
variable {U:Upd}
inductive Pos where
  |pre (i:Nat)|sta (i:Nat)|w0 (k:Nat)|w1 (k:Nat)|w2 (k:Nat)|mig|b0 (k:Nat)|b1 (k:Nat)|idl
end
section
variable {U:Upd}{f:Fl}{Q:Int}{g:Nat}{h:Bool}
def Upd.X (U:Upd)(g:Nat)(f:Fl):Pos→Nx
  | .pre i=>if i<U.V then aS f (U.y.us.getD i 0) (List.replicate U.S 255) else nxD
  | .sta i=>if i<U.H then aS f (U.y.ls.getD i 0) (U.O (U.p.st.getD i 0).toNat) else nxD
  | .w0 k=>if k<U.K then towS f U.y.us (U.e k:Int) (U.r k) else nxD
  | .w1 k=>aS f (U.y.gs.getD g 0) (U.W (U.q k))
  | .w2 k=>aS f (U.q k:Int) (U.W (U.q k))
  | .mig=>nxD
  | .b0 k=>if k=0 then nxD else aS f (U.y.gs.getD g 0) (U.O (U.q (k-1)))
  | .b1 k=>aS f (U.q (k-1):Int) (U.O (U.q (k-1)))
  | .idl=>nxD
def Pos.stg:Pos→Bool
  | .w1 _=>true
  | .b0 k=>decide (k≠0)
  |_=>false
def Upd.sw (U:Upd)(g:Nat)(f:Fl)(x:Pos):Prop:=x.stg=true∧((U.X g f x).e=171∨(U.X g f x).e=172)∧g+1<U.y.gs.length
instance (U:Upd)(g:Nat)(f:Fl)(x:Pos):Decidable (U.sw g f x):=by unfold Upd.sw;infer_instance
theorem eB {y:Lay}{k:Pkg}{s:List Int}(hl:eJ f y=true)(h0:(a8 f y.a y.b).2.2=0)(hs:(a8 f y.a y.b).1=s):
    aZ f y k h=if sPh s=0∨sPh s=4∨sPh s=5 then nxD else if sPh s=6 then dz f y s else if sPh s>6 then nxE 240 else if Sl.fitE f y s k h≠0 then nxE (Sl.fitE f y s k h) else if sPh s=1 then dD f y s k.pl else if sPh s=2 then eI f y s k.pl else dw f y s k.pl:=by
 unfold aZ;rw [if_neg (by rw [hl];decide),if_neg (fun q=>q h0),hs]
theorem dg (f:Fl)(y:Lay)(s:List Int):cg f y nxD s=a6 f y.a y.b s:=if_neg (by rintro (h|h);exact h rfl;cases h)
end
end Go.Sl
namespace Go.Proofs.YtbpddeiogcgegaaGreat
open Go.Sl
theorem cJ {f:Fl}{y:Lay}:eJ f y=true↔f.Ok∧38≤f.size∧1≤y.n∧y.n≤(f.data.length:Int)∧1≤y.gs.length∧y.gs.length≤8∧(∀ x∈y.rest,y.n≤x∧x<(f.data.length:Int))∧y.rest.Nodup:=by
 unfold eJ;rw [Bool.and_eq_true,decide_eq_true_eq,decide_eq_true_eq]
section
variable {f:Fl}{y:Lay}{p:Pln}{s:List Int}
theorem yK (h:(p.need ((eg f y.n).take p.inn.toNat)).1≠0):dD f y s p=nxE (p.need ((eg f y.n).take p.inn.toNat)).1:=if_pos h
theorem yI (h:(p.need ((eg f y.n).take p.inn.toNat)).1=0)(h2:(p.need ((eg f y.n).take p.inn.toNat)).2.u>(y.us.length:Int)):dD f y s p=nxE 191:=by
 unfold dD;rw [if_neg (fun q=>q h),if_pos h2]
theorem ET (h:(p.need ((eg f y.n).take p.inn.toNat)).1=0)(h2:¬(p.need ((eg f y.n).take p.inn.toNat)).2.u>(y.us.length:Int))(h3:sSt s≥(p.need ((eg f y.n).take p.inn.toNat)).2.u):dD f y s p=cg f y nxD ((s.set 0 2).set 1 0):=by
 unfold dD;rw [if_neg (fun q=>q h),if_neg h2,if_pos h3];exact Zm 0xe50f
theorem uf (h:(p.need ((eg f y.n).take p.inn.toNat)).1=0)(h2:¬(p.need ((eg f y.n).take p.inn.toNat)).2.u>(y.us.length:Int))(h3:¬sSt s≥(p.need ((eg f y.n).take p.inn.toNat)).2.u):dD f y s p=cg f y (aS f (y.us.getD (sSt s).toNat 0) (List.replicate f.size 255)) (s.set 1 (sSt s+1)):=by
 unfold dD;rw [if_neg (fun q=>q h),if_neg h2,if_neg h3]
end
theorem rR (f:Fl)(a:Fa)(ok:f.Ok)(hh:a.hs.length=f.data.length)(y:Lay)(G U V:Option Addr)(gc uc vc:Nat)(hyn: -1000000≤y.n∧y.n≤1000000)(hyl:y.gs.length≤1000∧y.us.length≤1000∧y.ls.length≤1000)(hcap:Caps f a)(p0 p1 p2 p3 p4 p5 p6 p7 p8:Int)(hp:∀ x∈[p0,p1,p2,p3,p4,p5,p6,p7,p8],0≤x∧x≤4294967295)(p:Pln)(OA QA HA:Option Addr)(oc qc hc:Nat)(hpl:p.ops.length≤9223372036854775807∧p.seq.length≤1000000∧p.st.length≤1000000)(hfit:PlnFit f y p)(hlay:eJ f y=true):
    Ctr X 47 [flV f a,.agg (List.toArray (cP y G U V gc uc vc)),.agg (List.toArray [.int .i64 p0,.int .i64 p1,.int .i64 p2,.int .i64 p3,.int .i64 p4,.int .i64 p5,.int .i64 p6,.int .i64 p7,.int .i64 p8]),.agg (List.toArray [.int .i64 p.sz,.int .i64 p.n,.bool p.lf,.int .i64 p.inn,.int .i64 p.out,.slice OA p.ops.length oc,.slice QA p.seq.length qc,.slice HA p.st.length hc])] (flR f a++[Rd G (I64 y.gs),Rd U (I64 y.us),Rd V (I64 y.ls),Rd OA (bZ p.ops),Rd QA (I64 p.seq),Rd HA (I64 p.st)]) [] (fun v R' H'=>∃ (O:Option Addr) (oc:Nat),v=.agg (List.toArray [.int .i64 (dD f y [p0,p1,p2,p3,p4,p5,p6,p7,p8] p).x.kind,.int .i64 (dD f y [p0,p1,p2,p3,p4,p5,p6,p7,p8] p).x.sec,.int .i64 (dD f y [p0,p1,p2,p3,p4,p5,p6,p7,p8] p).x.at_,.slice O (dD f y [p0,p1,p2,p3,p4,p5,p6,p7,p8] p).x.data.length oc,.bool (dD f y [p0,p1,p2,p3,p4,p5,p6,p7,p8] p).done,.int .i64 (dD f y [p0,p1,p2,p3,p4,p5,p6,p7,p8] p).e])∧R'=[Rd O (U8 (dD f y [p0,p1,p2,p3,p4,p5,p6,p7,p8] p).x.data)]∧H'=[]):=by
 apply Y 0xe1e;intro hok;obtain ⟨os1,os2,on1,on2,owl,odl,orows,ol1,ol2,owear⟩:=ok;obtain ⟨_,hl38,hl1,hl2,hl3,hl4,hl5,hl6⟩:=cJ.1 hlay;apply Y 0x97e;intro hp0;apply Y 0xa7e;intro hp1;apply Y 0xb7e;intro hp2;apply Y 0xc7e;intro hp3;apply Y 0xd7e;intro hp4;apply Y 0xe7e;intro hp5;apply Y 0xf7e;intro hp6;apply Y 0x18e;intro hp7;apply Y 0x28e;intro hp8;have hin0:=hfit.inn.1;apply Y 0x962f;intro hin1;refine co Tryz.func47 ?_;intro β;apply Y 0x4a;intro A4;apply Y 0x2b;intro A5;apply Y 0x2b;intro A6;apply Y 0x2b;intro A7;apply Y 0x98;intro A8;apply Y 0xebdb90eb1ea4e35ebde210f7b;refine C.join (fun q:Option Addr=>[(4,ag A4 0),(5,ag A5 0),(6,ag A6 0),(7,ag A7 0),(8,ag A8 0),(9,ag q 0),(10,.int .i64 (p.need ((eg f y.n).take p.inn.toNat)).1)]) (fun q:Option Addr=>[Rd A7 [.int .i64 p.sz,.int .i64 p.n,.bool p.lf,.int .i64 p.inn,.int .i64 p.out,.slice OA p.ops.length oc,.slice QA p.seq.length qc,.slice HA p.st.length hc],Rd A6 [.int .i64 p0,.int .i64 p1,.int .i64 p2,.int .i64 p3,.int .i64 p4,.int .i64 p5,.int .i64 p6,.int .i64 p7,.int .i64 p8],Rd A5 (cP y G U V gc uc vc),Rd A4 (flL f a),Rd a.D (ay a.hs (B8 f.data)),KidsR a.hs (B8 f.data),Rd a.W (I64 f.wear),Rd a.E (Bs f.dead),Rd G (I64 y.gs),Rd U (I64 y.us),Rd V (I64 y.ls),Rd OA (bZ p.ops),Rd QA (I64 p.seq),Rd HA (I64 p.st)]) (fun q:Option Addr=>[Own 62 6 A8 1 1 [.int .i64 0,.int .i64 0,.int .i64 0,.slice none 0 0,.bool false,.int .i64 0],Own 49 5 q 1 1 [.int .i64 (p.need ((eg f y.n).take p.inn.toNat)).2.s,.int .i64 (p.need ((eg f y.n).take p.inn.toNat)).2.u,.int .i64 (p.need ((eg f y.n).take p.inn.toNat)).2.r,.int .i64 (p.need ((eg f y.n).take p.inn.toNat)).2.e,.int .i64 (p.need ((eg f y.n).take p.inn.toNat)).2.o]]) (fun q:Option Addr=>True) ?_ ?_
 ·apply Y 0x6d0f;refine mq 0 rfl (aa (vs:=(flL f a)) rfl rfl rfl (Src.r 3 rfl) rfl rfl ob) ?_;refine mq 1 rfl (aa (vs:=(cP y G U V gc uc vc)) rfl rfl rfl (Src.r 2 rfl) rfl rfl ob) ?_;apply Y 0x180ffde;refine mq 5 rfl (Ev.cast (u:=.int .i64 ((p.inn.toNat:Nat):Int)) (ldR 0) (congrArg (Value.int .i64) (Int.toNat_of_nonneg hin0).symm)) ?_;refine mq 7 rfl (aa (vs:=[.int .i64 p.sz,.int .i64 p.n,.bool p.lf,.int .i64 p.inn,.int .i64 p.out,.slice OA p.ops.length oc,.slice QA p.seq.length qc,.slice HA p.st.length hc]) rfl rfl rfl (Src.r 0 rfl) rfl rfl ob) ?_;refine LM.alt [2,12] oa ob hcx ⟨⟨_,rfl,?_⟩,⟨_,rfl,?_⟩,trivial⟩
  ·apply Y 0xf1ea83f;intro IA ic hic;apply Y 0x3ab;refine LM.alt [6,12] oa ob hcx ⟨⟨_,rfl,?_⟩,⟨_,rfl,?_⟩,trivial⟩
   ·apply Zu 0xd23f3aba8fa1f
    ·refine L.call (js:=[]) (js':=[0,1]) (mw IA ((eg f y.n).take p.inn.toNat) ic p.sz p.n p.lf p.inn p.out p.ops p.seq p.st OA QA HA oc qc hc hpl.1 hpl.2.1 hpl.2.2 oP oP) rfl rfl rfl ob ⟨((Has.take (Has.o 0 rfl) p.inn.toNat).cast (bz _ _)),(Has.r 11 rfl),(Has.r 12 rfl),(Has.r 13 rfl),trivial⟩ rfl ?_;apply Y 0x98e3e58ed8eb5e3aba8;intro A9;exact Zm 0x5c0f6c42e6932ea5e3
    apply Y 0x98;intro A9;exact Zm 0x5c0f6c42e6932ea5e58ed8eb5e330ea8581f54e3
   apply Y 0x98;intro A9;exact Zm 0x5c0f6c42e6932ea5e58ed8eb5e330ea8581f54e330ea8fa1f45e3
  apply Y 0x98;intro A9;apply Y 0xf1ea83fb9e3;intro IA ic hic;exact Zm 0x5c0f6c42e6932ea5e58ed8eb5e330ea8581f54e330ea8fa1f45e330e
 rintro A9 _
 try dsimp only
 apply Zu 0x5d3868eb92e556a<;>intro hc25
 ·apply Zu 0x10ebce0e9bfaf9
  ·rw [yK hc25];exact Zm 0x2
  rw [yK hc25];exact Zm 0x2
 apply Zu 0xe9bce1aef85899<;>intro hc33
 ·apply Zu 0x10ebce0e9bcb
  ·rw [yI hc25 hc33];exact Zm 0x2
  rw [yI hc25 hc33];exact Zm 0x2
 have hnu:(p.need ((eg f y.n).take p.inn.toNat)).2.u≤(y.us.length:Int):=oe;apply Y 0x98804f3c;intro A11;apply Zu 0x791f865e93e58886b<;>intro hc40
 ·apply Y 0x970f870f4f2feb92e7bbb788bb7;refine mq 3 rfl (aa (vs:=[.int .i64 2,.int .i64 0,.int .i64 p2,.int .i64 p3,.int .i64 p4,.int .i64 p5,.int .i64 p6,.int .i64 p7,.int .i64 p8]) rfl rfl rfl (Src.r 0 rfl) rfl rfl ob) ?_;apply Y 0xeae693aa8cdeb9e;refine ba (js:=[]) (js':=[0]) (eU f a hok hh y G U V gc uc vc hyn hyl hcap nxD none 0 [2,0,p2,p3,p4,p5,p6,p7,p8] rfl) rfl rfl rfl ob ⟨(Has.r 6 rfl),(Has.r 7 rfl),(Has.r 8 rfl),(Has.r 9 rfl),Has.nil,trivial⟩ rfl ?_;apply Y 0x19;intro TO tc;apply Zu 0x75ebc596acc5bfbe33a
  ·exact Zm 0x2d44f
  exact Zm 0x2d44f
 apply Y 0xd93f970f870f4f2feb92e7bbbcada3c;refine mq 3 rfl (faR 4) ?_;refine mq 4 rfl (ldR 4) ?_;refine mq 5 rfl (faR 3) ?_;refine mq 6 rfl (ldR 3) ?_;apply Y 0xca3faa3f;refine mq 9 rfl (faR 5) ?_;refine mq 10 rfl (ldR 5) ?_;refine mq 13 rfl (aa (vs:=[.int .i64 p0,.int .i64 (p1+1),.int .i64 p2,.int .i64 p3,.int .i64 p4,.int .i64 p5,.int .i64 p6,.int .i64 p7,.int .i64 p8]) rfl rfl rfl (Src.r 0 rfl) rfl rfl ob) ?_;apply Y 0x71e470fb4e;intro BA;apply Y 0x3ad00fe3e3ab;refine aJ (fv f a hok hh (y.us.getD p1.toNat 0) (List.replicate f.size 255) BA f.size f.size List.length_replicate oe) ?_;apply Y 0x19;intro XA xc;apply Y 0x42e693a;refine aJ (eU f a hok hh y G U V gc uc vc hyn hyl hcap (aS f (y.us.getD p1.toNat 0) (List.replicate f.size 255)) XA xc [p0,(p1+1),p2,p3,p4,p5,p6,p7,p8] rfl) ?_;apply Y 0x19;intro TO tc;apply Zu 0x75ebcd86acc5bebe33a
 ·exact Zm 0x2e44f
 exact Zm 0x2e44f
end Go.Proofs.YtbpddeiogcgegaaGreat
