/-
  Part of a proof.
-/
import Derived.Test.YtbpddeiogcgegaaGreatYWInO
set_option maxHeartbeats 0
set_option maxRecDepth 4000
set_option linter.all false
namespace Go.Proofs.YtbpddeiogcgegaaGreat
open Go.Sl
theorem Gi {r:Nx}(h:NxOk r):rxo r.x r.done=r.x:=by
 unfold rxo
 split
 ·rename_i q
  exact (h.fin q).symm
 rfl
theorem As (f:Fl)(a:Fa)(ok:f.Ok)(hh:a.hs.length=f.data.length)(y:Lay)(G U V:Option Addr)(gc uc vc:Nat)(hyn: -1000000≤y.n∧y.n≤1000000)(hyl:y.gs.length≤1000∧y.us.length≤1000∧y.ls.length≤1000)(hcap:Caps f a)(p0 p1 p2 p3 p4 p5 p6 p7 p8:Int)(hp:∀ x∈[p0,p1,p2,p3,p4,p5,p6,p7,p8],0≤x∧x≤4294967295)(k:Pkg)(rv:Value)(OA QA HA:Option Addr)(oc qc hc:Nat)(hpl:k.pl.ops.length≤9223372036854775807∧k.pl.seq.length≤1000000∧k.pl.st.length≤1000000)(M:Option Addr)(h:Bool)(hvc:y.ls.length≤vc)(hlay:fg f y=true)(hrd:(a6 f y.a y.b).2.2=0)(hs9:(a6 f y.a y.b).1=[p0,p1,p2,p3,p4,p5,p6,p7,p8])(hst:stB p0=true)(hfe:p0≠6→fitE f y [p0,p1,p2,p3,p4,p5,p6,p7,p8] k h=0):
    dU X (stF p0) [ag M 0] (flR f a++[Rd G (I64 y.gs),Rd U (I64 y.us),Rd V (I64 y.ls),Rd OA (cv k.pl.ops),Rd QA (I64 k.pl.seq),Rd HA (I64 k.pl.st)]) [Own 140 38 M 1 1 (mcA f a y G U V gc uc vc (.int .i64 p0::.int .i64 p1::.int .i64 p2::.int .i64 p3::.int .i64 p4::.int .i64 p5::.int .i64 p6::.int .i64 p7::.int .i64 p8::mcK k OA QA HA oc qc hc (rv::.int .i64 0::.int .i64 0::.int .i64 0::.slice none 0 0::.bool false::[])))] (b5 [{ v:=gd (aU f y k h).e,recovered:=false }] (fun v R' H'=>(aU f y k h).e=0∧∃ (OZ:Option Addr) (oz:Nat),v=.tuple #[]∧R'=[Rd OZ (U8 (rxo (aU f y k h).x (aU f y k h).done).data)]∧H'=[Own 140 38 M 1 1 (mcA f a y G U V gc uc vc (.int .i64 p0::.int .i64 p1::.int .i64 p2::.int .i64 p3::.int .i64 p4::.int .i64 p5::.int .i64 p6::.int .i64 p7::.int .i64 p8::mcK k OA QA HA oc qc hc (rv::.int .i64 (rxo (aU f y k h).x (aU f y k h).done).kind::.int .i64 (rxo (aU f y k h).x (aU f y k h).done).sec::.int .i64 (rxo (aU f y k h).x (aU f y k h).done).at_::.slice OZ (rxo (aU f y k h).x (aU f y k h).done).data.length oz::.bool (!(aU f y k h).done)::[])))]) (fun R' H'=>(aU f y k h).e≠0∧R'=[]∧H'=[])):=by
 apply Y 0xc2e;intro hok;have hph:p0=6∨p0=1∨p0=2∨p0=3:=by
  rcases nk.1 hst with q|q|q|q
  ·exact .inr (.inl q)
  ·exact .inr (.inr (.inl q))
  ·exact .inr (.inr (.inr q))
  exact .inl q
 by_cases q6:p0=6
 ·rw [show (aU f y k h)=dP f y [p0,p1,p2,p3,p4,p5,p6,p7,p8] from Pd (s:=[p0,p1,p2,p3,p4,p5,p6,p7,p8]) hlay hrd hs9 q6,show stF p0=125 from by rw [q6];rfl]
  exact IM f a hok hh y G U V gc uc vc hyn hyl hcap p0 p1 p2 p3 p4 p5 p6 p7 p8 hp k rv OA QA HA oc qc hc hpl M hlay
 have hfe':=hfe q6;have hfit:=Kt hfe'
 by_cases q1:p0=1
 ·rw [show (aU f y k h)=ff f y [p0,p1,p2,p3,p4,p5,p6,p7,p8] k.pl from On (s:=[p0,p1,p2,p3,p4,p5,p6,p7,p8]) hlay hrd hs9 hfe' q1,show stF p0=122 from by rw [q1];rfl]
  exact xI f a hok hh y G U V gc uc vc hyn hyl hcap p0 p1 p2 p3 p4 p5 p6 p7 p8 hp k rv OA QA HA oc qc hc hpl M hfit hlay
 by_cases q2:p0=2
 ·rw [show (aU f y k h)=gN f y [p0,p1,p2,p3,p4,p5,p6,p7,p8] k.pl from N9 (s:=[p0,p1,p2,p3,p4,p5,p6,p7,p8]) hlay hrd hs9 hfe' q2,show stF p0=123 from by rw [q2];rfl]
  exact Dl f a hok hh y G U V gc uc vc hyn hyl hcap p0 p1 p2 p3 p4 p5 p6 p7 p8 hp k rv OA QA HA oc qc hc hpl M hfit hlay
 have q3:p0=3:=oe;rw [show (aU f y k h)=dD f y [p0,p1,p2,p3,p4,p5,p6,p7,p8] k.pl from N8 (s:=[p0,p1,p2,p3,p4,p5,p6,p7,p8]) hlay hrd hs9 hfe' (by show ¬(p0=0∨p0=4∨p0=5)∧¬p0=6∧¬p0>6;omega) (by exact q1) (by exact q2),show stF p0=124 from by rw [q3];rfl]
 exact C7 f a hok hh y G U V gc uc vc hyn hyl hcap p0 p1 p2 p3 p4 p5 p6 p7 p8 hp k rv OA QA HA oc qc hc hpl M hfit hvc hlay
theorem eo (f:Fl)(a:Fa)(ok:f.Ok)(hh:a.hs.length=f.data.length)(y:Lay)(G U V:Option Addr)(gc uc vc:Nat)(hyn: -1000000≤y.n∧y.n≤1000000)(hyl:y.gs.length≤1000∧y.us.length≤1000∧y.ls.length≤1000)(hcap:Caps f a)(k:Pkg)(rv:Value)(h:Bool)(OA QA HA:Option Addr)(oc qc hc:Nat)(hpl:k.pl.ops.length≤9223372036854775807∧k.pl.seq.length≤1000000∧k.pl.st.length≤1000000)(hvc:y.ls.length≤vc):
    Ctr X 33 [flV f a,.agg (List.toArray (hY y G U V gc uc vc)),.agg (List.toArray [.int .i64 k.ver,.int .i64 k.frm,.int .i64 k.pl.sz,.int .i64 k.pl.n,.bool k.pl.lf,.int .i64 k.pl.inn,.int .i64 k.pl.out,.slice OA k.pl.ops.length oc,.slice QA k.pl.seq.length qc,.slice HA k.pl.st.length hc,rv]),.bool h] (flR f a++[Rd G (I64 y.gs),Rd U (I64 y.us),Rd V (I64 y.ls),Rd OA (cv k.pl.ops),Rd QA (I64 k.pl.seq),Rd HA (I64 k.pl.st)]) [] (fun v R' H'=>∃ (OZ:Option Addr) (oz:Nat),v=.tuple #[.agg (List.toArray [.int .i64 (aU f y k h).x.kind,.int .i64 (aU f y k h).x.sec,.int .i64 (aU f y k h).x.at_,.slice OZ (aU f y k h).x.data.length oz]),.bool (aU f y k h).done,.int .i64 (aU f y k h).e]∧R'=[Rd OZ (U8 (aU f y k h).x.data)]∧H'=[]):=by
 apply Y 0xc2e;intro hok;obtain ⟨os1,os2,on1,on2,owl,odl,orows,ol1,ol2,owear⟩:=ok;obtain ⟨p0,p1,p2,p3,p4,p5,p6,p7,p8,hs9⟩:=nine (Ab f y.a y.b);have hp:∀ x∈[p0,p1,p2,p3,p4,p5,p6,p7,p8],0≤x∧x≤4294967295:=by rw [← hs9];exact D7 f y.a y.b
 have hp0:=hp p0 Ob;refine uY (X:=X) (fn:=Tryz.f33) Tryz.func33 rfl oa rfl ?_;intro β;apply Y 0x2a;intro A4;apply Y 0xdd;intro A5;apply Y 0xdd;intro A6;apply Y 0x88;intro A8;apply Y 0x88;intro A9;apply Y 0x88;intro A10;apply Y 0x47b;refine cfz 0 [1,2,3,4,5] ?_;apply Y 0xe80f;refine cfz 0 [1,2,3,4] ?_;apply Y 0x3a0f2a0f68b7e59ef20f;refine an (iI (f.size:Int) f a hh oe y G U V gc uc vc hyn hyl) ?_;apply Zu 0xe91b0e29<;>intro hc19
 ·have hlay0:fg f y=false:=obl;apply Y 0xd12f80e22ebd97eac598c;rw [show (aU f y k h)=nxE _ from Pg hlay0];exact Zm 0x43e
 have hlay:fg f y=true:=obl;apply Y 0x3a0f2a0f2e8;refine an (tQ f a hok hh ⟨y.n,y.a,y.b,y.s0,y.s1,G,y.gs.length,gc,U,y.us.length,uc,V,y.ls.length,vc⟩ hcap) ?_;apply Y 0x29
 dsimp only;rw [hs9];apply Y 0x8855b0e;intro A11;apply Zu 0x5d1eae27b97e3f4e<;>intro hc29
 ·apply Y 0x4;refine aG [_,_,_,_,_,_,_,_,_,_,_,_,_,_] ⟨Has.r 0 rfl,Has.r 1 rfl,Has.r 2 rfl,Has.r 3 rfl,Has.r 4 rfl,Has.r 5 rfl,Has.r 6 rfl,Has.r 7 rfl,Has.r 8 rfl,Has.r 9 rfl,Has.r 10 rfl,Has.r 11 rfl,Has.r 12 rfl,Has.o 2 rfl,trivial⟩ ?_;refine mq 0 rfl (Ev.build rfl rfl rfl rfl rfl rfl rfl) ?_;refine mq 1 rfl (ldR 13) ?_;refine mfo 2 ?_;apply Y 0x659;refine mfo 3 ?_;apply Y 0xd12f80e22e23e1b70e97e280fc9ac;rw [show (aU f y k h)=nxE _ from Pf hlay hc29];exact Zm 0x43e
 have hrd:(a6 f y.a y.b).2.2=0:=hc29;rw [hrd];apply Y 0x48e8;refine FK rfl ?_;apply Y 0x7b;refine cfz 3 [0,1,2] ?_;apply Y 0x68b7e;refine sp (ab (vs:=(flL f a)) rfl rfl rfl (Src.r 3 rfl) rfl rfl ob) ?_;refine sp (ab (vs:=(hY y G U V gc uc vc)) rfl rfl rfl (Src.r 2 rfl) rfl rfl ob) ?_;refine sp (ab (vs:=[.int .i64 p0,.int .i64 p1,.int .i64 p2,.int .i64 p3,.int .i64 p4,.int .i64 p5,.int .i64 p6,.int .i64 p7,.int .i64 p8]) rfl rfl rfl (Src.r 0 rfl) rfl rfl ob) ?_;refine sp (ab (vs:=[_,_,_,_,_,_,_,_,_,_,_]) rfl rfl rfl (Src.r 1 rfl) rfl rfl ob) ?_;apply Y 0xddca;intro A38;apply Y 0x28;refine aG [_,_,_,_,_,_,_,_,_,_,_,_,_,_] (Hq [0,1,2,3,4,5,6,7,8,9,10,11,12,13] rfl) ?_;apply Y 0x330f;refine mq 2 rfl (ldR 0) ?_;refine mfo 0 ?_;refine an (GZ) ?_;apply Y 0x21e;intro mg;apply Y 0x6130f;refine mfo 3 ?_;refine sp (Ev.cast (u:=.tuple #[stV p0,.bool (stB p0)]) (yi rfl rfl rfl rfl MJ rfl rfl (gn.o 0 rfl)) rfl) ?_;apply Y 0x811f711fc9;refine LM.q 6 rfl oa (Ev.pure rfl) rfl trivial ?_;apply Zu 0xe92d41b9c19e63a7e<;>intro hc47
 ·have hst:¬(p0=1∨p0=2∨p0=3∨p0=6):=fun q=>by rw [nk.2 q] at hc47;cases hc47
  apply Zu 0x78d824<;>intro hc50
  ·replace hc50:p0>6:=hc50;apply Y 0x68;refine bf (js:=[]) (js':=[0,1,2,3,4]) (ep 240) rfl rfl rfl ob trivial rfl ?_ ?_
   rotate_left;apply Y 0x98;intro he;apply Y 0xb80f80e95e;rw [show (aU f y k h)=nxE _ from Pb (s:=[p0,p1,p2,p3,p4,p5,p6,p7,p8]) hlay hrd hs9 hc50];exact Zm 0x43e;rintro _ _ _ ⟨_,h,_⟩;exact Zm 0x77e
  replace hc50:¬p0>6:=hc50;apply Y 0x80e22ebdfce97eeb8ce8;refine CD (js:=[0]) (hs:=[]) (vs:=[_,_,_]) (nC A8 A9 A10 0) rfl ⟨⟨_,_,0,_,rfl,rfl,Src.o 1 rfl,.inl ⟨rfl,by decide,_,rfl,rfl,rfl⟩⟩,⟨_,_,0,_,rfl,rfl,Src.o 2 rfl,.inr ⟨rfl,rfl⟩⟩,⟨_,_,0,_,rfl,rfl,Src.o 3 rfl,.inr ⟨rfl,rfl⟩⟩,trivial⟩ ob ?_;rw [show (aU f y k h)=nxD from Pe (s:=[p0,p1,p2,p3,p4,p5,p6,p7,p8]) hlay hrd hs9 (by show p0=0∨p0=4∨p0=5;omega)];exact Zm 0x43e
 have hst:stB p0=true:=by simpa using hc47
 rw [Jw hst];apply Zu 0x5d1d82aa<;>intro hc55
 ·replace hc55:p0≠6:=hc55;apply Y 0x3b;refine bf (js:=[4]) (js':=[0,1,2,3]) (Ku f a hok hh y G U V gc uc vc hyn hyl hcap p0 p1 p2 p3 p4 p5 p6 p7 p8 hp k rv OA QA HA oc qc hc hpl A38 h) rfl rfl rfl ob hcx rfl ?_ ?_
  rotate_left;apply Y 0x98;intro hfe;apply Y 0xb80f80ee1e;rw [show (aU f y k h)=nxE _ from Pa (s:=[p0,p1,p2,p3,p4,p5,p6,p7,p8]) hlay hrd hs9 (show ¬(p0=0∨p0=4∨p0=5)∧¬p0=6∧¬p0>6 from by have:=nk.1 hst;omega) hfe];exact Zm 0x43e;apply Y 0x21e;intro hfe;apply Y 0x58f8130f;refine tp (js:=[0]) (js':=[1,2,3,4]) (As f a hok hh y G U V gc uc vc hyn hyl hcap p0 p1 p2 p3 p4 p5 p6 p7 p8 hp k rv OA QA HA oc qc hc hpl A38 h hvc hlay hrd hs9 hst (fun q=>by first|exact hfe|exact absurd hc55 q)) rfl rfl rfl rfl rfl ob hcx rfl ?_ ?_
  rotate_left;apply Y 0x98;intro hge;exact Zm 0x43e792fb80f80ee1e;apply Y 0xa1e;intro hge GO goc;apply Y 0xd2e9e1f7b130f;refine mq 1 rfl (nkR 15) ?_;refine mq 2 rfl (faR 15) ?_;apply Y 0x88ee22f;refine mq 5 rfl (nkR 15) ?_;refine mq 6 rfl (faR 15) ?_;refine mq 7 rfl (ldR 15) ?_;apply Y 0x17e6fce48ec972ec7ed5e;refine L.store (j:=4) rfl rfl rfl rfl rfl rfl rfl rfl ?_;apply Y 0x23e1b70e;have hnx:=Gi (Bj f y k h);apply Y 0xc12f;refine ⟨GO,goc,?_,?_,rfl⟩
  ·rw [hnx,Bool.not_not,hge]
   rfl
  rw [hnx]
  rfl
 replace hc55:p0=6:=hc55;apply Y 0x58e8;refine tp (js:=[4]) (js':=[0,1,2,3]) (As f a hok hh y G U V gc uc vc hyn hyl hcap p0 p1 p2 p3 p4 p5 p6 p7 p8 hp k rv OA QA HA oc qc hc hpl A38 h hvc hlay hrd hs9 hst (fun q=>by first|exact hfe|exact absurd hc55 q)) rfl rfl rfl rfl rfl ob hcx rfl ?_ ?_
 rotate_left;apply Y 0x98;intro hge;exact Zm 0x43e792fb80f80ee1e;apply Y 0xa1e;intro hge GO goc;apply Y 0xd2e9e1f7b130f;refine mq 1 rfl (nkR 15) ?_;refine mq 2 rfl (faR 15) ?_;apply Y 0x88ee22f;refine mq 5 rfl (nkR 15) ?_;refine mq 6 rfl (faR 15) ?_;refine mq 7 rfl (ldR 15) ?_;apply Y 0x17e6fce48ec972ec7ed5e;refine L.store (j:=4) rfl rfl rfl rfl rfl rfl rfl rfl ?_;apply Y 0x23e1b70e;have hnx:=Gi (Bj f y k h);apply Y 0xc12f;refine ⟨GO,goc,?_,?_,rfl⟩
 ·rw [hnx,Bool.not_not,hge]
  rfl
 rw [hnx]
 rfl
theorem DL (f:Fl)(a:Fa)(ok:f.Ok)(hh:a.hs.length=f.data.length)(y:Lay)(G U V:Option Addr)(gc uc vc:Nat)(hyn: -1000000≤y.n∧y.n≤1000000)(hyl:y.gs.length≤1000∧y.us.length≤1000∧y.ls.length≤1000)(hcap:Caps f a)(k:Pkg)(rv:Value)(h:Bool)(OA QA HA:Option Addr)(oc qc hc:Nat)(hpl:k.pl.ops.length≤9223372036854775807∧k.pl.seq.length≤1000000∧k.pl.st.length≤1000000)(hvc:y.ls.length≤vc)(m:Nat)(hm:m≤1000000):
    Ctr X 35 [flV f a,.agg (List.toArray (hY y G U V gc uc vc)),.agg (List.toArray [.int .i64 k.ver,.int .i64 k.frm,.int .i64 k.pl.sz,.int .i64 k.pl.n,.bool k.pl.lf,.int .i64 k.pl.inn,.int .i64 k.pl.out,.slice OA k.pl.ops.length oc,.slice QA k.pl.seq.length qc,.slice HA k.pl.st.length hc,rv]),.bool h,.int .i64 (m:Int)] (flR f a++[Rd G (I64 y.gs),Rd U (I64 y.us),Rd V (I64 y.ls),Rd OA (cv k.pl.ops),Rd QA (I64 k.pl.seq),Rd HA (I64 k.pl.st)]) [] (fun v R' H'=>∃ b:Fa,b.hs.length=(aK y k h m f).f.data.length∧Caps (aK y k h m f).f b∧v=.tuple #[.agg (List.toArray [.int .i64 ((aK y k h m f).f.size:Int),.slice b.D (aK y k h m f).f.data.length b.cD,.slice b.W (aK y k h m f).f.wear.length b.cW,.int .i64 (aK y k h m f).f.limit,.slice b.E (aK y k h m f).f.dead.length b.cE]),.int .i64 ((aK y k h m f).n:Int),.int .i64 (aK y k h m f).e]∧R'=flR (aK y k h m f).f b∧H'=[]):=by
 apply Y 0xc2e;intro hok;refine co Tryz.func35 ?_;intro β;apply Y 0x2a;intro A5;apply Y 0xdd;intro A6;apply Y 0xdd;intro A7;apply Y 0x88;intro A10;apply Y 0x4283;refine cfz 1 [0,2,3] ?_;apply Zu 0x788a32e9aeb7e<;>intro
 ·omega
 apply Y 0x1948aa;refine C.loop (fun q:Nat×Fl×Fa=>[(3,.bool h),(4,.int .i64 (m:Int)),(5,ag A5 0),(6,ag A6 0),(7,ag A7 0),(10,ag A10 0),(21,.int .i64 (m:Int)),(22,.int .i64 (q.1:Int))]) (fun q:Nat×Fl×Fa=>(flR q.2.1 q.2.2++[Rd G (I64 y.gs),Rd U (I64 y.us),Rd V (I64 y.ls),Rd OA (cv k.pl.ops),Rd QA (I64 k.pl.seq),Rd HA (I64 k.pl.st),Rd A6 (hY y G U V gc uc vc),Rd A7 [.int .i64 k.ver,.int .i64 k.frm,.int .i64 k.pl.sz,.int .i64 k.pl.n,.bool k.pl.lf,.int .i64 k.pl.inn,.int .i64 k.pl.out,.slice OA k.pl.ops.length oc,.slice QA k.pl.seq.length qc,.slice HA k.pl.st.length hc,rv]])) (fun q:Nat×Fl×Fa=>[Own 34 5 A5 1 1 (flL q.2.1 q.2.2),Own 34 5 A10 1 1 [.int .i64 0,.slice none 0 0,.slice none 0 0,.int .i64 0,.slice none 0 0]]) (fun q:Nat×Fl×Fa=>q.1≤m∧q.2.1.Ok∧q.2.2.hs.length=q.2.1.data.length∧Caps q.2.1 q.2.2∧aK y k h m f=⟨(aK y k h (m-q.1) q.2.1).f,(aK y k h (m-q.1) q.2.1).n+q.1,(aK y k h (m-q.1) q.2.1).e⟩) (fun q:Nat×Fl×Fa=>m-q.1) (0,f,a) ⟨Nat.zero_le _,ok,hh,hcap,rfl⟩ (lk [2,3,4,5,6,7,8,9,10,11,1,0] [0,1]) ?_;rintro ⟨i,g,b⟩ ⟨hi,gok,hbl,hbc,hrun⟩
 dsimp only at hi gok hbl hbc hrun ⊢;apply Zu 0x1cda<;>intro
 ·have hi2:i<m:=oe;apply Y 0x300f22d49;refine sp (ab (vs:=(hY y G U V gc uc vc)) rfl rfl rfl (Src.r 10 rfl) rfl rfl ob) ?_;refine sp (ab (vs:=[_,_,_,_,_,_,_,_,_,_,_]) rfl rfl rfl (Src.r 11 rfl) rfl rfl ob) ?_;apply Y 0x3;refine a8 (eo g b gok hbl y G U V gc uc vc hyn hyl hbc k rv h OA QA HA oc qc hc hpl hvc) ?_;apply Y 0x89;intro XA xc;apply Y 0x8855db;intro A14;apply Y 0x3b32e9be428372e;refine L.bool 35 rfl ?_ ?_<;>intro hg35
  ·apply Y 0x1bc;refine C.cond rfl (fun _=>?_) (fun h=>by cases h);apply Y 0x632f10eab4a3eb5300f2;have hr:=rh (m:=m-(i+1)) (y:=y) (k:=k) (h:=h) (f:=g) (.inr (by simpa using hg35));rw [show m-(i+1)+1=m-i by omega] at hr;rw [hr] at hrun
   simp only [Nat.zero_add] at hrun;rw [hrun];exact Zm 0xe60f
  apply Zu 0x5d12c<;>intro hc38
  ·apply Y 0x632f10eab4a3eb5300f2;have hr:=rh (m:=m-(i+1)) (y:=y) (k:=k) (h:=h) (f:=g) (.inl oaZ);rw [show m-(i+1)+1=m-i by omega] at hr;rw [hr] at hrun
   simp only [Nat.zero_add] at hrun;rw [hrun];exact Zm 0xe60f
  apply Y 0xf5e300f2e8;refine a8 (Pt g b gok hbl (aU g y k h).x XA xc (Nat.le_trans (nX gok y k h) ob) hbc) ?_;apply Y 0x3e0f;intro b2 hb2 hc2;apply Y 0x88c8db;intro A17;apply Zu 0x5d2d2872e<;>intro hc49
  ·apply Y 0x10eab4a3eb5300f2;refine qrt [6,7,8,9] [] [_,_,_] rfl ⟨⟨_,_,0,_,rfl,rfl,Src.o 1 rfl,.inl ⟨rfl,by decide,_,rfl,rfl,rfl⟩⟩,rfl,rfl,trivial⟩ ?_;have hr:=DN (m:=m-(i+1)) (y:=y) (k:=k) (h:=h) (f:=g) oaZ (by simpa using hg35) hc49;rw [show m-(i+1)+1=m-i by omega] at hr;rw [hr] at hrun
   simp only [Nat.zero_add] at hrun;rw [hrun];exact Zm 0xe60f
  apply Y 0x68e8;refine sp (ab (vs:=[_,_,_,_,_]) rfl rfl rfl (Src.o 2 rfl) rfl rfl ob) ?_;apply Y 0x6d50e59;have hgo:=Hm (y:=y) (k:=k) (h:=h) (f:=g) (m:=m-(i+1)) oaZ (by simpa using hg35) hc49;rw [show m-(i+1)+1=m-i by omega] at hgo;refine QE.round (i:=(i,g,b)) ((i+1,(aS g (aU g y k h).x (fun _=>255)),b2)) (by exact ⟨by dsimp only;omega,(eB gok hc49 _).ok,hb2,hc2,by dsimp only;rw [hrun,hgo];simp only [Rni.mk.injEq,true_and,and_true];omega⟩) ou (lk [0,1,2,3,10,11,12,13,14,15,16,17] [0,1])
 apply Y 0xbbeb3300f269;refine qrt [0,1,2,3] [] [_,_,_] rfl ⟨⟨_,_,0,_,rfl,rfl,Src.o 1 rfl,.inl ⟨rfl,by decide,_,rfl,rfl,rfl⟩⟩,rfl,rfl,trivial⟩ ?_;obtain rfl:i=m:=oe;rw [Nat.sub_self] at hrun;rw [show aK y k h 0 g=⟨g,0,0⟩ from rfl] at hrun
 simp only [Nat.zero_add] at hrun;rw [hrun];exact Zm 0xe60f
end Go.Proofs.YtbpddeiogcgegaaGreat
namespace Go.Sl
def ptL (x:T3):Nat:=1+x.2.1.toNat%40
def ptR (n out:Nat)(x:T3):Nat:=if x.1.toNat%4=3 then out else x.2.2.toNat*3%n
def ptO (n out:Nat)(x:T3):Po:=
  if 0<x.1.toNat%4 then ⟨1,((ptR n out x:Nat):Int),((min (min (ptL x) (n-out)) (n-ptR n out x):Nat):Int),0⟩
  else ⟨3,0,((min (ptL x) (n-out):Nat):Int),x.2.2⟩
def ptS (n:Nat)(l:List T3):Nat→List Po×Nat
  |0=>([],0)
  |i+1=>if (ptS n l i).2<n then ((ptS n l i).1++[ptO n (ptS n l i).2 (l.getD i (0,0,0))],(ptS n l i).2+(ptO n (ptS n l i).2 (l.getD i (0,0,0))).ln.toNat) else ptS n l i
def ptE (n:Nat)(s:List Po×Nat):List Po:=if s.2<n then s.1++[⟨1,(s.2:Int),((n-s.2:Nat):Int),0⟩] else s.1
def ptF (n:Nat)(l:List T3):List Po:=ptE n (ptS n l (min l.length 8))
section
variable {n:Nat}{l:List T3}{out:Nat}{x:T3}
theorem vF {i:Nat}(h:¬(ptS n l i).2<n):∀ j,ptS n l (i+j)=ptS n l i
  |0=>rfl
  |j+1=>by
    have e:=vF h j
    rw [← Nat.add_assoc,ptS,e,if_neg h]
theorem kK {i m:Nat}(hi:i≤m)(h:¬(ptS n l i).2<n):ptS n l m=ptS n l i:=by
 obtain ⟨j,rfl⟩:∃ j,m=i+j:=⟨m-i,by omega⟩
 exact vF h j
theorem F8 {i:Nat}(h:(ptS n l i).2<n):ptS n l (i+1)=((ptS n l i).1++[ptO n (ptS n l i).2 (l.getD i (0,0,0))],(ptS n l i).2+(ptO n (ptS n l i).2 (l.getD i (0,0,0))).ln.toNat):=by
 rw [ptS,if_pos h]
theorem F9 (h:out<n):ptR n out x<n:=by
 unfold ptR
 split
 ·exact h
 exact Nat.mod_lt _ oe
theorem Ga (h:out<n):1≤(ptO n out x).ln∧(ptO n out x).ln≤((n-out:Nat):Int)∧(ptO n out x).ln≤40:=by
 have h2:=F9 (x:=x) h;have h3:1≤ptL x∧ptL x≤40:=by unfold ptL;omega
 unfold ptO
 split
 ·show 1≤((min (min (ptL x) (n-out)) (n-ptR n out x):Nat):Int)∧((min (min (ptL x) (n-out)) (n-ptR n out x):Nat):Int)≤_∧((min (min (ptL x) (n-out)) (n-ptR n out x):Nat):Int)≤40
  omega
 show 1≤((min (ptL x) (n-out):Nat):Int)∧((min (ptL x) (n-out):Nat):Int)≤_∧((min (ptL x) (n-out):Nat):Int)≤40
 omega
theorem Ag (h:out<n):bM (ptO n out x) (n:Int)=true:=by
 have h2:=F9 (x:=x) h
 unfold ptO
 split
 ·apply Y 0xa6e
  dsimp only;rw [if_pos rfl,Bool.and_eq_true,decide_eq_true_eq,decide_eq_true_eq];exact ⟨⟨by omega,by omega⟩,rfl⟩
 unfold bM
 dsimp only;rw [if_neg ob,if_neg ob,if_pos rfl]
 exact decide_eq_true rfl
theorem nG:∀ i,(ptS n l i).2≤n∧(ptS n l i).1.length≤i∧∀ (rest:List Po) (left:Int),(n:Int)≤left→fh (n:Int) left ((ptS n l i).1++rest)=fh (n:Int) (left-((ptS n l i).2:Int)) rest
  |0=>⟨Nat.zero_le _,Nat.le_refl _,fun rest left _=>by simp [ptS]⟩
  |i+1=>by
    obtain ⟨h1,h2,h3⟩:=nG i
    by_cases h:(ptS n l i).2<n
    · rw [F8 h]
      have hl:=Ga (x:=l.getD i (0,0,0)) h
      have hr:=Ag (x:=l.getD i (0,0,0)) h
      refine ⟨by dsimp only;omega,by dsimp only;rw [List.length_append,List.length_singleton];omega,fun rest left hle=>?_⟩
      dsimp only
      rw [List.append_assoc,h3 _ _ hle,List.singleton_append,fh,if_neg (by
        rintro (q|q|q)
        · omega
        · omega
        · rw [hr] at q;cases q)]
      congr 1
      omega
    · rw [ptS,if_neg h]
      exact ⟨h1,by omega,h3⟩
theorem HE (s:List Po×Nat):(ptE n s).length≤s.1.length+1:=by
 unfold ptE
 split
 ·rw [List.length_append,List.length_singleton];exact Zm 0x83e
 omega
theorem Ai:(ptF n l).length≤9:=by
 have h1:=HE (n:=n) (ptS n l (min l.length 8));have h2:=(nG (n:=n) (l:=l) (min l.length 8)).2.1
 unfold ptF
 omega
theorem Ah (hn:n≤1000):cU (n:Int) (n:Int) (ptF n l)=0:=by
 obtain ⟨h1,h2,h3⟩:=nG (n:=n) (l:=l) (min l.length 8);have hl:=Ai (n:=n) (l:=l)
 unfold cU;rw [if_neg oe,if_pos]
 unfold ptF ptE
 split
 ·rename_i h;rw [h3 _ _ (Int.le_refl _),fh,if_neg,fh]
  ·exact decide_eq_true ou
  dsimp only;rintro (q|q|q)
  ·omega
  ·omega
  unfold bM Bk at q
  dsimp only at q;rw [if_pos rfl] at q
  simp only [Bool.and_eq_false_iff,decide_eq_false_iff_not] at q
  rcases q with q|q
  ·exact q oe
  exact q rfl
 rename_i h;have:=h3 [] n (Int.le_refl _);rw [List.append_nil] at this;rw [this,fh]
 exact decide_eq_true oe
end
end Go.Sl
section
namespace Go.Sl
structure Raw where
  l:List T3
  w0:UInt8
  w1:UInt8
  w2:UInt8
  w3:UInt8
  old:List UInt8
namespace Raw
variable (x:Raw)
def S:Nat:=40+x.w0.toNat%36
def n:Nat:=1+x.w1.toNat%4
def sg:Nat:=1+x.w2.toNat%2
def m:Nat:=x.n*x.S
def img:List UInt8:=pI x.old x.m
def ops:List Po:=ptF x.m x.l
def seq:List Int:=NI (mkQ (ah x.ops) (x.m:Int) x.S x.n)
def st:List Int:=NI (mkH (ah x.ops) (x.m:Int) x.S x.n)
def pln:Pln:=⟨(x.S:Int),(x.n:Int),false,(x.m:Int),(x.m:Int),x.ops,x.seq,x.st⟩
def new:List UInt8:=a7 x.img (ah x.ops)
def nd:Nd:=fu false (x.S:Int) (x.n:Int) (x.m:Int) (x.m:Int) x.ops x.seq x.st x.img
def u:Nat:=ndU (ndT x.img x.new x.S x.seq) x.S
def more:Nat:=4+x.sg+x.u+x.st.length
def lay:Lay:=⟨(x.n:Int),(x.n:Int),((x.n:Nat):Int)+1,((x.n:Nat):Int)+2,((x.n:Nat):Int)+3,upI (x.n+4) x.sg,upI (x.n+4+x.sg) x.u,upI (x.n+4+x.sg+x.u) x.st.length⟩
def dirt (d:List (List UInt8))(n S:Nat)(w:UInt8):Nat→List (List UInt8)
  |0=>d
  |k+1=>(dirt d n S w k).set (n+k) (((dirt d n S w k).getD (n+k) []).set ((n+k)%S) w)
def dirts:Nat:=if x.w3.toNat%2=1 then x.more else 0
def dat:List (List UInt8):=dirt (flD x.img x.S x.n (x.n+x.more)) x.n x.S x.w3 x.dirts
def fl0:Fl:=⟨x.S,x.dat,List.replicate (x.n+x.more) 0,100000,List.replicate (x.n+x.more) false⟩
def s0:List Int:=[1,0,0,0,0,0,0,5,4]
def fl:Fl:=(b9 x.fl0 (x.n:Int) ((x.n:Int)+1) s0).1
def pkg:Pkg:=⟨5,4,x.pln⟩
theorem S_le:40≤x.S∧x.S≤75:=by unfold S;omega
theorem n_le:1≤x.n∧x.n≤4:=by unfold n;omega
theorem sg_le:1≤x.sg∧x.sg≤2:=by unfold sg;omega
theorem m_le:40≤x.m∧x.m≤300:=by
 apply Y 0x57e;intro h1;apply Y 0x67e;intro h2;have a:1*40≤x.n*x.S:=Nat.mul_le_mul h2.1 h1.1;have b:x.n*x.S≤4*75:=Nat.mul_le_mul h2.2 h1.2
 unfold m
 omega
theorem img_len:x.img.length=x.m:=wj _ _
theorem ops_len:x.ops.length≤9:=Ai
theorem chk:cU (x.m:Int) (x.m:Int) x.ops=0:=Ah (by have:=x.m_le;omega)
theorem siz:lZ (x.S:Int) (x.n:Int) (x.m:Int) (x.m:Int)=true:=by
 apply Y 0x57e;intro h1;apply Y 0x67e;intro h2;refine dt.2 ⟨by omega,by omega,by omega,by omega,?_,?_⟩<;> · unfold m;rw [Int.natCast_mul,Int.mul_comm];exact Int.le_refl _
theorem chg_len:(aI (ah x.ops) (x.m:Int) x.S x.n).length≤4:=by
 have h:=fX (ah x.ops) (x.m:Int) x.S x.n;apply Y 0x67e;intro h2
 omega
theorem mkE0:mkE false (x.m:Int) (x.m:Int) (x.S:Int) (x.n:Int) x.ops x.m=0:=
  Kc x.chk rfl x.siz rfl (by rw [Int.toNat_natCast,Int.toNat_natCast];have:=x.chg_len;omega)
theorem mkP0:mkP false (x.m:Int) (x.m:Int) (x.S:Int) (x.n:Int) x.ops x.m=⟨(x.S:Int),(x.n:Int),false,(x.m:Int),(x.m:Int),x.ops,x.seq,x.st⟩:=by
 have h:=Gl x.mkE0;rw [Int.toNat_natCast,Int.toNat_natCast] at h
 exact h
theorem vld:fM false (x.S:Int) (x.n:Int) (x.m:Int) (x.m:Int) x.ops x.seq x.st=true:=by
 have h:=J9 x.mkE0;rw [Int.toNat_natCast,Int.toNat_natCast] at h
 exact h
theorem pln_ok:x.pln.ok=true:=x.vld
theorem seq_len:x.seq.length≤4:=by
 have h:=(m3 x.vld).1;rw [Int.toNat_natCast,Int.toNat_natCast] at h;have:=x.chg_len
 omega
theorem st_len:x.st.length≤16:=by
 have h:=(HZ (lf:=false) (inn:=(x.m:Int)) (out:=(x.m:Int)) (sz:=(x.S:Int)) (n:=(x.n:Int)) (ops:=x.ops) (ol:=x.m)).2.2;rw [x.mkP0] at h
 exact h
theorem AL (old new:List UInt8)(S:Nat)(seq:List Int):∀ i,ndT old new S (seq.take i)≤(5+5*S)*i
  |0=>by simp [ndT]
  |i+1=>by
    have h:=AL old new S seq i
    by_cases hi:i<seq.length
    · rw [jS hi,Nat.mul_succ]
      have:=AN (old:=old) (new:=new) (S:=S) (seq.getD i 0)
      omega
    · rw [List.take_of_length_le oe] at h ⊢
      exact Nat.le_trans h (Nat.mul_le_mul_left _ oe)
theorem T_le:ndT x.img x.new x.S x.seq≤20*(1+x.S):=by
 have h:=AL x.img x.new x.S x.seq x.seq.length;rw [List.take_length] at h;have h2:(5+5*x.S)*x.seq.length≤(5+5*x.S)*4:=Nat.mul_le_mul_left _ x.seq_len
 omega
theorem u_le:x.u≤22:=by
 have h:=x.T_le;apply Y 0x57e;intro h2
 unfold u ndU;refine Nat.le_of_lt_succ ((Nat.div_lt_iff_lt_mul oe).2 ?_)
 omega
theorem ndE0:dV false (x.S:Int) (x.n:Int) (x.m:Int) (x.m:Int) x.ops x.seq x.st x.img=0:=by
 refine ub x.vld (by rw [x.img_len]) ?_;rw [Int.toNat_natCast];have h:=x.T_le;apply Y 0x57e;intro h2
 show ndT x.img x.new x.S x.seq≤65535
 omega
theorem nd_eq:x.nd=nd5 x.u x.st.length x.seq.length x.S (ndG x.img x.new x.S x.seq):=by
 unfold nd;rw [jR x.ndE0,Int.toNat_natCast]
 rfl
theorem nd_u:x.nd.u=(x.u:Int):=by rw [x.nd_eq];rfl
theorem nd_s:x.nd.s=(x.st.length:Int):=by rw [x.nd_eq];rfl
theorem more_le:5≤x.more∧x.more≤44:=by
 apply Y 0xa10f;intro h1;apply Y 0x6ee;intro h2;apply Y 0xace;intro h3
 unfold more
 omega
section
variable {d:List (List UInt8)}{n S:Nat}{w:UInt8}
theorem dirt_len:∀ k,(dirt d n S w k).length=d.length
  |0=>rfl
  |k+1=>by rw [dirt,List.length_set,dirt_len k]
theorem wI {i:Nat}(h:i<n):∀ k,(dirt d n S w k).getD i []=d.getD i []
  |0=>rfl
  |k+1=>by
    rw [dirt,List.getD_eq_getElem?_getD,List.getElem?_set_ne oe,← List.getD_eq_getElem?_getD]
    exact wI h k
theorem dirt_row {i:Nat}:∀ k,((dirt d n S w k).getD i []).length=(d.getD i []).length
  |0=>rfl
  |k+1=>by
    rw [dirt]
    by_cases h:n+k=i
    · subst h
      by_cases hl:n+k<(dirt d n S w k).length
      · rw [aT hl,List.length_set]
        exact dirt_row k
      · rw [List.set_eq_of_length_le oe]
        exact dirt_row k
    · rw [List.getD_eq_getElem?_getD,List.getElem?_set_ne h,← List.getD_eq_getElem?_getD]
      exact dirt_row k
end
theorem flD_get (b:List UInt8)(S n k:Nat){i:Nat}(h:i<k):(flD b S n k).getD i []=flC b S n i:=ai h _
theorem dat_len:x.dat.length=x.n+x.more:=by unfold dat;rw [dirt_len,di]
theorem dat_row {i:Nat}(h:i<x.n+x.more):(x.dat.getD i []).length=x.S:=by
 unfold dat;rw [dirt_row,flD_get _ _ _ _ h,ef]
theorem dat_img {t:Nat}(h:t<x.n):x.dat.getD t []=ctF x.img t x.S:=by
 unfold dat;rw [wI h,flD_get _ _ _ _ oe,flC,if_pos h]
theorem fl0_ok:x.fl0.Ok:=by
 apply Y 0x57e;intro h1;apply Y 0x67e;intro h2;apply Y 0x910f;intro h3;refine ⟨by show 1≤x.S;omega,by show x.S≤4096;omega,by show 1≤x.dat.length;rw [x.dat_len];omega,by show x.dat.length≤64;rw [x.dat_len];omega,by show (List.replicate _ (0:Int)).length=x.dat.length;rw [x.dat_len,List.length_replicate],by show (List.replicate _ false).length=x.dat.length;rw [x.dat_len,List.length_replicate],fun i hi=>?_,by show (1:Int)≤100000;decide,by show (100000:Int)≤100000;decide,fun i hi=>?_⟩
 ·have hi':i<x.dat.length:=hi;rw [x.dat_len] at hi'
  exact x.dat_row hi'
 have hi':i<x.dat.length:=hi;rw [x.dat_len] at hi'
 show 0≤(List.replicate (x.n+x.more) (0:Int)).getD i 0∧(List.replicate (x.n+x.more) (0:Int)).getD i 0≤100000;rw [bO _ _ _ _ hi']
 decide
theorem vq:aN s0=true:=ob
theorem fits0:cN x.fl0 (x.n:Int) ((x.n:Int)+1)=true:=by
 apply Y 0x57e;intro h1;apply Y 0x67e;intro h2;apply Y 0x910f;intro h3;have h4:=x.dat_len;refine decide_eq_true ⟨by omega,by omega,by omega,?_,?_,?_⟩
 ·show (x.n:Int)<(x.dat.length:Int)
  omega
 ·show (x.n:Int)+1<(x.dat.length:Int)
  omega
 show 38≤x.S
 omega
theorem fresh0 {s:List Int}(hs:aN s=true):(b9 x.fl0 (x.n:Int) ((x.n:Int)+1) s).2=0∧Fresh x.fl0 (x.n:Int) ((x.n:Int)+1) s (b9 x.fl0 (x.n:Int) ((x.n:Int)+1) s).1:=by
 have hd:∀ i,x.fl0.dead.getD i false=false:=fun i=>by
  show (List.replicate (x.n+x.more) false).getD i false=false
  by_cases hi:i<x.n+x.more
  ·rw [bO _ _ _ _ hi]
  rw [cM QR]
 have hw:∀ i,x.fl0.wear.getD i 0=0:=fun i=>by
  show (List.replicate (x.n+x.more) (0:Int)).getD i 0=0
  by_cases hi:i<x.n+x.more
  ·rw [bO _ _ _ _ hi]
  rw [cM QR]
 exact sD x.fl0_ok x.fits0 hs ⟨hd _,hd _⟩ ⟨by rw [hw];show (0:Int)<100000;decide,by rw [hw];show (0:Int)<100000;decide⟩
theorem fl_fresh:Fresh x.fl0 (x.n:Int) ((x.n:Int)+1) s0 x.fl:=(x.fresh0 vq).2
theorem fl_ok:x.fl.Ok:=x.fl_fresh.ok
theorem fl_size:x.fl.size=x.S:=x.fl_fresh.sz
theorem fl_len:x.fl.data.length=x.n+x.more:=x.fl_fresh.n.trans x.dat_len
theorem rest_eq:x.lay.rest=upI x.n x.more:=by
 unfold lay Lay.rest upI more
 dsimp only;refine List.ext_getElem OO fun i h1 h2=>?_
 simp only [List.length_map,List.length_range] at h2
 simp only [List.getElem_map,List.getElem_range]
 by_cases a:i<4
 ·have:i=0∨i=1∨i=2∨i=3:=oe
  rcases this with rfl|rfl|rfl|rfl<;>simp<;>omega
 by_cases b:i<4+x.sg
 ·rw [List.getElem_append_left OO,List.getElem_append_left OO,List.getElem_append_right OO]
  simp
  omega
 by_cases c:i<4+x.sg+x.u
 ·rw [List.getElem_append_left OO,List.getElem_append_right OO]
  simp
  omega
 rw [List.getElem_append_right OO]
 simp
 omega
theorem lay_ok:fg x.fl x.lay=true:=by
 apply Y 0x57e;intro h1;apply Y 0x67e;intro h2;apply Y 0x910f;intro h3;apply Y 0xace;intro h4;have h5:=x.fl_len
 unfold fg;rw [Bool.and_eq_true,decide_eq_true_eq,decide_eq_true_eq];refine ⟨x.fl_ok,by rw [x.fl_size];omega,by show (1:Int)≤(x.n:Int);omega,by show (x.n:Int)≤_;rw [h5];omega,by show 1≤(upI _ _).length;rw [dE];omega,by show (upI _ _).length≤8;rw [dE];omega,fun v hv=>?_,?_⟩
 ·rw [x.rest_eq] at hv;obtain ⟨i,hi,rfl⟩:=List.mem_map.1 hv;rw [List.mem_range] at hi;rw [h5]
  show (x.n:Int)≤_∧_
  omega
 rw [x.rest_eq]
 unfold upI;apply Y 0x551f
 exact (List.nodup_iff_pairwise_ne.1 List.nodup_range).imp fun h=>by omega
end Raw
end Go.Sl
end
namespace Go.Proofs.YtbpddeiogcgegaaGreat
open Go.Sl
theorem Av (LA:Option Addr)(l:List T3)(lc n:Nat)(hl:l.length≤9223372036854775807)(hn:1≤n∧n≤1000):
    Ctr X 38 [.slice LA l.length lc,.int .i64 (n:Int)] [Rd LA (m5 l)] [] (fun v R' H'=>∃ (OA:Option Addr) (oc:Nat),v=.agg (List.toArray [.bool false,.int .i64 (n:Int),.int .i64 (n:Int),.slice OA (ptF n l).length oc])∧R'=[Rd OA (cv (ptF n l))]∧H'=[]):=by
 refine co Tryz.func38 ?_;intro β;apply Y 0x882;intro A4;apply Y 0x88ca48f8;intro A5;apply Y 0x1927beb;refine C.nil_own 157 5 ?_;refine lp [0,1,4,5] [_,_,_,_] (fun q:Nat×Option Addr×Nat=>[(6,.int .i64 (q.1:Int))]) (kz [_]) (fun q=>[Own 40 4 A4 1 1 [.bool false,.int .i64 0,.int .i64 0,.slice none 0 0],Own 40 4 A5 1 1 [.bool false,.int .i64 (n:Int),.int .i64 ((ptS n l q.1).2:Nat),.slice q.2.1 (ptS n l q.1).1.length q.2.2],Own 157 5 q.2.1 (ptS n l q.1).1.length q.2.2 (cv (ptS n l q.1).1)]) (fun q=>q.1≤min l.length 8) (fun q=>min l.length 8-q.1) (0,none,0) (Nat.zero_le _) (lk [0] [0,1,2]) ?_;apply Y 0xb1e;intro i A c hi
 dsimp only at hi ⊢;apply Zu 0xff0fc8584<;>intro
 ·apply Zu 0x6f1fc8b8<;>intro
  ·apply Zu 0x782cebe7cc7<;>intro
   ·apply Y 0x449;have hi2:i<l.length∧i<8:=oe;have hb8:(l.getD i (0,0,0)).2.2.toNat<256:=UInt8.toNat_lt _;have hon:(ptS n l i).2<n:=oe;apply Y 0x160f;intro ho1 ho2;have hln:=Ga (x:=(l.getD i (0,0,0))) hon;have hL:1≤ptL (l.getD i (0,0,0))∧ptL (l.getD i (0,0,0))≤40:=by unfold ptL;omega
    have hmod:((l.getD i (0,0,0)).2.2.toNat*3%n)<n:=Nat.mod_lt _ oe;have hgo:=F8 (l:=l) (i:=i) hon;apply Y 0xb93d;refine sq (cT (k:=i) (m:=i*3) rfl rfl rfl rfl rfl rfl oe (Src.r 0 rfl) (kb (k:=i) oe) rfl) ?_;refine sq (aV (k:=1) (m:=i*3+1) rfl rfl rfl rfl rfl rfl ob (Src.r 0 rfl) (kb (k:=i) oe) rfl) ?_;refine sq (Ev.load rfl rfl rfl (Src.r 0 rfl) ((jG (i:=i) (j:=1) oe ob).trans rfl)) ?_;apply Y 0x841f;refine sq (Ev.cast (u:=.int .i64 ((((l.getD i (0,0,0)).2.1.toNat%40):Nat):Int)) (Ev.rem rfl rfl oe ob) (congrArg (Value.int .i64) qF)) ?_;refine sq (Ev.cast (u:=.int .i64 (((ptL (l.getD i (0,0,0))):Nat):Int)) (Ev.add rfl rfl oe oe) (congrArg (Value.int .i64) (by unfold ptL;omega))) ?_;apply Y 0xa9;refine sq (faO 1) ?_;refine sq (ldO 1) ?_;refine sq (Ev.cast (u:=.int .i64 (((n-(ptS n l i).2):Nat):Int)) (Ev.sub rfl rfl oe oe) (congrArg (Value.int .i64) oe)) ?_;refine sq (Ev.cast (u:=.int .i64 (((min (ptL (l.getD i (0,0,0))) (n-(ptS n l i).2)):Nat):Int)) (Ev.pure rfl) (congrArg (Value.int .i64) Qu)) ?_;apply Y 0x88ca562ff52fd90f6c9aa9;intro A8;apply Zu 0x78a42f462fe52fd90f587bf4e<;>intro
    ·apply Y 0xc30f562ff52fd90f58;refine sp (Ev.cast (u:=.int .i64 ((((l.getD i (0,0,0)).2.2.toNat*3):Nat):Int)) (Ev.mul rfl rfl oe oe) (congrArg (Value.int .i64) oe)) ?_;apply Y 0x3;refine sp (Ev.cast (u:=.int .i64 ((((l.getD i (0,0,0)).2.2.toNat*3%n):Nat):Int)) (Ev.rem rfl rfl oe oe) (congrArg (Value.int .i64) (Int.natCast_emod _ _).symm)) ?_;apply Zu 0x40e1a42f462fe52fd90f5828<;>intro
     ·have hbk:(ptO n (ptS n l i).2 (l.getD i (0,0,0)))=⟨1,((ptS n l i).2:Int),((min (min (ptL (l.getD i (0,0,0))) (n-(ptS n l i).2)) (n-(ptS n l i).2):Nat):Int),0⟩:=by unfold ptO;rw [if_pos oe,show ptR n (ptS n l i).2 (l.getD i (0,0,0))=(ptS n l i).2 from if_pos oe]
      apply Y 0x990f53b1ba68;refine sp (Ev.cast (u:=.int .i64 (((min (min (ptL (l.getD i (0,0,0))) (n-(ptS n l i).2)) (n-(ptS n l i).2)):Nat):Int)) (Ev.pure rfl) (congrArg (Value.int .i64) Qu)) ?_;apply Y 0xd01ff31fba681f0f7bf4eca;intro A83;apply Y 0xaf0f;intro A84 cc84;exact Zm 0x321f3a50eaccc531ffaef1eba68f8accc
     have hbk:(ptO n (ptS n l i).2 (l.getD i (0,0,0)))=⟨1,((((l.getD i (0,0,0)).2.2.toNat*3%n):Nat):Int),((min (min (ptL (l.getD i (0,0,0))) (n-(ptS n l i).2)) (n-((l.getD i (0,0,0)).2.2.toNat*3%n)):Nat):Int),0⟩:=by unfold ptO;rw [if_pos oe,show ptR n (ptS n l i).2 (l.getD i (0,0,0))=((l.getD i (0,0,0)).2.2.toNat*3%n) from if_neg oe]
     apply Y 0x53be8;refine sp (Ev.cast (u:=.int .i64 (((n-((l.getD i (0,0,0)).2.2.toNat*3%n)):Nat):Int)) (Ev.sub rfl rfl oe oe) (congrArg (Value.int .i64) oe)) ?_;refine sp (Ev.cast (u:=.int .i64 (((min (min (ptL (l.getD i (0,0,0))) (n-(ptS n l i).2)) (n-((l.getD i (0,0,0)).2.2.toNat*3%n))):Nat):Int)) (Ev.pure rfl) (congrArg (Value.int .i64) Qu)) ?_;apply Y 0xd01ff31fba681f0f7bf4eca;intro A83;apply Y 0xaf0f;intro A84 cc84;exact Zm 0x321f3a50eaccc531ffaef1eba68f8accc
    have hbk:(ptO n (ptS n l i).2 (l.getD i (0,0,0)))=⟨3,0,((min (ptL (l.getD i (0,0,0))) (n-(ptS n l i).2)):Nat),(l.getD i (0,0,0)).2.2⟩:=by unfold ptO;rw [if_neg oe]
    apply Y 0xd01ff31fba681f0faa;intro A83;apply Y 0xaf0f;intro A84 cc84;exact Zm 0x321f3a50eaccc531ffaef1eba68f8accc
   apply Y 0x160f4469;intro ho1 ho2;apply Zu 0x783ba68<;>intro
   ·apply Y 0xe01fca990fba3baba2;intro A105;apply Y 0x9f0f;intro A106 cc106;apply Y 0xe5ebd5985e2f8accc8af8accc
    exfalso
    omega
   apply Y 0xe5e980fcaebd5985e2e8;have hB:ptS n l (min l.length 8)=ptS n l i:=by first|(rw [show min l.length 8=i by omega])|exact kK oe oe
   apply Y 0x2c0f;intro hF;rw [hF];apply Y 0xcb0f;intro ho;refine ⟨A,c,?_,rfl,rfl⟩;apply Y 0xb51f;rw [ho]
  apply Y 0x1a8;refine C.cond rfl (fun h=>by cases h) (fun _=>?_);apply Y 0x160f4469;intro ho1 ho2;apply Zu 0x783ba68<;>intro
  ·apply Y 0xe01fca990fba3baba2;intro A105;apply Y 0x9f0f;intro A106 cc106;apply Y 0xbd5985e2f8accc8af8accc;refine qfz 2 [0,1,3] ?_;apply Y 0xe5ef11f;have hB:ptS n l (min l.length 8)=ptS n l i:=by first|(rw [show min l.length 8=i by omega])|exact kK oe oe
   apply Y 0x191f;intro hF;rw [hF];rw [List.length_append,nO];exact ⟨A106,cc106,rfl,rfl,rfl⟩
  apply Y 0xe5e980fcaebd5985e2e8;have hB:ptS n l (min l.length 8)=ptS n l i:=by first|(rw [show min l.length 8=i by omega])|exact kK oe oe
  apply Y 0x2c0f;intro hF;rw [hF];apply Y 0xcb0f;intro ho;refine ⟨A,c,?_,rfl,rfl⟩;apply Y 0xb51f;rw [ho]
 apply Y 0x19dbc;refine C.cond rfl (fun h=>by cases h) (fun _=>?_);apply Y 0x160f4469;intro ho1 ho2;apply Zu 0x783ba68<;>intro
 ·apply Y 0xe01fca990fba3baba2;intro A105;apply Y 0x9f0f;intro A106 cc106;apply Y 0xbd5985e2f8accc8af8accc;refine qfz 2 [0,1,3] ?_;apply Y 0xe5ef11f;have hB:ptS n l (min l.length 8)=ptS n l i:=by first|(rw [show min l.length 8=i by omega])|exact kK oe oe
  apply Y 0x191f;intro hF;rw [hF];rw [List.length_append,nO];exact ⟨A106,cc106,rfl,rfl,rfl⟩
 apply Y 0xe5e980fcaebd5985e2e8;have hB:ptS n l (min l.length 8)=ptS n l i:=by first|(rw [show min l.length 8=i by omega])|exact kK oe oe
 apply Y 0x2c0f;intro hF;rw [hF];apply Y 0xcb0f;intro ho;refine ⟨A,c,?_,rfl,rfl⟩;apply Y 0xb51f;rw [ho]
end Go.Proofs.YtbpddeiogcgegaaGreat
