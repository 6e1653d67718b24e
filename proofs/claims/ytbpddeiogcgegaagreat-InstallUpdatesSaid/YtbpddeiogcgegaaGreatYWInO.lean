/-
  Part of a proof.
-/
import Derived.Test.YtbpddeiogcgegaaGreatYWInL
set_option maxHeartbeats 0
set_option maxRecDepth 4000
set_option linter.all false
namespace Go.Proofs.YtbpddeiogcgegaaGreat
open Go.Sl
theorem C7 (f:Fl)(a:Fa)(ok:f.Ok)(hh:a.hs.length=f.data.length)(y:Lay)(G U V:Option Addr)(gc uc vc:Nat)(hyn: -1000000≤y.n∧y.n≤1000000)(hyl:y.gs.length≤1000∧y.us.length≤1000∧y.ls.length≤1000)(hcap:Caps f a)(p0 p1 p2 p3 p4 p5 p6 p7 p8:Int)(hp:∀ x∈[p0,p1,p2,p3,p4,p5,p6,p7,p8],0≤x∧x≤4294967295)(k:Pkg)(rv:Value)(OA QA HA:Option Addr)(oc qc hc:Nat)(hpl:k.pl.ops.length≤9223372036854775807∧k.pl.seq.length≤1000000∧k.pl.st.length≤1000000)(M:Option Addr)(hfit:PlnFit f y k.pl)(hvc:y.ls.length≤vc)(hlay:fg f y=true):
    dU X 124 [ag M 0] (flR f a++[Rd G (I64 y.gs),Rd U (I64 y.us),Rd V (I64 y.ls),Rd OA (cv k.pl.ops),Rd QA (I64 k.pl.seq),Rd HA (I64 k.pl.st)]) [Own 140 38 M 1 1 (mcA f a y G U V gc uc vc (.int .i64 p0::.int .i64 p1::.int .i64 p2::.int .i64 p3::.int .i64 p4::.int .i64 p5::.int .i64 p6::.int .i64 p7::.int .i64 p8::mcK k OA QA HA oc qc hc (rv::.int .i64 0::.int .i64 0::.int .i64 0::.slice none 0 0::.bool false::[])))] (b5 [{ v:=(gd (dD f y [p0,p1,p2,p3,p4,p5,p6,p7,p8] k.pl).e),recovered:=false }] (fun v R' H'=>(dD f y [p0,p1,p2,p3,p4,p5,p6,p7,p8] k.pl).e=0∧∃ (OZ:Option Addr) (oz:Nat),v=.tuple #[]∧R'=[Rd OZ (U8 (rxo (dD f y [p0,p1,p2,p3,p4,p5,p6,p7,p8] k.pl).x (dD f y [p0,p1,p2,p3,p4,p5,p6,p7,p8] k.pl).done).data)]∧H'=[Own 140 38 M 1 1 (mcA f a y G U V gc uc vc (.int .i64 p0::.int .i64 p1::.int .i64 p2::.int .i64 p3::.int .i64 p4::.int .i64 p5::.int .i64 p6::.int .i64 p7::.int .i64 p8::mcK k OA QA HA oc qc hc (rv::.int .i64 (rxo (dD f y [p0,p1,p2,p3,p4,p5,p6,p7,p8] k.pl).x (dD f y [p0,p1,p2,p3,p4,p5,p6,p7,p8] k.pl).done).kind::.int .i64 (rxo (dD f y [p0,p1,p2,p3,p4,p5,p6,p7,p8] k.pl).x (dD f y [p0,p1,p2,p3,p4,p5,p6,p7,p8] k.pl).done).sec::.int .i64 (rxo (dD f y [p0,p1,p2,p3,p4,p5,p6,p7,p8] k.pl).x (dD f y [p0,p1,p2,p3,p4,p5,p6,p7,p8] k.pl).done).at_::.slice OZ (rxo (dD f y [p0,p1,p2,p3,p4,p5,p6,p7,p8] k.pl).x (dD f y [p0,p1,p2,p3,p4,p5,p6,p7,p8] k.pl).done).data.length oz::.bool (!(dD f y [p0,p1,p2,p3,p4,p5,p6,p7,p8] k.pl).done)::[])))]) (fun R' H'=>(dD f y [p0,p1,p2,p3,p4,p5,p6,p7,p8] k.pl).e≠0∧R'=[]∧H'=[])):=by
 apply Y 0xc2e;intro hok;obtain ⟨os1,os2,on1,on2,owl,odl,orows,ol1,ol2,owear⟩:=ok;apply Y 0xd9e;intro hp0;apply Y 0xe9e;intro hp1;apply Y 0xf9e;intro hp2;apply Y 0x1ae;intro hp3;apply Y 0x2ae;intro hp4;apply Y 0x3ae;intro hp5;apply Y 0x4ae;intro hp6;apply Y 0x5ae;intro hp7;apply Y 0x6ae;intro hp8;obtain ⟨_,hl38,hl1,hl2,hl3,hl4,hl5,hl6⟩:=gB.1 hlay;have hu:=Bb hlay;refine dU.of (X:=X) (fn:=Tryz.f124) Tryz.func124 rfl oa rfl ?_;intro β;apply Y 0x88ef22f630f430fd2e3f0f4;refine mq 5 rfl (nkR 10) ?_;apply Y 0x730f;refine mq 7 rfl (faR 10) ?_;refine mq 8 rfl (faR 10) ?_;refine mq 9 rfl (ldR 10) ?_;apply Y 0x8869e;intro A2;apply Zu 0x785ba241b9c27ec9eb84e6<;>intro hc22
 ·apply Y 0x341f8aa0e14e7bacccaccc2;refine bj (js:=[0]) (js':=[]) (dI f a hok hh y G U V gc uc vc hyn hyl hcap p0 p1 p2 p3 p4 p5 p6 p7 p8 hp k rv OA QA HA oc qc hc hpl M [4,0,p2,p3,p4,p5,p6,p7,p8] rfl) rfl rfl rfl ob hcx rfl ?_ ?_
  rotate_left;apply Y 0x98;intro hne;exact Zm 0x56efd3a2f95e;apply Y 0xa1e;intro hne NO nc;exact Zm 0x46e33e3a2f22ebd3c
 apply Zu 0x78ba2aa<;>intro hc30
 ·apply Zu 0xdf1f68
  rotate_left;apply Y 0x98;intro he;apply Y 0xe1e;rw [show (dD f y [p0,p1,p2,p3,p4,p5,p6,p7,p8] k.pl)=(nxE 240) from Jh (s:=[p0,p1,p2,p3,p4,p5,p6,p7,p8]) hc22 hc30];exact Zm 0xe6efd;rintro _ _ _ ⟨_,h,_⟩;exact Zm 0x77e
 have hq:=hfit.seqs (i:=p1.toNat) oe;have hrw:=orows (k.pl.seq.getD p1.toNat 0).toNat oe;have hcp:=hcap (k.pl.seq.getD p1.toNat 0).toNat oe;apply Y 0xba48e8;refine sp (ae (k:=p1.toNat) rfl rfl rfl rfl rfl rfl oe oe (Src.r 8 rfl) ow) ?_;refine sp (Ev.load rfl rfl rfl (Src.r 8 rfl) (aJ oe)) ?_;apply Zu 0x40e1ba228<;>intro hc39
 ·apply Y 0x584;refine bj (js:=[0]) (js':=[1]) (vI f a hok hh y G U V gc uc vc hyn hyl hcap p0 p1 p2 p3 p4 p5 p6 p7 p8 hp k rv OA QA HA oc qc hc hpl M (k.pl.seq.getD p1.toNat 0) hlay) rfl rfl rfl ob hcx rfl ?_ ?_
  rotate_left;apply Y 0x98;intro hge;apply Y 0xe1e95e;rw [show (dD f y [p0,p1,p2,p3,p4,p5,p6,p7,p8] k.pl)=(plF f y [p0,p1,p2,p3,p4,p5,p6,p7,p8] (k.pl.seq.getD p1.toNat 0)) from Eq.trans (yw (s:=[p0,p1,p2,p3,p4,p5,p6,p7,p8]) hc22 hc30 hc39) (cA (.inl hge))];exact Zm 0x87efd;apply Y 0xa1e;intro hge XA xc;apply Zu 0xe9f8db<;>intro hc42
  ·rw [de hc42];apply Y 0x8aa0e14ef8acccaccc9bba2;refine sp (ab (vs:=[.int .i64 p0,.int .i64 (p1+1),.int .i64 0,.int .i64 p3,.int .i64 p4,.int .i64 p5,.int .i64 p6,.int .i64 p7,.int .i64 p8]) rfl rfl rfl (Src.r 0 rfl) rfl rfl ob) ?_;refine bj (js:=[0]) (js':=[]) (dI f a hok hh y G U V gc uc vc hyn hyl hcap p0 p1 p2 p3 p4 p5 p6 p7 p8 hp k rv OA QA HA oc qc hc hpl M [p0,(p1+1),0,p3,p4,p5,p6,p7,p8] rfl) rfl rfl rfl ob hcx rfl ?_ ?_
   rotate_left;apply Y 0x98;intro hne;exact Zm 0x56efd4a2f95e;apply Y 0xa1e;intro hne NO nc;exact Zm 0x46e33e4a2f22ebd3c
  apply Y 0x22e23ee8;rw [show (dD f y [p0,p1,p2,p3,p4,p5,p6,p7,p8] k.pl)=(plF f y [p0,p1,p2,p3,p4,p5,p6,p7,p8] (k.pl.seq.getD p1.toNat 0)) from Eq.trans (yw (s:=[p0,p1,p2,p3,p4,p5,p6,p7,p8]) hc22 hc30 hc39) (cA (.inr hc42))];apply Y 0x33e;exact ⟨hge,_,_,rfl,rfl,rfl⟩
 apply Y 0x88ed22f630f430fd2e8e1faa;refine mq 5 rfl (nkR 10) ?_;apply Y 0xd5e232f730f;refine mq 9 rfl (nkR 10) ?_;refine mq 10 rfl (faR 10) ?_;refine mq 11 rfl (faR 10) ?_;refine mq 12 rfl (ab (vs:=[.int .i64 k.pl.sz,.int .i64 k.pl.n,.bool k.pl.lf,.int .i64 k.pl.inn,.int .i64 k.pl.out,.slice OA k.pl.ops.length oc,.slice QA k.pl.seq.length qc,.slice HA k.pl.st.length hc]) rfl rfl rfl (Src.r 10 rfl) rfl rfl ob) ?_;refine mq 13 rfl (faR 11) ?_;refine mq 14 rfl (ldR 11) ?_;refine mfo 15 ?_;refine an (B0 (f.size:Int) f.data a.hs hh a.D a.cD _ _ _ y.n y.ls V vc _ _ _ _ _ _ k.pl.sz k.pl.n k.pl.lf k.pl.inn k.pl.out k.pl.ops k.pl.seq k.pl.st OA QA HA oc qc hc hpl.1 hpl.2.1 hpl.2.2 p1 oe oe (fun i=>by have:=hok.sm.r i;omega) hvc) ?_;apply Y 0x89;intro CA cc;apply Y 0xc9b0e;refine LM.q 16 rfl oa (Ev.pure rfl) rfl trivial ?_;refine LM.q 17 rfl oa (Ev.pure rfl) rfl trivial ?_;refine LM.q 18 rfl oa (Ev.pure rfl) rfl trivial ?_;refine LM.f 19 rfl oa trivial ?_;apply Y 0x481b9cf70f63;refine bf (js:=[]) (js':=[0,1,2]) (ep (k.pl.cntE f y p1)) rfl rfl rfl ob trivial rfl ?_ ?_
 rotate_left;apply Y 0x98;intro h71;apply Y 0xe1e;rw [show (dD f y [p0,p1,p2,p3,p4,p5,p6,p7,p8] k.pl)=(nxE (k.pl.cntE f y p1)) from Jg (s:=[p0,p1,p2,p3,p4,p5,p6,p7,p8]) hc22 hc30 hc39 h71];apply Y 0xfd;exact ⟨h71,rfl,rfl⟩;apply Y 0x1a;intro h71;apply Y 0x47bb0e;have hcl:(k.pl.cntV f y p1).length=f.size:=hfit.cnt h71;apply Zu 0x40e1ba6832ec3e<;>intro hc74
 ·apply Y 0x58;refine bj (js:=[0]) (js':=[1]) (vf f a hok hh y G U V gc uc vc hyn hyl hcap p0 p1 p2 p3 p4 p5 p6 p7 p8 hp k rv OA QA HA oc qc hc hpl M CA (k.pl.cntV f y p1) cc (by rw [hcl];omega) hlay) rfl rfl rfl ob hcx rfl ?_ ?_
  rotate_left;apply Y 0x98;intro hge;exact Zm 0x87efd6a2f95e;apply Y 0xa1e;intro hge GO goc;apply Y 0x33e6a2f22ebddb;exact ⟨hge,GO,goc,rfl,rfl,rfl⟩
 apply Y 0x394e99994c58e8;refine sp (ae (k:=(k.pl.seq.getD p1.toNat 0).toNat) rfl rfl rfl rfl rfl rfl oe oe (Src.r 1 rfl) oy) ?_;apply Y 0x36de;refine L.call (js:=[]) (js':=[0,1]) (D2 (k.pl.seq.getD p1.toNat 0) (a.hs.getD (k.pl.seq.getD p1.toNat 0).toNat (none,0)).1 CA (av f (k.pl.seq.getD p1.toNat 0)) (k.pl.cntV f y p1) (a.hs.getD (k.pl.seq.getD p1.toNat 0).toNat (none,0)).2 cc (by rw [show (av f (k.pl.seq.getD p1.toNat 0)).length=f.size from hrw];exact hcp) (by rw [show (av f (k.pl.seq.getD p1.toNat 0)).length=f.size from hrw];omega) (by rw [hcl];omega)) rfl rfl rfl ob ⟨((Has.kid 2 rfl oH ((k.pl.seq.getD p1.toNat 0).toNat) OG).cast (bB _)),(Has.r 0 rfl),trivial⟩ rfl ?_;apply Y 0x89;intro RA rc;apply Y 0x2855b0e;have hrl:=ny (k.pl.seq.getD p1.toNat 0) (av f (k.pl.seq.getD p1.toNat 0)) (k.pl.cntV f y p1);have hre:Jc (k.pl.seq.getD p1.toNat 0) (av f (k.pl.seq.getD p1.toNat 0)) (k.pl.cntV f y p1)=0:=tO (by unfold cV;rw [show (av f (k.pl.seq.getD p1.toNat 0)).length=f.size from hrw,hcl];omega);apply Y 0x8a;refine bf (js:=[]) (js':=[0,1,2]) (ep (Jc (k.pl.seq.getD p1.toNat 0) (av f (k.pl.seq.getD p1.toNat 0)) (k.pl.cntV f y p1))) rfl rfl rfl ob trivial rfl ?_ ?_
 rotate_left;apply Y 0x98;intro h93
 exact absurd hre h93;apply Y 0x1a;intro h93;apply Y 0xc8e7bb0e;intro hrc;apply Y 0x32ec3e;refine dC [_,_,_,_,_,_,_,_,_,_,_,_,_,_] ⟨Has.r 0 rfl,Has.r 1 rfl,Has.r 2 rfl,Has.r 3 rfl,Has.r 4 rfl,Has.r 5 rfl,Has.r 6 rfl,Has.r 7 rfl,Has.r 8 rfl,Has.r 9 rfl,Has.r 10 rfl,Has.r 11 rfl,Has.o 0 rfl,Has.o 1 rfl,trivial⟩ RK ?_;apply Y 0xbaed2e;refine mq 2 rfl (nkR 12) ?_;refine mq 3 rfl (faR 12) ?_;refine mq 4 rfl (ab (vs:=(flL f a)) rfl rfl rfl (Src.r 12 rfl) rfl rfl ob) ?_;apply Y 0xc4e;refine mq 6 rfl (nkR 12) ?_;refine mq 7 rfl (faR 12) ?_;refine mq 8 rfl (ab (vs:=(hY y G U V gc uc vc)) rfl rfl rfl (Src.r 12 rfl) rfl rfl ob) ?_;refine mq 9 rfl (faR 13) ?_;refine mq 10 rfl (ldR 13) ?_;apply Y 0x63ee7e;refine a8 (GT f a hok hh y.us U uc hu p3 (iQ (k.pl.seq.getD p1.toNat 0) (av f (k.pl.seq.getD p1.toNat 0)) (k.pl.cntV f y p1)) RA rc oe hrc hcap) ?_;apply Y 0x89;intro XA xc;apply Y 0x6db;refine mq 13 rfl (Ev.pure rfl) ?_;apply Y 0x290f;refine mfo 15 ?_;apply Y 0x4fec93;refine bj (js:=[0]) (js':=[1]) (mD f a hok hh y G U V gc uc vc hyn hyl hcap p0 p1 p2 p3 p4 p5 p6 p7 p8 hp k rv OA QA HA oc qc hc hpl M (towS f y.us p3 (iQ (k.pl.seq.getD p1.toNat 0) (av f (k.pl.seq.getD p1.toNat 0)) (k.pl.cntV f y p1))).x XA xc (towS f y.us p3 (iQ (k.pl.seq.getD p1.toNat 0) (av f (k.pl.seq.getD p1.toNat 0)) (k.pl.cntV f y p1))).done (towS f y.us p3 (iQ (k.pl.seq.getD p1.toNat 0) (av f (k.pl.seq.getD p1.toNat 0)) (k.pl.cntV f y p1))).e) rfl rfl rfl ob hcx rfl ?_ ?_
 rotate_left;apply Y 0x98;intro hge;refine tj ?_;apply Y 0xe1e;rw [show (dD f y [p0,p1,p2,p3,p4,p5,p6,p7,p8] k.pl)=(towS f y.us p3 (iQ (k.pl.seq.getD p1.toNat 0) (av f (k.pl.seq.getD p1.toNat 0)) (k.pl.cntV f y p1))) from Eq.trans (yv (s:=[p0,p1,p2,p3,p4,p5,p6,p7,p8]) hc22 hc30 hc39 h71 hc74) (cA (.inl hge))];exact Zm 0x87efd;apply Y 0x21e;intro hge;apply Zu 0xe91b70edb<;>intro hc110
 ·rw [de hc110];apply Y 0x8aa0e14ef8acccaccc9b5ba2;refine sp (ab (vs:=[.int .i64 p0,.int .i64 p1,.int .i64 1,.int .i64 (p3+((iQ (k.pl.seq.getD p1.toNat 0) (av f (k.pl.seq.getD p1.toNat 0)) (k.pl.cntV f y p1)).length:Int)),.int .i64 p4,.int .i64 p5,.int .i64 p6,.int .i64 p7,.int .i64 p8]) rfl rfl rfl (Src.r 0 rfl) rfl rfl ob) ?_;refine bj (js:=[0]) (js':=[]) (dI f a hok hh y G U V gc uc vc hyn hyl hcap p0 p1 p2 p3 p4 p5 p6 p7 p8 hp k rv OA QA HA oc qc hc hpl M [p0,p1,1,(p3+((iQ (k.pl.seq.getD p1.toNat 0) (av f (k.pl.seq.getD p1.toNat 0)) (k.pl.cntV f y p1)).length:Int)),p4,p5,p6,p7,p8] rfl) rfl rfl rfl ob hcx rfl ?_ ?_
  rotate_left;apply Y 0x98;intro hne;exact Zm 0x56efd5a2f;apply Y 0xa1e;intro hne NO nc;exact Zm 0x46e33e5a2fa4e50e3c
 apply Y 0xa4ed9;rw [show (dD f y [p0,p1,p2,p3,p4,p5,p6,p7,p8] k.pl)=(towS f y.us p3 (iQ (k.pl.seq.getD p1.toNat 0) (av f (k.pl.seq.getD p1.toNat 0)) (k.pl.cntV f y p1))) from Eq.trans (yv (s:=[p0,p1,p2,p3,p4,p5,p6,p7,p8]) hc22 hc30 hc39 h71 hc74) (cA (.inr hc110))];apply Y 0x33e;exact ⟨hge,_,_,rfl,rfl,rfl⟩
theorem IM (f:Fl)(a:Fa)(ok:f.Ok)(hh:a.hs.length=f.data.length)(y:Lay)(G U V:Option Addr)(gc uc vc:Nat)(hyn: -1000000≤y.n∧y.n≤1000000)(hyl:y.gs.length≤1000∧y.us.length≤1000∧y.ls.length≤1000)(hcap:Caps f a)(p0 p1 p2 p3 p4 p5 p6 p7 p8:Int)(hp:∀ x∈[p0,p1,p2,p3,p4,p5,p6,p7,p8],0≤x∧x≤4294967295)(k:Pkg)(rv:Value)(OA QA HA:Option Addr)(oc qc hc:Nat)(hpl:k.pl.ops.length≤9223372036854775807∧k.pl.seq.length≤1000000∧k.pl.st.length≤1000000)(M:Option Addr)(hlay:fg f y=true):
    dU X 125 [ag M 0] (flR f a++[Rd G (I64 y.gs),Rd U (I64 y.us),Rd V (I64 y.ls),Rd OA (cv k.pl.ops),Rd QA (I64 k.pl.seq),Rd HA (I64 k.pl.st)]) [Own 140 38 M 1 1 (mcA f a y G U V gc uc vc (.int .i64 p0::.int .i64 p1::.int .i64 p2::.int .i64 p3::.int .i64 p4::.int .i64 p5::.int .i64 p6::.int .i64 p7::.int .i64 p8::mcK k OA QA HA oc qc hc (rv::.int .i64 0::.int .i64 0::.int .i64 0::.slice none 0 0::.bool false::[])))] (b5 [{ v:=(gd (dP f y [p0,p1,p2,p3,p4,p5,p6,p7,p8]).e),recovered:=false }] (fun v R' H'=>(dP f y [p0,p1,p2,p3,p4,p5,p6,p7,p8]).e=0∧∃ (OZ:Option Addr) (oz:Nat),v=.tuple #[]∧R'=[Rd OZ (U8 (rxo (dP f y [p0,p1,p2,p3,p4,p5,p6,p7,p8]).x (dP f y [p0,p1,p2,p3,p4,p5,p6,p7,p8]).done).data)]∧H'=[Own 140 38 M 1 1 (mcA f a y G U V gc uc vc (.int .i64 p0::.int .i64 p1::.int .i64 p2::.int .i64 p3::.int .i64 p4::.int .i64 p5::.int .i64 p6::.int .i64 p7::.int .i64 p8::mcK k OA QA HA oc qc hc (rv::.int .i64 (rxo (dP f y [p0,p1,p2,p3,p4,p5,p6,p7,p8]).x (dP f y [p0,p1,p2,p3,p4,p5,p6,p7,p8]).done).kind::.int .i64 (rxo (dP f y [p0,p1,p2,p3,p4,p5,p6,p7,p8]).x (dP f y [p0,p1,p2,p3,p4,p5,p6,p7,p8]).done).sec::.int .i64 (rxo (dP f y [p0,p1,p2,p3,p4,p5,p6,p7,p8]).x (dP f y [p0,p1,p2,p3,p4,p5,p6,p7,p8]).done).at_::.slice OZ (rxo (dP f y [p0,p1,p2,p3,p4,p5,p6,p7,p8]).x (dP f y [p0,p1,p2,p3,p4,p5,p6,p7,p8]).done).data.length oz::.bool (!(dP f y [p0,p1,p2,p3,p4,p5,p6,p7,p8]).done)::[])))]) (fun R' H'=>(dP f y [p0,p1,p2,p3,p4,p5,p6,p7,p8]).e≠0∧R'=[]∧H'=[])):=by
 apply Y 0xc2e;intro hok;obtain ⟨os1,os2,on1,on2,owl,odl,orows,ol1,ol2,owear⟩:=ok;apply Y 0xd9e;intro hp0;apply Y 0xe9e;intro hp1;apply Y 0xf9e;intro hp2;apply Y 0x1ae;intro hp3;apply Y 0x2ae;intro hp4;apply Y 0x3ae;intro hp5;apply Y 0x4ae;intro hp6;apply Y 0x5ae;intro hp7;apply Y 0x6ae;intro hp8;obtain ⟨_,hl38,hl1,hl2,hl3,hl4,hl5,hl6⟩:=gB.1 hlay;have hu:=Bb hlay;refine dU.of (X:=X) (fn:=Tryz.f125) Tryz.func125 rfl oa rfl ?_;intro β;apply Y 0x88241f994c48;intro A2;apply Zu 0x40e1ba27beb<;>intro hc14
 ·apply Y 0xcabac0ebababa48;refine bj (js:=[0]) (js':=[1]) (dI f a hok hh y G U V gc uc vc hyn hyl hcap p0 p1 p2 p3 p4 p5 p6 p7 p8 hp k rv OA QA HA oc qc hc hpl M [0,0,0,0,0,1-p5,p6,p8,p8] rfl) rfl rfl rfl ob hcx rfl ?_ ?_
  rotate_left;apply Y 0x98;intro hne;exact Zm 0x56efd492f95e;apply Y 0xa1e;intro hne NO nc;exact Zm 0x46e33e492f22ebddb
 apply Zu 0x78ba2aa<;>intro hc29
 ·apply Zu 0xdf1f68
  rotate_left;apply Y 0x98;intro he;apply Y 0xe1e;rw [show (dP f y [p0,p1,p2,p3,p4,p5,p6,p7,p8])=(nxE 240) from KP (s:=[p0,p1,p2,p3,p4,p5,p6,p7,p8]) hc14 hc29];exact Zm 0xe6efd;rintro _ _ _ ⟨_,h,_⟩;exact Zm 0x77e
 apply Y 0x88ed22f630f430fd2e8e1faa;refine mq 5 rfl (nkR 10) ?_;apply Y 0x232f730f;refine mq 8 rfl (faR 11) ?_;refine mq 9 rfl (ldR 11) ?_;apply Y 0x69e;refine a8 (H9 f a hok hh y.us U uc hu p3) ?_;rintro _ _ _ ⟨LA,lc,rfl,rfl,rfl,hrc⟩;apply Y 0xc9db;refine LM.q 11 rfl oa (Ev.pure rfl) rfl trivial ?_;refine LM.q 12 rfl oa (Ev.pure rfl) rfl trivial ?_;refine LM.q 13 rfl oa (Ev.pure rfl) rfl trivial ?_;refine LM.q 14 rfl oa (Ev.pure rfl) rfl trivial ?_;apply Y 0x634fe63e8e;refine LM.f 17 rfl oa trivial ?_;apply Y 0x481b9c;refine bf (js:=[]) (js':=[0,1]) (ep (bG (aR f y.us) (f.size:Int) p3).e) rfl rfl rfl ob trivial rfl ?_ ?_
 rotate_left;apply Y 0x98;intro h47;apply Y 0xe1e;rw [show (dP f y [p0,p1,p2,p3,p4,p5,p6,p7,p8])=(nxE (bG (aR f y.us) (f.size:Int) p3).e) from KO (s:=[p0,p1,p2,p3,p4,p5,p6,p7,p8]) hc14 hc29 h47];apply Y 0xfd;exact ⟨h47,rfl,rfl⟩;apply Y 0x1a;intro h47;apply Y 0x7bdb;have hlf:=Bc (show (bG (aR f y.us) (f.size:Int) p3).e=0 from h47);replace hlf:5≤(bG (aR f y.us) (f.size:Int) p3).b.length∧(bG (aR f y.us) (f.size:Int) p3).b.length≤65535:=hlf;apply Y 0x8a;refine an (Dx LA (bG (aR f y.us) (f.size:Int) p3).b lc oe) ?_;apply Zu 0x7894e99994c5828db29<;>intro hc56
 ·apply Y 0x68;refine bf (js:=[]) (js':=[0,1]) (ep 210) rfl rfl rfl ob trivial rfl ?_ ?_
  rotate_left;apply Y 0x98;intro he;apply Y 0xe1e;rw [show (dP f y [p0,p1,p2,p3,p4,p5,p6,p7,p8])=(nxE 210) from KN (s:=[p0,p1,p2,p3,p4,p5,p6,p7,p8]) hc14 hc29 h47 hc56];exact Zm 0xe6efd;rintro _ _ _ ⟨_,h,_⟩;exact Zm 0x77e
 have hrw:(f.data.getD ((bG (aR f y.us) (f.size:Int) p3).b.getD 0 0).toNat []).length=f.size:=orows ((bG (aR f y.us) (f.size:Int) p3).b.getD 0 0).toNat oe;apply Zu 0x40e1ba2aa<;>intro hc60
 ·apply Y 0x584;refine bj (js:=[0]) (js':=[1]) (vI f a hok hh y G U V gc uc vc hyn hyl hcap p0 p1 p2 p3 p4 p5 p6 p7 p8 hp k rv OA QA HA oc qc hc hpl M ((((bG (aR f y.us) (f.size:Int) p3).b.getD 0 0).toNat:Nat):Int) hlay) rfl rfl rfl ob hcx rfl ?_ ?_
  rotate_left;apply Y 0x98;intro hge;apply Y 0xe1e95e;rw [show (dP f y [p0,p1,p2,p3,p4,p5,p6,p7,p8])=(plF f y [p0,p1,p2,p3,p4,p5,p6,p7,p8] ((((bG (aR f y.us) (f.size:Int) p3).b.getD 0 0).toNat:Nat):Int)) from Eq.trans (Cp (s:=[p0,p1,p2,p3,p4,p5,p6,p7,p8]) hc14 hc29 h47 hc56 hc60) (cA (.inl hge))];exact Zm 0x87efd;apply Y 0xa1e;intro hge XA xc;apply Zu 0xe9f8db<;>intro hc63
  ·rw [de hc63];apply Y 0x8aa0e14ef8acccaccc48;refine sp (ab (vs:=[.int .i64 p0,.int .i64 p1,.int .i64 0,.int .i64 (bG (aR f y.us) (f.size:Int) p3).at_,.int .i64 p4,.int .i64 p5,.int .i64 p6,.int .i64 p7,.int .i64 p8]) rfl rfl rfl (Src.r 0 rfl) rfl rfl ob) ?_;refine bj (js:=[0]) (js':=[]) (dI f a hok hh y G U V gc uc vc hyn hyl hcap p0 p1 p2 p3 p4 p5 p6 p7 p8 hp k rv OA QA HA oc qc hc hpl M [p0,p1,0,(bG (aR f y.us) (f.size:Int) p3).at_,p4,p5,p6,p7,p8] rfl) rfl rfl rfl ob hcx rfl ?_ ?_
   rotate_left;apply Y 0x98;intro hne;exact Zm 0x56efd592f95e;apply Y 0xa1e;intro hne NO nc;exact Zm 0x46e33e592f22ebd3c
  apply Y 0x22e23ee8;rw [show (dP f y [p0,p1,p2,p3,p4,p5,p6,p7,p8])=(plF f y [p0,p1,p2,p3,p4,p5,p6,p7,p8] ((((bG (aR f y.us) (f.size:Int) p3).b.getD 0 0).toNat:Nat):Int)) from Eq.trans (Cp (s:=[p0,p1,p2,p3,p4,p5,p6,p7,p8]) hc14 hc29 h47 hc56 hc60) (cA (.inr hc63))];apply Y 0x33e;exact ⟨hge,_,_,rfl,rfl,rfl⟩
 apply Y 0x394e99994c48e8;refine sp (ae (k:=((bG (aR f y.us) (f.size:Int) p3).b.getD 0 0).toNat) rfl rfl rfl rfl rfl rfl rfl oe (Src.r 1 rfl) oy) ?_;apply Y 0x36de;refine L.call (js:=[]) (js':=[0,1]) (zO (a.hs.getD ((bG (aR f y.us) (f.size:Int) p3).b.getD 0 0).toNat (none,0)).1 LA (av f ((((bG (aR f y.us) (f.size:Int) p3).b.getD 0 0).toNat:Nat):Int)) (bG (aR f y.us) (f.size:Int) p3).b (a.hs.getD ((bG (aR f y.us) (f.size:Int) p3).b.getD 0 0).toNat (none,0)).2 lc (by rw [show (av f ((((bG (aR f y.us) (f.size:Int) p3).b.getD 0 0).toNat:Nat):Int)).length=f.size from hrw];omega) oe hrc) rfl rfl rfl ob ⟨((Has.kid 2 rfl oH (((bG (aR f y.us) (f.size:Int) p3).b.getD 0 0).toNat) OG).cast (bB _)),(Has.r 0 rfl),trivial⟩ rfl ?_;apply Y 0x89;intro CA cc;apply Y 0x48155b0e;refine bf (js:=[]) (js':=[0,1,2]) (ep (resE (av f ((((bG (aR f y.us) (f.size:Int) p3).b.getD 0 0).toNat:Nat):Int)) (bG (aR f y.us) (f.size:Int) p3).b)) rfl rfl rfl ob trivial rfl ?_ ?_
 rotate_left;apply Y 0x98;intro h84;apply Y 0xe1e;rw [show (dP f y [p0,p1,p2,p3,p4,p5,p6,p7,p8])=(nxE (resE (av f ((((bG (aR f y.us) (f.size:Int) p3).b.getD 0 0).toNat:Nat):Int)) (bG (aR f y.us) (f.size:Int) p3).b)) from KM (s:=[p0,p1,p2,p3,p4,p5,p6,p7,p8]) hc14 hc29 h47 hc56 hc60 h84];apply Y 0xfd;exact ⟨h84,rfl,rfl⟩;apply Y 0x1a;intro h84;apply Y 0x3b32ec3ef8b0e;refine bj (js:=[0]) (js':=[1]) (vf f a hok hh y G U V gc uc vc hyn hyl hcap p0 p1 p2 p3 p4 p5 p6 p7 p8 hp k rv OA QA HA oc qc hc hpl M CA (vx (av f ((((bG (aR f y.us) (f.size:Int) p3).b.getD 0 0).toNat:Nat):Int)) (bG (aR f y.us) (f.size:Int) p3).b) cc (by have:=zP (av f ((((bG (aR f y.us) (f.size:Int) p3).b.getD 0 0).toNat:Nat):Int)) (bG (aR f y.us) (f.size:Int) p3).b;rw [show (av f ((((bG (aR f y.us) (f.size:Int) p3).b.getD 0 0).toNat:Nat):Int)).length=f.size from hrw] at this;omega) hlay) rfl rfl rfl ob hcx rfl ?_ ?_
 rotate_left;apply Y 0x98;intro hge;exact Zm 0x87efd692f;apply Y 0xa1e;intro hge GO goc;apply Y 0x33e692fa4e50edb;exact ⟨hge,GO,goc,rfl,rfl,rfl⟩
end Go.Proofs.YtbpddeiogcgegaaGreat
namespace Go.Sl
section
variable {X:Cx}{β:Base}{n:Nat}{ds:List Deferred}{ops:Array Oper}{Q:Exit→Act→World→Prop}{rest:List Oper}{Γ:Env}{R H:List Pr}
theorem yi {t kt et g:Nat}{x y:Operand}{c:Bool}{kd:IntKind}{q:Int}{m:List (Int×Value)}{i ki ei:Ti}(ht:au t X.tab=some i)(hdesc:i.desc=.map kt et)(hk:au kt X.tab=some ki)(hkd:ki.desc=.int kd)(he:TiOk X.P et ei)
    (hx:ev Γ x=some (.map (some g))) (hy:ev Γ y=some (.int kd q)) (hm:gn R H kd g m):
    Ev X β Γ R H (.lookup t x y c) (if c=true then .tuple #[(gA m q).getD ei.zero,.bool (gA m q).isSome] else (gA m q).getD ei.zero):=by
 intro ρ w hρ hs o ho;obtain ⟨e1,_⟩:=X.ok _ _ ht;rw [hdesc] at e1;obtain ⟨e2,_⟩:=X.ok _ _ hk;rw [hkd] at e2;obtain ⟨_,j,hj,_,_,h3⟩:=he;apply Y 0xb71f;intro hz;obtain ⟨es,clock,hh,hes⟩:=hm β w hs;apply Y 0xaa1f;intro hck
 rcases AY q es.toList m 0 hes with ⟨g1,g2⟩|⟨j,e,v,g1,g2,_,_⟩
 ·cases c<;>simp [execOp,ho,hρ _ _ hx,hρ _ _ hy,Instr.lookup,run_underlying e1,MapKept.run_getObj_map hh,hck,MapKept.run_findKey e2 g2,hz,g1,Result.andThen]
 cases c<;>simp [execOp,ho,hρ _ _ hx,hρ _ _ hy,Instr.lookup,run_underlying e1,MapKept.run_getObj_map hh,hck,MapKept.run_findKey e2 g2,g1,Result.andThen]
theorem FJ {t kt et ty g j:Nat}{pos:String}{af:Array Edge}{x y z:Operand}{kd:IntKind}{q:Int}{v:Value}{m:List (Int×Value)}{i ki:Ti}(ht:au t X.tab=some i)(hdesc:i.desc=.map kt et)(hk:au kt X.tab=some ki)(hkd:ki.desc=.int kd)
    (hx:ev Γ x=some (.map (some g))) (hy:ev Γ y=some (.int kd q)) (hz:ev Γ z=some v) (hj:H[j]?=some (yr kd g m))
    (k:L X β n ds ops Q rest Γ R (H.set j (yr kd g (C2 m q v)))):L X β n ds ops Q (⟨none,.insert t x y z,ty,pos,af,none⟩::rest) Γ R H:=
  fun a w hf hs=>xh (ty:=ty) (pos:=pos) (af:=af) ht hdesc hk hkd hx hy hz hj k a w hf hs
end
end Go.Sl
namespace Go.Proofs.YtbpddeiogcgegaaGreat
open Go.Sl
theorem Ku (f:Fl)(a:Fa)(ok:f.Ok)(hh:a.hs.length=f.data.length)(y:Lay)(G U V:Option Addr)(gc uc vc:Nat)(hyn: -1000000≤y.n∧y.n≤1000000)(hyl:y.gs.length≤1000∧y.us.length≤1000∧y.ls.length≤1000)(hcap:Caps f a)(p0 p1 p2 p3 p4 p5 p6 p7 p8:Int)(hp:∀ x∈[p0,p1,p2,p3,p4,p5,p6,p7,p8],0≤x∧x≤4294967295)(k:Pkg)(rv:Value)(OA QA HA:Option Addr)(oc qc hc:Nat)(hpl:k.pl.ops.length≤9223372036854775807∧k.pl.seq.length≤1000000∧k.pl.st.length≤1000000)(M:Option Addr)(h:Bool):
    dU X 73 [ag M 0,.bool h] [Rd OA (cv k.pl.ops),Rd QA (I64 k.pl.seq),Rd HA (I64 k.pl.st)] [Own 140 38 M 1 1 (mcA f a y G U V gc uc vc (.int .i64 p0::.int .i64 p1::.int .i64 p2::.int .i64 p3::.int .i64 p4::.int .i64 p5::.int .i64 p6::.int .i64 p7::.int .i64 p8::mcK k OA QA HA oc qc hc (rv::.int .i64 0::.int .i64 0::.int .i64 0::.slice none 0 0::.bool false::[])))] (b5 [{ v:=(gd (fitE f y [p0,p1,p2,p3,p4,p5,p6,p7,p8] k h)),recovered:=false }] (fun v R' H'=>(fitE f y [p0,p1,p2,p3,p4,p5,p6,p7,p8] k h)=0∧v=.tuple #[]∧R'=[]∧H'=[Own 140 38 M 1 1 (mcA f a y G U V gc uc vc (.int .i64 p0::.int .i64 p1::.int .i64 p2::.int .i64 p3::.int .i64 p4::.int .i64 p5::.int .i64 p6::.int .i64 p7::.int .i64 p8::mcK k OA QA HA oc qc hc (rv::.int .i64 0::.int .i64 0::.int .i64 0::.slice none 0 0::.bool false::[])))]) (fun R' H'=>(fitE f y [p0,p1,p2,p3,p4,p5,p6,p7,p8] k h)≠0∧R'=[]∧H'=[])):=by
 apply Y 0xc2e;intro hok;refine dU.of (X:=X) (fn:=Tryz.f73) Tryz.func73 rfl oa rfl ?_;intro β;apply Y 0x99994c48;refine sp (ab (vs:=[_,_,_,_,_,_,_,_]) rfl rfl rfl (Src.o 0 rfl) rfl rfl ob) ?_;apply Y 0x88;intro A4;apply Y 0xa9b93da0e14e453ef8eb;refine LQ.bool 13 rfl ?_ ?_<;>intro hg13
 ·apply Y 0x9ab9f3e38e8b8b;refine C.cond rfl (fun _=>?_) (fun h=>by cases h);apply Zu 0xef1f68
  rotate_left;apply Y 0x98;intro he;apply Y 0x8be;rw [show (fitE f y [p0,p1,p2,p3,p4,p5,p6,p7,p8] k h)=240 from by unfold fitE;rw [if_pos (.inl (by simpa using hg13))]];exact Zm 0xe6efd;rintro _ _ _ ⟨_,h,_⟩;exact Zm 0x77e
 apply Zu 0x5d9aa9b91886e18f2e18f2e1896e181d86e18f2e18f2e1896e181d<;>intro hc10
 ·apply Zu 0xef1f68
  rotate_left;apply Y 0x98;intro he;apply Y 0x8be;rw [show (fitE f y [p0,p1,p2,p3,p4,p5,p6,p7,p8] k h)=240 from by unfold fitE;rw [if_pos (.inr hc10)]];exact Zm 0xe6efd;rintro _ _ _ ⟨_,h,_⟩;exact Zm 0x77e
 apply Y 0x89e2;refine an (pL k.pl.sz k.pl.n k.pl.lf k.pl.inn k.pl.out k.pl.ops k.pl.seq k.pl.st OA QA HA oc qc hc hpl.1 hpl.2.1 hpl.2.2) ?_;apply Zu 0xe9133c29<;>intro hc27
 ·apply Y 0x68;refine bf (js:=[]) (js':=[0]) (ep 190) rfl rfl rfl ob trivial rfl ?_ ?_
  rotate_left;apply Y 0x98;intro he;apply Y 0x8be;rw [show (fitE f y [p0,p1,p2,p3,p4,p5,p6,p7,p8] k h)=190 from by unfold fitE;rw [if_neg (show ¬(h=false∨k.ver≠[p0,p1,p2,p3,p4,p5,p6,p7,p8].getD 7 0) by rintro (q|q);(rw [q] at hg13;cases hg13);exact q hc10),if_pos (show k.pl.ok=false by unfold Pln.ok;simpa using hc27)]];exact Zm 0xe6efd;rintro _ _ _ ⟨_,h,_⟩;exact Zm 0x77e
 apply Y 0xb986ef2ef2e96ea930e60e3d4;refine LQ.bool 41 rfl (imp tf ?_) (imp tg ?_)<;>intro hg41
 ·apply Y 0x9ab938e8b8bb98b8b;refine C.cond rfl (fun _=>?_) (fun h=>by cases h);apply Zu 0x670f68
  rotate_left;apply Y 0x98;intro he;apply Y 0x8be;rw [show (fitE f y [p0,p1,p2,p3,p4,p5,p6,p7,p8] k h)=220 from by unfold fitE;rw [if_neg (show ¬(h=false∨k.ver≠[p0,p1,p2,p3,p4,p5,p6,p7,p8].getD 7 0) by rintro (q|q);(rw [q] at hg13;cases hg13);exact q hc10),if_neg (show ¬k.pl.ok=false by rw [show k.pl.ok=true from by simpa [Pln.ok] using hc27];decide),if_pos (.inl hg41)]];exact Zm 0xe6efd;rintro _ _ _ ⟨_,h,_⟩;exact Zm 0x77e
 apply Y 0xa9b91886e18f2e18f2e1896e181d30e1860e18;refine LQ.bool 51 rfl (imp tf ?_) (imp tg ?_)<;>intro hg51
 ·apply Y 0x9ab938e8b8b;refine C.cond rfl (fun _=>?_) (fun h=>by cases h);apply Zu 0x670f68
  rotate_left;apply Y 0x98;intro he;apply Y 0x8be;rw [show (fitE f y [p0,p1,p2,p3,p4,p5,p6,p7,p8] k h)=220 from by unfold fitE;rw [if_neg (show ¬(h=false∨k.ver≠[p0,p1,p2,p3,p4,p5,p6,p7,p8].getD 7 0) by rintro (q|q);(rw [q] at hg13;cases hg13);exact q hc10),if_neg (show ¬k.pl.ok=false by rw [show k.pl.ok=true from by simpa [Pln.ok] using hc27];decide),if_pos (.inr (.inl hg51))]];exact Zm 0xe6efd;rintro _ _ _ ⟨_,h,_⟩;exact Zm 0x77e
 apply Zu 0x1c9aa9b9181d86e18f2e18f2e1896e181d1d30e1860e18<;>intro hc32
 ·apply Zu 0x670f68
  rotate_left;apply Y 0x98;intro he;apply Y 0x8be;rw [show (fitE f y [p0,p1,p2,p3,p4,p5,p6,p7,p8] k h)=220 from by unfold fitE;rw [if_neg (show ¬(h=false∨k.ver≠[p0,p1,p2,p3,p4,p5,p6,p7,p8].getD 7 0) by rintro (q|q);(rw [q] at hg13;cases hg13);exact q hc10),if_neg (show ¬k.pl.ok=false by rw [show k.pl.ok=true from by simpa [Pln.ok] using hc27];decide),if_pos (.inr (.inr hc32))]];exact Zm 0xe6efd;rintro _ _ _ ⟨_,h,_⟩;exact Zm 0x77e
 apply Y 0xa4e68ed9;refine fJ (js:=[]) (hs:=[0]) (vs:=[]) rfl trivial ob ?_;refine ⟨?_,rfl,rfl,rfl⟩
 unfold fitE;rw [if_neg (show ¬(h=false∨k.ver≠[p0,p1,p2,p3,p4,p5,p6,p7,p8].getD 7 0) by rintro (q|q);(rw [q] at hg13;cases hg13);exact q hc10),if_neg (show ¬k.pl.ok=false by rw [show k.pl.ok=true from by simpa [Pln.ok] using hc27];decide),if_neg (by rintro (q|q|q);exact q hg41;exact q hg51;exact hc32 q)]
theorem MJ:TiOk Tryz.prog 141 ⟨.func #[138] #[] false,1,8,.nilFunc⟩:=⟨by kernel_rfl,Tryz.t141,by kernel_rfl,by kernel_rfl,by kernel_rfl,by kernel_rfl⟩
def stepsM:List (Int×Value):=[(1,(.func (.func 122) #[] #[])),(2,(.func (.func 123) #[] #[])),(3,(.func (.func 124) #[] #[])),(6,(.func (.func 125) #[] #[]))]
def stV (p:Int):Value:=(gA stepsM p).getD .nilFunc
def stB (p:Int):Bool:=(gA stepsM p).isSome
def stF (p:Int):Nat:=if p=1 then 122 else if p=2 then 123 else if p=3 then 124 else 125
theorem nk {p:Int}:stB p=true↔p=1∨p=2∨p=3∨p=6:=by
 unfold stB stepsM
 by_cases h1:p=1
 ·subst h1;exact ⟨fun _=>.inl rfl,fun _=>rfl⟩
 by_cases h2:p=2
 ·subst h2;exact ⟨fun _=>.inr (.inl rfl),fun _=>rfl⟩
 by_cases h3:p=3
 ·subst h3;exact ⟨fun _=>.inr (.inr (.inl rfl)),fun _=>rfl⟩
 by_cases h4:p=6
 ·subst h4;exact ⟨fun _=>.inr (.inr (.inr rfl)),fun _=>rfl⟩
 simp [gA,Ne.symm h1,Ne.symm h2,Ne.symm h3,Ne.symm h4,h1,h2,h3,h4]
theorem Jw {p:Int}(h:stB p=true):stV p=.func (.func (stF p)) #[] #[]:=by
 rcases nk.1 h with rfl|rfl|rfl|rfl<;>rfl
set_option maxRecDepth 10000 in
theorem GZ :
    Ctr X 71 [] [] [] (fun v R' H'=>∃ g,v=.map (some g)∧R'=[]∧H'=[yr .i64 g stepsM]):=by
 refine co Tryz.func71 ?_;intro β;apply Y 0x212;refine L.makeMap .i64 rfl (fun g=>?_);apply Y 0x20ebb970f970f970f970f;exact ⟨g,rfl,rfl,rfl⟩
end Go.Proofs.YtbpddeiogcgegaaGreat
namespace Go.Sl
structure NxOk (r:Nx):Prop where
  bad:r.e≠0→r.x=fo0∧r.done=false
  fin:r.done=true→r.x=fo0
theorem NxOk.nxE (e:Int):NxOk (nxE e):=⟨fun _=>⟨rfl,rfl⟩,fun h=>by cases h⟩
theorem j7:NxOk nxD:=⟨fun h=>absurd rfl h,fun _=>rfl⟩
theorem NxOk.go (x:Fo):NxOk ⟨x,false,0⟩:=⟨fun h=>absurd rfl h,fun h=>by cases h⟩
theorem NxOk.tow (f:Fl)(sec:Int)(want:List UInt8):NxOk (aM f sec want):=by
 unfold aM
 split
 ·exact NxOk.nxE 170
 split
 ·exact j7
 split
 ·exact NxOk.nxE _
 exact NxOk.go _
theorem NxOk.prog (f:Fl)(x:Fo):NxOk (ec f x):=by
 unfold ec
 split
 ·exact NxOk.nxE 171
 exact NxOk.go x
theorem NxOk.next (f:Fl)(a b:Int)(s:List Int):NxOk (aO f a b s):=by
 unfold aO
 split
 ·exact NxOk.nxE 200
 split
 ·exact j7
 split
 ·exact NxOk.prog _ _
 split
 ·exact NxOk.prog _ _
 exact NxOk.tow _ _ _
theorem NxOk.towS (f:Fl)(us:List Int)(at_:Int)(b:List UInt8):NxOk (towS f us at_ b):=by
 unfold Sl.towS
 split
 ·exact NxOk.nxE 210
 split
 ·exact NxOk.nxE 210
 split
 ·exact j7
 split
 ·exact NxOk.nxE 171
 exact NxOk.go _
theorem NxOk.thn {f:Fl}{y:Lay}{x:Nx}{s:List Int}(h:NxOk x):NxOk (b8 f y x s):=by
 unfold b8
 split
 ·exact h
 exact Zm 0xcee
theorem NxOk.pl (f:Fl)(y:Lay)(s:List Int)(t:Int):NxOk (plF f y s t):=by
 unfold plF
 split
 ·exact NxOk.nxE 220
 exact NxOk.tow _ _ _
theorem NxOk.sg (f:Fl)(y:Lay)(s:List Int)(c:List UInt8):NxOk (sgF f y s c):=by
 unfold sgF
 split
 ·exact NxOk.nxE 220
 split
 ·exact Zm 0xcee
 exact (NxOk.tow _ _ _).thn
theorem NxOk.pre (f:Fl)(y:Lay)(s:List Int)(p:Pln):NxOk (ff f y s p):=by
 unfold ff
 split
 ·exact NxOk.nxE _
 split
 ·exact NxOk.nxE 191
 split
 ·exact Zm 0xcee
 exact (NxOk.tow _ _ _).thn
theorem NxOk.sta (f:Fl)(y:Lay)(s:List Int)(p:Pln):NxOk (gN f y s p):=by
 unfold gN
 split
 ·exact Zm 0xcee
 exact (NxOk.tow _ _ _).thn
theorem FF (f:Fl)(y:Lay)(s:List Int)(p:Pln):NxOk (dD f y s p):=by
 unfold dD
 split
 ·exact Zm 0xcee
 split
 ·exact NxOk.nxE 240
 split
 ·exact (NxOk.pl _ _ _ _).thn
 split
 ·exact NxOk.nxE _
 split
 ·exact NxOk.sg _ _ _ _
 exact (NxOk.towS _ _ _ _).thn
theorem FG (f:Fl)(y:Lay)(s:List Int):NxOk (dP f y s):=by
 unfold dP
 split
 ·exact Zm 0xcee
 split
 ·exact NxOk.nxE 240
 split
 ·exact NxOk.nxE _
 split
 ·exact NxOk.nxE 210
 split
 ·exact (NxOk.pl _ _ _ _).thn
 split
 ·exact NxOk.nxE _
 exact NxOk.sg _ _ _ _
theorem Bj (f:Fl)(y:Lay)(k:Pkg)(h:Bool):NxOk (aU f y k h):=by
 unfold aU
 split
 ·exact NxOk.nxE 220
 split
 ·exact NxOk.nxE _
 split
 ·exact j7
 split
 ·exact FG _ _ _
 split
 ·exact NxOk.nxE 240
 split
 ·exact NxOk.nxE _
 split
 ·exact NxOk.pre _ _ _ _
 split
 ·exact NxOk.sta _ _ _ _
 exact FF _ _ _ _
theorem NxOk.bad_eq {r:Nx}(h:NxOk r)(e:r.e≠0):r=Sl.nxE r.e:=by
 obtain ⟨h1,h2⟩:=h.bad e
 cases r
 cases h1
 cases h2
 rfl
end Go.Sl
