/-
  Part of a proof.
-/
import Derived.Test.YtbpddeiogcgegaaGreatVWInD
set_option maxHeartbeats 0
set_option maxRecDepth 4000
set_option linter.all false
namespace Go.Proofs.YtbpddeiogcgegaaGreat
open Go.Sl
section
variable {f:Fl}{y:Lay}{p:Pln}{s:List Int}{c:List UInt8}{t:Int}
theorem EF (h:sSt s≥(p.st.length:Int)):eI f y s p=cg f y nxD ((s.set 0 3).set 1 0):=by
 unfold eI;rw [if_pos h];exact Zm 0xe50f
theorem tA (h:¬sSt s≥(p.st.length:Int)):eI f y s p=cg f y (aS f (y.ls.getD (sSt s).toNat 0) (aX f (p.st.getD (sSt s).toNat 0))) (s.set 1 (sSt s+1)):=if_neg h
theorem Ip (h:sSg s≥(y.gs.length:Int)):sgF f y s c=nxE 220:=if_pos h
theorem B9 (h:¬sSg s≥(y.gs.length:Int))(h2:(aS f (y.gs.getD (sSg s).toNat 0) c).e=171∨(aS f (y.gs.getD (sSg s).toNat 0) c).e=172)(h3:sSg s+1<(y.gs.length:Int)):sgF f y s c=cg f y nxD (s.set 6 (sSg s+1)):=by
 unfold sgF;rw [if_neg h,if_pos ⟨h2,h3⟩];exact Zm 0xe50f
theorem nH (h:¬sSg s≥(y.gs.length:Int))(h2:¬(((aS f (y.gs.getD (sSg s).toNat 0) c).e=171∨(aS f (y.gs.getD (sSg s).toNat 0) c).e=172)∧sSg s+1<(y.gs.length:Int))):sgF f y s c=cg f y (aS f (y.gs.getD (sSg s).toNat 0) c) (s.set 2 (sSb s+1)):=by
 unfold sgF;rw [if_neg h,if_neg h2]
theorem IL (h:sSg s≥(y.gs.length:Int)):plF f y s t=nxE 220:=if_pos h
theorem IK (h:¬sSg s≥(y.gs.length:Int)):plF f y s t=aS f t (aX f (y.gs.getD (sSg s).toNat 0)):=if_neg h
theorem Nh {N:Int}(h1:1≤y.n)(h:∀ x∈y.rest,y.n≤x∧x<N){i:Nat}(hi:i<y.gs.length):0≤y.gs.getD i 0∧y.gs.getD i 0<N:=by
 have:=h (y.gs.getD i 0) (by
  have:=jX hi
  unfold Lay.rest;rw [List.mem_append,List.mem_append,List.mem_append]
  exact .inl (.inl (.inr this)))
 exact Zm 0x18
end
theorem xC (f:Fl)(a:Fa)(ok:f.Ok)(hh:a.hs.length=f.data.length)(y:Lay)(G U V:Option Addr)(gc uc vc:Nat)(hyn: -1000000≤y.n∧y.n≤1000000)(hyl:y.gs.length≤1000∧y.us.length≤1000∧y.ls.length≤1000)(hcap:Caps f a)(p0 p1 p2 p3 p4 p5 p6 p7 p8:Int)(hp:∀ x∈[p0,p1,p2,p3,p4,p5,p6,p7,p8],0≤x∧x≤4294967295)(p:Pln)(OA QA HA:Option Addr)(oc qc hc:Nat)(hpl:p.ops.length≤9223372036854775807∧p.seq.length≤1000000∧p.st.length≤1000000)(hfit:PlnFit f y p)(hlay:eJ f y=true):
    Ctr X 48 [flV f a,.agg (List.toArray (cP y G U V gc uc vc)),.agg (List.toArray [.int .i64 p0,.int .i64 p1,.int .i64 p2,.int .i64 p3,.int .i64 p4,.int .i64 p5,.int .i64 p6,.int .i64 p7,.int .i64 p8]),.agg (List.toArray [.int .i64 p.sz,.int .i64 p.n,.bool p.lf,.int .i64 p.inn,.int .i64 p.out,.slice OA p.ops.length oc,.slice QA p.seq.length qc,.slice HA p.st.length hc])] (flR f a++[Rd G (I64 y.gs),Rd U (I64 y.us),Rd V (I64 y.ls),Rd OA (bZ p.ops),Rd QA (I64 p.seq),Rd HA (I64 p.st)]) [] (fun v R' H'=>∃ (O:Option Addr) (oc:Nat),v=.agg (List.toArray [.int .i64 (eI f y [p0,p1,p2,p3,p4,p5,p6,p7,p8] p).x.kind,.int .i64 (eI f y [p0,p1,p2,p3,p4,p5,p6,p7,p8] p).x.sec,.int .i64 (eI f y [p0,p1,p2,p3,p4,p5,p6,p7,p8] p).x.at_,.slice O (eI f y [p0,p1,p2,p3,p4,p5,p6,p7,p8] p).x.data.length oc,.bool (eI f y [p0,p1,p2,p3,p4,p5,p6,p7,p8] p).done,.int .i64 (eI f y [p0,p1,p2,p3,p4,p5,p6,p7,p8] p).e])∧R'=[Rd O (U8 (eI f y [p0,p1,p2,p3,p4,p5,p6,p7,p8] p).x.data)]∧H'=[]):=by
 apply Y 0xe1e;intro hok;obtain ⟨os1,os2,on1,on2,owl,odl,orows,ol1,ol2,owear⟩:=ok;obtain ⟨_,hl38,hl1,hl2,hl3,hl4,hl5,hl6⟩:=cJ.1 hlay;apply Y 0x97e;intro hp0;apply Y 0xa7e;intro hp1;apply Y 0xb7e;intro hp2;apply Y 0xc7e;intro hp3;apply Y 0xd7e;intro hp4;apply Y 0xe7e;intro hp5;apply Y 0xf7e;intro hp6;apply Y 0x18e;intro hp7;apply Y 0x28e;intro hp8;have hst:=hfit.st;refine co Tryz.func48 ?_;intro β;apply Y 0x4a;intro A4;apply Y 0x2b;intro A5;apply Y 0x2b;intro A6;apply Y 0x2b;intro A7;apply Y 0x98;intro A8;apply Y 0x98704f68ebdb90eb1ea4e35ebde210f7b;intro A9;apply Zu 0xe9f81b58886b<;>intro hc16
 ·apply Y 0xff0fef0f5d0feb92e7bbb788bb7;refine mq 3 rfl (aa (vs:=[.int .i64 3,.int .i64 0,.int .i64 p2,.int .i64 p3,.int .i64 p4,.int .i64 p5,.int .i64 p6,.int .i64 p7,.int .i64 p8]) rfl rfl rfl (Src.r 0 rfl) rfl rfl ob) ?_;apply Y 0xeae693aa8cdeb9e;refine ba (js:=[]) (js':=[0]) (eU f a hok hh y G U V gc uc vc hyn hyl hcap nxD none 0 [3,0,p2,p3,p4,p5,p6,p7,p8] rfl) rfl rfl rfl ob ⟨(Has.r 5 rfl),(Has.r 6 rfl),(Has.r 7 rfl),(Has.r 8 rfl),Has.nil,trivial⟩ rfl ?_;apply Y 0x19;intro TO tc;apply Zu 0x75ebc596acc5bfbe33a
  ·exact Zm 0x2c64f
  exact Zm 0x2c64f
 apply Y 0x782f;intro hq;have hrw:=orows (p.st.getD p1.toNat 0).toNat oe;apply Y 0xc93fff0fef0f5d0feb92e7bbbcada3c;refine mq 3 rfl (faR 3) ?_;refine mq 4 rfl (ldR 3) ?_;refine mq 5 rfl (faR 2) ?_;refine mq 6 rfl (ldR 2) ?_;apply Y 0xca3faa3f;refine mq 9 rfl (faR 4) ?_;refine mq 10 rfl (ldR 4) ?_;apply Y 0xeb1fdb1f;refine mq 13 rfl (faR 2) ?_;refine mq 14 rfl (ldR 2) ?_;refine mq 15 rfl (ae (k:=p1.toNat) rfl rfl rfl rfl rfl rfl oe oe (Src.r 14 rfl) ox) ?_;refine mq 16 rfl (Ev.load rfl rfl rfl (Src.r 14 rfl) (aH oe)) ?_;refine mq 17 rfl (ae (k:=(p.st.getD p1.toNat 0).toNat) rfl rfl rfl rfl rfl rfl oe oe (Src.r 5 rfl) ow) ?_;refine mq 18 rfl (Ev.load rfl rfl rfl (Src.r 5 rfl) (aK hh oe)) ?_;refine mq 20 rfl (aa (vs:=[.int .i64 p0,.int .i64 (p1+1),.int .i64 p2,.int .i64 p3,.int .i64 p4,.int .i64 p5,.int .i64 p6,.int .i64 p7,.int .i64 p8]) rfl rfl rfl (Src.r 0 rfl) rfl rfl ob) ?_;apply Y 0xf30f;refine ba (js:=[]) (js':=[0]) (fv f a hok hh (y.ls.getD p1.toNat 0) (aX f (p.st.getD p1.toNat 0)) (a.hs.getD (p.st.getD p1.toNat 0).toNat (none,0)).1 (f.data.getD (p.st.getD p1.toNat 0).toNat []).length (a.hs.getD (p.st.getD p1.toNat 0).toNat (none,0)).2 rfl obW) rfl rfl rfl ob ⟨(Has.r 5 rfl),(Has.r 6 rfl),(Has.r 7 rfl),(Has.r 8 rfl),((Has.kid 6 rfl oC ((p.st.getD p1.toNat 0).toNat) oZ).cast (aW _)),trivial⟩ rfl ?_;apply Y 0x19;intro XA xc;apply Y 0x591f693a;refine aJ (eU f a hok hh y G U V gc uc vc hyn hyl hcap (aS f (y.ls.getD p1.toNat 0) (aX f (p.st.getD p1.toNat 0))) XA xc [p0,(p1+1),p2,p3,p4,p5,p6,p7,p8] rfl) ?_;apply Y 0x19;intro TO tc;apply Y 0x33a;refine LM.f 22 rfl oa trivial ?_;apply Zu 0x75ebcd86acc5b
 ·exact Zm 0x2d64f
 exact Zm 0x2d64f
theorem nC (f:Fl)(a:Fa)(ok:f.Ok)(hh:a.hs.length=f.data.length)(y:Lay)(G U V:Option Addr)(gc uc vc:Nat)(hyn: -1000000≤y.n∧y.n≤1000000)(hyl:y.gs.length≤1000∧y.us.length≤1000∧y.ls.length≤1000)(hcap:Caps f a)(p0 p1 p2 p3 p4 p5 p6 p7 p8:Int)(hp:∀ x∈[p0,p1,p2,p3,p4,p5,p6,p7,p8],0≤x∧x≤4294967295)(CA:Option Addr)(c:List UInt8)(cc:Nat)(hcl:c.length≤1000000)(hlay:eJ f y=true):
    Ctr X 93 [flV f a,.agg (List.toArray (cP y G U V gc uc vc)),.agg (List.toArray [.int .i64 p0,.int .i64 p1,.int .i64 p2,.int .i64 p3,.int .i64 p4,.int .i64 p5,.int .i64 p6,.int .i64 p7,.int .i64 p8]),.slice CA c.length cc] (flR f a++[Rd G (I64 y.gs),Rd U (I64 y.us),Rd V (I64 y.ls),Rd CA (U8 c)]) [] (fun v R' H'=>∃ (O:Option Addr) (oc:Nat),v=.agg (List.toArray [.int .i64 (sgF f y [p0,p1,p2,p3,p4,p5,p6,p7,p8] c).x.kind,.int .i64 (sgF f y [p0,p1,p2,p3,p4,p5,p6,p7,p8] c).x.sec,.int .i64 (sgF f y [p0,p1,p2,p3,p4,p5,p6,p7,p8] c).x.at_,.slice O (sgF f y [p0,p1,p2,p3,p4,p5,p6,p7,p8] c).x.data.length oc,.bool (sgF f y [p0,p1,p2,p3,p4,p5,p6,p7,p8] c).done,.int .i64 (sgF f y [p0,p1,p2,p3,p4,p5,p6,p7,p8] c).e])∧R'=[Rd O (U8 (sgF f y [p0,p1,p2,p3,p4,p5,p6,p7,p8] c).x.data)]∧H'=[]):=by
 apply Y 0xe1e;intro hok;obtain ⟨os1,os2,on1,on2,owl,odl,orows,ol1,ol2,owear⟩:=ok;obtain ⟨_,hl38,hl1,hl2,hl3,hl4,hl5,hl6⟩:=cJ.1 hlay;apply Y 0x97e;intro hp0;apply Y 0xa7e;intro hp1;apply Y 0xb7e;intro hp2;apply Y 0xc7e;intro hp3;apply Y 0xd7e;intro hp4;apply Y 0xe7e;intro hp5;apply Y 0xf7e;intro hp6;apply Y 0x18e;intro hp7;apply Y 0x28e;intro hp8;refine co Tryz.func93 ?_;intro β;apply Y 0x4a;intro A4;apply Y 0x2b;intro A5;apply Y 0x2b;intro A6;apply Y 0x98;intro A8;apply Zu 0xe91bf868ebdb90eb1ea4e35e57b<;>intro hc16
 ·apply Zu 0x10ebce0e9bcb
  ·exact Zm 0x2254f
  exact Zm 0x2254f
 apply Y 0x983ee3c;intro A9;apply Y 0x7b6b;refine C.join (fun q:Option Addr×Option Addr×Nat=>[(4,ag A4 0),(5,ag A5 0),(6,ag A6 0),(8,ag A8 0),(9,ag A9 0),(10,ag q.1 0)]) (fun q:Option Addr×Option Addr×Nat=>[Rd q.2.1 (U8 (aS f (y.gs.getD p6.toNat 0) c).x.data),Rd A6 [.int .i64 p0,.int .i64 p1,.int .i64 p2,.int .i64 p3,.int .i64 p4,.int .i64 p5,.int .i64 p6,.int .i64 p7,.int .i64 p8],Rd A5 (cP y G U V gc uc vc),Rd A4 (flL f a),Rd a.D (ay a.hs (B8 f.data)),KidsR a.hs (B8 f.data),Rd a.W (I64 f.wear),Rd a.E (Bs f.dead),Rd G (I64 y.gs),Rd U (I64 y.us),Rd V (I64 y.ls),Rd CA (U8 c)]) (fun q:Option Addr×Option Addr×Nat=>[Own 62 6 A8 1 1 [.int .i64 0,.int .i64 0,.int .i64 0,.slice none 0 0,.bool false,.int .i64 0],Own 73 9 A9 1 1 [.int .i64 p0,.int .i64 p1,.int .i64 p2,.int .i64 p3,.int .i64 p4,.int .i64 p5,.int .i64 p6,.int .i64 p7,.int .i64 p8],Own 62 6 q.1 1 1 [.int .i64 (aS f (y.gs.getD p6.toNat 0) c).x.kind,.int .i64 (aS f (y.gs.getD p6.toNat 0) c).x.sec,.int .i64 (aS f (y.gs.getD p6.toNat 0) c).x.at_,.slice q.2.1 (aS f (y.gs.getD p6.toNat 0) c).x.data.length q.2.2,.bool (aS f (y.gs.getD p6.toNat 0) c).done,.int .i64 (aS f (y.gs.getD p6.toNat 0) c).e]]) (fun q:Option Addr×Option Addr×Nat=>True) ?_ ?_
 ·refine av [_,_,_,_,_,_,_,_,_,_,_] (Hq [0,1,2,3,4,5,6,7,8,9,10] rfl) ?_;apply Y 0x240ffde6ce4be8b1f;refine mq 5 rfl (ae (k:=p6.toNat) rfl rfl rfl rfl rfl rfl oe oe (Src.r 7 rfl) ox) ?_;refine mq 6 rfl (Ev.load rfl rfl rfl (Src.r 7 rfl) (aH oe)) ?_;apply Y 0x380f;refine LM.alt [8,9] oa ob hcx ⟨⟨_,rfl,?_⟩,⟨_,rfl,?_⟩,trivial⟩
  ·apply Y 0x19693f;intro XA xc;apply Y 0x98f6e3ab;intro A10;exact Zm 0x2d2fcc32ec6e69
  apply Y 0x98;intro A10;apply Y 0x19693f54e3;intro XA xc;exact Zm 0x2d2fcc32ec6e6930e
 rintro ⟨A10,XA,xc⟩ _;apply Y 0x48f86890eade556a84e;refine L.bool 31 rfl (imp fA ?_) (imp fz ?_)<;>intro hg31
 ·apply Zu 0xe9b9bce41ae4ca465e493e4489a<;>intro hc44
  ·apply Y 0x19c13feae693aa8cdeb9e2a3f970f870f6d0feb92e7bbbcada7;intro TO tc;apply Zu 0x75ebc596acc5bfbe33a
   ·exact Zm 0x2354f
   exact Zm 0x2354f
  apply Y 0x196b1f940fa40fb11fa11f68eb92e7bbbcada3c;intro TO tc;apply Zu 0x75ebcd89b3a
  ·exact Zm 0x2a21f
  exact Zm 0x2a21f
 apply Y 0xb841c;refine L.bool 36 rfl (imp fA ?_) (imp fz ?_)<;>intro hg36
 ·apply Zu 0xe9b9bce41ae4ca465e493e4<;>intro hc44
  ·apply Y 0x19c13feae693aa8cdeb9e2a3f970f870f6d0feb92e7bbbcada7;intro TO tc;apply Zu 0x75ebc596acc5bfbe33a
   ·exact Zm 0x2454f
   exact Zm 0x2454f
  apply Y 0x196b1f940fa40fb11fa11f68eb92e7bbbcada3c;intro TO tc;apply Zu 0x75ebcd89b3a
  ·exact Zm 0x2a21f
  exact Zm 0x2a21f
 apply Y 0x19a39;refine C.cond rfl (fun h=>by cases h) (fun _=>?_);apply Y 0x196b1f940fa40fb11fa11f68eb92e7bbbcada3c;intro TO tc;apply Zu 0x75ebcd89b3a
 ·exact Zm 0x2554f
 exact Zm 0x2554f
theorem n7 (f:Fl)(a:Fa)(ok:f.Ok)(hh:a.hs.length=f.data.length)(y:Lay)(G U V:Option Addr)(gc uc vc:Nat)(hyn: -1000000≤y.n∧y.n≤1000000)(hyl:y.gs.length≤1000∧y.us.length≤1000∧y.ls.length≤1000)(hcap:Caps f a)(p0 p1 p2 p3 p4 p5 p6 p7 p8:Int)(hp:∀ x∈[p0,p1,p2,p3,p4,p5,p6,p7,p8],0≤x∧x≤4294967295)(t:Int)(hlay:eJ f y=true):
    Ctr X 91 [flV f a,.agg (List.toArray (cP y G U V gc uc vc)),.agg (List.toArray [.int .i64 p0,.int .i64 p1,.int .i64 p2,.int .i64 p3,.int .i64 p4,.int .i64 p5,.int .i64 p6,.int .i64 p7,.int .i64 p8]),.int .i64 t] (flR f a++[Rd G (I64 y.gs),Rd U (I64 y.us),Rd V (I64 y.ls)]) [] (fun v R' H'=>∃ (O:Option Addr) (oc:Nat),v=.agg (List.toArray [.int .i64 (plF f y [p0,p1,p2,p3,p4,p5,p6,p7,p8] t).x.kind,.int .i64 (plF f y [p0,p1,p2,p3,p4,p5,p6,p7,p8] t).x.sec,.int .i64 (plF f y [p0,p1,p2,p3,p4,p5,p6,p7,p8] t).x.at_,.slice O (plF f y [p0,p1,p2,p3,p4,p5,p6,p7,p8] t).x.data.length oc,.bool (plF f y [p0,p1,p2,p3,p4,p5,p6,p7,p8] t).done,.int .i64 (plF f y [p0,p1,p2,p3,p4,p5,p6,p7,p8] t).e])∧R'=[Rd O (U8 (plF f y [p0,p1,p2,p3,p4,p5,p6,p7,p8] t).x.data)]∧H'=[]):=by
 apply Y 0xe1e;intro hok;obtain ⟨os1,os2,on1,on2,owl,odl,orows,ol1,ol2,owear⟩:=ok;obtain ⟨_,hl38,hl1,hl2,hl3,hl4,hl5,hl6⟩:=cJ.1 hlay;apply Y 0x97e;intro hp0;apply Y 0xa7e;intro hp1;apply Y 0xb7e;intro hp2;apply Y 0xc7e;intro hp3;apply Y 0xd7e;intro hp4;apply Y 0xe7e;intro hp5;apply Y 0xf7e;intro hp6;apply Y 0x18e;intro hp7;apply Y 0x28e;intro hp8;refine co Tryz.func91 ?_;intro β;apply Y 0x4a;intro A4;apply Y 0x2b;intro A5;apply Y 0x2b;intro A6;apply Y 0x98;intro A8;apply Zu 0xe91bf868ebdb90eb1ea4e35e57b<;>intro hc14
 ·apply Zu 0x10ebce0e9bcb
  ·exact Zm 0x2a44f
  exact Zm 0x2a44f
 apply Y 0x3b0f;intro hgi;apply Y 0x6b0f;intro hrw;apply Y 0x3be8b1fb00f9d;refine mq 2 rfl (faR 2) ?_;refine mq 3 rfl (ldR 2) ?_;refine mq 4 rfl (faR 1) ?_;refine mq 5 rfl (ldR 1) ?_;apply Y 0x54e3c4e34e3c0e45e;refine sp (ae (k:=p6.toNat) rfl rfl rfl rfl rfl rfl oe oe (Src.r 7 rfl) ox) ?_;apply Y 0xf6e3;refine sp (Ev.load rfl rfl rfl (Src.r 7 rfl) (aH oe)) ?_;apply Y 0x57e3;refine sp (ae (k:=(y.gs.getD p6.toNat 0).toNat) rfl rfl rfl rfl rfl rfl oe oe (Src.r 3 rfl) ow) ?_;apply Y 0xb4e3;refine sp (Ev.load rfl rfl rfl (Src.r 3 rfl) (aK hh oe)) ?_;apply Y 0x48e69;refine ba (js:=[]) (js':=[0]) (fv f a hok hh t (aX f (y.gs.getD p6.toNat 0)) (a.hs.getD (y.gs.getD p6.toNat 0).toNat (none,0)).1 (f.data.getD (y.gs.getD p6.toNat 0).toNat []).length (a.hs.getD (y.gs.getD p6.toNat 0).toNat (none,0)).2 rfl obW) rfl rfl rfl ob ⟨(Has.r 3 rfl),(Has.r 4 rfl),(Has.r 5 rfl),(Has.r 6 rfl),((Has.kid 4 rfl oC ((y.gs.getD p6.toNat 0).toNat) oZ).cast (aW _)),trivial⟩ rfl ?_;apply Y 0x19;intro XA xc;apply Zu 0xf11fbcd86acc5bc8e33a
 ·exact Zm 0x2c44f
 exact Zm 0x2c44f
theorem zE {f:Fl}{y:Lay}(h:eJ f y=true):UOk f y.us:=by
 obtain ⟨ok,_,h1,_,_,_,h5,h6⟩:=cJ.1 h;have hin:∀ x∈y.us,x∈y.rest:=fun x hx=>by
  unfold Lay.rest;rw [List.mem_append,List.mem_append]
  exact .inl (.inr hx)
 have hnd:y.us.Nodup:=by
  unfold Lay.rest at h6
  exact (List.nodup_append.1 (List.nodup_append.1 h6).1).2.1
 refine ⟨?_,fun s hs=>?_⟩
 ·have hsub:y.us ⊆ (List.range f.data.length).map Int.ofNat:=fun x hx=>by
   have:=h5 x (hin x hx)
   exact List.mem_map.2 ⟨x.toNat,List.mem_range.2 oe,by show ((x.toNat:Nat):Int)=x;omega⟩
  have:=hnd.length_le_of_subset hsub;rw [List.length_map,List.length_range] at this
  exact Nat.le_trans this ok.n2
 have:=h5 _ (hin _ (jX hs));exact Zm 0x18
theorem pa {A:List UInt8}{z e:Int}(h:(aY A z e).e=0):5≤(aY A z e).b.length∧(aY A z e).b.length≤65535:=by
 by_cases hB:cn A z e
 ·rw [pb hB] at h
  cases h
 rw [uM hB];have hb:=kx (A.drop (e.toNat-2))
 unfold cn at hB;have h1:e.toNat≤A.length:=oe;have hl:=pd (A:=A) (e:=e.toNat) h1 oe
 show 5≤(dy A e.toNat).length∧(dy A e.toNat).length≤65535
 cases hp:aU (dy A e.toNat) z with
 |none=>exact absurd (.inr (.inr (.inr hp))) hB
 |some ps=>
  have:=(di hp).1;exact Zm 0x18
theorem rK (b rec:List UInt8):(rL b rec).length≤b.length:=by
 by_cases h:c8 b rec
 ·rw [lY h];exact Zm 0x43e
 cases hp:aU rec (b.length:Int) with
 |none=>exact absurd (.inl hp) h
 |some ps=>
  unfold c8 at h;rw [lX hp oe oe];have:=fE hp ps.length (Nat.le_refl _);rw [List.take_length] at this
  exact Nat.le_of_eq this
section
variable {f:Fl}{y:Lay}{p:Pln}{s:List Int}
theorem EA (h:sSt s≥(p.seq.length:Int)):dw f y s p=cg f y nxD ((s.set 0 4).set 1 0):=by
 apply Y 0x9ee;rw [if_pos h];exact Zm 0xe50f
theorem Ez (h:¬sSt s≥(p.seq.length:Int))(h2:sSb s>2):dw f y s p=nxE 240:=by
 apply Y 0x9ee;rw [if_neg h,if_pos h2]
theorem te (h:¬sSt s≥(p.seq.length:Int))(h2:¬sSb s>2)(h3:sSb s=2):dw f y s p=cg f y (plF f y s (p.seq.getD (sSt s).toNat 0)) ((s.set 1 (sSt s+1)).set 2 0):=by
 exact Zm 0x131f9ee
theorem Ey (h:¬sSt s≥(p.seq.length:Int))(h2:¬sSb s>2)(h3:¬sSb s=2)(h4:p.cntE f y (sSt s)≠0):dw f y s p=nxE (p.cntE f y (sSt s)):=by
 apply Y 0x9ee;rw [if_neg h,if_neg h2,if_neg h3,if_pos h4]
theorem Ex (h:¬sSt s≥(p.seq.length:Int))(h2:¬sSb s>2)(h3:¬sSb s=2)(h4:p.cntE f y (sSt s)=0)(h5:sSb s=1):dw f y s p=sgF f y s (p.cntV f y (sSt s)):=by
 apply Y 0x9ee;rw [if_neg h,if_neg h2,if_neg h3,if_neg (fun q=>q h4),if_pos h5]
theorem td (h:¬sSt s≥(p.seq.length:Int))(h2:¬sSb s>2)(h3:¬sSb s=2)(h4:p.cntE f y (sSt s)=0)(h5:¬sSb s=1):dw f y s p=cg f y (towS f y.us (sUn s) (gT (p.seq.getD (sSt s).toNat 0) (aX f (p.seq.getD (sSt s).toNat 0)) (p.cntV f y (sSt s)))) ((s.set 2 1).set 3 (sUn s+((gT (p.seq.getD (sSt s).toNat 0) (aX f (p.seq.getD (sSt s).toNat 0)) (p.cntV f y (sSt s))).length:Int))):=by
 apply Y 0x9ee;rw [if_neg h,if_neg h2,if_neg h3,if_neg (fun q=>q h4),if_neg h5]
theorem Fv (h:sUn s=0):dz f y s=cg f y nxD (PS s):=by
 apply Y 0x2de;rw [if_pos h];exact Zm 0xe50f
theorem Fu (h:¬sUn s=0)(h2:sSb s>1):dz f y s=nxE 240:=by
 apply Y 0x2de;rw [if_neg h,if_pos h2]
theorem Ft (h:¬sUn s=0)(h2:¬sSb s>1)(h3:(nk f y s).e≠0):dz f y s=nxE (nk f y s).e:=by
 exact Zm 0x131f2de
theorem Fs (h:¬sUn s=0)(h2:¬sSb s>1)(h3:(nk f y s).e=0)(h4:uK f y s≥y.n):dz f y s=nxE 210:=by
 apply Y 0x2de;rw [if_neg h,if_neg h2,if_neg (fun q=>q h3),if_pos h4]
theorem vt (h:¬sUn s=0)(h2:¬sSb s>1)(h3:(nk f y s).e=0)(h4:¬uK f y s≥y.n)(h5:sSb s=1):dz f y s=cg f y (plF f y s (uK f y s)) ((s.set 2 0).set 3 (nk f y s).at_):=by
 apply Y 0x2de;rw [if_neg h,if_neg h2,if_neg (fun q=>q h3),if_neg h4,if_pos h5]
theorem Fq (h:¬sUn s=0)(h2:¬sSb s>1)(h3:(nk f y s).e=0)(h4:¬uK f y s≥y.n)(h5:¬sSb s=1)(h6:wV (aX f (uK f y s)) (nk f y s).b≠0):dz f y s=nxE (wV (aX f (uK f y s)) (nk f y s).b):=by
 apply Y 0x2de;rw [if_neg h,if_neg h2,if_neg (fun q=>q h3),if_neg h4,if_neg h5,if_pos h6]
theorem Fp (h:¬sUn s=0)(h2:¬sSb s>1)(h3:(nk f y s).e=0)(h4:¬uK f y s≥y.n)(h5:¬sSb s=1)(h6:wV (aX f (uK f y s)) (nk f y s).b=0):dz f y s=sgF f y s (rL (aX f (uK f y s)) (nk f y s).b):=by
 apply Y 0x2de;rw [if_neg h,if_neg h2,if_neg (fun q=>q h3),if_neg h4,if_neg h5,if_neg (fun q=>q h6)]
end
theorem w8 (f:Fl)(a:Fa)(ok:f.Ok)(hh:a.hs.length=f.data.length)(y:Lay)(G U V:Option Addr)(gc uc vc:Nat)(hyn: -1000000≤y.n∧y.n≤1000000)(hyl:y.gs.length≤1000∧y.us.length≤1000∧y.ls.length≤1000)(hcap:Caps f a)(p0 p1 p2 p3 p4 p5 p6 p7 p8:Int)(hp:∀ x∈[p0,p1,p2,p3,p4,p5,p6,p7,p8],0≤x∧x≤4294967295)(p:Pln)(OA QA HA:Option Addr)(oc qc hc:Nat)(hpl:p.ops.length≤9223372036854775807∧p.seq.length≤1000000∧p.st.length≤1000000)(hfit:PlnFit f y p)(hlay:eJ f y=true):
    Ctr X 49 [flV f a,.agg (List.toArray (cP y G U V gc uc vc)),.agg (List.toArray [.int .i64 p0,.int .i64 p1,.int .i64 p2,.int .i64 p3,.int .i64 p4,.int .i64 p5,.int .i64 p6,.int .i64 p7,.int .i64 p8]),.agg (List.toArray [.int .i64 p.sz,.int .i64 p.n,.bool p.lf,.int .i64 p.inn,.int .i64 p.out,.slice OA p.ops.length oc,.slice QA p.seq.length qc,.slice HA p.st.length hc])] (flR f a++[Rd G (I64 y.gs),Rd U (I64 y.us),Rd V (I64 y.ls),Rd OA (bZ p.ops),Rd QA (I64 p.seq),Rd HA (I64 p.st)]) [] (fun v R' H'=>∃ (O:Option Addr) (oc:Nat),v=.agg (List.toArray [.int .i64 (dw f y [p0,p1,p2,p3,p4,p5,p6,p7,p8] p).x.kind,.int .i64 (dw f y [p0,p1,p2,p3,p4,p5,p6,p7,p8] p).x.sec,.int .i64 (dw f y [p0,p1,p2,p3,p4,p5,p6,p7,p8] p).x.at_,.slice O (dw f y [p0,p1,p2,p3,p4,p5,p6,p7,p8] p).x.data.length oc,.bool (dw f y [p0,p1,p2,p3,p4,p5,p6,p7,p8] p).done,.int .i64 (dw f y [p0,p1,p2,p3,p4,p5,p6,p7,p8] p).e])∧R'=[Rd O (U8 (dw f y [p0,p1,p2,p3,p4,p5,p6,p7,p8] p).x.data)]∧H'=[]):=by
 apply Y 0xe1e;intro hok0;apply Y 0xe1e;intro hok;obtain ⟨os1,os2,on1,on2,owl,odl,orows,ol1,ol2,owear⟩:=ok;obtain ⟨_,hl38,hl1,hl2,hl3,hl4,hl5,hl6⟩:=cJ.1 hlay;apply Y 0x97e;intro hp0;apply Y 0xa7e;intro hp1;apply Y 0xb7e;intro hp2;apply Y 0xc7e;intro hp3;apply Y 0xd7e;intro hp4;apply Y 0xe7e;intro hp5;apply Y 0xf7e;intro hp6;apply Y 0x18e;intro hp7;apply Y 0x28e;intro hp8;apply Y 0x4b0f;intro hu;refine co Tryz.func49 ?_;intro β;apply Y 0x4a;intro A4;apply Y 0x2b;intro A5;apply Y 0x2b;intro A6;apply Y 0x2b;intro A7;apply Y 0x98;intro A8;apply Y 0x98704f68ebdb90eb1ea4e35ebde210f7b;intro A9;apply Zu 0xe9f81b58886b<;>intro hc21
 ·apply Y 0xff0fef0f5d0feb92e7bbb788bb7;refine mq 3 rfl (aa (vs:=[.int .i64 4,.int .i64 0,.int .i64 p2,.int .i64 p3,.int .i64 p4,.int .i64 p5,.int .i64 p6,.int .i64 p7,.int .i64 p8]) rfl rfl rfl (Src.r 0 rfl) rfl rfl ob) ?_;apply Y 0xeae693aa8cdeb9e;refine ba (js:=[]) (js':=[0]) (eU f a hok hh y G U V gc uc vc hyn hyl hcap nxD none 0 [4,0,p2,p3,p4,p5,p6,p7,p8] rfl) rfl rfl rfl ob ⟨(Has.r 5 rfl),(Has.r 6 rfl),(Has.r 7 rfl),(Has.r 8 rfl),Has.nil,trivial⟩ rfl ?_;apply Y 0x19;intro TO tc;apply Zu 0x75ebc596acc5bfbe33a
  ·exact Zm 0x2e64f
  exact Zm 0x2e64f
 apply Zu 0x7911b5899<;>intro hc31
 ·apply Zu 0x10ebce0e9bcb
  ·exact Zm 0x2f64f
  exact Zm 0x2f64f
 apply Y 0x682f;intro hq;have hrw:=orows (p.seq.getD p1.toNat 0).toNat oe;have hcp:=hcap (p.seq.getD p1.toNat 0).toNat oe;apply Y 0x1bf83c;refine sp (ae (k:=p1.toNat) rfl rfl rfl rfl rfl rfl oe oe (Src.r 12 rfl) ox) ?_;refine sp (Ev.load rfl rfl rfl (Src.r 12 rfl) (aH oe)) ?_;apply Zu 0xec11b581<;>intro hc41
 ·apply Y 0xc93fff0fef0f5d0feb92e7bbb788bbcada7;refine mq 3 rfl (aa (vs:=(cP y G U V gc uc vc)) rfl rfl rfl (Src.r 3 rfl) rfl rfl ob) ?_;refine mq 4 rfl (aa (vs:=[.int .i64 p0,.int .i64 p1,.int .i64 p2,.int .i64 p3,.int .i64 p4,.int .i64 p5,.int .i64 p6,.int .i64 p7,.int .i64 p8]) rfl rfl rfl (Src.r 2 rfl) rfl rfl ob) ?_;apply Y 0x36e;refine mq 7 rfl (aa (vs:=[.int .i64 p0,.int .i64 (p1+1),.int .i64 0,.int .i64 p3,.int .i64 p4,.int .i64 p5,.int .i64 p6,.int .i64 p7,.int .i64 p8]) rfl rfl rfl (Src.r 0 rfl) rfl rfl ob) ?_;apply Y 0x45e;refine aJ (n7 f a hok hh y G U V gc uc vc hyn hyl hcap p0 p1 p2 p3 p4 p5 p6 p7 p8 hp (p.seq.getD p1.toNat 0) hlay) ?_;apply Y 0x19;intro XA xc;apply Y 0xe6e693a;refine aJ (eU f a hok hh y G U V gc uc vc hyn hyl hcap (plF f y [p0,p1,p2,p3,p4,p5,p6,p7,p8] (p.seq.getD p1.toNat 0)) XA xc [p0,(p1+1),0,p3,p4,p5,p6,p7,p8] rfl) ?_;apply Y 0x19;intro TO tc;apply Zu 0x75ebc596acc5b6ae33a
  ·exact Zm 0x2174f
  exact Zm 0x2174f
 apply Y 0x1b68eed1fad1f3c;refine al (wB (f.size:Int) f.data a.hs hh a.D a.cD _ _ _ y.n y.ls V vc _ _ _ _ _ _ p.sz p.n p.lf p.inn p.out p.ops p.seq p.st OA QA HA oc qc hc hpl.1 hpl.2.1 hpl.2.2 p1 oe oe (fun i=>by have:=hok0.sm.r i;omega)) ?_;apply Y 0x19;intro CA cc;apply Zu 0x5d386890eb1e55e84830e<;>intro hc66
 ·apply Zu 0x10ebce0e9bfaf9
  ·exact Zm 0x2274f
  exact Zm 0x2274f
 have hcl:(p.cntV f y p1).length=f.size:=hfit.cnt hc66;apply Zu 0xec165e93e5899<;>intro hc71
 ·apply Y 0x6804f840f740f7;refine aJ (nC f a hok hh y G U V gc uc vc hyn hyl hcap p0 p1 p2 p3 p4 p5 p6 p7 p8 hp CA (p.cntV f y p1) cc obX hlay) ?_;apply Y 0x19;intro TO tc;apply Zu 0x75ebc599bab
  ·exact Zm 0x2374f
  exact Zm 0x2374f
 apply Y 0x6ccea6ef999;refine sp (ae (k:=(p.seq.getD p1.toNat 0).toNat) rfl rfl rfl rfl rfl rfl oe oe (Src.r 5 rfl) ow) ?_;refine sp (Ev.load rfl rfl rfl (Src.r 5 rfl) (aK hh oe)) ?_;apply Y 0xfa6;refine L.call (js:=[]) (js':=[0,1]) (vT (p.seq.getD p1.toNat 0) (a.hs.getD (p.seq.getD p1.toNat 0).toNat (none,0)).1 CA (aX f (p.seq.getD p1.toNat 0)) (p.cntV f y p1) (a.hs.getD (p.seq.getD p1.toNat 0).toNat (none,0)).2 cc (by rw [show (aX f (p.seq.getD p1.toNat 0)).length=f.size from hrw];exact hcp) (by rw [show (aX f (p.seq.getD p1.toNat 0)).length=f.size from hrw];omega) obX) rfl rfl rfl ob ⟨((Has.kid 6 rfl oC ((p.seq.getD p1.toNat 0).toNat) oZ).cast (aW _)),(Has.r 0 rfl),trivial⟩ rfl ?_;apply Y 0x19;intro RA rc;apply Y 0x7ba8e46e7e84830e;have hrl:=l4 (p.seq.getD p1.toNat 0) (aX f (p.seq.getD p1.toNat 0)) (p.cntV f y p1);apply Y 0x69e7ba8e46eca487ee46e68;intro hrc;apply Y 0xebdb90eade;refine av [_,_,_,_,_,_,_,_,_,_,_,_,_,_,_,_,_] (Hq [0,1,2,3,4,5,6,7,8,9,10,11,12,13,14,15,16] rfl) ?_;refine mq 0 rfl (aa (vs:=(flL f a)) rfl rfl rfl (Src.r 6 rfl) rfl rfl ob) ?_;refine mq 1 rfl (aa (vs:=(cP y G U V gc uc vc)) rfl rfl rfl (Src.r 5 rfl) rfl rfl ob) ?_;refine mq 2 rfl (aa (vs:=(flL f a)) rfl rfl rfl (Src.r 6 rfl) rfl rfl ob) ?_;refine mq 3 rfl (aa (vs:=(cP y G U V gc uc vc)) rfl rfl rfl (Src.r 5 rfl) rfl rfl ob) ?_;refine mq 4 rfl (faR 4) ?_;refine mq 5 rfl (ldR 4) ?_;apply Y 0x9a3fe9e;refine mq 9 rfl (aa (vs:=[.int .i64 p0,.int .i64 p1,.int .i64 1,.int .i64 (p3+((gT (p.seq.getD p1.toNat 0) (aX f (p.seq.getD p1.toNat 0)) (p.cntV f y p1)).length:Int)),.int .i64 p4,.int .i64 p5,.int .i64 p6,.int .i64 p7,.int .i64 p8]) rfl rfl rfl (Src.r 1 rfl) rfl rfl ob) ?_;apply Y 0x54e;refine aJ (FH f a hok hh y.us U uc hu p3 (gT (p.seq.getD p1.toNat 0) (aX f (p.seq.getD p1.toNat 0)) (p.cntV f y p1)) RA rc oe hrc) ?_;apply Y 0x19;intro XA xc;apply Y 0xc6e693a;refine aJ (eU f a hok hh y G U V gc uc vc hyn hyl hcap (towS f y.us p3 (gT (p.seq.getD p1.toNat 0) (aX f (p.seq.getD p1.toNat 0)) (p.cntV f y p1))) XA xc [p0,p1,1,(p3+((gT (p.seq.getD p1.toNat 0) (aX f (p.seq.getD p1.toNat 0)) (p.cntV f y p1)).length:Int)),p4,p5,p6,p7,p8] rfl) ?_;apply Y 0x19;intro TO tc;apply Zu 0x75ebcd86acc5b86e33a
 ·exact Zm 0x2474f
 exact Zm 0x2474f
theorem D0 (f:Fl)(a:Fa)(ok:f.Ok)(hh:a.hs.length=f.data.length)(y:Lay)(G U V:Option Addr)(gc uc vc:Nat)(hyn: -1000000≤y.n∧y.n≤1000000)(hyl:y.gs.length≤1000∧y.us.length≤1000∧y.ls.length≤1000)(hcap:Caps f a)(p0 p1 p2 p3 p4 p5 p6 p7 p8:Int)(hp:∀ x∈[p0,p1,p2,p3,p4,p5,p6,p7,p8],0≤x∧x≤4294967295)(hlay:eJ f y=true):
    Ctr X 45 [flV f a,.agg (List.toArray (cP y G U V gc uc vc)),.agg (List.toArray [.int .i64 p0,.int .i64 p1,.int .i64 p2,.int .i64 p3,.int .i64 p4,.int .i64 p5,.int .i64 p6,.int .i64 p7,.int .i64 p8])] (flR f a++[Rd G (I64 y.gs),Rd U (I64 y.us),Rd V (I64 y.ls)]) [] (fun v R' H'=>∃ (O:Option Addr) (oc:Nat),v=.agg (List.toArray [.int .i64 (dz f y [p0,p1,p2,p3,p4,p5,p6,p7,p8]).x.kind,.int .i64 (dz f y [p0,p1,p2,p3,p4,p5,p6,p7,p8]).x.sec,.int .i64 (dz f y [p0,p1,p2,p3,p4,p5,p6,p7,p8]).x.at_,.slice O (dz f y [p0,p1,p2,p3,p4,p5,p6,p7,p8]).x.data.length oc,.bool (dz f y [p0,p1,p2,p3,p4,p5,p6,p7,p8]).done,.int .i64 (dz f y [p0,p1,p2,p3,p4,p5,p6,p7,p8]).e])∧R'=[Rd O (U8 (dz f y [p0,p1,p2,p3,p4,p5,p6,p7,p8]).x.data)]∧H'=[]):=by
 apply Y 0xe1e;intro hok;obtain ⟨os1,os2,on1,on2,owl,odl,orows,ol1,ol2,owear⟩:=ok;obtain ⟨_,hl38,hl1,hl2,hl3,hl4,hl5,hl6⟩:=cJ.1 hlay;apply Y 0x97e;intro hp0;apply Y 0xa7e;intro hp1;apply Y 0xb7e;intro hp2;apply Y 0xc7e;intro hp3;apply Y 0xd7e;intro hp4;apply Y 0xe7e;intro hp5;apply Y 0xf7e;intro hp6;apply Y 0x18e;intro hp7;apply Y 0x28e;intro hp8;apply Y 0x4b0f;intro hu;refine co Tryz.func45 ?_;intro β;apply Y 0x4a;intro A3;apply Y 0x2b;intro A4;apply Y 0x2b;intro A5;apply Y 0x98;intro A6;apply Y 0x983ee68ebdb90eb1ea4e35e7b;intro A7;apply Zu 0xec1f858886b<;>intro hc15
 ·apply Y 0x8b1fb00f5;refine mq 1 rfl (aa (vs:=(cP y G U V gc uc vc)) rfl rfl rfl (Src.r 1 rfl) rfl rfl ob) ?_;apply Y 0x7c1f501f240ffde;refine mq 7 rfl (faR 0) ?_;refine mq 8 rfl (ldR 0) ?_;refine mq 9 rfl (Ev.sub rfl rfl oe oe) ?_;refine mq 10 rfl (faR 0) ?_;refine mq 11 rfl (ldR 0) ?_;apply Y 0xc8e69aba8cdeb9e101f;refine ba (js:=[]) (js':=[0,1]) (eU f a hok hh y G U V gc uc vc hyn hyl hcap nxD none 0 [0,0,0,0,0,1-p5,p6,p8,p8] rfl) rfl rfl rfl ob ⟨(Has.r 3 rfl),(Has.r 4 rfl),(Has.r 5 rfl),(Has.r 6 rfl),Has.nil,trivial⟩ rfl ?_;apply Y 0x19;intro TO tc;apply Zu 0x75ebc596acc5b42e3ab
  ·exact Zm 0x2434f
  exact Zm 0x2434f
 apply Zu 0x791f85899<;>intro hc32
 ·apply Zu 0x10ebce0e9bcb
  ·exact Zm 0x2534f
  exact Zm 0x2534f
 apply Y 0xf8710fcfe3c;refine aJ (De f a hok hh y.us U uc hu p3) ?_;apply Y 0x19;intro LA lc;apply Y 0x98ab;intro A8;apply Zu 0x5d1f86890eade57b32e<;>intro hc41
 ·apply Zu 0x10ebce0e9bfaf87
  ·exact Zm 0x2634f
  exact Zm 0x2634f
 have hlf:=pa (show (aY (aM f y.us) (f.size:Int) p3).e=0 from hc41);replace hlf:5≤(aY (aM f y.us) (f.size:Int) p3).b.length∧(aY (aM f y.us) (f.size:Int) p3).b.length≤65535:=hlf;apply Y 0xf83c;refine sp (ae (k:=0) rfl rfl rfl rfl rfl rfl rfl oe (Src.r 1 rfl) oI) ?_;apply Zu 0x791bce1ae65819fe911f<;>intro hc53
 ·apply Zu 0x10ebce0e9bcb
  ·exact Zm 0x2734f
  exact Zm 0x2734f
 apply Y 0x912f;intro hrw;apply Zu 0xec165e93e5899<;>intro hc57
 ·apply Y 0xeb92e7bbbf8788bb7;refine av [_,_,_,_,_,_,_,_,_,_,_,_,_] (Hq [0,1,2,3,4,5,6,7,8,9,10,11,12] rfl) ?_;apply Y 0xd93f970f870f;refine mq 3 rfl (aa (vs:=(cP y G U V gc uc vc)) rfl rfl rfl (Src.r 4 rfl) rfl rfl ob) ?_;refine mq 4 rfl (aa (vs:=[.int .i64 p0,.int .i64 p1,.int .i64 p2,.int .i64 p3,.int .i64 p4,.int .i64 p5,.int .i64 p6,.int .i64 p7,.int .i64 p8]) rfl rfl rfl (Src.r 3 rfl) rfl rfl ob) ?_;apply Y 0x36e;refine mq 7 rfl (aa (vs:=[.int .i64 p0,.int .i64 p1,.int .i64 0,.int .i64 (aY (aM f y.us) (f.size:Int) p3).at_,.int .i64 p4,.int .i64 p5,.int .i64 p6,.int .i64 p7,.int .i64 p8]) rfl rfl rfl (Src.r 0 rfl) rfl rfl ob) ?_;apply Y 0x45e;refine aJ (n7 f a hok hh y G U V gc uc vc hyn hyl hcap p0 p1 p2 p3 p4 p5 p6 p7 p8 hp ((((aY (aM f y.us) (f.size:Int) p3).b.getD 0 0).toNat:Nat):Int) hlay) ?_;apply Y 0x19;intro XA xc;apply Y 0xe6e693a;refine aJ (eU f a hok hh y G U V gc uc vc hyn hyl hcap (plF f y [p0,p1,p2,p3,p4,p5,p6,p7,p8] ((((aY (aM f y.us) (f.size:Int) p3).b.getD 0 0).toNat:Nat):Int)) XA xc [p0,p1,0,(aY (aM f y.us) (f.size:Int) p3).at_,p4,p5,p6,p7,p8] rfl) ?_;apply Y 0x19;intro TO tc;apply Zu 0x75ebc596acc5b6ae33a
  ·exact Zm 0x2834f
  exact Zm 0x2834f
 apply Y 0x6f2f9d;refine mq 0 rfl (faR 4) ?_;refine mq 1 rfl (ldR 4) ?_;apply Y 0xdde;refine mq 3 rfl (ae (k:=((aY (aM f y.us) (f.size:Int) p3).b.getD 0 0).toNat) rfl rfl rfl rfl rfl rfl rfl oe (Src.r 5 rfl) ow) ?_;refine mq 4 rfl (Ev.load rfl rfl rfl (Src.r 5 rfl) (aK hh oe)) ?_;apply Y 0x34e7c1f501f;refine L.call (js:=[]) (js':=[0,1]) (rJ (a.hs.getD ((aY (aM f y.us) (f.size:Int) p3).b.getD 0 0).toNat (none,0)).1 LA (aX f ((((aY (aM f y.us) (f.size:Int) p3).b.getD 0 0).toNat:Nat):Int)) (aY (aM f y.us) (f.size:Int) p3).b (a.hs.getD ((aY (aM f y.us) (f.size:Int) p3).b.getD 0 0).toNat (none,0)).2 lc qx oe) rfl rfl rfl ob ⟨((Has.kid 6 rfl oC (((aY (aM f y.us) (f.size:Int) p3).b.getD 0 0).toNat) oZ).cast (aW _)),(Has.r 1 rfl),trivial⟩ rfl ?_;apply Y 0x19;intro CA cc;apply Zu 0x5d386890eb1e556a6c48e3686e791fb91fa91f6930e<;>intro hc83
 ·apply Zu 0x10ebce0e9bfaf9
  ·exact Zm 0x2934f
  exact Zm 0x2934f
 apply Y 0xb11fa11f3c;refine sp (aa (vs:=[.int .i64 p0,.int .i64 p1,.int .i64 p2,.int .i64 p3,.int .i64 p4,.int .i64 p5,.int .i64 p6,.int .i64 p7,.int .i64 p8]) rfl rfl rfl (Src.r 3 rfl) rfl rfl ob) ?_;apply Y 0x6;refine aJ (nC f a hok hh y G U V gc uc vc hyn hyl hcap p0 p1 p2 p3 p4 p5 p6 p7 p8 hp CA (rL (aX f ((((aY (aM f y.us) (f.size:Int) p3).b.getD 0 0).toNat:Nat):Int)) (aY (aM f y.us) (f.size:Int) p3).b) cc (by have:=rK (aX f ((((aY (aM f y.us) (f.size:Int) p3).b.getD 0 0).toNat:Nat):Int)) (aY (aM f y.us) (f.size:Int) p3).b;rw [show (aX f ((((aY (aM f y.us) (f.size:Int) p3).b.getD 0 0).toNat:Nat):Int)).length=f.size from hrw] at this;omega) hlay) ?_;apply Y 0x19;intro TO tc;apply Zu 0x75ebcd89bab
 ·exact Zm 0x2a34f
 exact Zm 0x2a34f
end Go.Proofs.YtbpddeiogcgegaaGreat
