/-
  Part of a proof.
-/
import Derived.Test.YtbpddeiogcgegaaGreatUTk
set_option maxHeartbeats 0
set_option maxRecDepth 4000
set_option linter.all false
namespace Go.Proofs.YtbpddeiogcgegaaGreat
open Go.Sl
section
variable {f:Fl}{y:Lay}{p:Pln}{s:List Int}{c:List UInt8}{t:Int}
theorem DK (h:sSt s≥(p.st.length:Int)):eE f y s p=cj f y nxD ((s.set 0 3).set 1 0):=by
 unfold eE;rw [if_pos h];exact Zm 0xd40f
theorem sI (h:¬sSt s≥(p.st.length:Int)):eE f y s p=cj f y (aO f (y.ls.getD (sSt s).toNat 0) (aV f (p.st.getD (sSt s).toNat 0))) (s.set 1 (sSt s+1)):=if_neg h
theorem HS (h:sSg s≥(y.gs.length:Int)):sgF f y s c=nxE 220:=if_pos h
theorem Bb (h:¬sSg s≥(y.gs.length:Int))(h2:(aO f (y.gs.getD (sSg s).toNat 0) c).e=171∨(aO f (y.gs.getD (sSg s).toNat 0) c).e=172)(h3:sSg s+1<(y.gs.length:Int)):sgF f y s c=cj f y nxD (s.set 6 (sSg s+1)):=by
 unfold sgF;rw [if_neg h,if_pos ⟨h2,h3⟩];exact Zm 0xd40f
theorem m6 (h:¬sSg s≥(y.gs.length:Int))(h2:¬(((aO f (y.gs.getD (sSg s).toNat 0) c).e=171∨(aO f (y.gs.getD (sSg s).toNat 0) c).e=172)∧sSg s+1<(y.gs.length:Int))):sgF f y s c=cj f y (aO f (y.gs.getD (sSg s).toNat 0) c) (s.set 2 (sSb s+1)):=by
 unfold sgF;rw [if_neg h,if_neg h2]
theorem Ig (h:sSg s≥(y.gs.length:Int)):plF f y s t=nxE 220:=if_pos h
theorem If (h:¬sSg s≥(y.gs.length:Int)):plF f y s t=aO f t (aV f (y.gs.getD (sSg s).toNat 0)):=if_neg h
theorem MU {N:Int}(h1:1≤y.n)(h:∀ x∈y.rest,y.n≤x∧x<N){i:Nat}(hi:i<y.gs.length):0≤y.gs.getD i 0∧y.gs.getD i 0<N:=by
 have:=h (y.gs.getD i 0) (by
  have:=jz hi
  unfold Lay.rest;rw [List.mem_append,List.mem_append,List.mem_append]
  exact .inl (.inl (.inr this)))
 exact Zm 0x18
end
theorem wH (f:Fl)(a:Fa)(ok:f.Ok)(hh:a.hs.length=f.data.length)(y:Lay)(G U V:Option Addr)(gc uc vc:Nat)(hyn: -1000000≤y.n∧y.n≤1000000)(hyl:y.gs.length≤1000∧y.us.length≤1000∧y.ls.length≤1000)(hcap:Caps f a)(p0 p1 p2 p3 p4 p5 p6 p7 p8:Int)(hp:∀ x∈[p0,p1,p2,p3,p4,p5,p6,p7,p8],0≤x∧x≤4294967295)(p:Pln)(OA QA HA:Option Addr)(oc qc hc:Nat)(hpl:p.ops.length≤9223372036854775807∧p.seq.length≤1000000∧p.st.length≤1000000)(hfit:PlnFit f y p)(hlay:eT f y=true):
    Ctr X 48 [flV f a,.agg (List.toArray (di y G U V gc uc vc)),.agg (List.toArray [.int .i64 p0,.int .i64 p1,.int .i64 p2,.int .i64 p3,.int .i64 p4,.int .i64 p5,.int .i64 p6,.int .i64 p7,.int .i64 p8]),.agg (List.toArray [.int .i64 p.sz,.int .i64 p.n,.bool p.lf,.int .i64 p.inn,.int .i64 p.out,.slice OA p.ops.length oc,.slice QA p.seq.length qc,.slice HA p.st.length hc])] (flR f a++[Rd G (I64 y.gs),Rd U (I64 y.us),Rd V (I64 y.ls),Rd OA (ck p.ops),Rd QA (I64 p.seq),Rd HA (I64 p.st)]) [] (fun v R' H'=>∃ (O:Option Addr) (oc:Nat),v=.agg (List.toArray [.int .i64 (eE f y [p0,p1,p2,p3,p4,p5,p6,p7,p8] p).x.kind,.int .i64 (eE f y [p0,p1,p2,p3,p4,p5,p6,p7,p8] p).x.sec,.int .i64 (eE f y [p0,p1,p2,p3,p4,p5,p6,p7,p8] p).x.at_,.slice O (eE f y [p0,p1,p2,p3,p4,p5,p6,p7,p8] p).x.data.length oc,.bool (eE f y [p0,p1,p2,p3,p4,p5,p6,p7,p8] p).done,.int .i64 (eE f y [p0,p1,p2,p3,p4,p5,p6,p7,p8] p).e])∧R'=[Rd O (U8 (eE f y [p0,p1,p2,p3,p4,p5,p6,p7,p8] p).x.data)]∧H'=[]):=by
 apply Y 0xc1e;intro hok;obtain ⟨os1,os2,on1,on2,owl,odl,orows,ol1,ol2,owear⟩:=ok;obtain ⟨_,hl38,hl1,hl2,hl3,hl4,hl5,hl6⟩:=cI.1 hlay;apply Y 0x57e;intro hp0;apply Y 0x67e;intro hp1;apply Y 0x77e;intro hp2;apply Y 0x87e;intro hp3;apply Y 0x97e;intro hp4;apply Y 0xa7e;intro hp5;apply Y 0xb7e;intro hp6;apply Y 0xc7e;intro hp7;apply Y 0xd7e;intro hp8;have hst:=hfit.st;refine co Tryz.func48 ?_;intro β;apply Y 0x6a;intro A4;apply Y 0x7b;intro A5;apply Y 0x7b;intro A6;apply Y 0x7b;intro A7;apply Y 0xa8;intro A8;apply Y 0xa8393f788c7c71ed1e45e26e6de900fcb;intro A9;apply Zu 0x2af83b58984c<;>intro hc16
 ·apply Y 0xae0f9e0f1c0f8cb2ecb9c48989c48;refine mq 3 rfl (ab (vs:=[.int .i64 3,.int .i64 0,.int .i64 p2,.int .i64 p3,.int .i64 p4,.int .i64 p5,.int .i64 p6,.int .i64 p7,.int .i64 p8]) rfl rfl rfl (Src.r 0 rfl) rfl rfl ob) ?_;apply Y 0x8ae694a887de3ae;refine b4 (js:=[]) (js':=[0]) (eJ f a hok hh y G U V gc uc vc hyn hyl hcap nxD none 0 [3,0,p2,p3,p4,p5,p6,p7,p8] rfl) rfl rfl rfl ob ⟨(Has.r 5 rfl),(Has.r 6 rfl),(Has.r 7 rfl),(Has.r 8 rfl),Has.nil,trivial⟩ rfl ?_;apply Y 0x19;intro TO tc;apply Zu 0x25ecc898afc6bbbe34a
  ·exact Zm 0x22f3f
  exact Zm 0x22f3f
 apply Y 0x262f;intro hq;have hrw:=orows (p.st.getD p1.toNat 0).toNat oe;apply Y 0x833fae0f9e0f1c0f8cb2ecb9cdafa8d;refine mq 3 rfl (faR 3) ?_;refine mq 4 rfl (ldR 3) ?_;refine mq 5 rfl (faR 2) ?_;refine mq 6 rfl (ldR 2) ?_;apply Y 0x843f643f;refine mq 9 rfl (faR 4) ?_;refine mq 10 rfl (ldR 4) ?_;apply Y 0x4a1f3a1f;refine mq 13 rfl (faR 2) ?_;refine mq 14 rfl (ldR 2) ?_;refine mq 15 rfl (ae (k:=p1.toNat) rfl rfl rfl rfl rfl rfl oe oe (Src.r 14 rfl) ov) ?_;refine mq 16 rfl (Ev.load rfl rfl rfl (Src.r 14 rfl) (aG oe)) ?_;refine mq 17 rfl (ae (k:=(p.st.getD p1.toNat 0).toNat) rfl rfl rfl rfl rfl rfl oe oe (Src.r 5 rfl) ow) ?_;refine mq 18 rfl (Ev.load rfl rfl rfl (Src.r 5 rfl) (aN hh oe)) ?_;refine mq 20 rfl (ab (vs:=[.int .i64 p0,.int .i64 (p1+1),.int .i64 p2,.int .i64 p3,.int .i64 p4,.int .i64 p5,.int .i64 p6,.int .i64 p7,.int .i64 p8]) rfl rfl rfl (Src.r 0 rfl) rfl rfl ob) ?_;apply Y 0xc20f;refine b4 (js:=[]) (js':=[0]) (fk f a hok hh (y.ls.getD p1.toNat 0) (aV f (p.st.getD p1.toNat 0)) (a.hs.getD (p.st.getD p1.toNat 0).toNat (none,0)).1 (f.data.getD (p.st.getD p1.toNat 0).toNat []).length (a.hs.getD (p.st.getD p1.toNat 0).toNat (none,0)).2 rfl obH) rfl rfl rfl ob ⟨(Has.r 5 rfl),(Has.r 6 rfl),(Has.r 7 rfl),(Has.r 8 rfl),((Has.kid 6 rfl oC ((p.st.getD p1.toNat 0).toNat) oZ).cast (a7 _)),trivial⟩ rfl ?_;apply Y 0x19;intro XA xc;apply Y 0x7d0f694a;refine aL (eJ f a hok hh y G U V gc uc vc hyn hyl hcap (aO f (y.ls.getD p1.toNat 0) (aV f (p.st.getD p1.toNat 0))) XA xc [p0,(p1+1),p2,p3,p4,p5,p6,p7,p8] rfl) ?_;apply Y 0x19;intro TO tc;apply Zu 0x25ecce88afc6bd71f34a
 ·exact Zm 0x23f3f
 exact Zm 0x23f3f
theorem mY (f:Fl)(a:Fa)(ok:f.Ok)(hh:a.hs.length=f.data.length)(y:Lay)(G U V:Option Addr)(gc uc vc:Nat)(hyn: -1000000≤y.n∧y.n≤1000000)(hyl:y.gs.length≤1000∧y.us.length≤1000∧y.ls.length≤1000)(hcap:Caps f a)(p0 p1 p2 p3 p4 p5 p6 p7 p8:Int)(hp:∀ x∈[p0,p1,p2,p3,p4,p5,p6,p7,p8],0≤x∧x≤4294967295)(CA:Option Addr)(c:List UInt8)(cc:Nat)(hcl:c.length≤1000000)(hlay:eT f y=true):
    Ctr X 93 [flV f a,.agg (List.toArray (di y G U V gc uc vc)),.agg (List.toArray [.int .i64 p0,.int .i64 p1,.int .i64 p2,.int .i64 p3,.int .i64 p4,.int .i64 p5,.int .i64 p6,.int .i64 p7,.int .i64 p8]),.slice CA c.length cc] (flR f a++[Rd G (I64 y.gs),Rd U (I64 y.us),Rd V (I64 y.ls),Rd CA (U8 c)]) [] (fun v R' H'=>∃ (O:Option Addr) (oc:Nat),v=.agg (List.toArray [.int .i64 (sgF f y [p0,p1,p2,p3,p4,p5,p6,p7,p8] c).x.kind,.int .i64 (sgF f y [p0,p1,p2,p3,p4,p5,p6,p7,p8] c).x.sec,.int .i64 (sgF f y [p0,p1,p2,p3,p4,p5,p6,p7,p8] c).x.at_,.slice O (sgF f y [p0,p1,p2,p3,p4,p5,p6,p7,p8] c).x.data.length oc,.bool (sgF f y [p0,p1,p2,p3,p4,p5,p6,p7,p8] c).done,.int .i64 (sgF f y [p0,p1,p2,p3,p4,p5,p6,p7,p8] c).e])∧R'=[Rd O (U8 (sgF f y [p0,p1,p2,p3,p4,p5,p6,p7,p8] c).x.data)]∧H'=[]):=by
 apply Y 0xc1e;intro hok;obtain ⟨os1,os2,on1,on2,owl,odl,orows,ol1,ol2,owear⟩:=ok;obtain ⟨_,hl38,hl1,hl2,hl3,hl4,hl5,hl6⟩:=cI.1 hlay;apply Y 0x57e;intro hp0;apply Y 0x67e;intro hp1;apply Y 0x77e;intro hp2;apply Y 0x87e;intro hp3;apply Y 0x97e;intro hp4;apply Y 0xa7e;intro hp5;apply Y 0xb7e;intro hp6;apply Y 0xc7e;intro hp7;apply Y 0xd7e;intro hp8;refine co Tryz.func93 ?_;intro β;apply Y 0x6a;intro A4;apply Y 0x7b;intro A5;apply Y 0x7b;intro A6;apply Y 0xa8;intro A8;apply Zu 0x2a3bf8788c7c71ed1e45e26e5cb<;>intro hc16
 ·apply Zu 0xedccb0e5b8b
  ·exact Zm 0x27d3f
  exact Zm 0x27d3f
 apply Y 0xa8dde8d;intro A9;apply Y 0xcb4c;refine C.join (fun q:Option Addr×Option Addr×Nat=>[(4,ag A4 0),(5,ag A5 0),(6,ag A6 0),(8,ag A8 0),(9,ag A9 0),(10,ag q.1 0)]) (fun q:Option Addr×Option Addr×Nat=>[Rd q.2.1 (U8 (aO f (y.gs.getD p6.toNat 0) c).x.data),Rd A6 [.int .i64 p0,.int .i64 p1,.int .i64 p2,.int .i64 p3,.int .i64 p4,.int .i64 p5,.int .i64 p6,.int .i64 p7,.int .i64 p8],Rd A5 (di y G U V gc uc vc),Rd A4 (flL f a),Rd a.D (aC a.hs (B8 f.data)),aS a.hs (B8 f.data),Rd a.W (I64 f.wear),Rd a.E (Bs f.dead),Rd G (I64 y.gs),Rd U (I64 y.us),Rd V (I64 y.ls),Rd CA (U8 c)]) (fun q:Option Addr×Option Addr×Nat=>[Own 62 6 A8 1 1 [.int .i64 0,.int .i64 0,.int .i64 0,.slice none 0 0,.bool false,.int .i64 0],Own 73 9 A9 1 1 [.int .i64 p0,.int .i64 p1,.int .i64 p2,.int .i64 p3,.int .i64 p4,.int .i64 p5,.int .i64 p6,.int .i64 p7,.int .i64 p8],Own 62 6 q.1 1 1 [.int .i64 (aO f (y.gs.getD p6.toNat 0) c).x.kind,.int .i64 (aO f (y.gs.getD p6.toNat 0) c).x.sec,.int .i64 (aO f (y.gs.getD p6.toNat 0) c).x.at_,.slice q.2.1 (aO f (y.gs.getD p6.toNat 0) c).x.data.length q.2.2,.bool (aO f (y.gs.getD p6.toNat 0) c).done,.int .i64 (aO f (y.gs.getD p6.toNat 0) c).e]]) (fun q:Option Addr×Option Addr×Nat=>True) ?_ ?_
 ·refine aE [_,_,_,_,_,_,_,_,_,_,_] (Hq [0,1,2,3,4,5,6,7,8,9,10] rfl) ?_;apply Y 0xf20fbde1ceeaee91f;refine mq 5 rfl (ae (k:=p6.toNat) rfl rfl rfl rfl rfl rfl oe oe (Src.r 7 rfl) ov) ?_;refine mq 6 rfl (Ev.load rfl rfl rfl (Src.r 7 rfl) (aG oe)) ?_;apply Y 0x4f0f;refine LM.alt [8,9] oa ob hcx ⟨⟨_,rfl,?_⟩,⟨_,rfl,?_⟩,trivial⟩
  ·apply Y 0x19133f;intro XA xc;apply Y 0xa896e32c;intro A10;exact Zm 0x9a2ffca3ef6e69
  apply Y 0xa8;intro A10;apply Y 0x19133f74e3;intro XA xc;exact Zm 0x9a2ffca3ef6e6970e
 rintro ⟨A10,XA,xc⟩ _;apply Y 0x28f87871eb00f558ad4e;refine L.bool 31 rfl (imp fA ?_) (imp fz ?_)<;>intro hg31
 ·apply Zu 0x2af96ce4b9e4da4d5e473e428ca<;>intro hc44
  ·apply Y 0x19ae2f8ae694a887de3aed33fc60fb60f2c0f8cb2ecb9cdafa48;intro TO tc;apply Zu 0x25ecc898afc6bbbe34a
   ·exact Zm 0x28d3f
   exact Zm 0x28d3f
  apply Y 0x19c91f930fa30f701f601f788cb2ecb9cdafa8d;intro TO tc;apply Zu 0x25ecce85b4a
  ·exact Zm 0x2811f
  exact Zm 0x2811f
 apply Y 0xb84eb;refine L.bool 36 rfl (imp fA ?_) (imp fz ?_)<;>intro hg36
 ·apply Zu 0x2af96ce4b9e4da4d5e473e4<;>intro hc44
  ·apply Y 0x19ae2f8ae694a887de3aed33fc60fb60f2c0f8cb2ecb9cdafa48;intro TO tc;apply Zu 0x25ecc898afc6bbbe34a
   ·exact Zm 0x29d3f
   exact Zm 0x29d3f
  apply Y 0x19c91f930fa30f701f601f788cb2ecb9cdafa8d;intro TO tc;apply Zu 0x25ecce85b4a
  ·exact Zm 0x2811f
  exact Zm 0x2811f
 apply Y 0x1ca39;refine C.cond rfl (fun h=>by cases h) (fun _=>?_);apply Y 0x19c91f930fa30f701f601f788cb2ecb9cdafa8d;intro TO tc;apply Zu 0x25ecce85b4a
 ·exact Zm 0x2ad3f
 exact Zm 0x2ad3f
theorem nC (f:Fl)(a:Fa)(ok:f.Ok)(hh:a.hs.length=f.data.length)(y:Lay)(G U V:Option Addr)(gc uc vc:Nat)(hyn: -1000000≤y.n∧y.n≤1000000)(hyl:y.gs.length≤1000∧y.us.length≤1000∧y.ls.length≤1000)(hcap:Caps f a)(p0 p1 p2 p3 p4 p5 p6 p7 p8:Int)(hp:∀ x∈[p0,p1,p2,p3,p4,p5,p6,p7,p8],0≤x∧x≤4294967295)(t:Int)(hlay:eT f y=true):
    Ctr X 91 [flV f a,.agg (List.toArray (di y G U V gc uc vc)),.agg (List.toArray [.int .i64 p0,.int .i64 p1,.int .i64 p2,.int .i64 p3,.int .i64 p4,.int .i64 p5,.int .i64 p6,.int .i64 p7,.int .i64 p8]),.int .i64 t] (flR f a++[Rd G (I64 y.gs),Rd U (I64 y.us),Rd V (I64 y.ls)]) [] (fun v R' H'=>∃ (O:Option Addr) (oc:Nat),v=.agg (List.toArray [.int .i64 (plF f y [p0,p1,p2,p3,p4,p5,p6,p7,p8] t).x.kind,.int .i64 (plF f y [p0,p1,p2,p3,p4,p5,p6,p7,p8] t).x.sec,.int .i64 (plF f y [p0,p1,p2,p3,p4,p5,p6,p7,p8] t).x.at_,.slice O (plF f y [p0,p1,p2,p3,p4,p5,p6,p7,p8] t).x.data.length oc,.bool (plF f y [p0,p1,p2,p3,p4,p5,p6,p7,p8] t).done,.int .i64 (plF f y [p0,p1,p2,p3,p4,p5,p6,p7,p8] t).e])∧R'=[Rd O (U8 (plF f y [p0,p1,p2,p3,p4,p5,p6,p7,p8] t).x.data)]∧H'=[]):=by
 apply Y 0xc1e;intro hok;obtain ⟨os1,os2,on1,on2,owl,odl,orows,ol1,ol2,owear⟩:=ok;obtain ⟨_,hl38,hl1,hl2,hl3,hl4,hl5,hl6⟩:=cI.1 hlay;apply Y 0x57e;intro hp0;apply Y 0x67e;intro hp1;apply Y 0x77e;intro hp2;apply Y 0x87e;intro hp3;apply Y 0x97e;intro hp4;apply Y 0xa7e;intro hp5;apply Y 0xb7e;intro hp6;apply Y 0xc7e;intro hp7;apply Y 0xd7e;intro hp8;refine co Tryz.func91 ?_;intro β;apply Y 0x6a;intro A4;apply Y 0x7b;intro A5;apply Y 0x7b;intro A6;apply Y 0xa8;intro A8;apply Zu 0x2a3bf8788c7c71ed1e45e26e5cb<;>intro hc14
 ·apply Zu 0xedccb0e5b8b
  ·exact Zm 0x2fc3f
  exact Zm 0x2fc3f
 apply Y 0x3a0f;intro hgi;apply Y 0x6a0f;intro hrw;apply Y 0xdaee91f400fbd;refine mq 2 rfl (faR 2) ?_;refine mq 3 rfl (ldR 2) ?_;refine mq 4 rfl (faR 1) ?_;refine mq 5 rfl (ldR 1) ?_;apply Y 0x74e3a4ef3e321ee4e;refine sp (ae (k:=p6.toNat) rfl rfl rfl rfl rfl rfl oe oe (Src.r 7 rfl) ov) ?_;apply Y 0x96e3;refine sp (Ev.load rfl rfl rfl (Src.r 7 rfl) (aG oe)) ?_;apply Y 0x27e3;refine sp (ae (k:=(y.gs.getD p6.toNat 0).toNat) rfl rfl rfl rfl rfl rfl oe oe (Src.r 3 rfl) ow) ?_;apply Y 0x34e3;refine sp (Ev.load rfl rfl rfl (Src.r 3 rfl) (aN hh oe)) ?_;apply Y 0x68e69;refine b4 (js:=[]) (js':=[0]) (fk f a hok hh t (aV f (y.gs.getD p6.toNat 0)) (a.hs.getD (y.gs.getD p6.toNat 0).toNat (none,0)).1 (f.data.getD (y.gs.getD p6.toNat 0).toNat []).length (a.hs.getD (y.gs.getD p6.toNat 0).toNat (none,0)).2 rfl obH) rfl rfl rfl ob ⟨(Has.r 3 rfl),(Has.r 4 rfl),(Has.r 5 rfl),(Has.r 6 rfl),((Has.kid 4 rfl oC ((y.gs.getD p6.toNat 0).toNat) oZ).cast (a7 _)),trivial⟩ rfl ?_;apply Y 0x19;intro XA xc;apply Zu 0xd01fcce88afc6b2ae34a
 ·exact Zm 0x22d3f
 exact Zm 0x22d3f
theorem FQ {f:Fl}{y:Lay}(h:eT f y=true):UOk f y.us:=by
 obtain ⟨ok,_,h1,_,_,_,h5,h6⟩:=cI.1 h;have hin:∀ x∈y.us,x∈y.rest:=fun x hx=>by
  unfold Lay.rest;rw [List.mem_append,List.mem_append]
  exact .inl (.inr hx)
 have hnd:y.us.Nodup:=by
  unfold Lay.rest at h6
  exact (List.nodup_append.1 (List.nodup_append.1 h6).1).2.1
 refine ⟨?_,fun s hs=>?_⟩
 ·have hsub:y.us ⊆ (List.range f.data.length).map Int.ofNat:=fun x hx=>by
   have:=h5 x (hin x hx)
   exact List.mem_map.2 ⟨x.toNat,List.mem_range.2 oe,by show ((x.toNat:Nat):Int)=x;omega⟩
  have:=hnd.length_le_of_subset hsub;rw [List.length_map,List.length_range] at this
  exact Nat.le_trans this ok.n2
 have:=h5 _ (hin _ (jz hs));exact Zm 0x18
theorem nF {A:List UInt8}{z e:Int}(h:(aW A z e).e=0):5≤(aW A z e).b.length∧(aW A z e).b.length≤65535:=by
 by_cases hB:cm A z e
 ·rw [nG hB] at h
  cases h
 rw [tL hB];have hb:=jV (A.drop (e.toNat-2))
 unfold cm at hB;have h1:e.toNat≤A.length:=oe;have hl:=nH (A:=A) (e:=e.toNat) h1 oe
 show 5≤(dt A e.toNat).length∧(dt A e.toNat).length≤65535
 cases hp:aT (dt A e.toNat) z with
 |none=>exact absurd (.inr (.inr (.inr hp))) hB
 |some ps=>
  have:=(df hp).1;exact Zm 0x18
theorem pV (b rec:List UInt8):(pW b rec).length≤b.length:=by
 by_cases h:c5 b rec
 ·rw [lB h];exact Zm 0xe2e
 cases hp:aT rec (b.length:Int) with
 |none=>exact absurd (.inl hp) h
 |some ps=>
  unfold c5 at h;rw [lA hp oe oe];have:=fv hp ps.length (Nat.le_refl _);rw [List.take_length] at this
  exact Nat.le_of_eq this
section
variable {f:Fl}{y:Lay}{p:Pln}{s:List Int}
theorem DF (h:sSt s≥(p.seq.length:Int)):dw f y s p=cj f y nxD ((s.set 0 4).set 1 0):=by
 apply Y 0xbfe;rw [if_pos h];exact Zm 0xd40f
theorem DE (h:¬sSt s≥(p.seq.length:Int))(h2:sSb s>2):dw f y s p=nxE 240:=by
 apply Y 0xbfe;rw [if_neg h,if_pos h2]
theorem sj (h:¬sSt s≥(p.seq.length:Int))(h2:¬sSb s>2)(h3:sSb s=2):dw f y s p=cj f y (plF f y s (p.seq.getD (sSt s).toNat 0)) ((s.set 1 (sSt s+1)).set 2 0):=by
 exact Zm 0xe11fbfe
theorem DD (h:¬sSt s≥(p.seq.length:Int))(h2:¬sSb s>2)(h3:¬sSb s=2)(h4:p.cntE f y (sSt s)≠0):dw f y s p=nxE (p.cntE f y (sSt s)):=by
 apply Y 0xbfe;rw [if_neg h,if_neg h2,if_neg h3,if_pos h4]
theorem DC (h:¬sSt s≥(p.seq.length:Int))(h2:¬sSb s>2)(h3:¬sSb s=2)(h4:p.cntE f y (sSt s)=0)(h5:sSb s=1):dw f y s p=sgF f y s (p.cntV f y (sSt s)):=by
 apply Y 0xbfe;rw [if_neg h,if_neg h2,if_neg h3,if_neg (fun q=>q h4),if_pos h5]
theorem si (h:¬sSt s≥(p.seq.length:Int))(h2:¬sSb s>2)(h3:¬sSb s=2)(h4:p.cntE f y (sSt s)=0)(h5:¬sSb s=1):dw f y s p=cj f y (towS f y.us (sUn s) (gI (p.seq.getD (sSt s).toNat 0) (aV f (p.seq.getD (sSt s).toNat 0)) (p.cntV f y (sSt s)))) ((s.set 2 1).set 3 (sUn s+((gI (p.seq.getD (sSt s).toNat 0) (aV f (p.seq.getD (sSt s).toNat 0)) (p.cntV f y (sSt s))).length:Int))):=by
 apply Y 0xbfe;rw [if_neg h,if_neg h2,if_neg h3,if_neg (fun q=>q h4),if_neg h5]
theorem Et (h:sUn s=0):dF f y s=cj f y nxD (PN s):=by
 apply Y 0x3ee;rw [if_pos h];exact Zm 0xd40f
theorem Es (h:¬sUn s=0)(h2:sSb s>1):dF f y s=nxE 240:=by
 apply Y 0x3ee;rw [if_neg h,if_pos h2]
theorem Er (h:¬sUn s=0)(h2:¬sSb s>1)(h3:(mL f y s).e≠0):dF f y s=nxE (mL f y s).e:=by
 exact Zm 0xe11f3ee
theorem Ep (h:¬sUn s=0)(h2:¬sSb s>1)(h3:(mL f y s).e=0)(h4:tJ f y s≥y.n):dF f y s=nxE 210:=by
 apply Y 0x3ee;rw [if_neg h,if_neg h2,if_neg (fun q=>q h3),if_pos h4]
theorem uA (h:¬sUn s=0)(h2:¬sSb s>1)(h3:(mL f y s).e=0)(h4:¬tJ f y s≥y.n)(h5:sSb s=1):dF f y s=cj f y (plF f y s (tJ f y s)) ((s.set 2 0).set 3 (mL f y s).at_):=by
 apply Y 0x3ee;rw [if_neg h,if_neg h2,if_neg (fun q=>q h3),if_neg h4,if_pos h5]
theorem Eo (h:¬sUn s=0)(h2:¬sSb s>1)(h3:(mL f y s).e=0)(h4:¬tJ f y s≥y.n)(h5:¬sSb s=1)(h6:vR (aV f (tJ f y s)) (mL f y s).b≠0):dF f y s=nxE (vR (aV f (tJ f y s)) (mL f y s).b):=by
 apply Y 0x3ee;rw [if_neg h,if_neg h2,if_neg (fun q=>q h3),if_neg h4,if_neg h5,if_pos h6]
theorem En (h:¬sUn s=0)(h2:¬sSb s>1)(h3:(mL f y s).e=0)(h4:¬tJ f y s≥y.n)(h5:¬sSb s=1)(h6:vR (aV f (tJ f y s)) (mL f y s).b=0):dF f y s=sgF f y s (pW (aV f (tJ f y s)) (mL f y s).b):=by
 apply Y 0x3ee;rw [if_neg h,if_neg h2,if_neg (fun q=>q h3),if_neg h4,if_neg h5,if_neg (fun q=>q h6)]
end
theorem vX (f:Fl)(a:Fa)(ok:f.Ok)(hh:a.hs.length=f.data.length)(y:Lay)(G U V:Option Addr)(gc uc vc:Nat)(hyn: -1000000≤y.n∧y.n≤1000000)(hyl:y.gs.length≤1000∧y.us.length≤1000∧y.ls.length≤1000)(hcap:Caps f a)(p0 p1 p2 p3 p4 p5 p6 p7 p8:Int)(hp:∀ x∈[p0,p1,p2,p3,p4,p5,p6,p7,p8],0≤x∧x≤4294967295)(p:Pln)(OA QA HA:Option Addr)(oc qc hc:Nat)(hpl:p.ops.length≤9223372036854775807∧p.seq.length≤1000000∧p.st.length≤1000000)(hfit:PlnFit f y p)(hlay:eT f y=true):
    Ctr X 49 [flV f a,.agg (List.toArray (di y G U V gc uc vc)),.agg (List.toArray [.int .i64 p0,.int .i64 p1,.int .i64 p2,.int .i64 p3,.int .i64 p4,.int .i64 p5,.int .i64 p6,.int .i64 p7,.int .i64 p8]),.agg (List.toArray [.int .i64 p.sz,.int .i64 p.n,.bool p.lf,.int .i64 p.inn,.int .i64 p.out,.slice OA p.ops.length oc,.slice QA p.seq.length qc,.slice HA p.st.length hc])] (flR f a++[Rd G (I64 y.gs),Rd U (I64 y.us),Rd V (I64 y.ls),Rd OA (ck p.ops),Rd QA (I64 p.seq),Rd HA (I64 p.st)]) [] (fun v R' H'=>∃ (O:Option Addr) (oc:Nat),v=.agg (List.toArray [.int .i64 (dw f y [p0,p1,p2,p3,p4,p5,p6,p7,p8] p).x.kind,.int .i64 (dw f y [p0,p1,p2,p3,p4,p5,p6,p7,p8] p).x.sec,.int .i64 (dw f y [p0,p1,p2,p3,p4,p5,p6,p7,p8] p).x.at_,.slice O (dw f y [p0,p1,p2,p3,p4,p5,p6,p7,p8] p).x.data.length oc,.bool (dw f y [p0,p1,p2,p3,p4,p5,p6,p7,p8] p).done,.int .i64 (dw f y [p0,p1,p2,p3,p4,p5,p6,p7,p8] p).e])∧R'=[Rd O (U8 (dw f y [p0,p1,p2,p3,p4,p5,p6,p7,p8] p).x.data)]∧H'=[]):=by
 apply Y 0xc1e;intro hok0;apply Y 0xc1e;intro hok;obtain ⟨os1,os2,on1,on2,owl,odl,orows,ol1,ol2,owear⟩:=ok;obtain ⟨_,hl38,hl1,hl2,hl3,hl4,hl5,hl6⟩:=cI.1 hlay;apply Y 0x57e;intro hp0;apply Y 0x67e;intro hp1;apply Y 0x77e;intro hp2;apply Y 0x87e;intro hp3;apply Y 0x97e;intro hp4;apply Y 0xa7e;intro hp5;apply Y 0xb7e;intro hp6;apply Y 0xc7e;intro hp7;apply Y 0xd7e;intro hp8;apply Y 0x4a0f;intro hu;refine co Tryz.func49 ?_;intro β;apply Y 0x6a;intro A4;apply Y 0x7b;intro A5;apply Y 0x7b;intro A6;apply Y 0x7b;intro A7;apply Y 0xa8;intro A8;apply Y 0xa8393f788c7c71ed1e45e26e6de900fcb;intro A9;apply Zu 0x2af83b58984c<;>intro hc21
 ·apply Y 0xae0f9e0f1c0f8cb2ecb9c48989c48;refine mq 3 rfl (ab (vs:=[.int .i64 4,.int .i64 0,.int .i64 p2,.int .i64 p3,.int .i64 p4,.int .i64 p5,.int .i64 p6,.int .i64 p7,.int .i64 p8]) rfl rfl rfl (Src.r 0 rfl) rfl rfl ob) ?_;apply Y 0x8ae694a887de3ae;refine b4 (js:=[]) (js':=[0]) (eJ f a hok hh y G U V gc uc vc hyn hyl hcap nxD none 0 [4,0,p2,p3,p4,p5,p6,p7,p8] rfl) rfl rfl rfl ob ⟨(Has.r 5 rfl),(Has.r 6 rfl),(Has.r 7 rfl),(Has.r 8 rfl),Has.nil,trivial⟩ rfl ?_;apply Y 0x19;intro TO tc;apply Zu 0x25ecc898afc6bbbe34a
  ·exact Zm 0x24f3f
  exact Zm 0x24f3f
 apply Zu 0x7913b5859<;>intro hc31
 ·apply Zu 0xedccb0e5b8b
  ·exact Zm 0x25f3f
  exact Zm 0x25f3f
 apply Y 0x162f;intro hq;have hrw:=orows (p.seq.getD p1.toNat 0).toNat oe;have hcp:=hcap (p.seq.getD p1.toNat 0).toNat oe;apply Y 0x3bf88d;refine sp (ae (k:=p1.toNat) rfl rfl rfl rfl rfl rfl oe oe (Src.r 12 rfl) ov) ?_;refine sp (Ev.load rfl rfl rfl (Src.r 12 rfl) (aG oe)) ?_;apply Zu 0x4d13b581<;>intro hc41
 ·apply Y 0x833fae0f9e0f1c0f8cb2ecb9c48989cdafa48;refine mq 3 rfl (ab (vs:=(di y G U V gc uc vc)) rfl rfl rfl (Src.r 3 rfl) rfl rfl ob) ?_;refine mq 4 rfl (ab (vs:=[.int .i64 p0,.int .i64 p1,.int .i64 p2,.int .i64 p3,.int .i64 p4,.int .i64 p5,.int .i64 p6,.int .i64 p7,.int .i64 p8]) rfl rfl rfl (Src.r 2 rfl) rfl rfl ob) ?_;apply Y 0xa6e;refine mq 7 rfl (ab (vs:=[.int .i64 p0,.int .i64 (p1+1),.int .i64 0,.int .i64 p3,.int .i64 p4,.int .i64 p5,.int .i64 p6,.int .i64 p7,.int .i64 p8]) rfl rfl rfl (Src.r 0 rfl) rfl rfl ob) ?_;apply Y 0xe4e;refine aL (nC f a hok hh y G U V gc uc vc hyn hyl hcap p0 p1 p2 p3 p4 p5 p6 p7 p8 hp (p.seq.getD p1.toNat 0) hlay) ?_;apply Y 0x19;intro XA xc;apply Y 0x17e694a;refine aL (eJ f a hok hh y G U V gc uc vc hyn hyl hcap (plF f y [p0,p1,p2,p3,p4,p5,p6,p7,p8] (p.seq.getD p1.toNat 0)) XA xc [p0,(p1+1),0,p3,p4,p5,p6,p7,p8] rfl) ?_;apply Y 0x19;intro TO tc;apply Zu 0x25ecc898afc6b9ae34a
  ·exact Zm 0x26f3f
  exact Zm 0x26f3f
 apply Y 0x3bf7e1c1feb1f8d;refine al (vx (f.size:Int) f.data a.hs hh a.D a.cD _ _ _ y.n y.ls V vc _ _ _ _ _ _ p.sz p.n p.lf p.inn p.out p.ops p.seq p.st OA QA HA oc qc hc hpl.1 hpl.2.1 hpl.2.2 p1 oe oe (fun i=>by have:=hok0.sm.r i;omega)) ?_;apply Y 0x19;intro CA cc;apply Zu 0xdd387871ed1e55d82870e<;>intro hc66
 ·apply Zu 0xedccb0e5bbab9
  ·exact Zm 0x27f3f
  exact Zm 0x27f3f
 have hcl:(p.cntV f y p1).length=f.size:=hfit.cnt hc66;apply Zu 0x4d1d5e73e5859<;>intro hc71
 ·apply Y 0x7493f830f630f48;refine aL (mY f a hok hh y G U V gc uc vc hyn hyl hcap p0 p1 p2 p3 p4 p5 p6 p7 p8 hp CA (p.cntV f y p1) cc obI hlay) ?_;apply Y 0x19;intro TO tc;apply Zu 0x25ecc895b2c
  ·exact Zm 0x28f3f
  exact Zm 0x28f3f
 apply Y 0x77ce5ceb959;refine sp (ae (k:=(p.seq.getD p1.toNat 0).toNat) rfl rfl rfl rfl rfl rfl oe oe (Src.r 5 rfl) ow) ?_;refine sp (Ev.load rfl rfl rfl (Src.r 5 rfl) (aN hh oe)) ?_;apply Y 0xba7;refine L.call (js:=[]) (js':=[0,1]) (u2 (p.seq.getD p1.toNat 0) (a.hs.getD (p.seq.getD p1.toNat 0).toNat (none,0)).1 CA (aV f (p.seq.getD p1.toNat 0)) (p.cntV f y p1) (a.hs.getD (p.seq.getD p1.toNat 0).toNat (none,0)).2 cc (by rw [show (aV f (p.seq.getD p1.toNat 0)).length=f.size from hrw];exact hcp) (by rw [show (aV f (p.seq.getD p1.toNat 0)).length=f.size from hrw];omega) obI) rfl rfl rfl ob ⟨((Has.kid 6 rfl oC ((p.seq.getD p1.toNat 0).toNat) oZ).cast (a7 _)),(Has.r 0 rfl),trivial⟩ rfl ?_;apply Y 0x19;intro RA rc;apply Y 0xcb48eb6e48d82870e;have hrl:=lE (p.seq.getD p1.toNat 0) (aV f (p.seq.getD p1.toNat 0)) (p.cntV f y p1);apply Y 0x29ecb48eb6eda282eeb6e78;intro hrc;apply Y 0x8c7c71eb00f;refine aE [_,_,_,_,_,_,_,_,_,_,_,_,_,_,_,_,_] (Hq [0,1,2,3,4,5,6,7,8,9,10,11,12,13,14,15,16] rfl) ?_;refine mq 0 rfl (ab (vs:=(flL f a)) rfl rfl rfl (Src.r 6 rfl) rfl rfl ob) ?_;refine mq 1 rfl (ab (vs:=(di y G U V gc uc vc)) rfl rfl rfl (Src.r 5 rfl) rfl rfl ob) ?_;refine mq 2 rfl (ab (vs:=(flL f a)) rfl rfl rfl (Src.r 6 rfl) rfl rfl ob) ?_;refine mq 3 rfl (ab (vs:=(di y G U V gc uc vc)) rfl rfl rfl (Src.r 5 rfl) rfl rfl ob) ?_;refine mq 4 rfl (faR 4) ?_;refine mq 5 rfl (ldR 4) ?_;apply Y 0x543f5ae;refine mq 9 rfl (ab (vs:=[.int .i64 p0,.int .i64 p1,.int .i64 1,.int .i64 (p3+((gI (p.seq.getD p1.toNat 0) (aV f (p.seq.getD p1.toNat 0)) (p.cntV f y p1)).length:Int)),.int .i64 p4,.int .i64 p5,.int .i64 p6,.int .i64 p7,.int .i64 p8]) rfl rfl rfl (Src.r 1 rfl) rfl rfl ob) ?_;apply Y 0x74e;refine aL (EI f a hok hh y.us U uc hu p3 (gI (p.seq.getD p1.toNat 0) (aV f (p.seq.getD p1.toNat 0)) (p.cntV f y p1)) RA rc oe hrc) ?_;apply Y 0x19;intro XA xc;apply Y 0xf6e694a;refine aL (eJ f a hok hh y G U V gc uc vc hyn hyl hcap (towS f y.us p3 (gI (p.seq.getD p1.toNat 0) (aV f (p.seq.getD p1.toNat 0)) (p.cntV f y p1))) XA xc [p0,p1,1,(p3+((gI (p.seq.getD p1.toNat 0) (aV f (p.seq.getD p1.toNat 0)) (p.cntV f y p1)).length:Int)),p4,p5,p6,p7,p8] rfl) ?_;apply Y 0x19;intro TO tc;apply Zu 0x25ecce88afc6b66e34a
 ·exact Zm 0x29f3f
 exact Zm 0x29f3f
theorem C5 (f:Fl)(a:Fa)(ok:f.Ok)(hh:a.hs.length=f.data.length)(y:Lay)(G U V:Option Addr)(gc uc vc:Nat)(hyn: -1000000≤y.n∧y.n≤1000000)(hyl:y.gs.length≤1000∧y.us.length≤1000∧y.ls.length≤1000)(hcap:Caps f a)(p0 p1 p2 p3 p4 p5 p6 p7 p8:Int)(hp:∀ x∈[p0,p1,p2,p3,p4,p5,p6,p7,p8],0≤x∧x≤4294967295)(hlay:eT f y=true):
    Ctr X 45 [flV f a,.agg (List.toArray (di y G U V gc uc vc)),.agg (List.toArray [.int .i64 p0,.int .i64 p1,.int .i64 p2,.int .i64 p3,.int .i64 p4,.int .i64 p5,.int .i64 p6,.int .i64 p7,.int .i64 p8])] (flR f a++[Rd G (I64 y.gs),Rd U (I64 y.us),Rd V (I64 y.ls)]) [] (fun v R' H'=>∃ (O:Option Addr) (oc:Nat),v=.agg (List.toArray [.int .i64 (dF f y [p0,p1,p2,p3,p4,p5,p6,p7,p8]).x.kind,.int .i64 (dF f y [p0,p1,p2,p3,p4,p5,p6,p7,p8]).x.sec,.int .i64 (dF f y [p0,p1,p2,p3,p4,p5,p6,p7,p8]).x.at_,.slice O (dF f y [p0,p1,p2,p3,p4,p5,p6,p7,p8]).x.data.length oc,.bool (dF f y [p0,p1,p2,p3,p4,p5,p6,p7,p8]).done,.int .i64 (dF f y [p0,p1,p2,p3,p4,p5,p6,p7,p8]).e])∧R'=[Rd O (U8 (dF f y [p0,p1,p2,p3,p4,p5,p6,p7,p8]).x.data)]∧H'=[]):=by
 apply Y 0xc1e;intro hok;obtain ⟨os1,os2,on1,on2,owl,odl,orows,ol1,ol2,owear⟩:=ok;obtain ⟨_,hl38,hl1,hl2,hl3,hl4,hl5,hl6⟩:=cI.1 hlay;apply Y 0x57e;intro hp0;apply Y 0x67e;intro hp1;apply Y 0x77e;intro hp2;apply Y 0x87e;intro hp3;apply Y 0x97e;intro hp4;apply Y 0xa7e;intro hp5;apply Y 0xb7e;intro hp6;apply Y 0xc7e;intro hp7;apply Y 0xd7e;intro hp8;apply Y 0x4a0f;intro hu;refine co Tryz.func45 ?_;intro β;apply Y 0x6a;intro A3;apply Y 0x7b;intro A4;apply Y 0x7b;intro A5;apply Y 0xa8;intro A6;apply Y 0xa8dde788c7c71ed1e45e26ecb;intro A7;apply Zu 0x4d1f858984c<;>intro hc15
 ·apply Y 0xe91f400f5;refine mq 1 rfl (ab (vs:=(di y G U V gc uc vc)) rfl rfl rfl (Src.r 1 rfl) rfl rfl ob) ?_;apply Y 0xba1f1f0ff20fbde;refine mq 7 rfl (faR 0) ?_;refine mq 8 rfl (ldR 0) ?_;refine mq 9 rfl (Ev.sub rfl rfl oe oe) ?_;refine mq 10 rfl (faR 0) ?_;refine mq 11 rfl (ldR 0) ?_;apply Y 0x2ae692c887de3aebe0f;refine b4 (js:=[]) (js':=[0,1]) (eJ f a hok hh y G U V gc uc vc hyn hyl hcap nxD none 0 [0,0,0,0,0,1-p5,p6,p8,p8] rfl) rfl rfl rfl ob ⟨(Has.r 3 rfl),(Has.r 4 rfl),(Has.r 5 rfl),(Has.r 6 rfl),Has.nil,trivial⟩ rfl ?_;apply Y 0x19;intro TO tc;apply Zu 0x25ecc898afc6bf2e32c
  ·exact Zm 0x29b3f
  exact Zm 0x29b3f
 apply Zu 0x791f85859<;>intro hc32
 ·apply Zu 0xedccb0e5b8b
  ·exact Zm 0x2ab3f
  exact Zm 0x2ab3f
 apply Y 0xf8730f530f8d;refine aL (Cn f a hok hh y.us U uc hu p3) ?_;apply Y 0x19;intro LA lc;apply Y 0xa82c;intro A8;apply Zu 0xdd1f87871eb00f5cba3e<;>intro hc41
 ·apply Zu 0xedccb0e5bbaf848
  ·exact Zm 0x2bb3f
  exact Zm 0x2bb3f
 have hlf:=nF (show (aW (aI f y.us) (f.size:Int) p3).e=0 from hc41);replace hlf:5≤(aW (aI f y.us) (f.size:Int) p3).b.length∧(aW (aI f y.us) (f.size:Int) p3).b.length≤65535:=hlf;apply Y 0xf88d;refine sp (ae (k:=0) rfl rfl rfl rfl rfl rfl rfl oe (Src.r 1 rfl) oG) ?_;apply Zu 0x7916ceb9e75811bedb1f<;>intro hc53
 ·apply Zu 0xedccb0e5b8b
  ·exact Zm 0x2cb3f
  exact Zm 0x2cb3f
 apply Y 0x7f1f;intro hrw;apply Zu 0x4d1d5e73e5859<;>intro hc57
 ·apply Y 0x933fc60fb60f8c2f8cb2ecb9cf848989c48;refine mq 3 rfl (ab (vs:=(di y G U V gc uc vc)) rfl rfl rfl (Src.r 4 rfl) rfl rfl ob) ?_;refine mq 4 rfl (ab (vs:=[.int .i64 p0,.int .i64 p1,.int .i64 p2,.int .i64 p3,.int .i64 p4,.int .i64 p5,.int .i64 p6,.int .i64 p7,.int .i64 p8]) rfl rfl rfl (Src.r 3 rfl) rfl rfl ob) ?_;apply Y 0xa6e;refine mq 7 rfl (ab (vs:=[.int .i64 p0,.int .i64 p1,.int .i64 0,.int .i64 (aW (aI f y.us) (f.size:Int) p3).at_,.int .i64 p4,.int .i64 p5,.int .i64 p6,.int .i64 p7,.int .i64 p8]) rfl rfl rfl (Src.r 0 rfl) rfl rfl ob) ?_;apply Y 0xe4e;refine aL (nC f a hok hh y G U V gc uc vc hyn hyl hcap p0 p1 p2 p3 p4 p5 p6 p7 p8 hp ((((aW (aI f y.us) (f.size:Int) p3).b.getD 0 0).toNat:Nat):Int) hlay) ?_;apply Y 0x19;intro XA xc;apply Y 0x17e694a;refine aL (eJ f a hok hh y G U V gc uc vc hyn hyl hcap (plF f y [p0,p1,p2,p3,p4,p5,p6,p7,p8] ((((aW (aI f y.us) (f.size:Int) p3).b.getD 0 0).toNat:Nat):Int)) XA xc [p0,p1,0,(aW (aI f y.us) (f.size:Int) p3).at_,p4,p5,p6,p7,p8] rfl) ?_;apply Y 0x19;intro TO tc;apply Zu 0x25ecc898afc6b9ae34a
  ·exact Zm 0x2db3f
  exact Zm 0x2db3f
 apply Y 0x9c2fbd;refine mq 0 rfl (faR 4) ?_;refine mq 1 rfl (ldR 4) ?_;apply Y 0x9de;refine mq 3 rfl (ae (k:=((aW (aI f y.us) (f.size:Int) p3).b.getD 0 0).toNat) rfl rfl rfl rfl rfl rfl rfl oe (Src.r 5 rfl) ow) ?_;refine mq 4 rfl (Ev.load rfl rfl rfl (Src.r 5 rfl) (aN hh oe)) ?_;apply Y 0xf3eba1f1f0f;refine L.call (js:=[]) (js':=[0,1]) (pU (a.hs.getD ((aW (aI f y.us) (f.size:Int) p3).b.getD 0 0).toNat (none,0)).1 LA (aV f ((((aW (aI f y.us) (f.size:Int) p3).b.getD 0 0).toNat:Nat):Int)) (aW (aI f y.us) (f.size:Int) p3).b (a.hs.getD ((aW (aI f y.us) (f.size:Int) p3).b.getD 0 0).toNat (none,0)).2 lc qq oe) rfl rfl rfl ob ⟨((Has.kid 6 rfl oC (((aW (aI f y.us) (f.size:Int) p3).b.getD 0 0).toNat) oZ).cast (a7 _)),(Has.r 1 rfl),trivial⟩ rfl ?_;apply Y 0x19;intro CA cc;apply Zu 0xdd387871ed1e558a5c68e3766eaf2f481f381f6970e<;>intro hc83
 ·apply Zu 0xedccb0e5bbab9
  ·exact Zm 0x2eb3f
  exact Zm 0x2eb3f
 apply Y 0x701f601f8d;refine sp (ab (vs:=[.int .i64 p0,.int .i64 p1,.int .i64 p2,.int .i64 p3,.int .i64 p4,.int .i64 p5,.int .i64 p6,.int .i64 p7,.int .i64 p8]) rfl rfl rfl (Src.r 3 rfl) rfl rfl ob) ?_;apply Y 0x7;refine aL (mY f a hok hh y G U V gc uc vc hyn hyl hcap p0 p1 p2 p3 p4 p5 p6 p7 p8 hp CA (pW (aV f ((((aW (aI f y.us) (f.size:Int) p3).b.getD 0 0).toNat:Nat):Int)) (aW (aI f y.us) (f.size:Int) p3).b) cc (by have:=pV (aV f ((((aW (aI f y.us) (f.size:Int) p3).b.getD 0 0).toNat:Nat):Int)) (aW (aI f y.us) (f.size:Int) p3).b;rw [show (aV f ((((aW (aI f y.us) (f.size:Int) p3).b.getD 0 0).toNat:Nat):Int)).length=f.size from hrw] at this;omega) hlay) ?_;apply Y 0x19;intro TO tc;apply Zu 0x25ecce85b2c
 ·exact Zm 0x2fb3f
 exact Zm 0x2fb3f
end Go.Proofs.YtbpddeiogcgegaaGreat
