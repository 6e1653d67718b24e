/-
  Part of a proof.
-/
import Derived.Test.YtbpddeiogcgegaaGreatUWJoL
set_option maxHeartbeats 0
set_option maxRecDepth 4000
set_option linter.all false
section
namespace Go.Sl
structure RunK (f g:Fl)(w:Nat):Prop where
  ok:g.Ok
  n:g.data.length=f.data.length
  s:g.size=f.size
  l:g.limit=f.limit
  d:g.dead=f.dead
  w:∀ i,g.wear.getD i 0≤f.wear.getD i 0+(w:Int)
theorem RunK.refl {f:Fl}(ok:f.Ok)(w:Nat):RunK f f w:=⟨ok,rfl,rfl,rfl,rfl,fun i=>by omega⟩
namespace Raw
variable (x:Raw)
theorem live (i:Nat):x.fl.dead.getD i false=false:=by
 rw [x.fl_fresh.d];apply Y 0xcf3f
 by_cases hi:i<x.n+x.more
 ·exact Zm 0xb80f
 exact Zm 0xa80f
theorem wear_le (i:Nat):x.fl.wear.getD i 0≤1:=by
 have h:=x.fl_fresh.w i;have e:x.fl0.wear.getD i 0=0:=by
  apply Y 0xbf3f
  by_cases hi:i<x.n+x.more
  ·exact Zm 0xb80f
  exact Zm 0xa80f
 exact Zm 0x18
theorem fresh_of {g:Fl}{w:Nat}(K:RunK x.fl g w)(hw:w≤90000){s:List Int}(hs:aY s=true):(bH g (x.n:Int) ((x.n:Int)+1) s).2=0∧Fresh g (x.n:Int) ((x.n:Int)+1) s (bH g (x.n:Int) ((x.n:Int)+1) s).1:=by
 have hl:g.limit=100000:=K.l.trans x.fl_fresh.l;have hwe:∀ i,g.wear.getD i 0<g.limit:=fun i=>by
  have h1:=K.w i;have h2:=x.wear_le i;rw [hl];exact Zm 0x18
 apply Y 0x7be;intro h1;apply Y 0x8be;intro h2;apply Y 0x740f;intro h3;have h4:=K.n.trans x.fl_len;have h5:=K.s.trans x.fl_size
 exact gU K.ok (decide_eq_true ⟨by omega,by omega,by omega,by rw [h4];omega,by rw [h4];omega,by omega⟩) hs ⟨by rw [K.d];exact x.live _,by rw [K.d];exact x.live _⟩ ⟨hwe _,hwe _⟩
end Raw
end Go.Sl
end
namespace Go.Proofs.YtbpddeiogcgegaaGreat
open Go.Sl
theorem dD (x:Raw):x.lay.gs.length≤1000∧x.lay.us.length≤1000∧x.lay.ls.length≤1000:=by
 apply Y 0x840f;intro h2;apply Y 0xaa0f;intro h3;apply Y 0x940f;intro h4;refine ⟨?_,?_,?_⟩
 ·apply Y 0xfd1f;rw [dY];exact Zm 0x18
 ·apply Y 0xfd1f;rw [dY];exact Zm 0x18
 apply Y 0xfd1f;rw [dY];exact Zm 0x18
theorem kD (x:Raw):x.pkg.pl.ops.length≤9223372036854775807∧x.pkg.pl.seq.length≤1000000∧x.pkg.pl.st.length≤1000000:=by
 have h1:=x.ops_len;have h2:=x.seq_len;apply Y 0x940f;intro h3;refine ⟨?_,?_,?_⟩
 ·show x.ops.length≤_;exact Zm 0x18
 ·show x.seq.length≤_;exact Zm 0x18
 show x.st.length≤_;exact Zm 0x18
def x0:Raw:=⟨[(0,3,9)],0,0,0,0,[]⟩
def blk:Fl:=⟨40,flD [] 40 12 12,List.replicate 12 0,1000,List.replicate 12 false⟩
def y00:Lay:=⟨0,0,0,0,0,[],[],[]⟩
theorem Rv:((bJ x0.fl x0.lay x0.pkg true).e,(bJ x0.fl x0.lay x0.pkg true).done,(bJ x0.fl x0.lay x0.pkg true).x.kind)=(0,false,2):=oa
theorem Ru:(bJ x0.fl x0.lay x0.pkg true).e=0∧(bJ x0.fl x0.lay x0.pkg true).done=false∧(bJ x0.fl x0.lay x0.pkg true).x.kind=2:=by
 have h:=Rv
 simp only [Prod.mk.injEq] at h;exact Zm 0xc2e
theorem Rt:(bJ x0.fl x0.lay x0.pkg false).e=240:=oa
theorem Rr:(bJ x0.fl y00 x0.pkg true).e=220:=oa
theorem Rq:(bJ blk x0.lay x0.pkg true).e=200:=oa
theorem I5:blk.Ok:=of_decide_eq_true oa
theorem Bk (r s:Nx)(A B:Option Addr)(c d:Nat)(hr:r.x.data.length≤9223372036854775807)(hs:s.x.data.length≤9223372036854775807):
    Ctr X 17 [.agg (List.toArray [.int .i64 r.x.kind,.int .i64 r.x.sec,.int .i64 r.x.at_,.slice A r.x.data.length c,.bool r.done,.int .i64 r.e]),.agg (List.toArray [.int .i64 s.x.kind,.int .i64 s.x.sec,.int .i64 s.x.at_,.slice B s.x.data.length d,.bool s.done,.int .i64 s.e])] [Rd A (U8 r.x.data),Rd B (U8 s.x.data)] [] (fun v R' H'=>v=.bool (decide (r=s))∧R'=[]∧H'=[]):=by
 refine co Tryz.func17 ?_;intro β;apply Y 0x6a;intro A2;apply Y 0x7b;intro A3;apply Y 0x63e21ef4e80edb7c49;refine al (EY r.x s.x A B c d hr hs) ?_;apply Zu 0x8c0f788<;>intro hg10
 ·apply Y 0x4eba1e480e4;refine sp (pD rfl rfl rfl rfl) ?_;apply Y 0x28;refine L.bool 17 rfl (imp eq_of_beq ?_) ?_<;>intro hg17
  ·apply Y 0xecd9d84eba1e480e4
   exact Nx.beq hg10 hg17
  replace hg17:r.done≠s.done:=obw;exact Zm 0x8a2fecd938ea
 exact Zm 0x7a2fecd938ea28ea
theorem Ch (f:Fl)(a:Fa)(ok:f.Ok)(hh:a.hs.length=f.data.length)(y:Lay)(G U V:Option Addr)(gc uc vc:Nat)(hyn: -1000000≤y.n∧y.n≤1000000)(hyl:y.gs.length≤1000∧y.us.length≤1000∧y.ls.length≤1000)(hcap:Caps f a)(k:Pkg)(rv:Value)(h:Bool)(OA QA HA:Option Addr)(oc qc hc:Nat)(hpl:k.pl.ops.length≤9223372036854775807∧k.pl.seq.length≤1000000∧k.pl.st.length≤1000000)(hvc:y.ls.length≤vc):
    Ctr X 18 [flV f a,.agg (List.toArray (di y G U V gc uc vc)),.agg (List.toArray [.int .i64 k.ver,.int .i64 k.frm,.int .i64 k.pl.sz,.int .i64 k.pl.n,.bool k.pl.lf,.int .i64 k.pl.inn,.int .i64 k.pl.out,.slice OA k.pl.ops.length oc,.slice QA k.pl.seq.length qc,.slice HA k.pl.st.length hc,rv,.bool h])] (flR f a++[Rd G (I64 y.gs),Rd U (I64 y.us),Rd V (I64 y.ls),Rd OA (ck k.pl.ops),Rd QA (I64 k.pl.seq),Rd HA (I64 k.pl.st)]) [] (fun v R' H'=>∃ (O:Option Addr) (oc:Nat),v=.agg (List.toArray [.int .i64 (bJ f y k h).x.kind,.int .i64 (bJ f y k h).x.sec,.int .i64 (bJ f y k h).x.at_,.slice O (bJ f y k h).x.data.length oc,.bool (bJ f y k h).done,.int .i64 (bJ f y k h).e])∧R'=[Rd O (U8 (bJ f y k h).x.data)]∧H'=[]):=by
 apply Y 0xc1e;intro hok;refine co Tryz.func18 ?_;intro β;apply Y 0x6a;intro A3;apply Y 0x7b;intro A4;apply Y 0x7b;intro A5;apply Y 0xa8;intro A6;apply Y 0x21e730f530f788c7c71ed1e45e26ecb;refine sp (ab (vs:=[_,_,_,_,_,_,_,_,_,_,_]) rfl rfl rfl (Src.r 0 rfl) rfl rfl ob) ?_;apply Y 0xf8;refine aL (eP f a ok hh y G U V gc uc vc hyn hyl hcap k rv h OA QA HA oc qc hc hpl hvc) ?_;apply Y 0x19;intro XA xc;apply Y 0xa828284a;intro A7;apply Y 0xe85bba2898e788cb2e5384c;refine qrt [1] [] [_] rfl ⟨⟨_,_,0,_,rfl,rfl,Src.o 0 rfl,.inl ⟨rfl,by decide,_,rfl,rfl,rfl⟩⟩,trivial⟩ ?_;exact ⟨XA,xc,rfl,rfl,rfl⟩
theorem Br (f:Fl)(a:Fa)(y:Lay)(G U V:Option Addr)(gc uc vc:Nat)(k:Pkg)(rv:Value)(h:Bool)(OA QA HA:Option Addr)(oc qc hc:Nat):
    Ctr X 35 [flV f a,.agg (List.toArray (di y G U V gc uc vc)),.agg (List.toArray [.int .i64 k.ver,.int .i64 k.frm,.int .i64 k.pl.sz,.int .i64 k.pl.n,.bool k.pl.lf,.int .i64 k.pl.inn,.int .i64 k.pl.out,.slice OA k.pl.ops.length oc,.slice QA k.pl.seq.length qc,.slice HA k.pl.st.length hc,rv]),.bool h,.int .i64 (-1)] [] [] (fun v R' H'=>v=.tuple #[flV f a,.int .i64 0,.int .i64 1]∧R'=[]∧H'=[]):=by
 refine co Tryz.func35 ?_;intro β;apply Y 0x6a;intro A5;apply Y 0x7b;intro A6;apply Y 0x7b;intro A7;apply Y 0xa8;intro A10;apply Zu 0x2a5838<;>intro hc19
 ·apply Y 0x48;refine sp (ab (vs:=(flL f a)) rfl rfl rfl (Src.o 0 rfl) rfl rfl ob) ?_;apply Y 0x893856e;refine qrt [] [] [_,_,_] rfl ⟨⟨_,_,0,_,rfl,rfl,Src.o 3 rfl,.inl ⟨rfl,by decide,_,rfl,rfl,rfl⟩⟩,rfl,rfl,trivial⟩ ?_;exact Zm 0x33e
 exact (hc19 ob).elim
theorem uV :
    Ctr X 12 [] [] [] (fun v R' H'=>v=.bool true∧R'=[]∧H'=[]):=by
 refine co Tryz.func12 ?_;intro β;apply Y 0xbf0f481a;refine mI (cs:=[.int .u8 0,.int .u8 3,.int .u8 9]) rfl rfl rfl rfl (Nat.zero_lt_succ _) rfl rfl rfl (fun A19=>?_);apply Y 0x520fba;refine b4 (js:=[]) (js':=[]) (zM x0 A19 none 1 0 ob ob) rfl rfl rfl ob ⟨(Has.r 0 rfl),Has.nil,trivial⟩ rfl ?_;apply Y 0xc92f;intro c hcb hcc hcv hcu;obtain ⟨x,hx⟩:∃ x,x=x0:=⟨_,rfl⟩;rw [← hx] at hcb hcc hcv ⊢;apply Y 0xa8;intro A1;apply Y 0x21edb55b;refine sp (ab (vs:=(flL x.fl c.b)) rfl rfl rfl (Src.r 0 rfl) rfl rfl ob) ?_;apply Y 0x21e;refine sp (ab (vs:=(di x.lay c.G c.U c.V c.gc c.uc c.vc)) rfl rfl rfl (Src.r 0 rfl) rfl rfl ob) ?_;apply Y 0x21e21e;refine sp (ab (vs:=(.int .i64 5::.int .i64 4::.int .i64 (x.S:Int)::.int .i64 (x.n:Int)::.bool false::.int .i64 (x.m:Int)::.int .i64 (x.m:Int)::.slice c.O x.ops.length c.oc::.slice c.Q x.seq.length c.qc::.slice c.H x.st.length c.hc::.slice none 0 0::[])) rfl rfl rfl (Src.r 0 rfl) rfl rfl ob) ?_;refine b4 (js:=[]) (js':=[]) (eP x.fl c.b x.fl_ok hcb x.lay c.G c.U c.V c.gc c.uc c.vc OQ (dD x) hcc x.pkg (.slice none 0 0) true c.O c.Q c.H c.oc c.qc c.hc (kD x) hcv) rfl rfl rfl ob (Hq [1,2,3,4,5,6,7,8,9,10] rfl) rfl ?_;apply Y 0x19;intro XA1 xc1;have h1:(bJ x.fl x.lay x.pkg true).e=0∧(bJ x.fl x.lay x.pkg true).done=false∧(bJ x.fl x.lay x.pkg true).x.kind=2:=by rw [hx];exact Ru
 apply Y 0xa82828;intro A2;apply Y 0x73edb5386b;refine sp (ab (vs:=(flL x.fl c.b)) rfl rfl rfl (Src.r 2 rfl) rfl rfl ob) ?_;apply Y 0x73e;refine sp (ab (vs:=(di x.lay c.G c.U c.V c.gc c.uc c.vc)) rfl rfl rfl (Src.r 2 rfl) rfl rfl ob) ?_;apply Y 0x73e73e;refine sp (ab (vs:=(.int .i64 5::.int .i64 4::.int .i64 (x.S:Int)::.int .i64 (x.n:Int)::.bool false::.int .i64 (x.m:Int)::.int .i64 (x.m:Int)::.slice c.O x.ops.length c.oc::.slice c.Q x.seq.length c.qc::.slice c.H x.st.length c.hc::.slice none 0 0::[])) rfl rfl rfl (Src.r 2 rfl) rfl rfl ob) ?_;refine b4 (js:=[]) (js':=[]) (eP x.fl c.b x.fl_ok hcb x.lay c.G c.U c.V c.gc c.uc c.vc OQ (dD x) hcc x.pkg (.slice none 0 0) false c.O c.Q c.H c.oc c.qc c.hc (kD x) hcv) rfl rfl rfl ob (Hq [3,4,5,6,7,8,9,10,11,12] rfl) rfl ?_;apply Y 0x19;intro XA2 xc2;have h2:(bJ x.fl x.lay x.pkg false).e=240:=by rw [hx];exact Rt
 apply Y 0xa82828;intro A5;apply Y 0xb9e48386b;refine sp (ab (vs:=(flL x.fl c.b)) rfl rfl rfl (Src.r 3 rfl) rfl rfl ob) ?_;apply Y 0xb9eb9eba;refine sp (ab (vs:=(.int .i64 5::.int .i64 4::.int .i64 (x.S:Int)::.int .i64 (x.n:Int)::.bool false::.int .i64 (x.m:Int)::.int .i64 (x.m:Int)::.slice c.O x.ops.length c.oc::.slice c.Q x.seq.length c.qc::.slice c.H x.st.length c.hc::.slice none 0 0::[])) rfl rfl rfl (Src.r 3 rfl) rfl rfl ob) ?_;refine b4 (js:=[]) (js':=[0]) (eP x.fl c.b x.fl_ok hcb y00 none none none 0 0 0 ob ob hcc x.pkg (.slice none 0 0) true c.O c.Q c.H c.oc c.qc c.hc (kD x) (Nat.le_refl _)) rfl rfl rfl ob ⟨(Has.r 4 rfl),(Has.r 5 rfl),(Has.r 6 rfl),(Has.r 7 rfl),Has.nil,Has.nil,Has.nil,(Has.r 11 rfl),(Has.r 12 rfl),(Has.r 13 rfl),trivial⟩ rfl ?_;apply Y 0x19;intro XA3 xc3;have h3:(bJ x.fl y00 x.pkg true).e=220:=by rw [hx];exact Rr
 apply Y 0xa828284a;intro A8;apply Y 0x48384c;refine L.call (js:=[]) (js':=[0,1]) (nQ none [] 0 40 12 0 ob ob ob ob ob) rfl rfl rfl ob ⟨Has.nil,trivial⟩ rfl ?_;apply Y 0xa40f;intro fb hfl;apply Y 0xec0f;intro hkc;apply Y 0xdc0f;intro hkD;have hfb:fb.hs.length=blk.data.length:=hfl;have hfc:Caps blk fb:=⟨fun i hi=>by
  have hi2:i<12:=hi;have h1:=hkc i obm;rw [Raw.flD_get _ _ _ _ hi2,dO] at h1
  exact h1,hkD⟩
 refine lnr [_,_,_,_,_,_] [0,1,2,3,4,5] ?_;apply Y 0xa8;intro A11;apply Y 0xcb2d0f;refine cfz 0 [1,2,3,4,5,6] ?_;refine cnr [_,_,_,_,_,_] [0,1,2,3,4,5] ?_;refine C.freezeKids 0 rfl [1,2,3,4,5] ob ob ?_;apply Y 0x7871eb00f45e26e6de900f6e0f;refine sp (ab (vs:=(flL blk fb)) rfl rfl rfl (Src.r 0 rfl) rfl rfl ob) ?_;refine sp (faR 9) ?_;refine sp (ab (vs:=(di x.lay c.G c.U c.V c.gc c.uc c.vc)) rfl rfl rfl (Src.r 9 rfl) rfl rfl ob) ?_;refine sp (faR 9) ?_;refine sp (faR 9) ?_;refine sp (ab (vs:=(.int .i64 5::.int .i64 4::.int .i64 (x.S:Int)::.int .i64 (x.n:Int)::.bool false::.int .i64 (x.m:Int)::.int .i64 (x.m:Int)::.slice c.O x.ops.length c.oc::.slice c.Q x.seq.length c.qc::.slice c.H x.st.length c.hc::.slice none 0 0::[])) rfl rfl rfl (Src.r 9 rfl) rfl rfl ob) ?_;refine b4 (js:=[]) (js':=[0,1]) (eP blk fb I5 hfb x.lay c.G c.U c.V c.gc c.uc c.vc OQ (dD x) hfc x.pkg (.slice none 0 0) true c.O c.Q c.H c.oc c.qc c.hc (kD x) hcv) rfl rfl rfl ob (Hq [4,3,2,1,14,15,16,17,18,19] rfl) rfl ?_;apply Y 0x19;intro XA4 xc4;have h4:(bJ blk x.lay x.pkg true).e=200:=by rw [hx];exact Rq
 apply Y 0xa828282c;intro A12;apply Y 0xfdefdefb1ffdef83ffde4838a3e;refine sp (ab (vs:=(.int .i64 5::.int .i64 4::.int .i64 (x.S:Int)::.int .i64 (x.n:Int)::.bool false::.int .i64 (x.m:Int)::.int .i64 (x.m:Int)::.slice c.O x.ops.length c.oc::.slice c.Q x.seq.length c.qc::.slice c.H x.st.length c.hc::.slice none 0 0::[])) rfl rfl rfl (Src.r 10 rfl) rfl rfl ob) ?_;refine al (Br x.fl c.b x.lay c.G c.U c.V c.gc c.uc c.vc x.pkg (.slice none 0 0) true c.O c.Q c.H c.oc c.qc c.hc) ?_;apply Y 0xa8282870e88;intro A15;apply Y 0xb8483856e;refine L.bool 83 rfl (imp fA ?_) (imp fz ?_)<;>intro hg83
 ·apply Y 0xb8f9;refine L.bool 87 rfl ?_ ?_<;>intro hg87
  ·apply Y 0x4;refine sp (faR 8) ?_;apply Y 0x4;refine sp (ldR 8) ?_;apply Y 0xb84;refine L.bool 92 rfl (imp fA ?_) (imp fz ?_)<;>intro hg92
   ·apply Y 0xb8f9;refine L.bool 96 rfl (imp fA ?_) (imp fz ?_)<;>intro hg96
    ·apply Y 0xb8f9;refine L.bool 100 rfl (imp fA ?_) (imp fz ?_)<;>intro hg100
     ·apply Y 0xb8f9;refine L.bool 104 rfl (imp fA ?_) (imp fz ?_)<;>intro hg104
      ·apply Y 0xb8f9;refine L.bool 108 rfl (imp fA ?_) (imp fz ?_)<;>intro hg108
       ·apply Y 0xb8f9;refine L.bool 112 rfl (imp fA ?_) (imp fz ?_)<;>intro hg112
        ·apply Y 0x4fb1f4fde4f83f4fde4;refine L.call (js:=[]) (js':=[0,1,2,3]) (Am true (fh (x.fl.size:Int) x.fl c.b hcb (by have:=x.fl_ok.n2;omega) x.lay c.G c.U c.V c.gc c.uc c.vc OQ (dD x)) (by rw [rI x.fl_ok];exact x.lay_ok)) rfl rfl rfl ob (Hq [11,12,13,14,15,16,17] rfl) rfl ?_;apply Y 0x4fb1f4fde4ba4288de88;refine L.call (js:=[]) (js':=[0,1,2,3]) (Am false (fh 0 flz az rfl ob x.lay c.G c.U c.V c.gc c.uc c.vc OQ (dD x)) (eS (fun q=>by have:=q.2.1;omega))) rfl rfl rfl ob ⟨Has.nil,Has.kids0,Has.nil,Has.nil,(Has.r 15 rfl),(Has.r 16 rfl),(Has.r 17 rfl),trivial⟩ rfl ?_;exact Zm 0x33ed9d848de88
        exact (hg112 rfl).elim
       exact (hg108 rfl).elim
      exact (hg104 h4).elim
     exact (hg100 h3).elim
    exact (hg96 h2).elim
   exact (hg92 h1.2.2).elim
  rw [h1.2.1] at hg87
  cases hg87
 exact (hg83 h1.1).elim
end Go.Proofs.YtbpddeiogcgegaaGreat
namespace Go.Sl
structure Brk where
  a:UInt8
  M:Option Addr
  mc:Nat
  k:List UInt8
def Brk.zero:Brk:=⟨0,none,0,[]⟩
def Brk.cells (x:Brk):List Value:=[.int .u8 (x.a.toNat:Int),.slice x.M x.k.length x.mc]
end Go.Sl
section
namespace Go.Sl
theorem E7 {l:List Int}(h:∀ k,k<9→0≤l.getD k 0∧l.getD k 0<(256^wds.getD k 0:Nat)):aY l=true:=by
 unfold aY eg;apply Y 0xf01f;intro k hk
 unfold CG
 exact decide_eq_true (h k (List.mem_range.1 hk))
theorem pA {R H:List Pr}{A:Option Addr}{l:List Int}(h:Has R H (Rd A (I64 l)))(m:Nat):Has R H (Rd A (I64 (l.take m))):=by
 have e:I64 (l.take m)=(I64 l).take m:=by unfold I64;exact List.map_take ..
 rw [e]
 exact Has.take h m
namespace Raw
variable (x:Raw)
def sO (s:List UInt8):List Int:=[(((s.getD 0 0).toNat%9:Nat):Int),(((s.getD 1 0).toNat%8:Nat):Int),(((s.getD 2 0).toNat%4:Nat):Int),(((s.getD 3 0).toNat:Nat):Int),(((s.getD 4 0).toNat%4:Nat):Int),(((s.getD 5 0).toNat%2:Nat):Int),(((s.getD 6 0).toNat%3:Nat):Int),((4+(s.getD 7 0).toNat%2:Nat):Int),4]
theorem Bm (s:List UInt8):aY (sO s)=true:=by
 refine E7 fun k hk=>?_
 have h3:(s.getD 3 0).toNat<256:=UInt8.toNat_lt _
 match k,hk with
 |0,_=>exact (show 0≤(((s.getD 0 0).toNat%9:Nat):Int)∧(((s.getD 0 0).toNat%9:Nat):Int)<256 by omega)
 |1,_=>exact (show 0≤(((s.getD 1 0).toNat%8:Nat):Int)∧(((s.getD 1 0).toNat%8:Nat):Int)<65536 by omega)
 |2,_=>exact (show 0≤(((s.getD 2 0).toNat%4:Nat):Int)∧(((s.getD 2 0).toNat%4:Nat):Int)<256 by omega)
 |3,_=>exact (show 0≤(((s.getD 3 0).toNat:Nat):Int)∧(((s.getD 3 0).toNat:Nat):Int)<4294967296 by omega)
 |4,_=>exact (show 0≤(((s.getD 4 0).toNat%4:Nat):Int)∧(((s.getD 4 0).toNat%4:Nat):Int)<256 by omega)
 |5,_=>exact (show 0≤(((s.getD 5 0).toNat%2:Nat):Int)∧(((s.getD 5 0).toNat%2:Nat):Int)<256 by omega)
 |6,_=>exact (show 0≤(((s.getD 6 0).toNat%3:Nat):Int)∧(((s.getD 6 0).toNat%3:Nat):Int)<256 by omega)
 |7,_=>exact (show 0≤((4+(s.getD 7 0).toNat%2:Nat):Int)∧((4+(s.getD 7 0).toNat%2:Nat):Int)<65536 by omega)
 |8,_=>exact (show 0≤(4:Int)∧(4:Int)<65536 by decide)
def flO (s:List UInt8):Fl:=(bH x.fl (x.n:Int) ((x.n:Int)+1) (sO s)).1
theorem flO_ok (s:List UInt8):(x.flO s).Ok:=(x.fresh_of (RunK.refl x.fl_ok 0) (Nat.zero_le _) (Bm s)).2.ok
end Raw
end Go.Sl
end
namespace Go.Proofs.YtbpddeiogcgegaaGreat
open Go.Sl
theorem IU (x:Raw)(LA XO:Option Addr)(lc xoc:Nat)(hl:x.l.length≤9223372036854775807)(hol:x.old.length≤9223372036854775807)(s:List UInt8)(w0 w1 w2 w3:UInt8):
    Ctr X 4 [.agg (List.toArray [.slice LA x.l.length lc,.int .u8 (x.w0.toNat:Int),.int .u8 (x.w1.toNat:Int),.int .u8 (x.w2.toNat:Int),.int .u8 (x.w3.toNat:Int),.slice XO x.old.length xoc]),.agg (List.toArray [.int .u8 ((s.getD 0 0).toNat:Int),.int .u8 ((s.getD 1 0).toNat:Int),.int .u8 ((s.getD 2 0).toNat:Int),.int .u8 ((s.getD 3 0).toNat:Int),.int .u8 ((s.getD 4 0).toNat:Int),.int .u8 ((s.getD 5 0).toNat:Int),.int .u8 ((s.getD 6 0).toNat:Int),.int .u8 ((s.getD 7 0).toNat:Int),.int .u8 ((s.getD 8 0).toNat:Int),.int .u8 (w0.toNat:Int),.int .u8 (w1.toNat:Int),.int .u8 (w2.toNat:Int),.int .u8 (w3.toNat:Int)])] [Rd LA (pI x.l),Rd XO (U8 x.old)] [] (fun v R' H'=>v=.bool true∧R'=[]∧H'=[]):=by
 apply Y 0x7be;intro hS;apply Y 0x8be;intro hn;have hln:x.lay.n=(x.n:Int):=rfl;have hll:=dD x;have hls:x.lay.ls.length≤16:=by rw [show x.lay.ls.length=x.st.length from dY _ _];exact x.st_len
 have hyn0: -1000000≤x.lay.n∧x.lay.n≤1000000:=oe;refine co Tryz.func4 ?_;intro β;apply Y 0x6a;intro A2;apply Y 0x7b;intro A3;apply Y 0xdb8c7c49;refine al (uV) ?_;apply Y 0xa30f48188;refine aL (zM x LA XO lc xoc hl hol) ?_;apply Y 0xc92f;intro c hcb hcc hcv hcu;apply Y 0xa8;intro A6;apply Y 0x4cedb55b;refine sp (av (k:=0) (m:=0) rfl rfl rfl rfl rfl rfl ob (Src.r 13 rfl) (Nat.zero_lt_succ _) rfl) ?_;apply Y 0x3fe;refine sp (Ev.cast (u:=.int .u8 ((((s.getD 0 0).toNat%9):Nat):Int)) (Ev.rem rfl rfl oe ob) (congrArg (Value.int .u8) OK)) ?_;apply Y 0x4cea8e;refine sp (av (k:=1) (m:=1) rfl rfl rfl rfl rfl rfl ob (Src.r 13 rfl) (Nat.zero_lt_succ _) rfl) ?_;apply Y 0x3fe;refine sp (Ev.cast (u:=.int .u8 ((((s.getD 1 0).toNat%8):Nat):Int)) (Ev.rem rfl rfl oe ob) (congrArg (Value.int .u8) OK)) ?_;apply Y 0x4cea8e;refine sp (av (k:=2) (m:=2) rfl rfl rfl rfl rfl rfl ob (Src.r 13 rfl) (Nat.zero_lt_succ _) rfl) ?_;apply Y 0x3fe;refine sp (Ev.cast (u:=.int .u8 ((((s.getD 2 0).toNat%4):Nat):Int)) (Ev.rem rfl rfl oe ob) (congrArg (Value.int .u8) OK)) ?_;apply Y 0x4cea8e;refine sp (av (k:=3) (m:=3) rfl rfl rfl rfl rfl rfl ob (Src.r 13 rfl) (Nat.zero_lt_succ _) rfl) ?_;apply Y 0x4ce1be3fe;refine sp (av (k:=4) (m:=4) rfl rfl rfl rfl rfl rfl ob (Src.r 13 rfl) (Nat.zero_lt_succ _) rfl) ?_;apply Y 0x3fe;refine sp (Ev.cast (u:=.int .u8 ((((s.getD 4 0).toNat%4):Nat):Int)) (Ev.rem rfl rfl oe ob) (congrArg (Value.int .u8) OK)) ?_;apply Y 0x4cea8e;refine sp (av (k:=5) (m:=5) rfl rfl rfl rfl rfl rfl ob (Src.r 13 rfl) (Nat.zero_lt_succ _) rfl) ?_;apply Y 0x3fe;refine sp (Ev.cast (u:=.int .u8 ((((s.getD 5 0).toNat%2):Nat):Int)) (Ev.rem rfl rfl oe ob) (congrArg (Value.int .u8) OK)) ?_;apply Y 0x4cea8e;refine sp (av (k:=6) (m:=6) rfl rfl rfl rfl rfl rfl ob (Src.r 13 rfl) (Nat.zero_lt_succ _) rfl) ?_;apply Y 0x3fe;refine sp (Ev.cast (u:=.int .u8 ((((s.getD 6 0).toNat%3):Nat):Int)) (Ev.rem rfl rfl oe ob) (congrArg (Value.int .u8) OK)) ?_;apply Y 0x4cea8e;refine sp (av (k:=7) (m:=7) rfl rfl rfl rfl rfl rfl ob (Src.r 13 rfl) (Nat.zero_lt_succ _) rfl) ?_;apply Y 0x3fe;refine sp (Ev.cast (u:=.int .u8 ((((s.getD 7 0).toNat%2):Nat):Int)) (Ev.rem rfl rfl oe ob) (congrArg (Value.int .u8) OK)) ?_;apply Y 0xa8e;refine sp (Ev.cast (u:=.int .i64 (((4+(s.getD 7 0).toNat%2):Nat):Int)) (Ev.add rfl rfl oe oe) (congrArg (Value.int .i64) oe)) ?_;refine sp (Ev.cast (u:=.agg (List.toArray [.int .i64 ((((s.getD 0 0).toNat%9):Nat):Int),.int .i64 ((((s.getD 1 0).toNat%8):Nat):Int),.int .i64 ((((s.getD 2 0).toNat%4):Nat):Int),.int .i64 ((((s.getD 3 0).toNat):Nat):Int),.int .i64 ((((s.getD 4 0).toNat%4):Nat):Int),.int .i64 ((((s.getD 5 0).toNat%2):Nat):Int),.int .i64 ((((s.getD 6 0).toNat%3):Nat):Int),.int .i64 (((4+(s.getD 7 0).toNat%2):Nat):Int),.int .i64 4])) (Ev.build rfl rfl rfl rfl rfl rfl rfl) rfl) ?_;apply Y 0xa8;intro A7;apply Y 0x80edb55b;refine sp (ab (vs:=(flL x.fl c.b)) rfl rfl rfl (Src.r 1 rfl) rfl rfl ob) ?_;apply Y 0x80e;refine sp (ab (vs:=(di x.lay c.G c.U c.V c.gc c.uc c.vc)) rfl rfl rfl (Src.r 1 rfl) rfl rfl ob) ?_;apply Y 0x801f;refine aL (nM x.fl c.b x.fl_ok hcb ⟨x.lay.n,x.lay.a,x.lay.b,x.lay.s0,x.lay.s1,c.G,x.lay.gs.length,c.gc,c.U,x.lay.us.length,c.uc,c.V,x.lay.ls.length,c.vc⟩ hcc [((((s.getD 0 0).toNat%9):Nat):Int),((((s.getD 1 0).toNat%8):Nat):Int),((((s.getD 2 0).toNat%4):Nat):Int),((((s.getD 3 0).toNat):Nat):Int),((((s.getD 4 0).toNat%4):Nat):Int),((((s.getD 5 0).toNat%2):Nat):Int),((((s.getD 6 0).toNat%3):Nat):Int),(((4+(s.getD 7 0).toNat%2):Nat):Int),4] rfl) ?_;apply Y 0x23e;intro b2 hb2 hc2;have hFO:(bH x.fl x.lay.a x.lay.b [((((s.getD 0 0).toNat%9):Nat):Int),((((s.getD 1 0).toNat%8):Nat):Int),((((s.getD 2 0).toNat%4):Nat):Int),((((s.getD 3 0).toNat):Nat):Int),((((s.getD 4 0).toNat%4):Nat):Int),((((s.getD 5 0).toNat%2):Nat):Int),((((s.getD 6 0).toNat%3):Nat):Int),(((4+(s.getD 7 0).toNat%2):Nat):Int),4]).1=(x.flO s):=rfl
 dsimp only at hb2 hc2 ⊢;rw [hFO] at hb2 hc2 ⊢;apply Y 0xa8b8;intro A8;apply Y 0xdb496b;refine sp (faR 6) ?_;refine sp (ab (vs:=(di x.lay c.G c.U c.V c.gc c.uc c.vc)) rfl rfl rfl (Src.r 6 rfl) rfl rfl ob) ?_;apply Y 0xa8;intro A10;apply Y 0x5b;refine fE (fun q:Lay×Option Addr×Option Addr×Option Addr×Nat×Nat×Nat=>[(5,.bool true),(6,ag A6 0),(8,ag A8 0),(10,ag A10 0)]) (fun q:Lay×Option Addr×Option Addr×Option Addr×Nat×Nat×Nat=>[Rd b2.D (aC b2.hs (B8 (x.flO s).data)),aS b2.hs (B8 (x.flO s).data),Rd b2.W (I64 (x.flO s).wear),Rd b2.E (Bs (x.flO s).dead),Rd q.2.1 (I64 q.1.gs),Rd q.2.2.1 (I64 q.1.us),Rd q.2.2.2.1 (I64 q.1.ls),Rd c.O (ck x.ops),Rd c.Q (I64 x.seq),Rd c.H (I64 x.st),Rd A6 (mcA x.fl c.b x.lay c.G c.U c.V c.gc c.uc c.vc (.int .i64 5::.int .i64 4::.int .i64 (x.S:Int)::.int .i64 (x.n:Int)::.bool false::.int .i64 (x.m:Int)::.int .i64 (x.m:Int)::.slice c.O x.ops.length c.oc::.slice c.Q x.seq.length c.qc::.slice c.H x.st.length c.hc::.slice none 0 0::.bool true::.slice c.I x.img.length c.ic::.slice c.N x.new.length c.nc::.int .i64 (x.st.length:Int)::.int .i64 (x.u:Int)::.int .i64 x.nd.r::.int .i64 x.nd.e::.int .i64 x.nd.o::[])),Rd A8 [.int .i64 ((x.flO s).size:Int),.slice b2.D (x.flO s).data.length b2.cD,.slice b2.W (x.flO s).wear.length b2.cW,.int .i64 (x.flO s).limit,.slice b2.E (x.flO s).dead.length b2.cE]]) (fun q:Lay×Option Addr×Option Addr×Option Addr×Nat×Nat×Nat=>[Own 37 8 A10 1 1 (di q.1 q.2.1 q.2.2.1 q.2.2.2.1 q.2.2.2.2.1 q.2.2.2.2.2.1 q.2.2.2.2.2.2)]) (fun q:Lay×Option Addr×Option Addr×Option Addr×Nat×Nat×Nat=>(-1000000≤q.1.n∧q.1.n≤1000000)∧(q.1.gs.length≤1000∧q.1.us.length≤1000∧q.1.ls.length≤1000)∧q.1.ls.length≤q.2.2.2.2.2.2) ?_ ?_
 ·apply Y 0x901f48;refine sp (av (k:=0) (m:=9) rfl rfl rfl rfl rfl rfl ob (Src.r 19 rfl) (Nat.zero_lt_succ _) rfl) ?_;apply Y 0xa01f;refine sp (Ev.cast (u:=.int .u8 (((w0.toNat%8):Nat):Int)) (Ev.rem rfl rfl oe ob) (congrArg (Value.int .u8) OK)) ?_;apply Zu 0x4dc8aa98<;>intro
  ·apply Y 0xa01fcb1f901f94ee978;refine sp (Ev.cast (u:=.int .u8 (((w1.toNat%5):Nat):Int)) (Ev.rem rfl rfl oe ob) (congrArg (Value.int .u8) OK)) ?_;apply Y 0x86e60e49ee9da61ea8e;refine QE.join (({ x.lay with n:=x.lay.n+(((w1.toNat%5:Nat):Int)-2) },c.G,c.U,c.V,c.gc,c.uc,c.vc)) (by exact ⟨by show -1000000≤x.lay.n+(((w1.toNat%5:Nat):Int)-2)∧x.lay.n+(((w1.toNat%5:Nat):Int)-2)≤1000000;omega,dD x,hcv⟩) (lk [1,2,3,4,11,12,13,14,15,16,6,0] [0])
  apply Zu 0x4dc8<;>intro
  ·apply Y 0x1bea01fcb1f901f78;refine sp (Ev.cast (u:=.int .i64 (((w1.toNat%16):Nat):Int)) (Ev.rem rfl rfl oe oe) (congrArg (Value.int .i64) (Int.natCast_emod _ _).symm)) ?_;apply Y 0xe9;refine sp (av (k:=1) (m:=4) rfl rfl rfl rfl rfl rfl ob (Src.o 0 rfl) (Nat.zero_lt_succ _) rfl) ?_;apply Y 0x86e60e49e;refine QE.join (({ x.lay with s1:=((w1.toNat%16:Nat):Int) },c.G,c.U,c.V,c.gc,c.uc,c.vc)) (by exact ⟨hyn0,dD x,hcv⟩) (lk [1,2,3,4,11,12,13,14,15,16,6,0] [0])
  apply Zu 0x4dc8<;>intro
  ·apply Y 0x86e60e49ee9ac1f94ee978;refine QE.more (r:=Rd c.G (I64 [])) (pA (Has.r 11 rfl) 0) ?_;refine QE.join (({ x.lay with gs:=[] },c.G,c.U,c.V,c.gc,c.uc,c.vc)) (by exact ⟨hyn0,⟨Nat.zero_le _,(dD x).2⟩,hcv⟩) (lk [2,3,4,5,0,13,14,15,16,17,7,1] [0])
  apply Zu 0x4dc8<;>intro
  ·apply Y 0x794ee994ee978;refine sp (Ev.cast (u:=.int .i64 (((x.lay.us.length/2):Nat):Int)) (Ev.quo rfl rfl oe oe oe) (congrArg (Value.int .i64) oe)) ?_;refine sp (Ev.cast (u:=.slice c.U (x.lay.us.take (x.lay.us.length/2)).length c.uc) (bn (h:=x.lay.us.length/2) rfl rfl rfl rfl rfl rfl oe) qW) ?_;apply Y 0x86e60e49ee9;refine QE.more (r:=Rd c.U (I64 (x.lay.us.take (x.lay.us.length/2)))) (pA (Has.r 12 rfl) (x.lay.us.length/2)) ?_;refine QE.join (({ x.lay with us:=x.lay.us.take (x.lay.us.length/2) },c.G,c.U,c.V,c.gc,c.uc,c.vc)) (by exact ⟨hyn0,⟨(dD x).1,by show (x.lay.us.take (x.lay.us.length/2)).length≤1000;rw [List.length_take];omega,(dD x).2.2⟩,hcv⟩) (lk [2,3,4,5,12,0,14,15,16,17,7,1] [0])
  apply Zu 0x4dc8<;>intro
  ·apply Y 0x2b48;intro A109;apply Y 0x94ee9;refine L.append (j:=1) rfl rfl rfl rfl ob rfl rfl rfl rfl (Src.r 13 rfl) oY (cY _) oe oU rfl (fun A112 cc112=>?_);apply Y 0x1bea01fcb1f901f94ee9789849ee9;refine sp (Ev.cast (u:=.int .i64 (((w1.toNat%24):Nat):Int)) (Ev.rem rfl rfl oe oe) (congrArg (Value.int .i64) (Int.natCast_emod _ _).symm)) ?_;apply Y 0x2b;intro A121;refine L.append (j:=1) rfl rfl rfl rfl ob rfl rfl rfl rfl (Src.o 2 rfl) rfl (by intro v hv;simp at hv;subst hv;rfl) oe oU rfl (fun A122 cc122=>?_);apply Y 0xe9;refine L.cap 1 rfl (fun hcp=>?_);apply Y 0x86e60e49e;refine qfz 1 [0,2] ?_;apply Y 0x460f;refine QE.join (({ x.lay with ls:=(x.lay.ls++[(((w1.toNat%24:Nat)):Int)]) },c.G,c.U,A122,c.gc,c.uc,cc122)) (by exact ⟨hyn0,⟨(dD x).1,(dD x).2.1,by show (x.lay.ls++[(((w1.toNat%24:Nat)):Int)]).length≤1000;rw [List.length_append];simp only [List.length_singleton];omega⟩,by show (x.lay.ls++[(((w1.toNat%24:Nat)):Int)]).length≤cc122;rw [List.length_append];simp only [List.length_singleton];omega⟩) (by exact lk [2,3,4,5,12,13,0,15,16,17,7,1] [0] (hr:=⟨rfl,rfl,rfl,rfl,rfl,rfl,(congrArg some (congrArg (Rd A122) (by dsimp only;rw [← cK];rfl))),rfl,rfl,rfl,rfl,rfl,trivial⟩) (hh:=⟨(congrArg some (ay rfl (by show ([.int .i64 x.lay.n,.int .i64 x.lay.a,.int .i64 x.lay.b,.int .i64 x.lay.s0,.int .i64 x.lay.s1,.slice c.G x.lay.gs.length c.gc,.slice c.U x.lay.us.length c.uc,.slice A122 (0+x.lay.ls.length+1) cc122]:List Value)=[.int .i64 x.lay.n,.int .i64 x.lay.a,.int .i64 x.lay.b,.int .i64 x.lay.s0,.int .i64 x.lay.s1,.slice c.G x.lay.gs.length c.gc,.slice c.U x.lay.us.length c.uc,.slice A122 (x.lay.ls++[(((w1.toNat%24:Nat)):Int)]).length cc122];rw [List.length_append,List.length_singleton,Nat.zero_add]))),trivial⟩))
  apply Y 0x86e7a;refine QE.join ((x.lay,c.G,c.U,c.V,c.gc,c.uc,c.vc)) (by exact ⟨hyn0,dD x,hcv⟩) (lk [1,2,3,4,11,12,13,14,15,16,6,0] [0])
 rintro ⟨y,G,U,V,gc,uc,vc⟩ ⟨hyn,hyl,hvc⟩
 dsimp only at hyn hyl hvc ⊢;apply Y 0xdae43e8c2fcae5;refine LM.bool 125 rfl ?_ ?_<;>intro hg125
 ·refine my 2 rfl (ab (vs:=[.int .i64 ((x.flO s).size:Int),.slice b2.D (x.flO s).data.length b2.cD,.slice b2.W (x.flO s).wear.length b2.cW,.int .i64 (x.flO s).limit,.slice b2.E (x.flO s).dead.length b2.cE]) rfl rfl rfl (Src.r 12 rfl) rfl rfl ob) ?_;refine my 3 rfl (ab (vs:=(di y G U V gc uc vc)) rfl rfl rfl (Src.r 0 rfl) rfl rfl ob) ?_;refine my 4 rfl (faR 11) ?_;refine my 5 rfl (ab (vs:=(.int .i64 5::.int .i64 4::.int .i64 (x.S:Int)::.int .i64 (x.n:Int)::.bool false::.int .i64 (x.m:Int)::.int .i64 (x.m:Int)::.slice c.O x.ops.length c.oc::.slice c.Q x.seq.length c.qc::.slice c.H x.st.length c.hc::.slice none 0 0::.bool true::[])) rfl rfl rfl (Src.r 11 rfl) rfl rfl ob) ?_;refine my 7 rfl (ab (vs:=[.int .i64 ((x.flO s).size:Int),.slice b2.D (x.flO s).data.length b2.cD,.slice b2.W (x.flO s).wear.length b2.cW,.int .i64 (x.flO s).limit,.slice b2.E (x.flO s).dead.length b2.cE]) rfl rfl rfl (Src.r 12 rfl) rfl rfl ob) ?_;refine my 8 rfl (ab (vs:=(di y G U V gc uc vc)) rfl rfl rfl (Src.r 0 rfl) rfl rfl ob) ?_;refine my 9 rfl (faR 11) ?_;refine my 10 rfl (ab (vs:=(.int .i64 5::.int .i64 4::.int .i64 (x.S:Int)::.int .i64 (x.n:Int)::.bool false::.int .i64 (x.m:Int)::.int .i64 (x.m:Int)::.slice c.O x.ops.length c.oc::.slice c.Q x.seq.length c.qc::.slice c.H x.st.length c.hc::.slice none 0 0::.bool true::[])) rfl rfl rfl (Src.r 11 rfl) rfl rfl ob) ?_;apply Y 0x4e4e;refine aL (Ch (x.flO s) b2 (x.flO_ok s) hb2 y G U V gc uc vc hyn hyl hc2 x.pkg (.slice none 0 0) true c.O c.Q c.H c.oc c.qc c.hc (kD x) hvc) ?_;apply Y 0x19;intro PA Pc;apply Y 0x434e3;refine aL (yb (x.flO s) b2 (x.flO_ok s) hb2 y G U V gc uc vc hyn hyl hc2 x.pkg (.slice none 0 0) true c.O c.Q c.H c.oc c.qc c.hc (kD x)) ?_;apply Y 0x19;intro ZA Zc;apply Y 0x4b3e3;refine al (Am true (Bk (bJ (x.flO s) y x.pkg true) (bJ (x.flO s) y x.pkg true) PA ZA Pc Zc (Nat.le_trans (tN (x.flO_ok s) y x.pkg true) ob) (Nat.le_trans (tN (x.flO_ok s) y x.pkg true) ob)) oO) ?_;apply Y 0xe20fde0f388;refine my 15 rfl (ab (vs:=[.int .i64 ((x.flO s).size:Int),.slice b2.D (x.flO s).data.length b2.cD,.slice b2.W (x.flO s).wear.length b2.cW,.int .i64 (x.flO s).limit,.slice b2.E (x.flO s).dead.length b2.cE]) rfl rfl rfl (Src.r 12 rfl) rfl rfl ob) ?_;refine my 16 rfl (ab (vs:=(di y G U V gc uc vc)) rfl rfl rfl (Src.r 0 rfl) rfl rfl ob) ?_;refine my 18 rfl (ab (vs:=[.int .i64 ((x.flO s).size:Int),.slice b2.D (x.flO s).data.length b2.cD,.slice b2.W (x.flO s).wear.length b2.cW,.int .i64 (x.flO s).limit,.slice b2.E (x.flO s).dead.length b2.cE]) rfl rfl rfl (Src.r 12 rfl) rfl rfl ob) ?_;refine my 19 rfl (ab (vs:=(di y G U V gc uc vc)) rfl rfl rfl (Src.r 0 rfl) rfl rfl ob) ?_;refine mfo 17 ?_;apply Y 0x4;refine al (fh ((x.flO s).size:Int) (x.flO s) b2 hb2 (by have:=(x.flO_ok s).n2;omega) y G U V gc uc vc hyn hyl) ?_;apply Y 0x4d50f6988;refine al (mN ((x.flO s).size:Int) (x.flO s) b2 hb2 (by have:=(x.flO_ok s).n2;omega) y G U V gc uc vc hyn hyl) ?_;apply Y 0x47d0f388;refine sp (pD rfl rfl rfl rfl) ?_;exact Zm 0x151fd98a5ce71f37d71f3
 cases hg125
end Go.Proofs.YtbpddeiogcgegaaGreat
namespace Go.Sl
open Go.ChangeShapes Go.WideShapes Go.RowKit Go.Deep Go.Joins
section
variable {H:Type}{enc:TypeId×Value→H}{P:Program}{w:World}{base:Nat}{spare:Nat→Bool}{held:Bool}
theorem x5 {t q e:TypeId}{fuel:Nat}{cs:List Value}{x:DataW H×List MemPlace}(ht:P.underlying t=some (.slice q))(hq:P.underlying q=some (.array 3 e))(he:P.underlying e=some (.int .u8))(ce:P.cellsOf e=1)(cq:P.cellsOf q=3)
    (h:DataW.trod enc P w base spare held fuel t cs=some x):
    ∃ (A:Option Addr) (c:Nat) (l:List T3),cs=[.slice A l.length c]∧l.length≤maxLen∧(Rd A (pI l)).p w:=by
 rcases open_slice ht h with ⟨rfl,_⟩|⟨a,len,cap,m,k,D,Pl,rfl,_,hl,hm,hmm,_,hi⟩
 ·exact ⟨none,0,[],rfl,Nat.zero_le _,fun j u hu=>by simp [pI] at hu⟩
 have hle:len≤m:=by rw [hmm];split<;>omega
 have each:∀ i:Nat,∃ x:T3,i<len→∀ j,j<3→w.cell? ((a.add (i*3)).add j)=(GW x)[j]?:=fun i=>by
  by_cases h1:i<len
  ·obtain ⟨cs',hc,htr⟩:=hi i oe;rw [cq] at hc;obtain ⟨_,hcl,hat⟩:=World.cells?_some hc;have g:=gf hq he ce (by simpa using hcl) htr;obtain ⟨x,h0⟩:=g 0 ob;obtain ⟨y,h1⟩:=g 1 ob;obtain ⟨z,h2⟩:=g 2 ob;refine ⟨(x,y,z),fun _ j hj=>?_⟩;rw [hat j hj]
   match j,hj with
   |0,_=>exact h0
   |1,_=>exact h1
   |2,_=>exact h2
  exact ⟨(0,0,0),fun h=>absurd h h1⟩
 obtain ⟨F,hF⟩:=Classical.axiomOfChoice each;have hlen:((List.range len).map F).length=len:=oO;have get:∀ i,i<len→((List.range len).map F).getD i (0,0,0)=F i:=fun i h=>by simp [h]
 refine ⟨some a,cap,(List.range len).map F,by rw [hlen],by rw [hlen];omega,fun j u hu=>⟨a,rfl,?_⟩⟩;have hj:j<len*3:=by
  have:=(List.getElem?_eq_some_iff.1 hu).1
  rwa [su,hlen] at this
 have hd:j/3<len:=oe;have hu2:=hu;rw [show j=j/3*3+j%3 from by omega,iq (by rw [hlen];exact hd) oe,get _ hd] at hu2;rw [← hu2,← hF _ hd (j%3) oe,kS]
 congr 2;exact Zm 0x18
end
section
variable {H:Type}{enc:TypeId×Value→H}{P:Program}{w:World}{base:Nat}{spare:Nat→Bool}{held:Bool}
theorem IX {ls:List Value}(hl:ls.length=4)(hi:∀ i,i<4→∃ y:UInt8,ls[i]?=some (.int .u8 (y.toNat:Int))):∃ p q r s:UInt8,ls=[.int .u8 (p.toNat:Int),.int .u8 (q.toNat:Int),.int .u8 (r.toNat:Int),.int .u8 (s.toNat:Int)]:=by
 apply Y 0x492f;intro p h0;apply Y 0x592f;intro q h1;apply Y 0x692f;intro r h2;apply Y 0x792f;intro s h3
 match ls,hl,h0,h1,h2,h3 with
 |[a,b,c,d],_,h0,h1,h2,h3=>
  simp at h0 h1 h2 h3;exact ⟨p,q,r,s,by rw [h0,h1,h2,h3]⟩
theorem six {cs:List Value}(h:cs.length=6):cs=(cs.drop 0).take 1++(cs.drop 1).take 4++(cs.drop 5).take 1:=by
 match cs,h with
 |[_,_,_,_,_,_],_=>rfl
theorem x6 {r:Reach}{b0:Nat}{t a q3 tl s e:TypeId}{f0 f1 f2:Field}{v:Value}{d:DataW H}{ps:List MemPlace}(ht:P.underlying t=some (.struct #[f0,f1,f2]))(t0:f0.type=tl)(t1:f1.type=a)(t2:f2.type=s)(o0:f0.offset=0)(o1:f1.offset=1)(o2:f2.offset=5)
    (htl:P.underlying tl=some (.slice q3)) (hq:P.underlying q3=some (.array 3 e)) (ha:P.underlying a=some (.array 4 e)) (hs:P.underlying s=some (.slice e)) (he:P.underlying e=some (.int .u8)) (ctl:P.cellsOf tl=1) (cq:P.cellsOf q3=3) (ca:P.cellsOf a=4) (cs1:P.cellsOf s=1) (ce:P.cellsOf e=1) (ct:P.cellsOf t=6)
    (hv:Value.okWide P w r b0 t v) (h:DataW.Trod enc P w base spare held t v d ps):
    ∃ (x:Raw) (LA XO:Option Addr) (lc xoc:Nat),v=.agg (List.toArray [.slice LA x.l.length lc,.int .u8 (x.w0.toNat:Int),.int .u8 (x.w1.toNat:Int),.int .u8 (x.w2.toNat:Int),.int .u8 (x.w3.toNat:Int),.slice XO x.old.length xoc])∧x.l.length≤maxLen∧x.old.length≤maxLen∧(Rd LA (pI x.l)).p w∧(Rd XO (U8 x.old)).p w:=by
 obtain ⟨cs,rfl,hsz⟩:=okWide_struct ht hv;rw [ct] at hsz;obtain ⟨ls⟩:=cs;apply Y 0x892f;intro fuel hf;have hf':DataW.trod enc P w base spare held fuel t ls=some (d,ps):=hf;apply Y 0x882f;intro xs n hl hxl hg;rw [ct] at hl
 match xs,hxl with
 |[y0,y1,y2],_=>
  apply Y 0x831f;intro g0;apply Y 0x931f;intro g1;have g2:=hg 2 f2 rfl;rw [t0,o0,ctl] at g0;rw [t1,o1,ca] at g1;rw [t2,o2,cs1] at g2;obtain ⟨LA,lc,l,e0,hll,f0⟩:=x5 htl hq he ce cq (by simpa using g0);obtain ⟨p,q,u,z,e1⟩:=IX (ls:=(ls.drop 1).take 4) qx (gf (cs:=(ls.drop 1).take 4) ha he ce qx (by simpa using g1));obtain ⟨XO,xoc,old,e2,-,hol,f2⟩:=x7 hs he ce (by simpa using g2);refine ⟨⟨l,p,q,u,z,old⟩,LA,XO,lc,xoc,?_,hll,hol,f0,f2⟩;have e:=six hl;have e0':(ls.drop 0).take 1=[.slice LA l.length lc]:=by simpa using e0
  have e2':(ls.drop 5).take 1=[.slice XO old.length xoc]:=by simpa using e2
  rw [e0',e1,e2'] at e;rw [e];exact Zm 0x2
theorem two {cs:List Value}(h:cs.length=2):cs=(cs.drop 0).take 1++(cs.drop 1).take 1:=by
 match cs,h with
 |[_,_],_=>rfl
theorem Ik {t s e:TypeId}{f0 f1:Field}{fuel:Nat}{cs:List Value}{x:DataW H×List MemPlace}(ht:P.underlying t=some (.struct #[f0,f1]))(t0:f0.type=e)(t1:f1.type=s)(o0:f0.offset=0)(o1:f1.offset=1)
    (he:P.underlying e=some (.int .u8)) (hs:P.underlying s=some (.slice e)) (ce:P.cellsOf e=1) (cs1:P.cellsOf s=1) (ct:P.cellsOf t=2)
    (h:DataW.trod enc P w base spare held fuel t cs=some x):∃ y:Brk,cs=y.cells∧y.k.length≤maxLen∧(Rd y.M (U8 y.k)).p w:=by
 obtain ⟨xs,n,-,-,hl,hxl,hg⟩:=DataW.trod_struct ht h;rw [ct] at hl
 match xs,hxl with
 |[y0,y1],_=>
  apply Y 0x831f;intro g0;apply Y 0x931f;intro g1;rw [t0,o0,ce] at g0;rw [t1,o1,cs1] at g1;obtain ⟨m,e0,-,wm⟩:=DataW.trod_int he (by simpa using g0);obtain ⟨M,mc,k,e1,-,hk,f1⟩:=x7 hs he ce (by simpa using g1);refine ⟨⟨gy m,M,mc,k⟩,?_,hk,f1⟩;have e:=two hl;have e0':(cs.drop 0).take 1=[.int .u8 ((gy m).toNat:Int)]:=by rw [jT wm];simpa using e0
  have e1':(cs.drop 1).take 1=[.slice M k.length mc]:=by simpa using e1
  rw [e0',e1'] at e
  exact e
theorem AM {cs:List Value}(h:cs.length=13):cs=(cs.drop 0).take 9++(cs.drop 9).take 4:=by
 match cs,h with
 |[_,_,_,_,_,_,_,_,_,_,_,_,_],_=>rfl
theorem B9 {r:Reach}{b0:Nat}{t a b e:TypeId}{f0 f1:Field}{v:Value}{d:DataW H}{ps:List MemPlace}(ht:P.underlying t=some (.struct #[f0,f1]))(t0:f0.type=b)(t1:f1.type=a)(o0:f0.offset=0)(o1:f1.offset=9)
    (he:P.underlying e=some (.int .u8)) (ha:P.underlying a=some (.array 4 e)) (hb:P.underlying b=some (.array 9 e)) (ce:P.cellsOf e=1) (ca:P.cellsOf a=4) (cb:P.cellsOf b=9) (ct:P.cellsOf t=13)
    (hv:Value.okWide P w r b0 t v) (h:DataW.Trod enc P w base spare held t v d ps):∃ (s:List UInt8) (p q u z:UInt8),s.length=9∧v=.agg (List.toArray (u9 s++[.int .u8 (p.toNat:Int),.int .u8 (q.toNat:Int),.int .u8 (u.toNat:Int),.int .u8 (z.toNat:Int)])):=by
 obtain ⟨cs,rfl,hsz⟩:=okWide_struct ht hv;rw [ct] at hsz;obtain ⟨ls⟩:=cs;apply Y 0x892f;intro fuel hf;have hf':DataW.trod enc P w base spare held fuel t ls=some (d,ps):=hf;apply Y 0x882f;intro xs n hl hxl hg;rw [ct] at hl
 match xs,hxl with
 |[y0,y1],_=>
  apply Y 0x831f;intro g0;apply Y 0x931f;intro g1;rw [t0,o0,cb] at g0;rw [t1,o1,ca] at g1;obtain ⟨s,hs,e0⟩:=B7 (cs:=(ls.drop 0).take 9) hb he ce qx (by simpa using g0);obtain ⟨p,q,u,z,e1⟩:=IX (ls:=(ls.drop 9).take 4) qx (gf (cs:=(ls.drop 9).take 4) ha he ce qx (by simpa using g1));refine ⟨s,p,q,u,z,hs,?_⟩;have e:=AM hl;rw [e0,e1] at e;rw [e]
end
end Go.Sl
