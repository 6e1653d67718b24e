/-
  Part of a proof.
-/
import Derived.Test.YtbpddeiogcgegaaGreatVWInF
set_option maxHeartbeats 0
set_option maxRecDepth 4000
set_option linter.all false
namespace Go.Proofs.YtbpddeiogcgegaaGreat
open Go.Sl
theorem nine {s:List Int}(h:s.length=9):∃ p0 p1 p2 p3 p4 p5 p6 p7 p8,s=[p0,p1,p2,p3,p4,p5,p6,p7,p8]:=by
 match s,h with
 |[a,b,c,d,e,f,g,h,i],_=>exact ⟨a,b,c,d,e,f,g,h,i,rfl⟩
theorem Ff {f:Fl}{y:Lay}{s:List Int}{k:Pkg}{h:Bool}(e:fitE f y s k h=0):PlnFit f y k.pl:=by
 unfold fitE at e
 split at e
 ·cases e
 split at e
 ·cases e
 split at e
 ·cases e
 rename_i h1 h2 h3;refine ⟨by simpa using h2,?_,?_,?_⟩
 ·by_cases q:k.pl.sz=(f.size:Int)
  ·exact q
  exact absurd (.inl q) h3
 ·by_cases q:k.pl.n=y.n
  ·exact q
  exact absurd (.inr (.inl q)) h3
 by_cases q:(k.pl.st.length:Int)>(y.ls.length:Int)
 ·exact absurd (.inr (.inr q)) h3
 exact Zm 0x18
section
variable {f:Fl}{y:Lay}{k:Pkg}{h:Bool}{s:List Int}
theorem GR (hl:eJ f y=false):aZ f y k h=nxE 220:=if_pos hl
theorem GQ (hl:eJ f y=true)(e:(a8 f y.a y.b).2.2≠0):aZ f y k h=nxE (a8 f y.a y.b).2.2:=by
 unfold aZ;rw [if_neg (by rw [hl];decide),if_pos e]
theorem Dj (hl:eJ f y=true)(e:(a8 f y.a y.b).2.2=0)(hs:(a8 f y.a y.b).1=s)(h1:sPh s=0∨sPh s=4∨sPh s=5):aZ f y k h=nxD:=by
 rw [eB hl e hs,if_pos h1]
theorem Jd (hl:eJ f y=true)(e:(a8 f y.a y.b).2.2=0)(hs:(a8 f y.a y.b).1=s)(h1:sPh s=6):aZ f y k h=dz f y s:=by
 rw [eB hl e hs,if_neg oe,if_pos h1]
theorem Jc (hl:eJ f y=true)(e:(a8 f y.a y.b).2.2=0)(hs:(a8 f y.a y.b).1=s)(h1:sPh s>6):aZ f y k h=nxE 240:=by
 rw [eB hl e hs,if_neg oe,if_neg oe,if_pos h1]
theorem Ja (hl:eJ f y=true)(e:(a8 f y.a y.b).2.2=0)(hs:(a8 f y.a y.b).1=s)(h1:¬(sPh s=0∨sPh s=4∨sPh s=5)∧¬sPh s=6∧¬sPh s>6)(h2:fitE f y s k h≠0):aZ f y k h=nxE (fitE f y s k h):=by
 rw [eB hl e hs,if_neg h1.1,if_neg h1.2.1,if_neg h1.2.2,if_pos h2]
theorem I9 (hl:eJ f y=true)(e:(a8 f y.a y.b).2.2=0)(hs:(a8 f y.a y.b).1=s)(h2:fitE f y s k h=0)(h1:sPh s=1):aZ f y k h=dD f y s k.pl:=by
 rw [eB hl e hs,if_neg oe,if_neg oe,if_neg oe,if_neg (fun q=>q h2),if_pos h1]
theorem I8 (hl:eJ f y=true)(e:(a8 f y.a y.b).2.2=0)(hs:(a8 f y.a y.b).1=s)(h2:fitE f y s k h=0)(h1:sPh s=2):aZ f y k h=eI f y s k.pl:=by
 rw [eB hl e hs,if_neg oe,if_neg oe,if_neg oe,if_neg (fun q=>q h2),if_neg oe,if_pos h1]
theorem I7 (hl:eJ f y=true)(e:(a8 f y.a y.b).2.2=0)(hs:(a8 f y.a y.b).1=s)(h2:fitE f y s k h=0)(h1:¬(sPh s=0∨sPh s=4∨sPh s=5)∧¬sPh s=6∧¬sPh s>6)(h3:¬sPh s=1)(h4:¬sPh s=2):aZ f y k h=dw f y s k.pl:=by
 rw [eB hl e hs,if_neg h1.1,if_neg h1.2.1,if_neg h1.2.2,if_neg (fun q=>q h2),if_neg h3,if_neg h4]
end
def BH (s:List Int):Prop:=∀ x∈s,0≤x∧x≤4294967295
theorem G8 (b:List UInt8):BH (pH b):=by
 intro x hx
 unfold pH at hx;obtain ⟨p,hp,rfl⟩:=List.mem_map.1 hx;have hw:p.2≤4:=by
  have h1:∀ q∈LR.zip wds,q.2≤4:=ob
  exact h1 p hp
 have h2:=jh ((b.drop p.1).take p.2);have h3:((b.drop p.1).take p.2).length≤4:=oP;have h4:(256^((b.drop p.1).take p.2).length:Nat)≤4294967296:=Nat.le_trans (Nat.pow_le_pow_right ob h3) ob;exact Zm 0x18
theorem xA {l:List UInt8}{s:List Int}(h:bX l=some s):BH s:=by
 unfold bX at h
 split at h
 ·injection h with h
  rw [← h]
  exact G8 _
 cases h
theorem BW {row:List UInt8}{x:Lg}{i:Nat}(h:BH x.s):BH (gj row x i).s:=by
 apply Y 0xd10f
 split
 ·exact Zm 0x22e
 split
 ·rename_i hs
  exact xA hs
 exact Zm 0x22e
theorem tH {row:List UInt8}{x:Lg}(h:BH x.s):∀ k,BH (bA row x k).s
  |0=>h
  |k+1=>by
    rw [bK]
    exact BW (tH h k)
theorem ru:BH (List.replicate 9 0):=fun x hx=>by
  rw [(List.mem_replicate.1 hx).2]
  decide
theorem ui (f:Fl)(a b:Int):BH (aj f a b).s:=by
 unfold aj
 split<;>exact ru
theorem Dy (f:Fl)(a b:Int):BH (an f a b).s:=by
 unfold an
 split
 ·split
  ·exact ui f a b
  exact tH (ui f a b) _
 exact ru
theorem CN (f:Fl)(a b:Int):BH (a8 f a b).1:=by
 unfold a8
 split
 ·exact Dy f a b
 exact ru
theorem jT (f:Fl)(a:Fa)(ok:f.Ok)(hh:a.hs.length=f.data.length)(y:Lay)(G U V:Option Addr)(gc uc vc:Nat)(hyn: -1000000≤y.n∧y.n≤1000000)(hyl:y.gs.length≤1000∧y.us.length≤1000∧y.ls.length≤1000)(hcap:Caps f a)(k:Pkg)(rv:Value)(h:Bool)(OA QA HA:Option Addr)(oc qc hc:Nat)(hpl:k.pl.ops.length≤9223372036854775807∧k.pl.seq.length≤1000000∧k.pl.st.length≤1000000):
    Ctr X 16 [flV f a,.agg (List.toArray (cP y G U V gc uc vc)),.agg (List.toArray [.int .i64 k.ver,.int .i64 k.frm,.int .i64 k.pl.sz,.int .i64 k.pl.n,.bool k.pl.lf,.int .i64 k.pl.inn,.int .i64 k.pl.out,.slice OA k.pl.ops.length oc,.slice QA k.pl.seq.length qc,.slice HA k.pl.st.length hc,rv,.bool h])] (flR f a++[Rd G (I64 y.gs),Rd U (I64 y.us),Rd V (I64 y.ls),Rd OA (bZ k.pl.ops),Rd QA (I64 k.pl.seq),Rd HA (I64 k.pl.st)]) [] (fun v R' H'=>∃ (O:Option Addr) (oc:Nat),v=.agg (List.toArray [.int .i64 (aZ f y k h).x.kind,.int .i64 (aZ f y k h).x.sec,.int .i64 (aZ f y k h).x.at_,.slice O (aZ f y k h).x.data.length oc,.bool (aZ f y k h).done,.int .i64 (aZ f y k h).e])∧R'=[Rd O (U8 (aZ f y k h).x.data)]∧H'=[]):=by
 apply Y 0xe1e;intro hok;obtain ⟨os1,os2,on1,on2,owl,odl,orows,ol1,ol2,owear⟩:=ok;apply Y 0xda2f;intro p0 p1 p2 p3 p4 p5 p6 p7 p8 hs9;apply Y 0x562f;intro hp;have hp0:=hp p0 oS;refine co Tryz.func16 ?_;intro β;apply Y 0x4a;intro A3;apply Y 0x2b;intro A4;apply Y 0x2b;intro A5;apply Y 0x98;intro A6;apply Y 0x710fcfe68ebdb90eb1ea4e35e7b;refine al (xd (f.size:Int) f a hh oe y G U V gc uc vc hyn hyl) ?_;apply Zu 0x1a385813aa8<;>intro hc15
 ·have hlay0:eJ f y=false:=obq;apply Zu 0x10ebce0e9bcb
  ·rw [GR hlay0];exact Zm 0x2
  rw [GR hlay0];exact Zm 0x2
 have hlay:eJ f y=true:=obq;apply Y 0x710fcfe3c;refine al (yu f a hok hh ⟨y.n,y.a,y.b,y.s0,y.s1,G,y.gs.length,gc,U,y.us.length,uc,V,y.ls.length,vc⟩ hcap) ?_;apply Y 0x84ea8;rw [hs9];apply Y 0x983a;intro A8;apply Zu 0x5d1f868eb92e57b6b<;>intro hc22
 ·apply Zu 0x10ebce0e9bfaf87
  ·rw [GQ hlay hc22];exact Zm 0x2
  rw [GQ hlay hc22];exact Zm 0x2
 apply Y 0x983eec0e3c;intro A9;apply Zu 0xec3858ba88f868eb92e57b6b<;>intro hc30
 ·apply Y 0x99;refine C.cond rfl (fun _=>?_) (fun h=>by cases h);apply Zu 0x10ebc26e7d9b3aa8cde7
  ·exact Zm 0x2c34f
  exact Zm 0x2c34f
 apply Zu 0xecc8<;>intro hc30
 ·apply Y 0x99;refine C.cond rfl (fun _=>?_) (fun h=>by cases h);apply Zu 0x10ebc26e7d9b3aa8cde7
  ·exact Zm 0x2d34f
  exact Zm 0x2d34f
 apply Zu 0xec3868<;>intro hc30
 ·apply Zu 0x10ebc26e7d9b3aa8cde7
  ·exact Zm 0x2e34f
  exact Zm 0x2e34f
 apply Zu 0xecc8<;>intro hc35
 ·apply Y 0x3ee840f740f7;refine aJ (D0 f a hok hh y G U V gc uc vc hyn hyl hcap p0 p1 p2 p3 p4 p5 p6 p7 p8 hp hlay) ?_;apply Y 0x19;intro TO tc;apply Zu 0x75ebc7d9b3a
  ·exact Zm 0x2f34f
  exact Zm 0x2f34f
 apply Zu 0x791f85874e5a<;>intro hc43
 ·apply Zu 0x10ebce0e9bcb
  ·exact Zm 0x2144f
  exact Zm 0x2144f
 apply Y 0x3ee840f740f3c;refine sp (aa (vs:=[_,_,_,_,_,_,_,_,_,_,_,_]) rfl rfl rfl (Src.r 2 rfl) rfl rfl ob) ?_;refine al (Du f a hok hh y G U V gc uc vc hyn hyl hcap p0 p1 p2 p3 p4 p5 p6 p7 p8 k rv h OA QA HA oc qc hc hpl) ?_;apply Zu 0x5d385813aa8<;>intro hc51
 ·apply Zu 0x10ebce0e9bfaf9
  ·exact Zm 0x2244f
  exact Zm 0x2244f
 have hfit:=Ff hc51;apply Zu 0xecc8ba88f85899<;>intro hc56
 ·apply Y 0x5e1f93e93e3ee840f740f7;refine aJ (rR f a hok hh y G U V gc uc vc hyn hyl hcap p0 p1 p2 p3 p4 p5 p6 p7 p8 hp k.pl OA QA HA oc qc hc hpl hfit hlay) ?_;apply Y 0x19;intro TO tc;apply Zu 0x75ebc7d9b3a
  ·exact Zm 0x2344f
  exact Zm 0x2344f
 apply Zu 0xecc8<;>intro hc65
 ·apply Y 0x5e1f93e93e3ee840f740f7;refine aJ (xC f a hok hh y G U V gc uc vc hyn hyl hcap p0 p1 p2 p3 p4 p5 p6 p7 p8 hp k.pl OA QA HA oc qc hc hpl hfit hlay) ?_;apply Y 0x19;intro TO tc;apply Zu 0x75ebc7d9b3a
  ·exact Zm 0x2444f
  exact Zm 0x2444f
 apply Y 0x5e1f93e93e3ee840f740f774e5a;refine aJ (w8 f a hok hh y G U V gc uc vc hyn hyl hcap p0 p1 p2 p3 p4 p5 p6 p7 p8 hp k.pl OA QA HA oc qc hc hpl hfit hlay) ?_;apply Y 0x19;intro TO tc;apply Zu 0x75ebcd89b3a
 ·exact Zm 0x2544f
 exact Zm 0x2544f
theorem cI {f:Fl}(ok:f.Ok){y:Lay}{x:Nx}{s:List Int}(h:x.x.data.length≤1000000):(cg f y x s).x.data.length≤1000000:=by
 unfold cg
 split
 ·exact Zm 0x22e
 exact Zm 0xb20f
theorem BS (f:Fl)(us:List Int)(at_:Int)(b:List UInt8):(towS f us at_ b).x.data.length≤b.length:=by
 unfold towS
 split
 ·exact Zm 0x43e
 split
 ·exact Zm 0x43e
 split
 ·exact Zm 0x43e
 split
 ·exact Zm 0x43e
 show (bM b _ _ _).length≤b.length
 unfold bM;exact Zm 0x188f1f
theorem rH {f:Fl}(ok:f.Ok)(t:Int):(aX f t).length≤1000000:=ok.sm.r _
theorem Hg {f:Fl}{y:Lay}{p:Pln}{k:Int}:(p.cntV f y k).length≤4096:=by
 unfold Pln.cntV
 by_cases e:cntE p.lf p.sz p.n p.inn p.out p.ops p.seq p.st f.data (f.size:Int) y.n y.ls k=0
 ·rw [mR e]
  unfold HV;rw [cj];have hv:eN p.lf p.sz p.n p.inn p.out p.ops p.seq p.st=true:=by
   cases hv:eN p.lf p.sz p.n p.inn p.out p.ops p.seq p.st with
   |true=>rfl
   |false=>rw [Fi hv] at e;cases e
  have:=dB.1 (eS.1 hv).2.2.1;exact Zm 0x18
 rw [mS e];exact Zm 0x43e
theorem xO {f:Fl}(ok:f.Ok){y:Lay}{s:List Int}{c:List UInt8}(h:c.length≤1000000):(sgF f y s c).x.data.length≤1000000:=by
 unfold sgF
 split
 ·exact Zm 0x43e
 split
 ·exact Zm 0xb20f
 exact cI ok (Nat.le_trans (gf _ _ _) h)
theorem yO {f:Fl}(ok:f.Ok){y:Lay}{s:List Int}{t:Int}:(plF f y s t).x.data.length≤1000000:=by
 unfold plF
 split
 ·exact Zm 0x43e
 exact Nat.le_trans (gf _ _ _) (rH ok _)
theorem CY {f:Fl}(ok:f.Ok){y:Lay}{s:List Int}{p:Pln}:(dD f y s p).x.data.length≤1000000:=by
 unfold dD
 split
 ·exact Zm 0x43e
 split
 ·exact Zm 0x43e
 split
 ·exact Zm 0xb20f
 refine cI ok (Nat.le_trans (gf _ _ _) ?_);rw [List.length_replicate]
 exact Nat.le_trans ok.s2 ob
theorem B0 {f:Fl}(ok:f.Ok){y:Lay}{s:List Int}{p:Pln}:(eI f y s p).x.data.length≤1000000:=by
 unfold eI
 split
 ·exact Zm 0xb20f
 exact cI ok (Nat.le_trans (gf _ _ _) (rH ok _))
theorem BJ {f:Fl}(ok:f.Ok){y:Lay}{s:List Int}{p:Pln}:(dw f y s p).x.data.length≤1000000:=by
 apply Y 0x9ee
 split
 ·exact Zm 0xb20f
 split
 ·exact Zm 0x43e
 split
 ·exact cI ok (yO ok)
 split
 ·exact Zm 0x43e
 split
 ·exact xO ok (Nat.le_trans Hg ob)
 exact cI ok (Nat.le_trans (BS _ _ _ _) (Nat.le_trans (l4 _ _ _) ob))
theorem DZ {f:Fl}(ok:f.Ok){y:Lay}{s:List Int}:(dz f y s).x.data.length≤1000000:=by
 apply Y 0x2de
 split
 ·exact Zm 0xb20f
 split
 ·exact Zm 0x43e
 split
 ·exact Zm 0x43e
 split
 ·exact Zm 0x43e
 split
 ·exact cI ok (yO ok)
 split
 ·exact Zm 0x43e
 exact xO ok (Nat.le_trans (rK _ _) (rH ok _))
theorem eC {f:Fl}(ok:f.Ok)(y:Lay)(k:Pkg)(h:Bool):(aZ f y k h).x.data.length≤1000000:=by
 unfold aZ
 split
 ·exact Zm 0x43e
 split
 ·exact Zm 0x43e
 split
 ·exact Zm 0x43e
 split
 ·exact DZ ok
 split
 ·exact Zm 0x43e
 split
 ·exact Zm 0x43e
 split
 ·exact CY ok
 split
 ·exact B0 ok
 exact BJ ok
section
variable {f:Fl}{y:Lay}{k:Pkg}{h:Bool}{m:Nat}
theorem gm (e:(aZ f y k h).e≠0∨(aZ f y k h).done=true):bq y k h (m+1) f=⟨f,0,(aZ f y k h).e⟩:=by
 rw [bq,if_pos e]
theorem tL (e:(aZ f y k h).e=0)(d:(aZ f y k h).done=false)(c:aF f (aZ f y k h).x≠0):bq y k h (m+1) f=⟨f,0,aF f (aZ f y k h).x⟩:=by
 rw [bq,if_neg oaK,if_pos c]
theorem xZ (e:(aZ f y k h).e=0)(d:(aZ f y k h).done=false)(c:aF f (aZ f y k h).x=0):bq y k h (m+1) f=⟨(bq y k h m (c7 f (aZ f y k h).x (fun _=>255))).f,(bq y k h m (c7 f (aZ f y k h).x (fun _=>255))).n+1,(bq y k h m (c7 f (aZ f y k h).x (fun _=>255))).e⟩:=by
 rw [bq,if_neg oaK,if_neg (fun q=>q c),bO c]
end
theorem iM (f:Fl)(a:Fa)(ok:f.Ok)(hh:a.hs.length=f.data.length)(y:Lay)(G U V:Option Addr)(gc uc vc:Nat)(hyn: -1000000≤y.n∧y.n≤1000000)(hyl:y.gs.length≤1000∧y.us.length≤1000∧y.ls.length≤1000)(hcap:Caps f a)(k:Pkg)(rv:Value)(h:Bool)(OA QA HA:Option Addr)(oc qc hc:Nat)(hpl:k.pl.ops.length≤9223372036854775807∧k.pl.seq.length≤1000000∧k.pl.st.length≤1000000)(m:Nat)(hm:m≤1000000):
    Ctr X 15 [flV f a,.agg (List.toArray (cP y G U V gc uc vc)),.agg (List.toArray [.int .i64 k.ver,.int .i64 k.frm,.int .i64 k.pl.sz,.int .i64 k.pl.n,.bool k.pl.lf,.int .i64 k.pl.inn,.int .i64 k.pl.out,.slice OA k.pl.ops.length oc,.slice QA k.pl.seq.length qc,.slice HA k.pl.st.length hc,rv,.bool h]),.int .i64 (m:Int)] (flR f a++[Rd G (I64 y.gs),Rd U (I64 y.us),Rd V (I64 y.ls),Rd OA (bZ k.pl.ops),Rd QA (I64 k.pl.seq),Rd HA (I64 k.pl.st)]) [] (fun v R' H'=>∃ b:Fa,b.hs.length=(bq y k h m f).f.data.length∧Caps (bq y k h m f).f b∧v=.agg (List.toArray [.int .i64 ((bq y k h m f).f.size:Int),.slice b.D (bq y k h m f).f.data.length b.cD,.slice b.W (bq y k h m f).f.wear.length b.cW,.int .i64 (bq y k h m f).f.limit,.slice b.E (bq y k h m f).f.dead.length b.cE,.int .i64 ((bq y k h m f).n:Int),.int .i64 (bq y k h m f).e])∧R'=flR (bq y k h m f).f b∧H'=[]):=by
 apply Y 0xe1e;intro hok;refine co Tryz.func15 ?_;intro β;apply Y 0x4a;intro A4;apply Y 0x2b;intro A5;apply Y 0x2b;intro A6;apply Y 0x98;intro A8;apply Y 0x98facfe68ebdb90eb1ea4e35e7b;intro A9;apply Zu 0xe958886b<;>intro
 ·exact Zm 0x18
 apply Y 0x89;refine C.loop (fun q:Nat×Fl×Fa=>[(3,.int .i64 (m:Int)),(5,ag A5 0),(6,ag A6 0),(8,ag A8 0),(9,ag A9 0)]) (fun q:Nat×Fl×Fa=>(flR q.2.1 q.2.2++[Rd G (I64 y.gs),Rd U (I64 y.us),Rd V (I64 y.ls),Rd OA (bZ k.pl.ops),Rd QA (I64 k.pl.seq),Rd HA (I64 k.pl.st),Rd A5 (cP y G U V gc uc vc),Rd A6 [.int .i64 k.ver,.int .i64 k.frm,.int .i64 k.pl.sz,.int .i64 k.pl.n,.bool k.pl.lf,.int .i64 k.pl.inn,.int .i64 k.pl.out,.slice OA k.pl.ops.length oc,.slice QA k.pl.seq.length qc,.slice HA k.pl.st.length hc,rv,.bool h]])) (fun q:Nat×Fl×Fa=>[Own 55 7 A8 1 1 [.int .i64 0,.slice none 0 0,.slice none 0 0,.int .i64 0,.slice none 0 0,.int .i64 0,.int .i64 0],Own 55 7 A9 1 1 [.int .i64 (q.2.1.size:Int),.slice q.2.2.D q.2.1.data.length q.2.2.cD,.slice q.2.2.W q.2.1.wear.length q.2.2.cW,.int .i64 q.2.1.limit,.slice q.2.2.E q.2.1.dead.length q.2.2.cE,.int .i64 (q.1:Int),.int .i64 0]]) (fun q:Nat×Fl×Fa=>q.1≤m∧q.2.1.Ok∧q.2.2.hs.length=q.2.1.data.length∧Caps q.2.1 q.2.2∧bq y k h m f=⟨(bq y k h (m-q.1) q.2.1).f,(bq y k h (m-q.1) q.2.1).n+q.1,(bq y k h (m-q.1) q.2.1).e⟩) (fun q:Nat×Fl×Fa=>m-q.1) (0,f,a) ⟨Nat.zero_le _,ok,hh,hcap,rfl⟩ (lk [3,4,5,6,7,8,9,10,11,12,1,0] [0,1]) ?_;apply Y 0x9c2f;intro i g b hi gok hbl hbc hrun
 dsimp only at hi gok hbl hbc hrun ⊢;apply Zu 0xe9da58<;>intro
 ·apply Y 0x404fff3f91e7ba99;refine sp (aa (vs:=[_,_,_,_,_,_,_,_,_,_,_,_]) rfl rfl rfl (Src.r 11 rfl) rfl rfl ob) ?_;refine aJ (jT g b gok hbl y G U V gc uc vc hyn hyl hbc k rv h OA QA HA oc qc hc hpl) ?_;apply Y 0x19;intro XA xc;apply Y 0x98ab;intro A10;apply Zu 0xb03f48f86890eade57b32e<;>intro hg31
  ·apply Y 0x1dd;refine C.cond rfl (fun _=>?_) (fun h=>by cases h);apply Y 0x2b3f12e12e599bf4e788bbf87;have hr:=gm (m:=m-(i+1)) (y:=y) (k:=k) (h:=h) (f:=g) (.inl hg31);rw [show m-(i+1)+1=m-i by omega] at hr;rw [hr] at hrun
   simp only [Nat.zero_add] at hrun;exact Zm 0x3fecae
  apply Zu 0x1a11c<;>intro hc34
  ·apply Y 0x2b3f12e12e599bf4e788bbf87;have hr:=gm (m:=m-(i+1)) (y:=y) (k:=k) (h:=h) (f:=g) (.inr (by simpa using hc34));rw [show m-(i+1)+1=m-i by omega] at hr;rw [hr] at hrun
   simp only [Nat.zero_add] at hrun;exact Zm 0x3fecae
  apply Y 0x77ec0eff3f91e3c;refine aJ (Ak g b gok hbl (aZ g y k h).x XA xc (Nat.le_trans (eC gok y k h) ob)) ?_;apply Y 0xb51f;intro b2 hb2 hc2;apply Y 0x98b8ab;intro A11;apply Zu 0x5d3858132e<;>intro hc48
  ·apply Y 0x12e12e599bf4e788bbf9;refine qrt [6,7,8,9] [] [_] rfl ⟨⟨_,_,0,_,rfl,rfl,Src.o 0 rfl,.inl ⟨rfl,by decide,_,rfl,rfl,rfl⟩⟩,trivial⟩ ?_;have hr:=tL (m:=m-(i+1)) (y:=y) (k:=k) (h:=h) (f:=g) hg31 (by simpa using hc34) hc48;rw [show m-(i+1)+1=m-i by omega] at hr;rw [hr] at hrun
   simp only [Nat.zero_add] at hrun;exact Zm 0x3fecae
  apply Y 0x25efdbbcada68886b91ee04f3c;have hgo:=xZ (y:=y) (k:=k) (h:=h) (f:=g) (m:=m-(i+1)) hg31 (by simpa using hc34) hc48;rw [show m-(i+1)+1=m-i by omega] at hgo;refine QE.round (i:=(i,g,b)) ((i+1,(c7 g (aZ g y k h).x (fun _=>255)),b2)) (by exact ⟨by dsimp only;omega,(eb gok hc48 _).ok,hb2,hc2,by dsimp only;rw [hrun,hgo];simp only [Rni.mk.injEq,true_and,and_true];omega⟩) ou (lk [0,1,2,3,10,11,12,13,14,15,16,17] [0,1])
 apply Y 0xda3fd89bf4e7a9;obtain rfl:i=m:=oe;rw [Nat.sub_self] at hrun;rw [show bq y k h 0 g=⟨g,0,0⟩ from rfl] at hrun
 simp only [Nat.zero_add] at hrun;exact Zm 0x3fecae
def fF (e:Int):Value:=.iface 136 (.agg #[.int .i64 e])
theorem dY (e:Int):
    du X 72 [.int .i64 e] [] [] (b5 [{ v:=(fF e),recovered:=false }] (fun v R' H'=>v=.tuple #[]∧e=0∧R'=[]∧H'=[]) (fun R' H'=>e≠0∧R'=[]∧H'=[])):=by
 refine du.of (X:=X) (fn:=Tryz.f72) Tryz.func72 rfl oa rfl ?_;intro β;apply Zu 0x5dc8<;>intro hc3
 ·apply Y 0x51e530f6fa2c;exact ⟨hc3,rfl,rfl⟩
 apply Y 0x96e5a;refine fo (js:=[]) (hs:=[]) (vs:=[]) rfl trivial ob ?_;exact ⟨rfl,hc3,rfl,rfl⟩
theorem Iv (β:Base)(A8 A9 A10:Option Addr)(e:Int)(Q:Exit→Act→World→Prop)(h:∀ Γ,QE β 20 [] Q .normal Γ [] [Own 60 4 A8 1 1 [.int .i64 0,.int .i64 0,.int .i64 0,.slice none 0 0],Own 4 1 A9 1 1 [.bool false],Own 53 1 A10 1 1 [.int .i64 e]]):
    C X β 20 [] Q (match Tryz.f70.body with|some (.seq _ b)=>b|_=>.skip) [(3,(fF e)),(6,(fF e)),(0,ag A8 0),(1,ag A9 0),(2,ag A10 0)] [] [Own 60 4 A8 1 1 [.int .i64 0,.int .i64 0,.int .i64 0,.slice none 0 0],Own 4 1 A9 1 1 [.bool false],Own 53 1 A10 1 1 [.int .i64 0]]:=by
 apply Zu 0x1a888e1ff9<;>intro hc8
 ·apply Y 0xf9;refine sp (FB rfl rfl rfl) ?_;apply Y 0x98b8;intro A4;apply Zu 0x1a3858195e<;>intro hc15
  ·cases hc15
  apply Y 0xcca8efbe69cbed9e35bc9e8fe7fe893f760fba1f99;refine QE.le (Γ':=[]) (R':=[]) (H':=[Own 60 4 A8 1 1 [.int .i64 0,.int .i64 0,.int .i64 0,.slice none 0 0],Own 4 1 A9 1 1 [.bool false],Own 53 1 A10 1 1 [.int .i64 e]]) (aA (rs:=[]) (hs:=[0,1,2]) trivial trivial rt ob) (h _)
 cases hc8
theorem Jj (β:Base)(A8 A9 A10:Option Addr)(Q:Exit→Act→World→Prop)(h:∀ Γ,QE β 20 [] Q .normal Γ [] []):
    C X β 20 [] Q (match Tryz.f70.body with|some (.seq _ b)=>b|_=>.skip) [(3,.nilIface),(6,.nilIface),(0,ag A8 0),(1,ag A9 0),(2,ag A10 0)] [] []:=by
 apply Zu 0x1a889e1ff9<;>intro hc8
 ·cases hc8
 apply Y 0x5a
 exact h _
theorem PR (v p q r:Value):Fr 20 [] { tmps:=#[p,q,r]++((Array.replicate 17 undef).setIfInBounds 3 v).setIfInBounds 0 v,defers:=[] } [(3,v),(6,v),(0,p),(1,q),(2,r)]:=by
 refine LD oa fun x hx=>?_
 simp only [List.mem_cons,List.not_mem_nil,or_false] at hx
 rcases hx with rfl|rfl|rfl|rfl|rfl<;>kernel_rfl
theorem M0 (w:World):Sat ⟨w,fun _=>False,fun _=>False⟩ w [] []:=⟨⟨rfl,rfl,rfl,Nat.le_refl _,fun _ _ _=>rfl⟩,by simp,by simp,by simp,by simp,by simp,by simp⟩
theorem l6 (A8 A9 A10:Option Addr)(e:Int):RecW X.P 70 #[ag A8 0,ag A9 0,ag A10 0] (fF e) [Own 60 4 A8 1 1 [.int .i64 0,.int .i64 0,.int .i64 0,.slice none 0 0],Own 4 1 A9 1 1 [.bool false],Own 53 1 A10 1 1 [.int .i64 0]] [Own 60 4 A8 1 1 [.int .i64 0,.int .i64 0,.int .i64 0,.slice none 0 0],Own 4 1 A9 1 1 [.bool false],Own 53 1 A10 1 1 [.int .i64 e]]:=by
 refine ⟨fun w=>?_,fun w=>?_,fun w hD=>?_⟩
 ·have hf:X.P.funcs[70]?=some Tryz.f70:=Tryz.func70;have hb:Tryz.f70.body.isNone=false:=rfl;have hname:(Tryz.f70.name== "runtime.NumGoroutine")=false:=rfl
  simp only [beq_eq_false_iff_ne] at hname;apply Y 0x302f;intro h;rw [h] at hb
  cases hb
 ·refine callsD_of_wpS (P:=X.P) Tryz.func70 rfl fun c₀ cs hu=>?_
  apply wpS_seq
  apply wpS_region;apply Y 0xf40f;refine wpS_of_wp (Jj _ A8 A9 A10 _ (fun Γ a' w' hf' hs'=>?_) _ w (PR .nilIface _ _ _) (M0 w));apply Y 0x4a0f;intro hst;apply Y 0x520f;intro hd
  cases c₀
  simp only at hu;subst hu;exact Zm 0x150f
 refine callsD_of_wpS (P:=X.P) Tryz.func70 rfl fun c₀ cs hu=>?_
 apply wpS_seq
 apply wpS_region;apply Y 0xf40f;refine wpS_of_wp (Iv _ A8 A9 A10 e _ (fun Γ a' w' hf' hs'=>?_) _ w (PR (fF e) _ _ _) hD);apply Y 0x520f;intro hd
 cases c₀
 simp only at hu;subst hu
 simp [bodyPostS,results,hd]
 exact hs'
end Go.Proofs.YtbpddeiogcgegaaGreat
