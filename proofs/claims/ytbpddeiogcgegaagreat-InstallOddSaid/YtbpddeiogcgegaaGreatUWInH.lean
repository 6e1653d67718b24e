/-
  Part of a proof.
-/
import Derived.Test.YtbpddeiogcgegaaGreatUWInF
set_option maxHeartbeats 0
set_option maxRecDepth 4000
set_option linter.all false
namespace Go.Proofs.YtbpddeiogcgegaaGreat
open Go.Sl
theorem nine {s:List Int}(h:s.length=9):∃ p0 p1 p2 p3 p4 p5 p6 p7 p8,s=[p0,p1,p2,p3,p4,p5,p6,p7,p8]:=by
 match s,h with
 |[a,b,c,d,e,f,g,h,i],_=>exact ⟨a,b,c,d,e,f,g,h,i,rfl⟩
theorem Eg {f:Fl}{y:Lay}{s:List Int}{k:Pkg}{h:Bool}(e:fitE f y s k h=0):PlnFit f y k.pl:=by
 unfold fitE at e
 split at e
 ·cases e
 split at e
 ·cases e
 split at e
 ·cases e
 rename_i h1 h2 h3;refine ⟨by simpa using h2,?_,?_,?_⟩
 ·by_cases q:k.pl.sz=(f.size:Int)
  ·exact q
  exact absurd (.inl q) h3
 ·by_cases q:k.pl.n=y.n
  ·exact q
  exact absurd (.inr (.inl q)) h3
 by_cases q:(k.pl.st.length:Int)>(y.ls.length:Int)
 ·exact absurd (.inr (.inr q)) h3
 exact Zm 0x18
section
variable {f:Fl}{y:Lay}{k:Pkg}{h:Bool}{s:List Int}
theorem FX (hl:eT f y=false):bJ f y k h=nxE 220:=if_pos hl
theorem FW (hl:eT f y=true)(e:(bj f y.a y.b).2.2≠0):bJ f y k h=nxE (bj f y.a y.b).2.2:=by
 unfold bJ;rw [if_neg (by rw [hl];decide),if_pos e]
theorem Cs (hl:eT f y=true)(e:(bj f y.a y.b).2.2=0)(hs:(bj f y.a y.b).1=s)(h1:sPh s=0∨sPh s=4∨sPh s=5):bJ f y k h=nxD:=by
 rw [ep hl e hs,if_pos h1]
theorem IM (hl:eT f y=true)(e:(bj f y.a y.b).2.2=0)(hs:(bj f y.a y.b).1=s)(h1:sPh s=6):bJ f y k h=dF f y s:=by
 rw [ep hl e hs,if_neg oe,if_pos h1]
theorem IL (hl:eT f y=true)(e:(bj f y.a y.b).2.2=0)(hs:(bj f y.a y.b).1=s)(h1:sPh s>6):bJ f y k h=nxE 240:=by
 rw [ep hl e hs,if_neg oe,if_neg oe,if_pos h1]
theorem IK (hl:eT f y=true)(e:(bj f y.a y.b).2.2=0)(hs:(bj f y.a y.b).1=s)(h1:¬(sPh s=0∨sPh s=4∨sPh s=5)∧¬sPh s=6∧¬sPh s>6)(h2:fitE f y s k h≠0):bJ f y k h=nxE (fitE f y s k h):=by
 rw [ep hl e hs,if_neg h1.1,if_neg h1.2.1,if_neg h1.2.2,if_pos h2]
theorem IJ (hl:eT f y=true)(e:(bj f y.a y.b).2.2=0)(hs:(bj f y.a y.b).1=s)(h2:fitE f y s k h=0)(h1:sPh s=1):bJ f y k h=dQ f y s k.pl:=by
 rw [ep hl e hs,if_neg oe,if_neg oe,if_neg oe,if_neg (fun q=>q h2),if_pos h1]
theorem II (hl:eT f y=true)(e:(bj f y.a y.b).2.2=0)(hs:(bj f y.a y.b).1=s)(h2:fitE f y s k h=0)(h1:sPh s=2):bJ f y k h=eE f y s k.pl:=by
 rw [ep hl e hs,if_neg oe,if_neg oe,if_neg oe,if_neg (fun q=>q h2),if_neg oe,if_pos h1]
theorem IH (hl:eT f y=true)(e:(bj f y.a y.b).2.2=0)(hs:(bj f y.a y.b).1=s)(h2:fitE f y s k h=0)(h1:¬(sPh s=0∨sPh s=4∨sPh s=5)∧¬sPh s=6∧¬sPh s>6)(h3:¬sPh s=1)(h4:¬sPh s=2):bJ f y k h=dw f y s k.pl:=by
 rw [ep hl e hs,if_neg h1.1,if_neg h1.2.1,if_neg h1.2.2,if_neg (fun q=>q h2),if_neg h3,if_neg h4]
end
def Az (s:List Int):Prop:=∀ x∈s,0≤x∧x≤4294967295
theorem Gl (b:List UInt8):Az (pK b):=by
 intro x hx
 unfold pK at hx;obtain ⟨p,hp,rfl⟩:=List.mem_map.1 hx;have hw:p.2≤4:=by
  have h1:∀ q∈K8.zip wds,q.2≤4:=ob
  exact h1 p hp
 have h2:=kZ ((b.drop p.1).take p.2);have h3:((b.drop p.1).take p.2).length≤4:=oN;have h4:(256^((b.drop p.1).take p.2).length:Nat)≤4294967296:=Nat.le_trans (Nat.pow_le_pow_right ob h3) ob;exact Zm 0x18
theorem wF {l:List UInt8}{s:List Int}(h:b7 l=some s):Az s:=by
 unfold b7 at h
 split at h
 ·injection h with h
  rw [← h]
  exact Gl _
 cases h
theorem AP {row:List UInt8}{x:Lg}{i:Nat}(h:Az x.s):Az (ez row x i).s:=by
 unfold ez
 split
 ·exact Zm 0xc2e
 split
 ·rename_i hs
  exact wF hs
 exact Zm 0xc2e
theorem sS {row:List UInt8}{x:Lg}(h:Az x.s):∀ k,Az (bz row x k).s
  |0=>h
  |k+1=>by
    rw [bT]
    exact AP (sS h k)
theorem pL:Az (List.replicate 9 0):=fun x hx=>by
  rw [(List.mem_replicate.1 hx).2]
  decide
theorem tg (f:Fl)(a b:Int):Az (aj f a b).s:=by
 unfold aj
 split<;>exact pL
theorem CI (f:Fl)(a b:Int):Az (aq f a b).s:=by
 unfold aq
 split
 ·split
  ·exact tg f a b
  exact sS (tg f a b) _
 exact pL
theorem BQ (f:Fl)(a b:Int):Az (bj f a b).1:=by
 unfold bj
 split
 ·exact CI f a b
 exact pL
theorem yb (f:Fl)(a:Fa)(ok:f.Ok)(hh:a.hs.length=f.data.length)(y:Lay)(G U V:Option Addr)(gc uc vc:Nat)(hyn: -1000000≤y.n∧y.n≤1000000)(hyl:y.gs.length≤1000∧y.us.length≤1000∧y.ls.length≤1000)(hcap:Caps f a)(k:Pkg)(rv:Value)(h:Bool)(OA QA HA:Option Addr)(oc qc hc:Nat)(hpl:k.pl.ops.length≤9223372036854775807∧k.pl.seq.length≤1000000∧k.pl.st.length≤1000000):
    Ctr X 16 [flV f a,.agg (List.toArray (di y G U V gc uc vc)),.agg (List.toArray [.int .i64 k.ver,.int .i64 k.frm,.int .i64 k.pl.sz,.int .i64 k.pl.n,.bool k.pl.lf,.int .i64 k.pl.inn,.int .i64 k.pl.out,.slice OA k.pl.ops.length oc,.slice QA k.pl.seq.length qc,.slice HA k.pl.st.length hc,rv,.bool h])] (flR f a++[Rd G (I64 y.gs),Rd U (I64 y.us),Rd V (I64 y.ls),Rd OA (ck k.pl.ops),Rd QA (I64 k.pl.seq),Rd HA (I64 k.pl.st)]) [] (fun v R' H'=>∃ (O:Option Addr) (oc:Nat),v=.agg (List.toArray [.int .i64 (bJ f y k h).x.kind,.int .i64 (bJ f y k h).x.sec,.int .i64 (bJ f y k h).x.at_,.slice O (bJ f y k h).x.data.length oc,.bool (bJ f y k h).done,.int .i64 (bJ f y k h).e])∧R'=[Rd O (U8 (bJ f y k h).x.data)]∧H'=[]):=by
 apply Y 0xc1e;intro hok;obtain ⟨os1,os2,on1,on2,owl,odl,orows,ol1,ol2,owear⟩:=ok;apply Y 0x982f;intro p0 p1 p2 p3 p4 p5 p6 p7 p8 hs9;apply Y 0x242f;intro hp;have hp0:=hp p0 oO;refine co Tryz.func16 ?_;intro β;apply Y 0x6a;intro A3;apply Y 0x7b;intro A4;apply Y 0x7b;intro A5;apply Y 0xa8;intro A6;apply Y 0x730f530f788c7c71ed1e45e26ecb;refine al (mN (f.size:Int) f a hh oe y G U V gc uc vc hyn hyl) ?_;apply Zu 0x3a385814a88<;>intro hc15
 ·have hlay0:eT f y=false:=obf;apply Zu 0xedccb0e5b8b
  ·rw [FX hlay0];exact Zm 0x2
  rw [FX hlay0];exact Zm 0x2
 have hlay:eT f y=true:=obf;apply Y 0x730f530f8d;refine al (Fi f a hok hh ⟨y.n,y.a,y.b,y.s0,y.s1,G,y.gs.length,gc,U,y.us.length,uc,V,y.ls.length,vc⟩ hcap) ?_;apply Y 0xd4e88;rw [hs9];apply Y 0xa84a;intro A8;apply Zu 0xdd1f8788cb2e5cb4c<;>intro hc22
 ·apply Zu 0xedccb0e5bbaf848
  ·rw [FW hlay hc22];exact Zm 0x2
  rw [FW hlay hc22];exact Zm 0x2
 apply Y 0xa8dde21e8d;intro A9;apply Zu 0x4d3858aa98f8788cb2e5cb4c<;>intro hc30
 ·apply Y 0x59;refine C.cond rfl (fun _=>?_) (fun h=>by cases h);apply Zu 0xedccf5e2d5b4a887de48
  ·exact Zm 0x22c3f
  exact Zm 0x22c3f
 apply Zu 0x4dc8<;>intro hc30
 ·apply Y 0x59;refine C.cond rfl (fun _=>?_) (fun h=>by cases h);apply Zu 0xedccf5e2d5b4a887de48
  ·exact Zm 0x23c3f
  exact Zm 0x23c3f
 apply Zu 0x4d3878<;>intro hc30
 ·apply Zu 0xedccf5e2d5b4a887de48
  ·exact Zm 0x24c3f
  exact Zm 0x24c3f
 apply Zu 0x4dc8<;>intro hc35
 ·apply Y 0xdde830f630f48;refine aL (C5 f a hok hh y G U V gc uc vc hyn hyl hcap p0 p1 p2 p3 p4 p5 p6 p7 p8 hp hlay) ?_;apply Y 0x19;intro TO tc;apply Zu 0x25ecc2d5b4a
  ·exact Zm 0x25c3f
  exact Zm 0x25c3f
 apply Zu 0x791f858fb7a<;>intro hc43
 ·apply Zu 0xedccb0e5b8b
  ·exact Zm 0x26c3f
  exact Zm 0x26c3f
 apply Y 0xdde830f630f8d;refine sp (ab (vs:=[_,_,_,_,_,_,_,_,_,_,_,_]) rfl rfl rfl (Src.r 2 rfl) rfl rfl ob) ?_;refine al (CF f a hok hh y G U V gc uc vc hyn hyl hcap p0 p1 p2 p3 p4 p5 p6 p7 p8 k rv h OA QA HA oc qc hc hpl) ?_;apply Zu 0xdd385814a88<;>intro hc51
 ·apply Zu 0xedccb0e5bbab9
  ·exact Zm 0x27c3f
  exact Zm 0x27c3f
 have hfit:=Eg hc51;apply Zu 0x4dc8aa98f85859<;>intro hc56
 ·apply Y 0x6c1f73e73edde830f630f48;refine aL (p9 f a hok hh y G U V gc uc vc hyn hyl hcap p0 p1 p2 p3 p4 p5 p6 p7 p8 hp k.pl OA QA HA oc qc hc hpl hfit hlay) ?_;apply Y 0x19;intro TO tc;apply Zu 0x25ecc2d5b4a
  ·exact Zm 0x28c3f
  exact Zm 0x28c3f
 apply Zu 0x4dc8<;>intro hc65
 ·apply Y 0x6c1f73e73edde830f630f48;refine aL (wH f a hok hh y G U V gc uc vc hyn hyl hcap p0 p1 p2 p3 p4 p5 p6 p7 p8 hp k.pl OA QA HA oc qc hc hpl hfit hlay) ?_;apply Y 0x19;intro TO tc;apply Zu 0x25ecc2d5b4a
  ·exact Zm 0x29c3f
  exact Zm 0x29c3f
 apply Y 0x6c1f73e73edde830f630f48fb7a;refine aL (vX f a hok hh y G U V gc uc vc hyn hyl hcap p0 p1 p2 p3 p4 p5 p6 p7 p8 hp k.pl OA QA HA oc qc hc hpl hfit hlay) ?_;apply Y 0x19;intro TO tc;apply Zu 0x25ecce85b4a
 ·exact Zm 0x2ac3f
 exact Zm 0x2ac3f
theorem cH {f:Fl}(ok:f.Ok){y:Lay}{x:Nx}{s:List Int}(h:x.x.data.length≤1000000):(cj f y x s).x.data.length≤1000000:=by
 unfold cj
 split
 ·exact Zm 0xc2e
 exact Zm 0xe10f
theorem AL (f:Fl)(us:List Int)(at_:Int)(b:List UInt8):(towS f us at_ b).x.data.length≤b.length:=by
 unfold towS
 split
 ·exact Zm 0xe2e
 split
 ·exact Zm 0xe2e
 split
 ·exact Zm 0xe2e
 split
 ·exact Zm 0xe2e
 show (bL b _ _ _).length≤b.length
 unfold bL;exact Zm 0x189d1f
theorem pT {f:Fl}(ok:f.Ok)(t:Int):(aV f t).length≤1000000:=ok.sm.r _
theorem Gq {f:Fl}{y:Lay}{p:Pln}{k:Int}:(p.cntV f y k).length≤4096:=by
 unfold Pln.cntV
 by_cases e:cntE p.lf p.sz p.n p.inn p.out p.ops p.seq p.st f.data (f.size:Int) y.n y.ls k=0
 ·rw [mi e]
  unfold G1;rw [b9];have hv:eD p.lf p.sz p.n p.inn p.out p.ops p.seq p.st=true:=by
   cases hv:eD p.lf p.sz p.n p.inn p.out p.ops p.seq p.st with
   |true=>rfl
   |false=>rw [Ej hv] at e;cases e
  have:=dy.1 (eI.1 hv).2.2.1;exact Zm 0x18
 rw [mj e];exact Zm 0xe2e
theorem wU {f:Fl}(ok:f.Ok){y:Lay}{s:List Int}{c:List UInt8}(h:c.length≤1000000):(sgF f y s c).x.data.length≤1000000:=by
 unfold sgF
 split
 ·exact Zm 0xe2e
 split
 ·exact Zm 0xe10f
 exact cH ok (Nat.le_trans (fX _ _ _) h)
theorem xX {f:Fl}(ok:f.Ok){y:Lay}{s:List Int}{t:Int}:(plF f y s t).x.data.length≤1000000:=by
 unfold plF
 split
 ·exact Zm 0xe2e
 exact Nat.le_trans (fX _ _ _) (pT ok _)
theorem B2 {f:Fl}(ok:f.Ok){y:Lay}{s:List Int}{p:Pln}:(dQ f y s p).x.data.length≤1000000:=by
 unfold dQ
 split
 ·exact Zm 0xe2e
 split
 ·exact Zm 0xe2e
 split
 ·exact Zm 0xe10f
 refine cH ok (Nat.le_trans (fX _ _ _) ?_);rw [List.length_replicate]
 exact Nat.le_trans ok.s2 ob
theorem AT {f:Fl}(ok:f.Ok){y:Lay}{s:List Int}{p:Pln}:(eE f y s p).x.data.length≤1000000:=by
 unfold eE
 split
 ·exact Zm 0xe10f
 exact cH ok (Nat.le_trans (fX _ _ _) (pT ok _))
theorem AC {f:Fl}(ok:f.Ok){y:Lay}{s:List Int}{p:Pln}:(dw f y s p).x.data.length≤1000000:=by
 apply Y 0xbfe
 split
 ·exact Zm 0xe10f
 split
 ·exact Zm 0xe2e
 split
 ·exact cH ok (xX ok)
 split
 ·exact Zm 0xe2e
 split
 ·exact wU ok (Nat.le_trans Gq ob)
 exact cH ok (Nat.le_trans (AL _ _ _ _) (Nat.le_trans (lE _ _ _) ob))
theorem C4 {f:Fl}(ok:f.Ok){y:Lay}{s:List Int}:(dF f y s).x.data.length≤1000000:=by
 apply Y 0x3ee
 split
 ·exact Zm 0xe10f
 split
 ·exact Zm 0xe2e
 split
 ·exact Zm 0xe2e
 split
 ·exact Zm 0xe2e
 split
 ·exact cH ok (xX ok)
 split
 ·exact Zm 0xe2e
 exact wU ok (Nat.le_trans (pV _ _) (pT ok _))
theorem tN {f:Fl}(ok:f.Ok)(y:Lay)(k:Pkg)(h:Bool):(bJ f y k h).x.data.length≤1000000:=by
 unfold bJ
 split
 ·exact Zm 0xe2e
 split
 ·exact Zm 0xe2e
 split
 ·exact Zm 0xe2e
 split
 ·exact C4 ok
 split
 ·exact Zm 0xe2e
 split
 ·exact Zm 0xe2e
 split
 ·exact B2 ok
 split
 ·exact AT ok
 exact AC ok
section
variable {f:Fl}{y:Lay}{k:Pkg}{h:Bool}{m:Nat}
end
def fw (e:Int):Value:=.iface 136 (.agg #[.int .i64 e])
theorem dT (e:Int):
    dr X 72 [.int .i64 e] [] [] (bX [{ v:=(fw e),recovered:=false }] (fun v R' H'=>v=.tuple #[]∧e=0∧R'=[]∧H'=[]) (fun R' H'=>e≠0∧R'=[]∧H'=[])):=by
 refine dr.of (X:=X) (fn:=Tryz.f72) Tryz.func72 rfl oa rfl ?_;intro β;apply Zu 0xddc8<;>intro hc3
 ·apply Y 0x11e620f7baab;exact ⟨hc3,rfl,rfl⟩
 apply Y 0x16e7a;refine fe (js:=[]) (hs:=[]) (vs:=[]) rfl trivial ob ?_;exact ⟨rfl,hc3,rfl,rfl⟩
theorem HX (β:Base)(A8 A9 A10:Option Addr)(e:Int)(Q:Exit→Act→World→Prop)(h:∀ Γ,QE β 20 [] Q .normal Γ [] [Own 60 4 A8 1 1 [.int .i64 0,.int .i64 0,.int .i64 0,.slice none 0 0],Own 4 1 A9 1 1 [.bool false],Own 53 1 A10 1 1 [.int .i64 e]]):
    C X β 20 [] Q (match Tryz.f70.body with|some (.seq _ b)=>b|_=>.skip) [(3,(fw e)),(6,(fw e)),(0,ag A8 0),(1,ag A9 0),(2,ag A10 0)] [] [Own 60 4 A8 1 1 [.int .i64 0,.int .i64 0,.int .i64 0,.slice none 0 0],Own 4 1 A9 1 1 [.bool false],Own 53 1 A10 1 1 [.int .i64 0]]:=by
 apply Zu 0x3a988c1fb9<;>intro hc8
 ·apply Y 0xb9;refine sp (EB rfl rfl rfl) ?_;apply Y 0xa8b8;intro A4;apply Zu 0x3a3858156e<;>intro hc15
  ·cases hc15
  apply Y 0xfc48ebbe699be4ae36b89efeeeee333f650f291f59;refine QE.le (Γ':=[]) (R':=[]) (H':=[Own 60 4 A8 1 1 [.int .i64 0,.int .i64 0,.int .i64 0,.slice none 0 0],Own 4 1 A9 1 1 [.bool false],Own 53 1 A10 1 1 [.int .i64 e]]) (aB (rs:=[]) (hs:=[0,1,2]) trivial trivial rt ob) (h _)
 cases hc8
theorem IT (β:Base)(A8 A9 A10:Option Addr)(Q:Exit→Act→World→Prop)(h:∀ Γ,QE β 20 [] Q .normal Γ [] []):
    C X β 20 [] Q (match Tryz.f70.body with|some (.seq _ b)=>b|_=>.skip) [(3,.nilIface),(6,.nilIface),(0,ag A8 0),(1,ag A9 0),(2,ag A10 0)] [] []:=by
 apply Zu 0x3a989c1fb9<;>intro hc8
 ·cases hc8
 apply Y 0x7a
 exact h _
theorem PM (v p q r:Value):Fr 20 [] { tmps:=#[p,q,r]++((Array.replicate 17 undef).setIfInBounds 3 v).setIfInBounds 0 v,defers:=[] } [(3,v),(6,v),(0,p),(1,q),(2,r)]:=by
 refine KY oa fun x hx=>?_
 simp only [List.mem_cons,List.not_mem_nil,or_false] at hx
 rcases hx with rfl|rfl|rfl|rfl|rfl<;>kernel_rfl
theorem MD (w:World):Sat ⟨w,fun _=>False,fun _=>False⟩ w [] []:=⟨⟨rfl,rfl,rfl,Nat.le_refl _,fun _ _ _=>rfl⟩,by simp,by simp,by simp,by simp,by simp,by simp⟩
theorem lG (A8 A9 A10:Option Addr)(e:Int):RecW X.P 70 #[ag A8 0,ag A9 0,ag A10 0] (fw e) [Own 60 4 A8 1 1 [.int .i64 0,.int .i64 0,.int .i64 0,.slice none 0 0],Own 4 1 A9 1 1 [.bool false],Own 53 1 A10 1 1 [.int .i64 0]] [Own 60 4 A8 1 1 [.int .i64 0,.int .i64 0,.int .i64 0,.slice none 0 0],Own 4 1 A9 1 1 [.bool false],Own 53 1 A10 1 1 [.int .i64 e]]:=by
 refine ⟨fun w=>?_,fun w=>?_,fun w hD=>?_⟩
 ·have hf:X.P.funcs[70]?=some Tryz.f70:=Tryz.func70;have hb:Tryz.f70.body.isNone=false:=rfl;have hname:(Tryz.f70.name== "runtime.NumGoroutine")=false:=rfl
  simp only [beq_eq_false_iff_ne] at hname;apply Y 0x4e1f;intro h;rw [h] at hb
  cases hb
 ·refine callsD_of_wpS (P:=X.P) Tryz.func70 rfl fun c₀ cs hu=>?_
  apply wpS_seq
  apply wpS_region;apply Y 0xe30f;refine wpS_of_wp (IT _ A8 A9 A10 _ (fun Γ a' w' hf' hs'=>?_) _ w (PM .nilIface _ _ _) (MD w));apply Y 0x390f;intro hst;apply Y 0xa10f;intro hd
  cases c₀
  simp only at hu;subst hu;exact Zm 0xf30f
 refine callsD_of_wpS (P:=X.P) Tryz.func70 rfl fun c₀ cs hu=>?_
 apply wpS_seq
 apply wpS_region;apply Y 0xe30f;refine wpS_of_wp (HX _ A8 A9 A10 e _ (fun Γ a' w' hf' hs'=>?_) _ w (PM (fw e) _ _ _) hD);apply Y 0xa10f;intro hd
 cases c₀
 simp only at hu;subst hu
 simp [bodyPostS,results,hd]
 exact hs'
def rxo (x:Fo)(d:Bool):Fo:=if d=true then fo0 else x
def rO (d:Bool)(A:Option Addr):Option Addr:=if d=true then none else A
def rC (d:Bool)(c:Nat):Nat:=if d=true then 0 else c
theorem cP {f:Fl}{a:Fa}{y:Lay}{G U V:Option Addr}{gc uc vc:Nat}{p0 p1 p2 p3 p4 p5 p6 p7 p8:Int}{k:Pkg}{rv:Value}{OA QA HA:Option Addr}{oc qc hc:Nat}{M:Option Addr}{x:Fo}{XA:Option Addr}{xc:Nat}{d:Bool}(h:d=true):
    Own 140 38 M 1 1 (mcA f a y G U V gc uc vc (.int .i64 p0::.int .i64 p1::.int .i64 p2::.int .i64 p3::.int .i64 p4::.int .i64 p5::.int .i64 p6::.int .i64 p7::.int .i64 p8::mcK k OA QA HA oc qc hc (rv::.int .i64 (rxo x d).kind::.int .i64 (rxo x d).sec::.int .i64 (rxo x d).at_::.slice (rO d XA) (rxo x d).data.length (rC d xc)::.bool (!d)::[])))=Own 140 38 M 1 1 (mcA f a y G U V gc uc vc (.int .i64 p0::.int .i64 p1::.int .i64 p2::.int .i64 p3::.int .i64 p4::.int .i64 p5::.int .i64 p6::.int .i64 p7::.int .i64 p8::mcK k OA QA HA oc qc hc (rv::.int .i64 0::.int .i64 0::.int .i64 0::.slice none 0 0::.bool false::[]))):=by
 subst h;exact Zm 0x2
theorem kJ (f:Fl)(a:Fa)(ok:f.Ok)(hh:a.hs.length=f.data.length)(y:Lay)(G U V:Option Addr)(gc uc vc:Nat)(hyn: -1000000≤y.n∧y.n≤1000000)(hyl:y.gs.length≤1000∧y.us.length≤1000∧y.ls.length≤1000)(hcap:Caps f a)(p0 p1 p2 p3 p4 p5 p6 p7 p8:Int)(hp:∀ x∈[p0,p1,p2,p3,p4,p5,p6,p7,p8],0≤x∧x≤4294967295)(k:Pkg)(rv:Value)(OA QA HA:Option Addr)(oc qc hc:Nat)(hpl:k.pl.ops.length≤9223372036854775807∧k.pl.seq.length≤1000000∧k.pl.st.length≤1000000)(M:Option Addr)(x:Fo)(XA:Option Addr)(xc:Nat)(d:Bool)(e:Int):
    dr X 185 [ag M 0,.agg (List.toArray [.int .i64 x.kind,.int .i64 x.sec,.int .i64 x.at_,.slice XA x.data.length xc]),.bool d,.int .i64 e] [Rd XA (U8 x.data)] [Own 140 38 M 1 1 (mcA f a y G U V gc uc vc (.int .i64 p0::.int .i64 p1::.int .i64 p2::.int .i64 p3::.int .i64 p4::.int .i64 p5::.int .i64 p6::.int .i64 p7::.int .i64 p8::mcK k OA QA HA oc qc hc (rv::.int .i64 0::.int .i64 0::.int .i64 0::.slice none 0 0::.bool false::[])))] (bX [{ v:=(fw e),recovered:=false }] (fun v R' H'=>e=0∧v=.bool d∧R'=[Rd (rO d XA) (U8 (rxo x d).data)]∧H'=[Own 140 38 M 1 1 (mcA f a y G U V gc uc vc (.int .i64 p0::.int .i64 p1::.int .i64 p2::.int .i64 p3::.int .i64 p4::.int .i64 p5::.int .i64 p6::.int .i64 p7::.int .i64 p8::mcK k OA QA HA oc qc hc (rv::.int .i64 (rxo x d).kind::.int .i64 (rxo x d).sec::.int .i64 (rxo x d).at_::.slice (rO d XA) (rxo x d).data.length (rC d xc)::.bool (!d)::[])))]) (fun R' H'=>e≠0∧R'=[]∧H'=[])):=by
 apply Y 0xc1e;intro hok;obtain ⟨os1,os2,on1,on2,owl,odl,orows,ol1,ol2,owear⟩:=ok;apply Y 0x57e;intro hp0;apply Y 0x67e;intro hp1;apply Y 0x77e;intro hp2;apply Y 0x87e;intro hp3;apply Y 0x97e;intro hp4;apply Y 0xa7e;intro hp5;apply Y 0xb7e;intro hp6;apply Y 0xc7e;intro hp7;apply Y 0xd7e;intro hp8;refine dr.of (X:=X) (fn:=Tryz.f185) Tryz.func185 rfl oa rfl ?_;intro β;apply Y 0x6a;intro A5;apply Y 0xab8cb2e49;refine ba (js:=[]) (js':=[0]) (dT e) rfl rfl rfl ob trivial rfl ?_ ?_
 rotate_left;apply Y 0x29;intro he;apply Y 0xfce;exact ⟨he,rfl,rfl⟩;apply Y 0x1b;intro he;apply Zu 0x3a3858984a<;>intro hc12
 ·apply Y 0xe8c89849ee95d6be95d98eac;refine fe (js:=[1]) (hs:=[0]) (vs:=[_]) rfl rt ob ?_;obtain rfl:d=false:=by simpa using hc12
  exact ⟨he,rfl,rfl,rfl⟩
 apply Y 0xc81ff5ee8c859;obtain rfl:d=true:=by simpa using hc12
 exact ⟨he,rfl,rfl,rfl⟩
theorem dg (f:Fl)(a:Fa)(ok:f.Ok)(hh:a.hs.length=f.data.length)(y:Lay)(G U V:Option Addr)(gc uc vc:Nat)(hyn: -1000000≤y.n∧y.n≤1000000)(hyl:y.gs.length≤1000∧y.us.length≤1000∧y.ls.length≤1000)(hcap:Caps f a)(p0 p1 p2 p3 p4 p5 p6 p7 p8:Int)(hp:∀ x∈[p0,p1,p2,p3,p4,p5,p6,p7,p8],0≤x∧x≤4294967295)(k:Pkg)(rv:Value)(OA QA HA:Option Addr)(oc qc hc:Nat)(hpl:k.pl.ops.length≤9223372036854775807∧k.pl.seq.length≤1000000∧k.pl.st.length≤1000000)(M:Option Addr)(s:List Int)(hs:s.length=9):
    dr X 184 [ag M 0,.agg (List.toArray (st9 s))] (flR f a) [Own 140 38 M 1 1 (mcA f a y G U V gc uc vc (.int .i64 p0::.int .i64 p1::.int .i64 p2::.int .i64 p3::.int .i64 p4::.int .i64 p5::.int .i64 p6::.int .i64 p7::.int .i64 p8::mcK k OA QA HA oc qc hc (rv::.int .i64 0::.int .i64 0::.int .i64 0::.slice none 0 0::.bool false::[])))] (bX [{ v:=(fw (aR f y.a y.b s).e),recovered:=false }] (fun v R' H'=>(aR f y.a y.b s).e=0∧∃ (OZ:Option Addr) (oz:Nat),v=.tuple #[]∧R'=[Rd OZ (U8 (rxo (aR f y.a y.b s).x (aR f y.a y.b s).done).data)]∧H'=[Own 140 38 M 1 1 (mcA f a y G U V gc uc vc (.int .i64 p0::.int .i64 p1::.int .i64 p2::.int .i64 p3::.int .i64 p4::.int .i64 p5::.int .i64 p6::.int .i64 p7::.int .i64 p8::mcK k OA QA HA oc qc hc (rv::.int .i64 (rxo (aR f y.a y.b s).x (aR f y.a y.b s).done).kind::.int .i64 (rxo (aR f y.a y.b s).x (aR f y.a y.b s).done).sec::.int .i64 (rxo (aR f y.a y.b s).x (aR f y.a y.b s).done).at_::.slice OZ (rxo (aR f y.a y.b s).x (aR f y.a y.b s).done).data.length oz::.bool (!(aR f y.a y.b s).done)::[])))]) (fun R' H'=>(aR f y.a y.b s).e≠0∧R'=[]∧H'=[])):=by
 apply Y 0xc1e;intro hok;obtain ⟨os1,os2,on1,on2,owl,odl,orows,ol1,ol2,owear⟩:=ok;apply Y 0x57e;intro hp0;apply Y 0x67e;intro hp1;apply Y 0x77e;intro hp2;apply Y 0x87e;intro hp3;apply Y 0x97e;intro hp4;apply Y 0xa7e;intro hp5;apply Y 0xb7e;intro hp6;apply Y 0xc7e;intro hp7;apply Y 0xd7e;intro hp8;refine dr.of (X:=X) (fn:=Tryz.f184) Tryz.func184 rfl oa rfl ?_;intro β;apply Y 0x6a;intro A3;apply Y 0x8cb2e98;refine c8 [_,_,_,_,_,_] ⟨Has.r 0 rfl,Has.r 1 rfl,Has.r 2 rfl,Has.r 3 rfl,Has.r 4 rfl,Has.o 0 rfl,trivial⟩ PG ?_;apply Y 0xdae43e;refine mq 2 rfl (nkR 5) ?_;apply Y 0x9a1f;refine mq 4 rfl (ab (vs:=(flL f a)) rfl rfl rfl (Src.r 5 rfl) rfl rfl ob) ?_;apply Y 0xa6e;refine mq 6 rfl (nkR 5) ?_;refine mq 7 rfl (faR 5) ?_;refine mq 8 rfl (ab (vs:=(di y G U V gc uc vc)) rfl rfl rfl (Src.r 5 rfl) rfl rfl ob) ?_;refine mq 9 rfl (ab (vs:=(st9 s)) rfl rfl rfl (Src.r 0 rfl) rfl rfl ob) ?_;apply Y 0x27e;refine aL (FD f a hok hh ⟨y.n,y.a,y.b,y.s0,y.s1,G,y.gs.length,gc,U,y.us.length,uc,V,y.ls.length,vc⟩ hcap s hs) ?_;apply Y 0x19;intro NO nc;apply Y 0xf2e697b5ece0f78e34a;refine bg (js:=[0]) (js':=[]) (kJ f a hok hh y G U V gc uc vc hyn hyl hcap p0 p1 p2 p3 p4 p5 p6 p7 p8 hp k rv OA QA HA oc qc hc hpl M (aR f y.a y.b s).x NO nc (aR f y.a y.b s).done (aR f y.a y.b s).e) rfl rfl rfl ob hcx rfl ?_ ?_
 rotate_left;apply Y 0x29;intro hge;exact Zm 0x1ae11ecee;apply Y 0x41e;intro hge;apply Y 0x64e16efc4a;exact ⟨hge,rO (aR f y.a y.b s).done NO,rC (aR f y.a y.b s).done nc,rfl,rfl,rfl⟩
theorem iU (f:Fl)(a:Fa)(ok:f.Ok)(hh:a.hs.length=f.data.length)(y:Lay)(G U V:Option Addr)(gc uc vc:Nat)(hyn: -1000000≤y.n∧y.n≤1000000)(hyl:y.gs.length≤1000∧y.us.length≤1000∧y.ls.length≤1000)(hcap:Caps f a)(p0 p1 p2 p3 p4 p5 p6 p7 p8:Int)(hp:∀ x∈[p0,p1,p2,p3,p4,p5,p6,p7,p8],0≤x∧x≤4294967295)(k:Pkg)(rv:Value)(OA QA HA:Option Addr)(oc qc hc:Nat)(hpl:k.pl.ops.length≤9223372036854775807∧k.pl.seq.length≤1000000∧k.pl.st.length≤1000000)(M:Option Addr):
    dr X 228 [ag M 0] [Rd G (I64 y.gs),Rd U (I64 y.us),Rd V (I64 y.ls)] [Own 140 38 M 1 1 (mcA f a y G U V gc uc vc (.int .i64 p0::.int .i64 p1::.int .i64 p2::.int .i64 p3::.int .i64 p4::.int .i64 p5::.int .i64 p6::.int .i64 p7::.int .i64 p8::mcK k OA QA HA oc qc hc (rv::.int .i64 0::.int .i64 0::.int .i64 0::.slice none 0 0::.bool false::[])))] (bX [{ v:=(fw 220),recovered:=false }] (fun v R' H'=>p6<(y.gs.length:Int)∧v=.int .i64 (y.gs.getD p6.toNat 0)∧R'=[]∧H'=[Own 140 38 M 1 1 (mcA f a y G U V gc uc vc (.int .i64 p0::.int .i64 p1::.int .i64 p2::.int .i64 p3::.int .i64 p4::.int .i64 p5::.int .i64 p6::.int .i64 p7::.int .i64 p8::mcK k OA QA HA oc qc hc (rv::.int .i64 0::.int .i64 0::.int .i64 0::.slice none 0 0::.bool false::[])))]) (fun R' H'=>p6≥(y.gs.length:Int)∧R'=[]∧H'=[])):=by
 apply Y 0xc1e;intro hok;obtain ⟨os1,os2,on1,on2,owl,odl,orows,ol1,ol2,owear⟩:=ok;apply Y 0x57e;intro hp0;apply Y 0x67e;intro hp1;apply Y 0x77e;intro hp2;apply Y 0x87e;intro hp3;apply Y 0x97e;intro hp4;apply Y 0xa7e;intro hp5;apply Y 0xb7e;intro hp6;apply Y 0xc7e;intro hp7;apply Y 0xd7e;intro hp8;refine dr.of (X:=X) (fn:=Tryz.f228) Tryz.func228 rfl oa rfl ?_;intro β;apply Zu 0x7932ec9b8e44e44ec8e6db8e44e44ec8e6dad530e<;>intro
 ·apply Zu 0xcc0f78
  rotate_left;apply Y 0x29;intro he;apply Y 0xfce;exact ⟨by omega,rfl,rfl⟩;rintro _ _ _ ⟨_,h,_⟩;exact Zm 0xf9e
 apply Y 0xb8e44e44ec8e6db8e44e44ec8e6dadbd;refine sq (ae (k:=p6.toNat) rfl rfl rfl rfl rfl rfl oe oe (Src.r 0 rfl) ov) ?_;apply Y 0xd81fe840e5fe;exact ⟨by omega,rfl,rfl,rfl⟩
theorem tf (f:Fl)(a:Fa)(ok:f.Ok)(hh:a.hs.length=f.data.length)(y:Lay)(G U V:Option Addr)(gc uc vc:Nat)(hyn: -1000000≤y.n∧y.n≤1000000)(hyl:y.gs.length≤1000∧y.us.length≤1000∧y.ls.length≤1000)(hcap:Caps f a)(p0 p1 p2 p3 p4 p5 p6 p7 p8:Int)(hp:∀ x∈[p0,p1,p2,p3,p4,p5,p6,p7,p8],0≤x∧x≤4294967295)(k:Pkg)(rv:Value)(OA QA HA:Option Addr)(oc qc hc:Nat)(hpl:k.pl.ops.length≤9223372036854775807∧k.pl.seq.length≤1000000∧k.pl.st.length≤1000000)(M:Option Addr)(t:Int)(hlay:eT f y=true):
    dr X 186 [ag M 0,.int .i64 t] (flR f a++[Rd G (I64 y.gs),Rd U (I64 y.us),Rd V (I64 y.ls)]) [Own 140 38 M 1 1 (mcA f a y G U V gc uc vc (.int .i64 p0::.int .i64 p1::.int .i64 p2::.int .i64 p3::.int .i64 p4::.int .i64 p5::.int .i64 p6::.int .i64 p7::.int .i64 p8::mcK k OA QA HA oc qc hc (rv::.int .i64 0::.int .i64 0::.int .i64 0::.slice none 0 0::.bool false::[])))] (bX [{ v:=(fw (plF f y [p0,p1,p2,p3,p4,p5,p6,p7,p8] t).e),recovered:=false }] (fun v R' H'=>(plF f y [p0,p1,p2,p3,p4,p5,p6,p7,p8] t).e=0∧∃ (XB:Option Addr) (xb:Nat),v=.bool (plF f y [p0,p1,p2,p3,p4,p5,p6,p7,p8] t).done∧R'=[Rd (rO (plF f y [p0,p1,p2,p3,p4,p5,p6,p7,p8] t).done XB) (U8 (rxo (plF f y [p0,p1,p2,p3,p4,p5,p6,p7,p8] t).x (plF f y [p0,p1,p2,p3,p4,p5,p6,p7,p8] t).done).data)]∧H'=[Own 140 38 M 1 1 (mcA f a y G U V gc uc vc (.int .i64 p0::.int .i64 p1::.int .i64 p2::.int .i64 p3::.int .i64 p4::.int .i64 p5::.int .i64 p6::.int .i64 p7::.int .i64 p8::mcK k OA QA HA oc qc hc (rv::.int .i64 (rxo (plF f y [p0,p1,p2,p3,p4,p5,p6,p7,p8] t).x (plF f y [p0,p1,p2,p3,p4,p5,p6,p7,p8] t).done).kind::.int .i64 (rxo (plF f y [p0,p1,p2,p3,p4,p5,p6,p7,p8] t).x (plF f y [p0,p1,p2,p3,p4,p5,p6,p7,p8] t).done).sec::.int .i64 (rxo (plF f y [p0,p1,p2,p3,p4,p5,p6,p7,p8] t).x (plF f y [p0,p1,p2,p3,p4,p5,p6,p7,p8] t).done).at_::.slice (rO (plF f y [p0,p1,p2,p3,p4,p5,p6,p7,p8] t).done XB) (rxo (plF f y [p0,p1,p2,p3,p4,p5,p6,p7,p8] t).x (plF f y [p0,p1,p2,p3,p4,p5,p6,p7,p8] t).done).data.length (rC (plF f y [p0,p1,p2,p3,p4,p5,p6,p7,p8] t).done xb)::.bool (!(plF f y [p0,p1,p2,p3,p4,p5,p6,p7,p8] t).done)::[])))]) (fun R' H'=>(plF f y [p0,p1,p2,p3,p4,p5,p6,p7,p8] t).e≠0∧R'=[]∧H'=[])):=by
 apply Y 0xc1e;intro hok;obtain ⟨os1,os2,on1,on2,owl,odl,orows,ol1,ol2,owear⟩:=ok;apply Y 0x57e;intro hp0;apply Y 0x67e;intro hp1;apply Y 0x77e;intro hp2;apply Y 0x87e;intro hp3;apply Y 0x97e;intro hp4;apply Y 0xa7e;intro hp5;apply Y 0xb7e;intro hp6;apply Y 0xc7e;intro hp7;apply Y 0xd7e;intro hp8;obtain ⟨_,hl38,hl1,hl2,hl3,hl4,hl5,hl6⟩:=cI.1 hlay;refine dr.of (X:=X) (fn:=Tryz.f186) Tryz.func186 rfl oa rfl ?_;intro β;apply Y 0x30e;refine c8 (flR f a++[Rd G (I64 y.gs),Rd U (I64 y.us),Rd V (I64 y.ls),Rd M (mcA f a y G U V gc uc vc (.int .i64 p0::.int .i64 p1::.int .i64 p2::.int .i64 p3::.int .i64 p4::.int .i64 p5::.int .i64 p6::.int .i64 p7::.int .i64 p8::mcK k OA QA HA oc qc hc (rv::.int .i64 0::.int .i64 0::.int .i64 0::.slice none 0 0::.bool false::[])))]) ⟨Has.r 0 rfl,Has.r 1 rfl,Has.r 2 rfl,Has.r 3 rfl,Has.r 4 rfl,Has.r 5 rfl,Has.r 6 rfl,Has.o 0 rfl,trivial⟩ (by repeat (first|exact bb.E|refine gD ?_|refine gC ?_|refine bb.b ?_)) ?_;apply Y 0xdae43e;refine mq 2 rfl (nkR 7) ?_;refine mq 3 rfl (faR 7) ?_;refine mq 4 rfl (ab (vs:=(flL f a)) rfl rfl rfl (Src.r 7 rfl) rfl rfl ob) ?_;apply Y 0x5aea6e;refine mq 7 rfl (nkR 7) ?_;refine mq 8 rfl (faR 7) ?_;refine mq 9 rfl (faR 7) ?_;refine mq 10 rfl (ldR 7) ?_;apply Y 0xb3e78e;refine ba (js:=[0]) (js':=[]) (iU f a hok hh y G U V gc uc vc hyn hyl hcap p0 p1 p2 p3 p4 p5 p6 p7 p8 hp k rv OA QA HA oc qc hc hpl M) rfl rfl rfl ob hcx rfl ?_ ?_
 rotate_left;apply Y 0x29;intro hsg;apply Y 0x13ecee;rw [Ig (s:=[p0,p1,p2,p3,p4,p5,p6,p7,p8]) hsg];exact Zm 0x19e11e;apply Y 0x41e;intro hsg;apply Y 0x3a0f;intro hgi;apply Y 0x6a0f;intro hrw;apply Y 0x34a;refine mq 13 rfl (ae (k:=(y.gs.getD p6.toNat 0).toNat) rfl rfl rfl rfl rfl rfl oe oe (Src.r 0 rfl) ow) ?_;refine mq 14 rfl (Ev.load rfl rfl rfl (Src.r 0 rfl) (aN hh oe)) ?_;refine mfo 15 ?_;refine b4 (js:=[]) (js':=[0]) (iR f a hok hh t (aV f (y.gs.getD p6.toNat 0)) (a.hs.getD (y.gs.getD p6.toNat 0).toNat (none,0)).1 (f.data.getD (y.gs.getD p6.toNat 0).toNat []).length (a.hs.getD (y.gs.getD p6.toNat 0).toNat (none,0)).2 rfl obH) rfl rfl rfl ob ⟨(Has.r 0 rfl),(Has.r 1 rfl),(Has.r 2 rfl),(Has.r 3 rfl),((Has.kid 1 rfl oC ((y.gs.getD p6.toNat 0).toNat) oZ).cast (a7 _)),trivial⟩ rfl ?_;apply Y 0x19;intro XA xc;apply Y 0xc71f697a60fc00fee0f34a;refine bg (js:=[0]) (js':=[]) (kJ f a hok hh y G U V gc uc vc hyn hyl hcap p0 p1 p2 p3 p4 p5 p6 p7 p8 hp k rv OA QA HA oc qc hc hpl M (aO f t (aV f (y.gs.getD p6.toNat 0))).x XA xc (aO f t (aV f (y.gs.getD p6.toNat 0))).done (aO f t (aV f (y.gs.getD p6.toNat 0))).e) rfl rfl rfl ob hcx rfl ?_ ?_
 rotate_left;apply Y 0x29;intro hge;exact Zm 0x1ae11e1d3f13ecee;apply Y 0x41e;intro hge;apply Y 0xc81f1d3fe88a5cd50f34a;exact ⟨hge,XA,xc,rfl,rfl,rfl⟩
theorem AR (f:Fl)(a:Fa)(ok:f.Ok)(hh:a.hs.length=f.data.length)(y:Lay)(G U V:Option Addr)(gc uc vc:Nat)(hyn: -1000000≤y.n∧y.n≤1000000)(hyl:y.gs.length≤1000∧y.us.length≤1000∧y.ls.length≤1000)(hcap:Caps f a)(p0 p1 p2 p3 p4 p5 p6 p7 p8:Int)(hp:∀ x∈[p0,p1,p2,p3,p4,p5,p6,p7,p8],0≤x∧x≤4294967295)(k:Pkg)(rv:Value)(OA QA HA:Option Addr)(oc qc hc:Nat)(hpl:k.pl.ops.length≤9223372036854775807∧k.pl.seq.length≤1000000∧k.pl.st.length≤1000000)(M:Option Addr)(hfit:PlnFit f y k.pl)(hlay:eT f y=true):
    dr X 123 [ag M 0] (flR f a++[Rd G (I64 y.gs),Rd U (I64 y.us),Rd V (I64 y.ls),Rd OA (ck k.pl.ops),Rd QA (I64 k.pl.seq),Rd HA (I64 k.pl.st)]) [Own 140 38 M 1 1 (mcA f a y G U V gc uc vc (.int .i64 p0::.int .i64 p1::.int .i64 p2::.int .i64 p3::.int .i64 p4::.int .i64 p5::.int .i64 p6::.int .i64 p7::.int .i64 p8::mcK k OA QA HA oc qc hc (rv::.int .i64 0::.int .i64 0::.int .i64 0::.slice none 0 0::.bool false::[])))] (bX [{ v:=(fw (eE f y [p0,p1,p2,p3,p4,p5,p6,p7,p8] k.pl).e),recovered:=false }] (fun v R' H'=>(eE f y [p0,p1,p2,p3,p4,p5,p6,p7,p8] k.pl).e=0∧∃ (OZ:Option Addr) (oz:Nat),v=.tuple #[]∧R'=[Rd OZ (U8 (rxo (eE f y [p0,p1,p2,p3,p4,p5,p6,p7,p8] k.pl).x (eE f y [p0,p1,p2,p3,p4,p5,p6,p7,p8] k.pl).done).data)]∧H'=[Own 140 38 M 1 1 (mcA f a y G U V gc uc vc (.int .i64 p0::.int .i64 p1::.int .i64 p2::.int .i64 p3::.int .i64 p4::.int .i64 p5::.int .i64 p6::.int .i64 p7::.int .i64 p8::mcK k OA QA HA oc qc hc (rv::.int .i64 (rxo (eE f y [p0,p1,p2,p3,p4,p5,p6,p7,p8] k.pl).x (eE f y [p0,p1,p2,p3,p4,p5,p6,p7,p8] k.pl).done).kind::.int .i64 (rxo (eE f y [p0,p1,p2,p3,p4,p5,p6,p7,p8] k.pl).x (eE f y [p0,p1,p2,p3,p4,p5,p6,p7,p8] k.pl).done).sec::.int .i64 (rxo (eE f y [p0,p1,p2,p3,p4,p5,p6,p7,p8] k.pl).x (eE f y [p0,p1,p2,p3,p4,p5,p6,p7,p8] k.pl).done).at_::.slice OZ (rxo (eE f y [p0,p1,p2,p3,p4,p5,p6,p7,p8] k.pl).x (eE f y [p0,p1,p2,p3,p4,p5,p6,p7,p8] k.pl).done).data.length oz::.bool (!(eE f y [p0,p1,p2,p3,p4,p5,p6,p7,p8] k.pl).done)::[])))]) (fun R' H'=>(eE f y [p0,p1,p2,p3,p4,p5,p6,p7,p8] k.pl).e≠0∧R'=[]∧H'=[])):=by
 apply Y 0xc1e;intro hok;obtain ⟨os1,os2,on1,on2,owl,odl,orows,ol1,ol2,owear⟩:=ok;apply Y 0x57e;intro hp0;apply Y 0x67e;intro hp1;apply Y 0x77e;intro hp2;apply Y 0x87e;intro hp3;apply Y 0x97e;intro hp4;apply Y 0xa7e;intro hp5;apply Y 0xb7e;intro hp6;apply Y 0xc7e;intro hp7;apply Y 0xd7e;intro hp8;obtain ⟨_,hl38,hl1,hl2,hl3,hl4,hl5,hl6⟩:=cI.1 hlay;have hst:=hfit.st;refine dr.of (X:=X) (fn:=Tryz.f123) Tryz.func123 rfl oa rfl ?_;intro β;apply Y 0xa827e7f0f6f0f5f0f470f3f0ffaee33f170fe60f43e951f5;intro A2;apply Zu 0x79d8fa588a5c68e694c34e3<;>intro hc18
 ·apply Y 0x801fab8cb2ecb9c9c48;refine bg (js:=[0]) (js':=[]) (dg f a hok hh y G U V gc uc vc hyn hyl hcap p0 p1 p2 p3 p4 p5 p6 p7 p8 hp k rv OA QA HA oc qc hc hpl M [3,0,p2,p3,p4,p5,p6,p7,p8] rfl) rfl rfl rfl ob hcx rfl ?_ ?_
  rotate_left;apply Y 0x29;intro hne;exact Zm 0x38e11e8e3f47e;apply Y 0x23e;intro hne NO nc;exact Zm 0x28e64e8e3f89984a
 apply Y 0x262f;intro hq;have hrw:=orows (k.pl.st.getD p1.toNat 0).toNat oe;apply Y 0xbd;refine c8 (flR f a++[Rd G (I64 y.gs),Rd U (I64 y.us),Rd V (I64 y.ls),Rd OA (ck k.pl.ops),Rd QA (I64 k.pl.seq),Rd HA (I64 k.pl.st),Rd M (mcA f a y G U V gc uc vc (.int .i64 p0::.int .i64 p1::.int .i64 p2::.int .i64 p3::.int .i64 p4::.int .i64 p5::.int .i64 p6::.int .i64 p7::.int .i64 p8::mcK k OA QA HA oc qc hc (rv::.int .i64 0::.int .i64 0::.int .i64 0::.slice none 0 0::.bool false::[]))),Rd A2 [.int .i64 p0,.int .i64 p1,.int .i64 p2,.int .i64 p3,.int .i64 p4,.int .i64 p5,.int .i64 p6,.int .i64 p7,.int .i64 p8]]) ⟨Has.r 0 rfl,Has.r 1 rfl,Has.r 2 rfl,Has.r 3 rfl,Has.r 4 rfl,Has.r 5 rfl,Has.r 6 rfl,Has.r 7 rfl,Has.r 8 rfl,Has.r 9 rfl,Has.o 0 rfl,Has.o 1 rfl,trivial⟩ (by repeat (first|exact bb.E|refine gD ?_|refine gC ?_|refine bb.b ?_)) ?_;apply Y 0xa6e143ffe0f8a1fdae43e;refine mq 6 rfl (nkR 10) ?_;apply Y 0x7f0f6f0f5f0f;refine mq 10 rfl (faR 11) ?_;refine mq 11 rfl (ldR 11) ?_;refine mq 12 rfl (ae (k:=p1.toNat) rfl rfl rfl rfl rfl rfl oe oe (Src.r 6 rfl) ov) ?_;refine mq 13 rfl (Ev.load rfl rfl rfl (Src.r 6 rfl) (aG oe)) ?_;apply Y 0xe20f;refine mq 15 rfl (nkR 10) ?_;refine mq 16 rfl (faR 10) ?_;refine mq 17 rfl (faR 10) ?_;refine mq 18 rfl (ldR 10) ?_;refine mq 19 rfl (Ev.pure rfl) ?_;refine mq 20 rfl (faR 11) ?_;refine mq 21 rfl (ldR 11) ?_;refine mq 22 rfl (ae (k:=p1.toNat) rfl rfl rfl rfl rfl rfl oe oe (Src.r 9 rfl) ov) ?_;refine mq 23 rfl (Ev.load rfl rfl rfl (Src.r 9 rfl) (aG oe)) ?_;refine mq 24 rfl (ae (k:=(k.pl.st.getD p1.toNat 0).toNat) rfl rfl rfl rfl rfl rfl oe oe (Src.r 0 rfl) ow) ?_;refine mq 25 rfl (Ev.load rfl rfl rfl (Src.r 0 rfl) (aN hh oe)) ?_;refine mfo 26 ?_;refine b4 (js:=[]) (js':=[0,1]) (iR f a hok hh (y.ls.getD p1.toNat 0) (aV f (k.pl.st.getD p1.toNat 0)) (a.hs.getD (k.pl.st.getD p1.toNat 0).toNat (none,0)).1 (f.data.getD (k.pl.st.getD p1.toNat 0).toNat []).length (a.hs.getD (k.pl.st.getD p1.toNat 0).toNat (none,0)).2 rfl obH) rfl rfl rfl ob ⟨(Has.r 0 rfl),(Has.r 1 rfl),(Has.r 2 rfl),(Has.r 3 rfl),((Has.kid 1 rfl oC ((k.pl.st.getD p1.toNat 0).toNat) oZ).cast (a7 _)),trivial⟩ rfl ?_;apply Y 0x19;intro XA xc;apply Y 0x32c;refine mq 27 rfl (Ev.pure rfl) ?_;refine mq 28 rfl (Ev.pure rfl) ?_;refine mfo 29 ?_;apply Y 0x697;refine fx 30 rfl oa trivial ?_;refine bg (js:=[0]) (js':=[1]) (kJ f a hok hh y G U V gc uc vc hyn hyl hcap p0 p1 p2 p3 p4 p5 p6 p7 p8 hp k rv OA QA HA oc qc hc hpl M (aO f (y.ls.getD p1.toNat 0) (aV f (k.pl.st.getD p1.toNat 0))).x XA xc (aO f (y.ls.getD p1.toNat 0) (aV f (k.pl.st.getD p1.toNat 0))).done (aO f (y.ls.getD p1.toNat 0) (aV f (k.pl.st.getD p1.toNat 0))).e) rfl rfl rfl ob hcx rfl ?_ ?_
 rotate_left;apply Y 0x29;intro hge;apply Y 0x13ecee;rw [show (eE f y [p0,p1,p2,p3,p4,p5,p6,p7,p8] k.pl)=(aO f (y.ls.getD p1.toNat 0) (aV f (k.pl.st.getD p1.toNat 0))) from Eq.trans (sI (s:=[p0,p1,p2,p3,p4,p5,p6,p7,p8]) hc18) (bU (.inl hge))];exact Zm 0x1ae11e;apply Y 0x41e;intro hge;apply Zu 0x3a8afc2c<;>intro hc54
 ·rw [cP hc54];apply Y 0x193fab8cb2e989cdafa48;refine bg (js:=[0]) (js':=[]) (dg f a hok hh y G U V gc uc vc hyn hyl hcap p0 p1 p2 p3 p4 p5 p6 p7 p8 hp k rv OA QA HA oc qc hc hpl M [p0,(p1+1),p2,p3,p4,p5,p6,p7,p8] rfl) rfl rfl rfl ob hcx rfl ?_ ?_
  rotate_left;apply Y 0x29;intro hne;exact Zm 0x38e11e9e3f;apply Y 0x23e;intro hne NO nc;exact Zm 0x28e64e9e3f16e60e4a
 apply Y 0x16e7a;rw [show (eE f y [p0,p1,p2,p3,p4,p5,p6,p7,p8] k.pl)=(aO f (y.ls.getD p1.toNat 0) (aV f (k.pl.st.getD p1.toNat 0))) from Eq.trans (sI (s:=[p0,p1,p2,p3,p4,p5,p6,p7,p8]) hc18) (bU (.inr hc54))];apply Y 0x64e;exact ⟨hge,rO (aO f (y.ls.getD p1.toNat 0) (aV f (k.pl.st.getD p1.toNat 0))).done XA,rC (aO f (y.ls.getD p1.toNat 0) (aV f (k.pl.st.getD p1.toNat 0))).done xc,rfl,rfl,rfl⟩
theorem sH (f:Fl)(a:Fa)(ok:f.Ok)(hh:a.hs.length=f.data.length)(y:Lay)(G U V:Option Addr)(gc uc vc:Nat)(hyn: -1000000≤y.n∧y.n≤1000000)(hyl:y.gs.length≤1000∧y.us.length≤1000∧y.ls.length≤1000)(hcap:Caps f a)(p0 p1 p2 p3 p4 p5 p6 p7 p8:Int)(hp:∀ x∈[p0,p1,p2,p3,p4,p5,p6,p7,p8],0≤x∧x≤4294967295)(k:Pkg)(rv:Value)(OA QA HA:Option Addr)(oc qc hc:Nat)(hpl:k.pl.ops.length≤9223372036854775807∧k.pl.seq.length≤1000000∧k.pl.st.length≤1000000)(M:Option Addr)(CA:Option Addr)(c:List UInt8)(cc:Nat)(hcl:c.length≤1000000)(hlay:eT f y=true):
    dr X 188 [ag M 0,.slice CA c.length cc] (flR f a++[Rd G (I64 y.gs),Rd U (I64 y.us),Rd V (I64 y.ls),Rd CA (U8 c)]) [Own 140 38 M 1 1 (mcA f a y G U V gc uc vc (.int .i64 p0::.int .i64 p1::.int .i64 p2::.int .i64 p3::.int .i64 p4::.int .i64 p5::.int .i64 p6::.int .i64 p7::.int .i64 p8::mcK k OA QA HA oc qc hc (rv::.int .i64 0::.int .i64 0::.int .i64 0::.slice none 0 0::.bool false::[])))] (bX [{ v:=(fw (sgF f y [p0,p1,p2,p3,p4,p5,p6,p7,p8] c).e),recovered:=false }] (fun v R' H'=>(sgF f y [p0,p1,p2,p3,p4,p5,p6,p7,p8] c).e=0∧∃ (OZ:Option Addr) (oz:Nat),v=.tuple #[]∧R'=[Rd OZ (U8 (rxo (sgF f y [p0,p1,p2,p3,p4,p5,p6,p7,p8] c).x (sgF f y [p0,p1,p2,p3,p4,p5,p6,p7,p8] c).done).data)]∧H'=[Own 140 38 M 1 1 (mcA f a y G U V gc uc vc (.int .i64 p0::.int .i64 p1::.int .i64 p2::.int .i64 p3::.int .i64 p4::.int .i64 p5::.int .i64 p6::.int .i64 p7::.int .i64 p8::mcK k OA QA HA oc qc hc (rv::.int .i64 (rxo (sgF f y [p0,p1,p2,p3,p4,p5,p6,p7,p8] c).x (sgF f y [p0,p1,p2,p3,p4,p5,p6,p7,p8] c).done).kind::.int .i64 (rxo (sgF f y [p0,p1,p2,p3,p4,p5,p6,p7,p8] c).x (sgF f y [p0,p1,p2,p3,p4,p5,p6,p7,p8] c).done).sec::.int .i64 (rxo (sgF f y [p0,p1,p2,p3,p4,p5,p6,p7,p8] c).x (sgF f y [p0,p1,p2,p3,p4,p5,p6,p7,p8] c).done).at_::.slice OZ (rxo (sgF f y [p0,p1,p2,p3,p4,p5,p6,p7,p8] c).x (sgF f y [p0,p1,p2,p3,p4,p5,p6,p7,p8] c).done).data.length oz::.bool (!(sgF f y [p0,p1,p2,p3,p4,p5,p6,p7,p8] c).done)::[])))]) (fun R' H'=>(sgF f y [p0,p1,p2,p3,p4,p5,p6,p7,p8] c).e≠0∧R'=[]∧H'=[])):=by
 apply Y 0xc1e;intro hok;obtain ⟨os1,os2,on1,on2,owl,odl,orows,ol1,ol2,owear⟩:=ok;apply Y 0x57e;intro hp0;apply Y 0x67e;intro hp1;apply Y 0x77e;intro hp2;apply Y 0x87e;intro hp3;apply Y 0x97e;intro hp4;apply Y 0xa7e;intro hp5;apply Y 0xb7e;intro hp6;apply Y 0xc7e;intro hp7;apply Y 0xd7e;intro hp8;obtain ⟨_,hl38,hl1,hl2,hl3,hl4,hl5,hl6⟩:=cI.1 hlay;refine dr.of (X:=X) (fn:=Tryz.f188) Tryz.func188 rfl oa rfl ?_;intro β;apply Y 0xa84c1fe95db9;intro A4;apply Y 0xcb4c;refine C.join (fun q:Option Addr×Option Addr×Nat=>[(0,ag M 0),(1,.slice CA c.length cc),(4,ag A4 0),(5,ag q.1 0),(6,.bool (aO f (y.gs.getD p6.toNat 0) c).done),(7,.int .i64 (aO f (y.gs.getD p6.toNat 0) c).e)]) (fun q:Option Addr×Option Addr×Nat=>[Rd q.2.1 (U8 (aO f (y.gs.getD p6.toNat 0) c).x.data),Rd a.D (aC a.hs (B8 f.data)),aS a.hs (B8 f.data),Rd a.W (I64 f.wear),Rd a.E (Bs f.dead),Rd G (I64 y.gs),Rd U (I64 y.us),Rd V (I64 y.ls),Rd CA (U8 c)]) (fun q:Option Addr×Option Addr×Nat=>[Own 140 38 M 1 1 (mcA f a y G U V gc uc vc (.int .i64 p0::.int .i64 p1::.int .i64 p2::.int .i64 p3::.int .i64 p4::.int .i64 p5::.int .i64 p6::.int .i64 p7::.int .i64 p8::mcK k OA QA HA oc qc hc (rv::.int .i64 0::.int .i64 0::.int .i64 0::.slice none 0 0::.bool false::[]))),Own 73 9 A4 1 1 [.int .i64 p0,.int .i64 p1,.int .i64 p2,.int .i64 p3,.int .i64 p4,.int .i64 p5,.int .i64 p6,.int .i64 p7,.int .i64 p8],Own 60 4 q.1 1 1 [.int .i64 (aO f (y.gs.getD p6.toNat 0) c).x.kind,.int .i64 (aO f (y.gs.getD p6.toNat 0) c).x.sec,.int .i64 (aO f (y.gs.getD p6.toNat 0) c).x.at_,.slice q.2.1 (aO f (y.gs.getD p6.toNat 0) c).x.data.length q.2.2]]) (fun q:Option Addr×Option Addr×Nat=>p6<(y.gs.length:Int)) ?_ ?_
 ·refine c8 (flR f a++[Rd G (I64 y.gs),Rd U (I64 y.us),Rd V (I64 y.ls),Rd CA (U8 c),Rd M (mcA f a y G U V gc uc vc (.int .i64 p0::.int .i64 p1::.int .i64 p2::.int .i64 p3::.int .i64 p4::.int .i64 p5::.int .i64 p6::.int .i64 p7::.int .i64 p8::mcK k OA QA HA oc qc hc (rv::.int .i64 0::.int .i64 0::.int .i64 0::.slice none 0 0::.bool false::[])))]) ⟨Has.r 0 rfl,Has.r 1 rfl,Has.r 2 rfl,Has.r 3 rfl,Has.r 4 rfl,Has.r 5 rfl,Has.r 6 rfl,Has.r 7 rfl,Has.o 0 rfl,trivial⟩ (by repeat (first|exact bb.E|refine gD ?_|refine gC ?_|refine bb.b ?_)) ?_;apply Y 0x43e;refine mq 1 rfl (nkR 8) ?_;refine mq 2 rfl (faR 8) ?_;refine mq 3 rfl (ab (vs:=(flL f a)) rfl rfl rfl (Src.r 8 rfl) rfl rfl ob) ?_;apply Y 0x5aefae;refine LM.alt [5,12] oa ob hcx ⟨⟨_,rfl,?_⟩,⟨_,rfl,?_⟩,trivial⟩
  ·refine ba (js:=[0]) (js':=[1]) (iU f a hok hh y G U V gc uc vc hyn hyl hcap p0 p1 p2 p3 p4 p5 p6 p7 p8 hp k rv OA QA HA oc qc hc hpl M) rfl rfl rfl ob hcx rfl ?_ ?_
   rotate_left;apply Y 0x29;intro hsg;exact Zm 0x19e11e5e3f13e581fcee;apply Y 0x41e;intro hsg;apply Y 0x3a0f;intro hgi;apply Y 0x6a0f;intro hrw;apply Zu 0x6f2f32c
   ·apply Y 0x19d91f;intro XA xc;apply Y 0xa8b3e78e99e55e37e32c;intro A5;exact Zm 0x841f5c4de697960f3a3eb5e3
   apply Y 0xa8;intro A5;apply Y 0x19d91ff3e3;intro XA xc;exact Zm 0x841f5c4de697960f3a3eb5e78e99e55e37e370e
  apply Y 0xa8;intro A5;apply Y 0xfbe3;refine ba (js:=[0]) (js':=[1,2]) (iU f a hok hh y G U V gc uc vc hyn hyl hcap p0 p1 p2 p3 p4 p5 p6 p7 p8 hp k rv OA QA HA oc qc hc hpl M) rfl rfl rfl ob hcx rfl ?_ ?_
  rotate_left;apply Y 0x29;intro hsg;exact Zm 0x19e11e5e3f13e581fcee;apply Y 0x41e;intro hsg;apply Y 0x3a0f;intro hgi;apply Y 0x6a0f;intro hrw;apply Y 0x19d91ff3e370e;intro XA xc;exact Zm 0x841f5c4de697960f3a3eb5e78e99e55e37e370e
 apply Y 0xf1e;intro A5 XA xc hsg;apply Y 0x6dc9ad558ad4e;refine LQ.bool 26 rfl (imp fA ?_) (imp fz ?_)<;>intro hg26
 ·apply Zu 0x7932ec96dcb8e644e644e6c8e6dc8ce6380f6280f6c9d9e<;>intro hc41
  ·apply Zu 0x9e2f293fab71ea00fcb9cdafa48
   rotate_left;apply Y 0x29;intro hne;exact Zm 0x38e11e3e3f47e;apply Y 0x23e;intro hne NO nc;exact Zm 0x28e64e3e3f89982c
  apply Zu 0x171f287c1fb959
  rotate_left;apply Y 0x29;intro hge;exact Zm 0x1ae11e6e3f13e;apply Y 0x41e;intro hge;apply Zu 0x3a9870e<;>intro hc53
  ·rw [cP hc53];apply Zu 0x271f930fab71ea00f989cdafa48
   rotate_left;apply Y 0x29;intro hne;exact Zm 0x38e11e911f;apply Y 0x23e;intro hne NO nc;exact Zm 0x28e64e911f16e60e2c
  exact Zm 0x451f64e7e3f16e7a
 apply Y 0x6dc96dc;refine LQ.bool 30 rfl (imp fA ?_) (imp fz ?_)<;>intro hg30
 ·apply Zu 0x7932ec96dcb8e644e644e6c8e6dc8ce6380f6280f6<;>intro hc41
  ·apply Zu 0x9e2f293fab71ea00fcb9cdafa48
   rotate_left;apply Y 0x29;intro hne;exact Zm 0x38e11e4e3f47e;apply Y 0x23e;intro hne NO nc;exact Zm 0x28e64e4e3f89982c
  apply Zu 0x171f287c1fb959
  rotate_left;apply Y 0x29;intro hge;exact Zm 0x1ae11e6e3f13e;apply Y 0x41e;intro hge;apply Zu 0x3a9870e<;>intro hc53
  ·rw [cP hc53];apply Zu 0x271f930fab71ea00f989cdafa48
   rotate_left;apply Y 0x29;intro hne;exact Zm 0x38e11e911f;apply Y 0x23e;intro hne NO nc;exact Zm 0x28e64e911f16e60e2c
  exact Zm 0x451f64e7e3f16e7a
 apply Y 0x40ed9e9b9b;refine C.cond rfl (fun h=>by cases h) (fun _=>?_);apply Zu 0x171f287c1fb959
 rotate_left;apply Y 0x29;intro hge;apply Y 0x13e;rw [show (sgF f y [p0,p1,p2,p3,p4,p5,p6,p7,p8] c)=(aO f (y.gs.getD p6.toNat 0) c) from Eq.trans (m6 (s:=[p0,p1,p2,p3,p4,p5,p6,p7,p8]) (Int.not_le.2 hsg) Qe) (bU (.inl hge))];exact Zm 0x1ae11e;apply Y 0x41e;intro hge;apply Zu 0x3a9870e<;>intro hc53
 ·rw [cP hc53];apply Zu 0x271f930fab71ea00f989cdafa48
  rotate_left;apply Y 0x29;intro hne;exact Zm 0x38e11e2e3f;apply Y 0x23e;intro hne NO nc;exact Zm 0x28e64e2e3f16e60e2c
 apply Y 0x16e7a;rw [show (sgF f y [p0,p1,p2,p3,p4,p5,p6,p7,p8] c)=(aO f (y.gs.getD p6.toNat 0) c) from Eq.trans (m6 (s:=[p0,p1,p2,p3,p4,p5,p6,p7,p8]) (Int.not_le.2 hsg) Qe) (bU (.inr hc53))];exact Zm 0x451f64e
end Go.Proofs.YtbpddeiogcgegaaGreat
