/-
  Part of a proof.
-/
import Derived.Test.YtbpddeiogcgegaaGreatVWInN
set_option maxHeartbeats 0
set_option maxRecDepth 4000
set_option linter.all false
namespace Go.Sl
section
variable {X:Cx}{β:Base}{n:Nat}{ds:List Deferred}{ops:Array Oper}{Q:Exit→Act→World→Prop}{rest:List Oper}{Γ:Env}{R H:List Pr}
theorem wS {t kt et g:Nat}{x y:Operand}{c:Bool}{kd:IntKind}{q:Int}{m:List (Int×Value)}{i ki ei:Ti}(ht:ar t X.tab=some i)(hdesc:i.desc=.map kt et)(hk:ar kt X.tab=some ki)(hkd:ki.desc=.int kd)(he:TiOk X.P et ei)
    (hx:ev Γ x=some (.map (some g))) (hy:ev Γ y=some (.int kd q)) (hm:fJ R H kd g m):
    Ev X β Γ R H (.lookup t x y c) (if c=true then .tuple #[(fN m q).getD ei.zero,.bool (fN m q).isSome] else (fN m q).getD ei.zero):=by
 intro ρ w hρ hs o ho;obtain ⟨e1,_⟩:=X.ok _ _ ht;rw [hdesc] at e1;obtain ⟨e2,_⟩:=X.ok _ _ hk;rw [hkd] at e2;obtain ⟨_,j,hj,_,_,h3⟩:=he;apply Y 0x522f;intro hz;apply Y 0xfa2f;intro es clock hh hes;apply Y 0x572f;intro hck
 rcases zA q es.toList m 0 hes with ⟨g1,g2⟩|⟨j,e,v,g1,g2,_,_⟩
 ·cases c<;>simp [execOp,ho,hρ _ _ hx,hρ _ _ hy,Instr.lookup,run_underlying e1,MapKept.run_getObj_map hh,hck,MapKept.run_findKey e2 g2,hz,g1,Result.andThen]
 cases c<;>simp [execOp,ho,hρ _ _ hx,hρ _ _ hy,Instr.lookup,run_underlying e1,MapKept.run_getObj_map hh,hck,MapKept.run_findKey e2 g2,g1,Result.andThen]
theorem Ei {t kt et ty g j:Nat}{pos:String}{af:Array Edge}{x y z:Operand}{kd:IntKind}{q:Int}{v:Value}{m:List (Int×Value)}{i ki:Ti}(ht:ar t X.tab=some i)(hdesc:i.desc=.map kt et)(hk:ar kt X.tab=some ki)(hkd:ki.desc=.int kd)
    (hx:ev Γ x=some (.map (some g))) (hy:ev Γ y=some (.int kd q)) (hz:ev Γ z=some v) (hj:H[j]?=some (wY kd g m))
    (k:L X β n ds ops Q rest Γ R (H.set j (wY kd g (BE m q v)))):L X β n ds ops Q (⟨none,.insert t x y z,ty,pos,af,none⟩::rest) Γ R H:=
  fun a w hf hs=>vx (ty:=ty) (pos:=pos) (af:=af) ht hdesc hk hkd hx hy hz hj k a w hf hs
end
end Go.Sl
namespace Go.Proofs.YtbpddeiogcgegaaGreat
open Go.Sl
theorem Jn (f:Fl)(a:Fa)(ok:f.Ok)(hh:a.hs.length=f.data.length)(y:Lay)(G U V:Option Addr)(gc uc vc:Nat)(hyn: -1000000≤y.n∧y.n≤1000000)(hyl:y.gs.length≤1000∧y.us.length≤1000∧y.ls.length≤1000)(hcap:Caps f a)(p0 p1 p2 p3 p4 p5 p6 p7 p8:Int)(hp:∀ x∈[p0,p1,p2,p3,p4,p5,p6,p7,p8],0≤x∧x≤4294967295)(k:Pkg)(rv:Value)(OA QA HA:Option Addr)(oc qc hc:Nat)(hpl:k.pl.ops.length≤9223372036854775807∧k.pl.seq.length≤1000000∧k.pl.st.length≤1000000)(M:Option Addr)(h:Bool):
    du X 73 [ag M 0,.bool h] [Rd OA (bZ k.pl.ops),Rd QA (I64 k.pl.seq),Rd HA (I64 k.pl.st)] [Own 140 38 M 1 1 (mcA f a y G U V gc uc vc (.int .i64 p0::.int .i64 p1::.int .i64 p2::.int .i64 p3::.int .i64 p4::.int .i64 p5::.int .i64 p6::.int .i64 p7::.int .i64 p8::mcK k OA QA HA oc qc hc (rv::.int .i64 0::.int .i64 0::.int .i64 0::.slice none 0 0::.bool false::[])))] (b5 [{ v:=(fF (fitE f y [p0,p1,p2,p3,p4,p5,p6,p7,p8] k h)),recovered:=false }] (fun v R' H'=>(fitE f y [p0,p1,p2,p3,p4,p5,p6,p7,p8] k h)=0∧v=.tuple #[]∧R'=[]∧H'=[Own 140 38 M 1 1 (mcA f a y G U V gc uc vc (.int .i64 p0::.int .i64 p1::.int .i64 p2::.int .i64 p3::.int .i64 p4::.int .i64 p5::.int .i64 p6::.int .i64 p7::.int .i64 p8::mcK k OA QA HA oc qc hc (rv::.int .i64 0::.int .i64 0::.int .i64 0::.slice none 0 0::.bool false::[])))]) (fun R' H'=>(fitE f y [p0,p1,p2,p3,p4,p5,p6,p7,p8] k h)≠0∧R'=[]∧H'=[])):=by
 apply Y 0xe1e;intro hok;refine du.of (X:=X) (fn:=Tryz.f73) Tryz.func73 rfl oa rfl ?_;intro β;apply Y 0xaaaa8df9;refine sp (aa (vs:=[_,_,_,_,_,_,_,_]) rfl rfl rfl (Src.o 0 rfl) rfl rfl ob) ?_;apply Y 0x98;intro A4;apply Y 0xfc2a6deb92e5ba886b;refine LQ.bool 13 rfl ?_ ?_<;>intro hg13
 ·apply Y 0x52e2ae4e3aefbfb;refine C.cond rfl (fun _=>?_) (fun h=>by cases h);apply Zu 0x813f68
  rotate_left;apply Y 0x29;intro he;apply Y 0x4fe;rw [show (fitE f y [p0,p1,p2,p3,p4,p5,p6,p7,p8] k h)=240 from by unfold fitE;rw [if_pos (.inl (by simpa using hg13))]];exact Zm 0x59e51e;rintro _ _ _ ⟨_,h,_⟩;exact Zm 0x4ae
 apply Zu 0x5d80e2a28f8e2864e2864e2819e283df8e2864e2864e2819e283d<;>intro hc10
 ·apply Zu 0x813f68
  rotate_left;apply Y 0x29;intro he;apply Y 0x4fe;rw [show (fitE f y [p0,p1,p2,p3,p4,p5,p6,p7,p8] k h)=240 from by unfold fitE;rw [if_pos (.inr hc10)]];exact Zm 0x59e51e;rintro _ _ _ ⟨_,h,_⟩;exact Zm 0x4ae
 apply Y 0x68e7;refine al (nq k.pl.sz k.pl.n k.pl.lf k.pl.inn k.pl.out k.pl.ops k.pl.seq k.pl.st OA QA HA oc qc hc hpl.1 hpl.2.1 hpl.2.2) ?_;apply Zu 0x1a383aa8<;>intro hc27
 ·apply Y 0x68;refine bb (js:=[]) (js':=[0]) (dY 190) rfl rfl rfl ob trivial rfl ?_ ?_
  rotate_left;apply Y 0x29;intro he;apply Y 0x4fe;rw [show (fitE f y [p0,p1,p2,p3,p4,p5,p6,p7,p8] k h)=190 from by unfold fitE;rw [if_neg (show ¬(h=false∨k.ver≠[p0,p1,p2,p3,p4,p5,p6,p7,p8].getD 7 0) by rintro (q|q);(rw [q] at hg13;cases hg13);exact q hc10),if_pos (show k.pl.ok=false by unfold Pln.ok;simpa using hc27)]];exact Zm 0x59e51e;rintro _ _ _ ⟨_,h,_⟩;exact Zm 0x4ae
 apply Y 0x2af8e64e64e19efc50ea0e6d5;refine LQ.bool 41 rfl (imp ky ?_) (imp kA ?_)<;>intro hg41
 ·apply Y 0x52e2a3aefbfb2afbfb;refine C.cond rfl (fun _=>?_) (fun h=>by cases h);apply Zu 0x2e0f68
  rotate_left;apply Y 0x29;intro he;apply Y 0x4fe;rw [show (fitE f y [p0,p1,p2,p3,p4,p5,p6,p7,p8] k h)=220 from by unfold fitE;rw [if_neg (show ¬(h=false∨k.ver≠[p0,p1,p2,p3,p4,p5,p6,p7,p8].getD 7 0) by rintro (q|q);(rw [q] at hg13;cases hg13);exact q hc10),if_neg (show ¬k.pl.ok=false by rw [show k.pl.ok=true from by simpa [Pln.ok] using hc27];decide),if_pos (.inl hg41)]];exact Zm 0x59e51e;rintro _ _ _ ⟨_,h,_⟩;exact Zm 0x4ae
 apply Zu 0xa53ffc2a28f8e2864e2864e2819e283d50e28a0e28<;>intro hg51
 ·apply Y 0x52e2a3aefbfb;refine C.cond rfl (fun _=>?_) (fun h=>by cases h);apply Zu 0x2e0f68
  rotate_left;apply Y 0x29;intro he;apply Y 0x4fe;rw [show (fitE f y [p0,p1,p2,p3,p4,p5,p6,p7,p8] k h)=220 from by unfold fitE;rw [if_neg (show ¬(h=false∨k.ver≠[p0,p1,p2,p3,p4,p5,p6,p7,p8].getD 7 0) by rintro (q|q);(rw [q] at hg13;cases hg13);exact q hc10),if_neg (show ¬k.pl.ok=false by rw [show k.pl.ok=true from by simpa [Pln.ok] using hc27];decide),if_pos (.inr (.inl hg51))]];exact Zm 0x59e51e;rintro _ _ _ ⟨_,h,_⟩;exact Zm 0x4ae
 apply Zu 0x7980e2a283df8e2864e2864e2819e283d3d50e28a0e28<;>intro hc32
 ·apply Zu 0x2e0f68
  rotate_left;apply Y 0x29;intro he;apply Y 0x4fe;rw [show (fitE f y [p0,p1,p2,p3,p4,p5,p6,p7,p8] k h)=220 from by unfold fitE;rw [if_neg (show ¬(h=false∨k.ver≠[p0,p1,p2,p3,p4,p5,p6,p7,p8].getD 7 0) by rintro (q|q);(rw [q] at hg13;cases hg13);exact q hc10),if_neg (show ¬k.pl.ok=false by rw [show k.pl.ok=true from by simpa [Pln.ok] using hc27];decide),if_pos (.inr (.inr hc32))]];exact Zm 0x59e51e;rintro _ _ _ ⟨_,h,_⟩;exact Zm 0x4ae
 apply Y 0x96e25e5a;refine fo (js:=[]) (hs:=[0]) (vs:=[]) rfl trivial ob ?_;refine ⟨?_,rfl,rfl,rfl⟩;apply Y 0x200f;rw [if_neg (show ¬(h=false∨k.ver≠[p0,p1,p2,p3,p4,p5,p6,p7,p8].getD 7 0) by rintro (q|q);(rw [q] at hg13;cases hg13);exact q hc10),if_neg (show ¬k.pl.ok=false by rw [show k.pl.ok=true from by simpa [Pln.ok] using hc27];decide),if_neg (by rintro (q|q|q);exact q hg41;exact q hg51;exact hc32 q)]
theorem L2:TiOk Tryz.prog 141 ⟨.func #[138] #[] false,1,8,.nilFunc⟩:=⟨by kernel_rfl,Tryz.t141,by kernel_rfl,by kernel_rfl,by kernel_rfl,by kernel_rfl⟩
def stepsM:List (Int×Value):=[(1,(.func (.func 122) #[] #[])),(2,(.func (.func 123) #[] #[])),(3,(.func (.func 124) #[] #[])),(6,(.func (.func 125) #[] #[]))]
def stV (p:Int):Value:=(fN stepsM p).getD .nilFunc
def stB (p:Int):Bool:=(fN stepsM p).isSome
def stF (p:Int):Nat:=if p=1 then 122 else if p=2 then 123 else if p=3 then 124 else 125
theorem lT {p:Int}:stB p=true↔p=1∨p=2∨p=3∨p=6:=by
 unfold stB stepsM
 by_cases h1:p=1
 ·subst h1;exact ⟨fun _=>.inl rfl,fun _=>rfl⟩
 by_cases h2:p=2
 ·subst h2;exact ⟨fun _=>.inr (.inl rfl),fun _=>rfl⟩
 by_cases h3:p=3
 ·subst h3;exact ⟨fun _=>.inr (.inr (.inl rfl)),fun _=>rfl⟩
 by_cases h4:p=6
 ·subst h4;exact ⟨fun _=>.inr (.inr (.inr rfl)),fun _=>rfl⟩
 simp [fN,Ne.symm h1,Ne.symm h2,Ne.symm h3,Ne.symm h4,h1,h2,h3,h4]
theorem Ii {p:Int}(h:stB p=true):stV p=.func (.func (stF p)) #[] #[]:=by
 rcases lT.1 h with rfl|rfl|rfl|rfl<;>rfl
set_option maxRecDepth 10000 in
theorem FM :
    Ctr X 71 [] [] [] (fun v R' H'=>∃ g,v=.map (some g)∧R'=[]∧H'=[wY .i64 g stepsM]):=by
 refine co Tryz.func71 ?_;intro β;apply Y 0x7c9;refine L.makeMap .i64 rfl (fun g=>?_);apply Y 0x11ed8385e0f5e0f5e0f5e0f;exact ⟨g,rfl,rfl,rfl⟩
end Go.Proofs.YtbpddeiogcgegaaGreat
namespace Go.Sl
structure NxOk (r:Nx):Prop where
  bad:r.e≠0→r.x=fo0∧r.done=false
  fin:r.done=true→r.x=fo0
theorem NxOk.nxE (e:Int):NxOk (nxE e):=⟨fun _=>⟨rfl,rfl⟩,fun h=>by cases h⟩
theorem jd:NxOk nxD:=⟨fun h=>absurd rfl h,fun _=>rfl⟩
theorem s6 (x:Fo):NxOk ⟨x,false,0⟩:=⟨fun h=>absurd rfl h,fun h=>by cases h⟩
theorem NxOk.tow (f:Fl)(sec:Int)(want:List UInt8):NxOk (aS f sec want):=by
 unfold aS
 split
 ·exact NxOk.nxE 170
 split
 ·exact jd
 split
 ·exact Zm 0x900f
 exact s6 _
theorem NxOk.prog (f:Fl)(x:Fo):NxOk (dx f x):=by
 apply Y 0x6be
 split
 ·exact NxOk.nxE 171
 exact s6 x
theorem NxOk.next (f:Fl)(a b:Int)(s:List Int):NxOk (a6 f a b s):=by
 apply Y 0xc10f
 split
 ·exact NxOk.nxE 200
 split
 ·exact jd
 split
 ·exact NxOk.prog _ _
 split
 ·exact NxOk.prog _ _
 exact NxOk.tow _ _ _
theorem NxOk.towS (f:Fl)(us:List Int)(at_:Int)(b:List UInt8):NxOk (towS f us at_ b):=by
 unfold Sl.towS
 split
 ·exact NxOk.nxE 210
 split
 ·exact NxOk.nxE 210
 split
 ·exact jd
 split
 ·exact NxOk.nxE 171
 exact s6 _
theorem NxOk.thn {f:Fl}{y:Lay}{x:Nx}{s:List Int}(h:NxOk x):NxOk (cg f y x s):=by
 unfold cg
 split
 ·exact Zm 0x22e
 exact Zm 0xe20f
theorem NxOk.pl (f:Fl)(y:Lay)(s:List Int)(t:Int):NxOk (plF f y s t):=by
 unfold plF
 split
 ·exact NxOk.nxE 220
 exact NxOk.tow _ _ _
theorem NxOk.sg (f:Fl)(y:Lay)(s:List Int)(c:List UInt8):NxOk (sgF f y s c):=by
 unfold sgF
 split
 ·exact NxOk.nxE 220
 split
 ·exact Zm 0xe20f
 exact Zm 0xd51f
theorem NxOk.pre (f:Fl)(y:Lay)(s:List Int)(p:Pln):NxOk (dD f y s p):=by
 unfold dD
 split
 ·exact Zm 0x900f
 split
 ·exact NxOk.nxE 191
 split
 ·exact Zm 0xe20f
 exact Zm 0xd51f
theorem NxOk.sta (f:Fl)(y:Lay)(s:List Int)(p:Pln):NxOk (eI f y s p):=by
 unfold eI
 split
 ·exact Zm 0xe20f
 exact Zm 0xd51f
theorem NxOk.wrt (f:Fl)(y:Lay)(s:List Int)(p:Pln):NxOk (dw f y s p):=by
 apply Y 0x9ee
 split
 ·exact Zm 0xe20f
 split
 ·exact NxOk.nxE 240
 split
 ·exact (NxOk.pl _ _ _ _).thn
 split
 ·exact Zm 0x900f
 split
 ·exact NxOk.sg _ _ _ _
 exact (NxOk.towS _ _ _ _).thn
theorem NxOk.bck (f:Fl)(y:Lay)(s:List Int):NxOk (dz f y s):=by
 apply Y 0x2de
 split
 ·exact Zm 0xe20f
 split
 ·exact NxOk.nxE 240
 split
 ·exact Zm 0x900f
 split
 ·exact NxOk.nxE 210
 split
 ·exact (NxOk.pl _ _ _ _).thn
 split
 ·exact Zm 0x900f
 exact NxOk.sg _ _ _ _
theorem E6 (f:Fl)(y:Lay)(k:Pkg)(h:Bool):NxOk (aZ f y k h):=by
 unfold aZ
 split
 ·exact NxOk.nxE 220
 split
 ·exact Zm 0x900f
 split
 ·exact jd
 split
 ·exact NxOk.bck _ _ _
 split
 ·exact NxOk.nxE 240
 split
 ·exact Zm 0x900f
 split
 ·exact NxOk.pre _ _ _ _
 split
 ·exact NxOk.sta _ _ _ _
 exact NxOk.wrt _ _ _ _
theorem NxOk.bad_eq {r:Nx}(h:NxOk r)(e:r.e≠0):r=Sl.nxE r.e:=by
 obtain ⟨h1,h2⟩:=h.bad e
 cases r
 cases h1
 cases h2;exact Zm 0x2
end Go.Sl
namespace Go.Proofs.YtbpddeiogcgegaaGreat
open Go.Sl
theorem IS {r:Nx}(h:NxOk r):rxo r.x r.done=r.x:=by
 unfold rxo
 split
 ·rename_i q
  exact (h.fin q).symm
 exact Zm 0x2
theorem yR (f:Fl)(a:Fa)(ok:f.Ok)(hh:a.hs.length=f.data.length)(y:Lay)(G U V:Option Addr)(gc uc vc:Nat)(hyn: -1000000≤y.n∧y.n≤1000000)(hyl:y.gs.length≤1000∧y.us.length≤1000∧y.ls.length≤1000)(hcap:Caps f a)(p0 p1 p2 p3 p4 p5 p6 p7 p8:Int)(hp:∀ x∈[p0,p1,p2,p3,p4,p5,p6,p7,p8],0≤x∧x≤4294967295)(k:Pkg)(rv:Value)(OA QA HA:Option Addr)(oc qc hc:Nat)(hpl:k.pl.ops.length≤9223372036854775807∧k.pl.seq.length≤1000000∧k.pl.st.length≤1000000)(M:Option Addr)(h:Bool)(hvc:y.ls.length≤vc)(hlay:eJ f y=true)(hrd:(a8 f y.a y.b).2.2=0)(hs9:(a8 f y.a y.b).1=[p0,p1,p2,p3,p4,p5,p6,p7,p8])(hst:stB p0=true)(hfe:p0≠6→fitE f y [p0,p1,p2,p3,p4,p5,p6,p7,p8] k h=0):
    du X (stF p0) [ag M 0] (flR f a++[Rd G (I64 y.gs),Rd U (I64 y.us),Rd V (I64 y.ls),Rd OA (bZ k.pl.ops),Rd QA (I64 k.pl.seq),Rd HA (I64 k.pl.st)]) [Own 140 38 M 1 1 (mcA f a y G U V gc uc vc (.int .i64 p0::.int .i64 p1::.int .i64 p2::.int .i64 p3::.int .i64 p4::.int .i64 p5::.int .i64 p6::.int .i64 p7::.int .i64 p8::mcK k OA QA HA oc qc hc (rv::.int .i64 0::.int .i64 0::.int .i64 0::.slice none 0 0::.bool false::[])))] (b5 [{ v:=fF (aZ f y k h).e,recovered:=false }] (fun v R' H'=>(aZ f y k h).e=0∧∃ (OZ:Option Addr) (oz:Nat),v=.tuple #[]∧R'=[Rd OZ (U8 (rxo (aZ f y k h).x (aZ f y k h).done).data)]∧H'=[Own 140 38 M 1 1 (mcA f a y G U V gc uc vc (.int .i64 p0::.int .i64 p1::.int .i64 p2::.int .i64 p3::.int .i64 p4::.int .i64 p5::.int .i64 p6::.int .i64 p7::.int .i64 p8::mcK k OA QA HA oc qc hc (rv::.int .i64 (rxo (aZ f y k h).x (aZ f y k h).done).kind::.int .i64 (rxo (aZ f y k h).x (aZ f y k h).done).sec::.int .i64 (rxo (aZ f y k h).x (aZ f y k h).done).at_::.slice OZ (rxo (aZ f y k h).x (aZ f y k h).done).data.length oz::.bool (!(aZ f y k h).done)::[])))]) (fun R' H'=>(aZ f y k h).e≠0∧R'=[]∧H'=[])):=by
 apply Y 0xe1e;intro hok;have hph:p0=6∨p0=1∨p0=2∨p0=3:=by
  rcases lT.1 hst with q|q|q|q
  ·exact .inr (.inl q)
  ·exact .inr (.inr (.inl q))
  ·exact .inr (.inr (.inr q))
  exact .inl q
 by_cases q6:p0=6
 ·rw [show (aZ f y k h)=dz f y [p0,p1,p2,p3,p4,p5,p6,p7,p8] from Jd (s:=[p0,p1,p2,p3,p4,p5,p6,p7,p8]) hlay hrd hs9 q6,show stF p0=125 from by rw [q6];rfl]
  exact Hu f a hok hh y G U V gc uc vc hyn hyl hcap p0 p1 p2 p3 p4 p5 p6 p7 p8 hp k rv OA QA HA oc qc hc hpl M hlay
 have hfe':=hfe q6;have hfit:=Ff hfe'
 by_cases q1:p0=1
 ·rw [show (aZ f y k h)=dD f y [p0,p1,p2,p3,p4,p5,p6,p7,p8] k.pl from I9 (s:=[p0,p1,p2,p3,p4,p5,p6,p7,p8]) hlay hrd hs9 hfe' q1,show stF p0=122 from by rw [q1];rfl]
  exact vU f a hok hh y G U V gc uc vc hyn hyl hcap p0 p1 p2 p3 p4 p5 p6 p7 p8 hp k rv OA QA HA oc qc hc hpl M hfit hlay
 by_cases q2:p0=2
 ·rw [show (aZ f y k h)=eI f y [p0,p1,p2,p3,p4,p5,p6,p7,p8] k.pl from I8 (s:=[p0,p1,p2,p3,p4,p5,p6,p7,p8]) hlay hrd hs9 hfe' q2,show stF p0=123 from by rw [q2];rfl]
  exact BY f a hok hh y G U V gc uc vc hyn hyl hcap p0 p1 p2 p3 p4 p5 p6 p7 p8 hp k rv OA QA HA oc qc hc hpl M hfit hlay
 have q3:p0=3:=oe;rw [show (aZ f y k h)=dw f y [p0,p1,p2,p3,p4,p5,p6,p7,p8] k.pl from I7 (s:=[p0,p1,p2,p3,p4,p5,p6,p7,p8]) hlay hrd hs9 hfe' (by show ¬(p0=0∨p0=4∨p0=5)∧¬p0=6∧¬p0>6;omega) (by exact q1) (by exact q2),show stF p0=124 from by rw [q3];rfl]
 exact BK f a hok hh y G U V gc uc vc hyn hyl hcap p0 p1 p2 p3 p4 p5 p6 p7 p8 hp k rv OA QA HA oc qc hc hpl M hfit hvc hlay
theorem dX (f:Fl)(a:Fa)(ok:f.Ok)(hh:a.hs.length=f.data.length)(y:Lay)(G U V:Option Addr)(gc uc vc:Nat)(hyn: -1000000≤y.n∧y.n≤1000000)(hyl:y.gs.length≤1000∧y.us.length≤1000∧y.ls.length≤1000)(hcap:Caps f a)(k:Pkg)(rv:Value)(h:Bool)(OA QA HA:Option Addr)(oc qc hc:Nat)(hpl:k.pl.ops.length≤9223372036854775807∧k.pl.seq.length≤1000000∧k.pl.st.length≤1000000)(hvc:y.ls.length≤vc):
    Ctr X 33 [flV f a,.agg (List.toArray (cP y G U V gc uc vc)),.agg (List.toArray [.int .i64 k.ver,.int .i64 k.frm,.int .i64 k.pl.sz,.int .i64 k.pl.n,.bool k.pl.lf,.int .i64 k.pl.inn,.int .i64 k.pl.out,.slice OA k.pl.ops.length oc,.slice QA k.pl.seq.length qc,.slice HA k.pl.st.length hc,rv]),.bool h] (flR f a++[Rd G (I64 y.gs),Rd U (I64 y.us),Rd V (I64 y.ls),Rd OA (bZ k.pl.ops),Rd QA (I64 k.pl.seq),Rd HA (I64 k.pl.st)]) [] (fun v R' H'=>∃ (OZ:Option Addr) (oz:Nat),v=.tuple #[.agg (List.toArray [.int .i64 (aZ f y k h).x.kind,.int .i64 (aZ f y k h).x.sec,.int .i64 (aZ f y k h).x.at_,.slice OZ (aZ f y k h).x.data.length oz]),.bool (aZ f y k h).done,.int .i64 (aZ f y k h).e]∧R'=[Rd OZ (U8 (aZ f y k h).x.data)]∧H'=[]):=by
 apply Y 0xe1e;intro hok;obtain ⟨os1,os2,on1,on2,owl,odl,orows,ol1,ol2,owear⟩:=ok;apply Y 0xda2f;intro p0 p1 p2 p3 p4 p5 p6 p7 p8 hs9;apply Y 0x562f;intro hp;have hp0:=hp p0 oS;refine ta (X:=X) (fn:=Tryz.f33) Tryz.func33 rfl oa rfl ?_;intro β;apply Y 0x4a;intro A4;apply Y 0x2b;intro A5;apply Y 0x2b;intro A6;apply Y 0x98;intro A8;apply Y 0x98;intro A9;apply Y 0x98;intro A10;apply Y 0x57b;refine cfz 0 [1,2,3,4,5] ?_;apply Y 0x710fcfe68a4e35ebde210fbf0f;refine al (gO (f.size:Int) f a hh oe y G U V gc uc vc hyn hyl) ?_;apply Zu 0x1a130ea8<;>intro hc19
 ·have hlay0:eJ f y=false:=obr;apply Y 0x173fe0e88a8ecbe5bcb;rw [show (aZ f y k h)=nxE _ from GR hlay0];exact Zm 0x24e
 have hlay:eJ f y=true:=obr;apply Y 0x710fcfe3c;refine al (Ge f a hok hh ⟨y.n,y.a,y.b,y.s0,y.s1,G,y.gs.length,gc,U,y.us.length,uc,V,y.ls.length,vc⟩ hcap) ?_;apply Y 0x84ea8;rw [hs9];apply Y 0x98484830e;intro A11;apply Zu 0x5d17ee5888a8e695e<;>intro hc29
 ·apply Y 0x5;refine av [_,_,_,_,_,_,_,_,_,_,_,_,_,_] ⟨Has.r 0 rfl,Has.r 1 rfl,Has.r 2 rfl,Has.r 3 rfl,Has.r 4 rfl,Has.r 5 rfl,Has.r 6 rfl,Has.r 7 rfl,Has.r 8 rfl,Has.r 9 rfl,Has.r 10 rfl,Has.r 11 rfl,Has.r 12 rfl,Has.o 2 rfl,trivial⟩ ?_;apply Y 0x893f;refine mq 1 rfl (ldR 13) ?_;apply Y 0x173fe0e6acca8eeae69cbec9e35bb9e;rw [show (aZ f y k h)=nxE _ from GQ hlay hc29];exact Zm 0x24e
 have hrd:(a8 f y.a y.b).2.2=0:=hc29;rw [hrd];apply Y 0xf999;refine Ej rfl ?_;apply Y 0x3eeed1fad1f68a4eba1f7b;refine sp (aa (vs:=[_,_,_,_,_,_,_,_,_,_,_]) rfl rfl rfl (Src.r 1 rfl) rfl rfl ob) ?_;apply Y 0x2bfa;intro A38;apply Y 0x8fe7fe6d0f49;refine mfo 0 ?_;refine al (FM) ?_;apply Y 0x71e;intro mg;apply Y 0xc9e3570f;refine sp (Ev.cast (u:=.tuple #[stV p0,.bool (stB p0)]) (wS rfl rfl rfl rfl L2 rfl rfl (fJ.o 0 rfl)) rfl) ?_;apply Y 0x991f891f69;refine LM.q 6 rfl oa (Ev.pure rfl) rfl trivial ?_;apply Zu 0x1a38586a6ce6e36d6e<;>intro hc47
 ·have hst:¬(p0=1∨p0=2∨p0=3∨p0=6):=fun q=>by rw [lT.2 q] at hc47;cases hc47
  apply Zu 0x791f858<;>intro hc50
  ·replace hc50:p0>6:=hc50;apply Y 0x68;refine bb (js:=[]) (js':=[0,1,2,3,4]) (dY 240) rfl rfl rfl ob trivial rfl ?_ ?_
   rotate_left;apply Y 0x29;intro he;apply Y 0x7f0f26e87e;rw [show (aZ f y k h)=nxE _ from Jc (s:=[p0,p1,p2,p3,p4,p5,p6,p7,p8]) hlay hrd hs9 hc50];exact Zm 0x24e;rintro _ _ _ ⟨_,h,_⟩;exact Zm 0x4ae
  replace hc50:¬p0>6:=hc50;apply Y 0xe0e889dea8e6bcb99;refine AY (js:=[0]) (hs:=[]) (vs:=[_,_,_]) (l6 A8 A9 A10 0) rfl ⟨⟨_,_,0,_,rfl,rfl,Src.o 1 rfl,.inl ⟨rfl,by decide,_,rfl,rfl,rfl⟩⟩,⟨_,_,0,_,rfl,rfl,Src.o 2 rfl,.inr ⟨rfl,rfl⟩⟩,⟨_,_,0,_,rfl,rfl,Src.o 3 rfl,.inr ⟨rfl,rfl⟩⟩,trivial⟩ ob ?_;rw [show (aZ f y k h)=nxD from Dj (s:=[p0,p1,p2,p3,p4,p5,p6,p7,p8]) hlay hrd hs9 (by show p0=0∨p0=4∨p0=5;omega)];exact Zm 0x24e
 have hst:stB p0=true:=by simpa using hc47
 rw [Ii hst];apply Zu 0x5d1f85899<;>intro hc55
 ·replace hc55:p0≠6:=hc55;apply Y 0x9c;refine bb (js:=[4]) (js':=[0,1,2,3]) (Jn f a hok hh y G U V gc uc vc hyn hyl hcap p0 p1 p2 p3 p4 p5 p6 p7 p8 hp k rv OA QA HA oc qc hc hpl A38 h) rfl rfl rfl ob hcx rfl ?_ ?_
  rotate_left;apply Y 0x29;intro hfe;apply Y 0x7f0f26e83e;rw [show (aZ f y k h)=nxE _ from Ja (s:=[p0,p1,p2,p3,p4,p5,p6,p7,p8]) hlay hrd hs9 (show ¬(p0=0∨p0=4∨p0=5)∧¬p0=6∧¬p0>6 from by have:=lT.1 hst;omega) hfe];exact Zm 0x24e;apply Y 0x71e;intro hfe;apply Y 0x2d88570f;refine rf (js:=[0]) (js':=[1,2,3,4]) (yR f a hok hh y G U V gc uc vc hyn hyl hcap p0 p1 p2 p3 p4 p5 p6 p7 p8 hp k rv OA QA HA oc qc hc hpl A38 h hvc hlay hrd hs9 hst (fun q=>by first|exact hfe|exact absurd hc55 q)) rfl rfl rfl rfl rfl ob hcx rfl ?_ ?_
  rotate_left;apply Y 0x29;intro hge;exact Zm 0x24e954f7f0f26e83e;apply Y 0xf1e;intro hge GO goc;apply Y 0xb3e5f2f7b570f;refine mq 1 rfl (nkR 15) ?_;refine mq 2 rfl (faR 15) ?_;apply Y 0x9ae1a3f;refine mq 5 rfl (nkR 15) ?_;refine mq 6 rfl (faR 15) ?_;refine mq 7 rfl (ldR 15) ?_;apply Y 0x792fd86acc723f86e39dec6e6932ef6e67e;intro hnx;apply Y 0xf63f;refine ⟨GO,goc,?_,?_,rfl⟩
  ·rw [hnx,Bool.not_not,hge];exact Zm 0x2
  rw [hnx];exact Zm 0x2
 replace hc55:p0=6:=hc55;apply Y 0x483c;refine rf (js:=[4]) (js':=[0,1,2,3]) (yR f a hok hh y G U V gc uc vc hyn hyl hcap p0 p1 p2 p3 p4 p5 p6 p7 p8 hp k rv OA QA HA oc qc hc hpl A38 h hvc hlay hrd hs9 hst (fun q=>by first|exact hfe|exact absurd hc55 q)) rfl rfl rfl rfl rfl ob hcx rfl ?_ ?_
 rotate_left;apply Y 0x29;intro hge;exact Zm 0x24e954f7f0f26e83e;apply Y 0xf1e;intro hge GO goc;apply Y 0xb3e5f2f7b570f;refine mq 1 rfl (nkR 15) ?_;refine mq 2 rfl (faR 15) ?_;apply Y 0x9ae1a3f;refine mq 5 rfl (nkR 15) ?_;refine mq 6 rfl (faR 15) ?_;refine mq 7 rfl (ldR 15) ?_;apply Y 0x792fd86acc723f86e39dec6e6932ef6e67e;intro hnx;apply Y 0xf63f;refine ⟨GO,goc,?_,?_,rfl⟩
 ·rw [hnx,Bool.not_not,hge];exact Zm 0x2
 rw [hnx];exact Zm 0x2
theorem Cn (f:Fl)(a:Fa)(ok:f.Ok)(hh:a.hs.length=f.data.length)(y:Lay)(G U V:Option Addr)(gc uc vc:Nat)(hyn: -1000000≤y.n∧y.n≤1000000)(hyl:y.gs.length≤1000∧y.us.length≤1000∧y.ls.length≤1000)(hcap:Caps f a)(k:Pkg)(rv:Value)(h:Bool)(OA QA HA:Option Addr)(oc qc hc:Nat)(hpl:k.pl.ops.length≤9223372036854775807∧k.pl.seq.length≤1000000∧k.pl.st.length≤1000000)(hvc:y.ls.length≤vc)(m:Nat)(hm:m≤1000000):
    Ctr X 35 [flV f a,.agg (List.toArray (cP y G U V gc uc vc)),.agg (List.toArray [.int .i64 k.ver,.int .i64 k.frm,.int .i64 k.pl.sz,.int .i64 k.pl.n,.bool k.pl.lf,.int .i64 k.pl.inn,.int .i64 k.pl.out,.slice OA k.pl.ops.length oc,.slice QA k.pl.seq.length qc,.slice HA k.pl.st.length hc,rv]),.bool h,.int .i64 (m:Int)] (flR f a++[Rd G (I64 y.gs),Rd U (I64 y.us),Rd V (I64 y.ls),Rd OA (bZ k.pl.ops),Rd QA (I64 k.pl.seq),Rd HA (I64 k.pl.st)]) [] (fun v R' H'=>∃ b:Fa,b.hs.length=(bq y k h m f).f.data.length∧Caps (bq y k h m f).f b∧v=.tuple #[.agg (List.toArray [.int .i64 ((bq y k h m f).f.size:Int),.slice b.D (bq y k h m f).f.data.length b.cD,.slice b.W (bq y k h m f).f.wear.length b.cW,.int .i64 (bq y k h m f).f.limit,.slice b.E (bq y k h m f).f.dead.length b.cE]),.int .i64 ((bq y k h m f).n:Int),.int .i64 (bq y k h m f).e]∧R'=flR (bq y k h m f).f b∧H'=[]):=by
 apply Y 0xe1e;intro hok;refine co Tryz.func35 ?_;intro β;apply Y 0x4a;intro A5;apply Y 0x2b;intro A6;apply Y 0x2b;intro A7;apply Y 0x98;intro A10;apply Zu 0xe96890e4cea4eaa1f5538<;>intro
 ·exact Zm 0x18
 apply Y 0xba385899;refine C.loop (fun q:Nat×Fl×Fa=>[(3,.bool h),(4,.int .i64 (m:Int)),(5,ag A5 0),(6,ag A6 0),(7,ag A7 0),(10,ag A10 0),(21,.int .i64 (m:Int)),(22,.int .i64 (q.1:Int))]) (fun q:Nat×Fl×Fa=>(flR q.2.1 q.2.2++[Rd G (I64 y.gs),Rd U (I64 y.us),Rd V (I64 y.ls),Rd OA (bZ k.pl.ops),Rd QA (I64 k.pl.seq),Rd HA (I64 k.pl.st),Rd A6 (cP y G U V gc uc vc),Rd A7 [.int .i64 k.ver,.int .i64 k.frm,.int .i64 k.pl.sz,.int .i64 k.pl.n,.bool k.pl.lf,.int .i64 k.pl.inn,.int .i64 k.pl.out,.slice OA k.pl.ops.length oc,.slice QA k.pl.seq.length qc,.slice HA k.pl.st.length hc,rv]])) (fun q:Nat×Fl×Fa=>[Own 34 5 A5 1 1 (flL q.2.1 q.2.2),Own 34 5 A10 1 1 [.int .i64 0,.slice none 0 0,.slice none 0 0,.int .i64 0,.slice none 0 0]]) (fun q:Nat×Fl×Fa=>q.1≤m∧q.2.1.Ok∧q.2.2.hs.length=q.2.1.data.length∧Caps q.2.1 q.2.2∧bq y k h m f=⟨(bq y k h (m-q.1) q.2.1).f,(bq y k h (m-q.1) q.2.1).n+q.1,(bq y k h (m-q.1) q.2.1).e⟩) (fun q:Nat×Fl×Fa=>m-q.1) (0,f,a) ⟨Nat.zero_le _,ok,hh,hcap,rfl⟩ (lk [2,3,4,5,6,7,8,9,10,11,1,0] [0,1]) ?_;apply Y 0x9c2f;intro i g b hi gok hbl hbc hrun
 dsimp only at hi gok hbl hbc hrun ⊢;apply Zu 0x7920e<;>intro
 ·have hi2:i<m:=oe;apply Y 0x404f9ce7c889;refine sp (aa (vs:=[_,_,_,_,_,_,_,_,_,_,_]) rfl rfl rfl (Src.r 11 rfl) rfl rfl ob) ?_;apply Y 0x6;refine aJ (dX g b gok hbl y G U V gc uc vc hyn hyl hbc k rv h OA QA HA oc qc hc hpl hvc) ?_;apply Y 0x19;intro XA xc;apply Y 0x984848ab;intro A14;apply Y 0x9c90eade553832e;refine L.bool 35 rfl ?_ ?_<;>intro hg35
  ·apply Y 0x1dd;refine C.cond rfl (fun _=>?_) (fun h=>by cases h);apply Y 0x1b3fdc12e59386b489ce7;have hr:=gm (m:=m-(i+1)) (y:=y) (k:=k) (h:=h) (f:=g) (.inr (by simpa using hg35));rw [show m-(i+1)+1=m-i by omega] at hr;rw [hr] at hrun
   simp only [Nat.zero_add] at hrun;exact Zm 0x3fecae
  apply Zu 0x5d38b9<;>intro hc38
  ·apply Y 0x1b3fdc12e59386b489ce7;have hr:=gm (m:=m-(i+1)) (y:=y) (k:=k) (h:=h) (f:=g) (.inl oa5);rw [show m-(i+1)+1=m-i by omega] at hr;rw [hr] at hrun
   simp only [Nat.zero_add] at hrun;exact Zm 0x3fecae
  apply Y 0x77e9ce3c;refine aJ (Nm g b gok hbl (aZ g y k h).x XA xc (Nat.le_trans (eC gok y k h) ob) hbc) ?_;apply Y 0xb51f;intro b2 hb2 hc2;apply Y 0x98b8ab;intro A17;apply Zu 0x5d3858132e<;>intro hc49
  ·apply Y 0xdc12e59386b489ce7;refine qrt [6,7,8,9] [] [_,_,_] rfl ⟨⟨_,_,0,_,rfl,rfl,Src.o 1 rfl,.inl ⟨rfl,by decide,_,rfl,rfl,rfl⟩⟩,rfl,rfl,trivial⟩ ?_;have hr:=tL (m:=m-(i+1)) (y:=y) (k:=k) (h:=h) (f:=g) oa5 (by simpa using hg35) hc49;rw [show m-(i+1)+1=m-i by omega] at hr;rw [hr] at hrun
   simp only [Nat.zero_add] at hrun;exact Zm 0x3fecae
  apply Y 0xd0efd5be04f6899;have hgo:=xZ (y:=y) (k:=k) (h:=h) (f:=g) (m:=m-(i+1)) oa5 (by simpa using hg35) hc49;rw [show m-(i+1)+1=m-i by omega] at hgo;refine QE.round (i:=(i,g,b)) ((i+1,(c7 g (aZ g y k h).x (fun _=>255)),b2)) (by exact ⟨by dsimp only;omega,(eb gok hc49 _).ok,hb2,hc2,by dsimp only;rw [hrun,hgo];simp only [Rni.mk.injEq,true_and,and_true];omega⟩) ou (lk [0,1,2,3,10,11,12,13,14,15,16,17] [0,1])
 apply Y 0xd8386b69ce7a9;refine qrt [0,1,2,3] [] [_,_,_] rfl ⟨⟨_,_,0,_,rfl,rfl,Src.o 1 rfl,.inl ⟨rfl,by decide,_,rfl,rfl,rfl⟩⟩,rfl,rfl,trivial⟩ ?_;obtain rfl:i=m:=oe;rw [Nat.sub_self] at hrun;rw [show bq y k h 0 g=⟨g,0,0⟩ from rfl] at hrun
 simp only [Nat.zero_add] at hrun;exact Zm 0x3fecae
end Go.Proofs.YtbpddeiogcgegaaGreat
namespace Go.Sl
def ptL (x:T3):Nat:=1+x.2.1.toNat%40
def ptR (n out:Nat)(x:T3):Nat:=if x.1.toNat%4=3 then out else x.2.2.toNat*3%n
def ptO (n out:Nat)(x:T3):Po:=
  if 0<x.1.toNat%4 then ⟨1,((ptR n out x:Nat):Int),((min (min (ptL x) (n-out)) (n-ptR n out x):Nat):Int),0⟩
  else ⟨3,0,((min (ptL x) (n-out):Nat):Int),x.2.2⟩
def ptS (n:Nat)(l:List T3):Nat→List Po×Nat
  |0=>([],0)
  |i+1=>if (ptS n l i).2<n then ((ptS n l i).1++[ptO n (ptS n l i).2 (l.getD i (0,0,0))],(ptS n l i).2+(ptO n (ptS n l i).2 (l.getD i (0,0,0))).ln.toNat) else ptS n l i
def ptE (n:Nat)(s:List Po×Nat):List Po:=if s.2<n then s.1++[⟨1,(s.2:Int),((n-s.2:Nat):Int),0⟩] else s.1
def ptF (n:Nat)(l:List T3):List Po:=ptE n (ptS n l (min l.length 8))
section
variable {n:Nat}{l:List T3}{out:Nat}{x:T3}
theorem ub {i:Nat}(h:¬(ptS n l i).2<n):∀ j,ptS n l (i+j)=ptS n l i
  |0=>rfl
  |j+1=>by
    have e:=ub h j
    rw [← Nat.add_assoc,ptS,e,if_neg h]
theorem jJ {i m:Nat}(hi:i≤m)(h:¬(ptS n l i).2<n):ptS n l m=ptS n l i:=by
 obtain ⟨j,rfl⟩:∃ j,m=i+j:=⟨m-i,by omega⟩
 exact ub h j
theorem ER {i:Nat}(h:(ptS n l i).2<n):ptS n l (i+1)=((ptS n l i).1++[ptO n (ptS n l i).2 (l.getD i (0,0,0))],(ptS n l i).2+(ptO n (ptS n l i).2 (l.getD i (0,0,0))).ln.toNat):=by
 rw [ptS,if_pos h]
theorem IH (h:out<n):ptR n out x<n:=by
 unfold ptR
 split
 ·exact Zm 0x22e
 exact Nat.mod_lt _ oe
theorem ES (h:out<n):1≤(ptO n out x).ln∧(ptO n out x).ln≤((n-out:Nat):Int)∧(ptO n out x).ln≤40:=by
 apply Y 0xc92f;intro h2;have h3:1≤ptL x∧ptL x≤40:=by unfold ptL;omega
 unfold ptO
 split
 ·show 1≤((min (min (ptL x) (n-out)) (n-ptR n out x):Nat):Int)∧((min (min (ptL x) (n-out)) (n-ptR n out x):Nat):Int)≤_∧((min (min (ptL x) (n-out)) (n-ptR n out x):Nat):Int)≤40;exact Zm 0x18
 show 1≤((min (ptL x) (n-out):Nat):Int)∧((min (ptL x) (n-out):Nat):Int)≤_∧((min (ptL x) (n-out):Nat):Int)≤40;exact Zm 0x18
theorem yB (h:out<n):bJ (ptO n out x) (n:Int)=true:=by
 apply Y 0xc92f;intro h2
 unfold ptO
 split
 ·apply Y 0x84e29e;rw [if_pos rfl,Bool.and_eq_true,decide_eq_true_eq,decide_eq_true_eq];exact ⟨⟨by omega,by omega⟩,rfl⟩
 unfold bJ;apply Y 0x84e;rw [if_neg ob,if_neg ob,if_pos rfl]
 exact decide_eq_true rfl
theorem ma:∀ i,(ptS n l i).2≤n∧(ptS n l i).1.length≤i∧∀ (rest:List Po) (left:Int),(n:Int)≤left→eO (n:Int) left ((ptS n l i).1++rest)=eO (n:Int) (left-((ptS n l i).2:Int)) rest
  |0=>⟨Nat.zero_le _,Nat.le_refl _,fun rest left _=>by simp [ptS]⟩
  |i+1=>by
    obtain ⟨h1,h2,h3⟩:=ma i
    by_cases h:(ptS n l i).2<n
    · rw [ER h]
      have hl:=ES (x:=l.getD i (0,0,0)) h
      have hr:=yB (x:=l.getD i (0,0,0)) h
      refine ⟨by dsimp only;omega,by dsimp only;rw [List.length_append,List.length_singleton];omega,fun rest left hle=>?_⟩
      dsimp only
      rw [List.append_assoc,h3 _ _ hle,List.singleton_append,eO,if_neg (by
        rintro (q|q|q)
        · omega
        · omega
        · rw [hr] at q;cases q)]
      congr 1
      omega
    · rw [ptS,if_neg h]
      exact ⟨h1,by omega,h3⟩
theorem Gj (s:List Po×Nat):(ptE n s).length≤s.1.length+1:=by
 unfold ptE
 split
 ·rw [List.length_append,List.length_singleton];exact Zm 0xbbe
 exact Zm 0x18
theorem yD:(ptF n l).length≤9:=by
 have h1:=Gj (n:=n) (ptS n l (min l.length 8));have h2:=(ma (n:=n) (l:=l) (min l.length 8)).2.1
 unfold ptF;exact Zm 0x18
theorem yC (hn:n≤1000):cG (n:Int) (n:Int) (ptF n l)=0:=by
 obtain ⟨h1,h2,h3⟩:=ma (n:=n) (l:=l) (min l.length 8);have hl:=yD (n:=n) (l:=l)
 unfold cG;rw [if_neg oe,if_pos]
 unfold ptF ptE
 split
 ·rename_i h;rw [h3 _ _ (Int.le_refl _),eO,if_neg,eO]
  ·exact decide_eq_true ou
  apply Y 0x84e;rintro (q|q|q)
  ·exact Zm 0x18
  ·exact Zm 0x18
  unfold bJ zL at q
  dsimp only at q;rw [if_pos rfl] at q
  simp only [Bool.and_eq_false_iff,decide_eq_false_iff_not] at q
  rcases q with q|q
  ·exact q oe
  exact q rfl
 rename_i h;have:=h3 [] n (Int.le_refl _);rw [List.append_nil] at this;rw [this,eO];exact Zm 0xf51f
end
end Go.Sl
