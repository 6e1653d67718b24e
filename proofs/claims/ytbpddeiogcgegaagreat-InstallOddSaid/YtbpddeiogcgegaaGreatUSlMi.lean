/-
  Part of a proof.
-/
import Derived.Test.YtbpddeiogcgegaaGreatUWInN
set_option maxHeartbeats 0
set_option maxRecDepth 4000
set_option linter.all false
namespace Go.Sl
section
variable {X:Cx}{β:Base}{n:Nat}{ds:List Deferred}{ops:Array Oper}{Q:Exit→Act→World→Prop}{rest:List Oper}{Γ:Env}{R H:List Pr}
theorem vN {t kt et g:Nat}{x y:Operand}{c:Bool}{kd:IntKind}{q:Int}{m:List (Int×Value)}{i ki ei:Ti}(ht:au t X.tab=some i)(hdesc:i.desc=.map kt et)(hk:au kt X.tab=some ki)(hkd:ki.desc=.int kd)(he:TiOk X.P et ei)
    (hx:ev Γ x=some (.map (some g))) (hy:ev Γ y=some (.int kd q)) (hm:fD R H kd g m):
    Ev X β Γ R H (.lookup t x y c) (if c=true then .tuple #[(fI m q).getD ei.zero,.bool (fI m q).isSome] else (fI m q).getD ei.zero):=by
 intro ρ w hρ hs o ho;obtain ⟨e1,_⟩:=X.ok _ _ ht;rw [hdesc] at e1;obtain ⟨e2,_⟩:=X.ok _ _ hk;rw [hkd] at e2;obtain ⟨_,j,hj,_,_,h3⟩:=he;apply Y 0x302f;intro hz;apply Y 0xa82f;intro es clock hh hes;apply Y 0xf42f;intro hck
 rcases yx q es.toList m 0 hes with ⟨g1,g2⟩|⟨j,e,v,g1,g2,_,_⟩
 ·cases c<;>simp [execOp,ho,hρ _ _ hx,hρ _ _ hy,Instr.lookup,run_underlying e1,MapKept.run_getObj_map hh,hck,MapKept.run_findKey e2 g2,hz,g1,Result.andThen]
 cases c<;>simp [execOp,ho,hρ _ _ hx,hρ _ _ hy,Instr.lookup,run_underlying e1,MapKept.run_getObj_map hh,hck,MapKept.run_findKey e2 g2,g1,Result.andThen]
theorem Do {t kt et ty g j:Nat}{pos:String}{af:Array Edge}{x y z:Operand}{kd:IntKind}{q:Int}{v:Value}{m:List (Int×Value)}{i ki:Ti}(ht:au t X.tab=some i)(hdesc:i.desc=.map kt et)(hk:au kt X.tab=some ki)(hkd:ki.desc=.int kd)
    (hx:ev Γ x=some (.map (some g))) (hy:ev Γ y=some (.int kd q)) (hz:ev Γ z=some v) (hj:H[j]?=some (vV kd g m))
    (k:L X β n ds ops Q rest Γ R (H.set j (vV kd g (Aw m q v)))):L X β n ds ops Q (⟨none,.insert t x y z,ty,pos,af,none⟩::rest) Γ R H:=
  fun a w hf hs=>uE (ty:=ty) (pos:=pos) (af:=af) ht hdesc hk hkd hx hy hz hj k a w hf hs
end
end Go.Sl
namespace Go.Proofs.YtbpddeiogcgegaaGreat
open Go.Sl
theorem IZ (f:Fl)(a:Fa)(ok:f.Ok)(hh:a.hs.length=f.data.length)(y:Lay)(G U V:Option Addr)(gc uc vc:Nat)(hyn: -1000000≤y.n∧y.n≤1000000)(hyl:y.gs.length≤1000∧y.us.length≤1000∧y.ls.length≤1000)(hcap:Caps f a)(p0 p1 p2 p3 p4 p5 p6 p7 p8:Int)(hp:∀ x∈[p0,p1,p2,p3,p4,p5,p6,p7,p8],0≤x∧x≤4294967295)(k:Pkg)(rv:Value)(OA QA HA:Option Addr)(oc qc hc:Nat)(hpl:k.pl.ops.length≤9223372036854775807∧k.pl.seq.length≤1000000∧k.pl.st.length≤1000000)(M:Option Addr)(h:Bool):
    dr X 73 [ag M 0,.bool h] [Rd OA (ck k.pl.ops),Rd QA (I64 k.pl.seq),Rd HA (I64 k.pl.st)] [Own 140 38 M 1 1 (mcA f a y G U V gc uc vc (.int .i64 p0::.int .i64 p1::.int .i64 p2::.int .i64 p3::.int .i64 p4::.int .i64 p5::.int .i64 p6::.int .i64 p7::.int .i64 p8::mcK k OA QA HA oc qc hc (rv::.int .i64 0::.int .i64 0::.int .i64 0::.slice none 0 0::.bool false::[])))] (bX [{ v:=(fw (fitE f y [p0,p1,p2,p3,p4,p5,p6,p7,p8] k h)),recovered:=false }] (fun v R' H'=>(fitE f y [p0,p1,p2,p3,p4,p5,p6,p7,p8] k h)=0∧v=.tuple #[]∧R'=[]∧H'=[Own 140 38 M 1 1 (mcA f a y G U V gc uc vc (.int .i64 p0::.int .i64 p1::.int .i64 p2::.int .i64 p3::.int .i64 p4::.int .i64 p5::.int .i64 p6::.int .i64 p7::.int .i64 p8::mcK k OA QA HA oc qc hc (rv::.int .i64 0::.int .i64 0::.int .i64 0::.slice none 0 0::.bool false::[])))]) (fun R' H'=>(fitE f y [p0,p1,p2,p3,p4,p5,p6,p7,p8] k h)≠0∧R'=[]∧H'=[])):=by
 apply Y 0xc1e;intro hok;refine dr.of (X:=X) (fn:=Tryz.f73) Tryz.func73 rfl oa rfl ?_;intro β;apply Y 0xe9e95db9;refine sp (ab (vs:=[_,_,_,_,_,_,_,_]) rfl rfl rfl (Src.o 0 rfl) rfl rfl ob) ?_;apply Y 0xa8;intro A4;apply Y 0x6dc9ad8cb2e5aa984c;refine LQ.bool 13 rfl ?_ ?_<;>intro hg13
 ·apply Y 0x32ec9c4ed9e9b9b;refine C.cond rfl (fun _=>?_) (fun h=>by cases h);apply Zu 0x8e2f78
  rotate_left;apply Y 0x29;intro he;apply Y 0xbee;rw [show (fitE f y [p0,p1,p2,p3,p4,p5,p6,p7,p8] k h)=240 from by unfold fitE;rw [if_pos (.inl (by simpa using hg13))]];exact Zm 0x19e11e;rintro _ _ _ ⟨_,h,_⟩;exact Zm 0xf9e
 apply Zu 0xdd40ec96b8e644e644e6c8e6dcb8e644e644e6c8e6dc<;>intro hc10
 ·apply Zu 0x8e2f78
  rotate_left;apply Y 0x29;intro he;apply Y 0xbee;rw [show (fitE f y [p0,p1,p2,p3,p4,p5,p6,p7,p8] k h)=240 from by unfold fitE;rw [if_pos (.inr hc10)]];exact Zm 0x19e11e;rintro _ _ _ ⟨_,h,_⟩;exact Zm 0xf9e
 apply Y 0xf7e48;refine al (mO k.pl.sz k.pl.n k.pl.lf k.pl.inn k.pl.out k.pl.ops k.pl.seq k.pl.st OA QA HA oc qc hc hpl.1 hpl.2.1 hpl.2.2) ?_;apply Zu 0x3a384a88<;>intro hc27
 ·apply Y 0x78;refine ba (js:=[]) (js':=[0]) (dT 190) rfl rfl rfl ob trivial rfl ?_ ?_
  rotate_left;apply Y 0x29;intro he;apply Y 0xbee;rw [show (fitE f y [p0,p1,p2,p3,p4,p5,p6,p7,p8] k h)=190 from by unfold fitE;rw [if_neg (show ¬(h=false∨k.ver≠[p0,p1,p2,p3,p4,p5,p6,p7,p8].getD 7 0) by rintro (q|q);(rw [q] at hg13;cases hg13);exact q hc10),if_pos (show k.pl.ok=false by unfold Pln.ok;simpa using hc27)]];exact Zm 0x19e11e;rintro _ _ _ ⟨_,h,_⟩;exact Zm 0xf9e
 apply Y 0xc9b8e44e44ec8e6d90e31ead5;refine LQ.bool 41 rfl (imp mC ?_) (imp mD ?_)<;>intro hg41
 ·apply Y 0x32ec9d9e9b9bc99b9b;refine C.cond rfl (fun _=>?_) (fun h=>by cases h);apply Zu 0xcc0f78
  rotate_left;apply Y 0x29;intro he;apply Y 0xbee;rw [show (fitE f y [p0,p1,p2,p3,p4,p5,p6,p7,p8] k h)=220 from by unfold fitE;rw [if_neg (show ¬(h=false∨k.ver≠[p0,p1,p2,p3,p4,p5,p6,p7,p8].getD 7 0) by rintro (q|q);(rw [q] at hg13;cases hg13);exact q hc10),if_neg (show ¬k.pl.ok=false by rw [show k.pl.ok=true from by simpa [Pln.ok] using hc27];decide),if_pos (.inl hg41)]];exact Zm 0x19e11e;rintro _ _ _ ⟨_,h,_⟩;exact Zm 0xf9e
 apply Zu 0xef2f6dc96b8e644e644e6c8e6dc90e631e6<;>intro hg51
 ·apply Y 0x32ec9d9e9b9b;refine C.cond rfl (fun _=>?_) (fun h=>by cases h);apply Zu 0xcc0f78
  rotate_left;apply Y 0x29;intro he;apply Y 0xbee;rw [show (fitE f y [p0,p1,p2,p3,p4,p5,p6,p7,p8] k h)=220 from by unfold fitE;rw [if_neg (show ¬(h=false∨k.ver≠[p0,p1,p2,p3,p4,p5,p6,p7,p8].getD 7 0) by rintro (q|q);(rw [q] at hg13;cases hg13);exact q hc10),if_neg (show ¬k.pl.ok=false by rw [show k.pl.ok=true from by simpa [Pln.ok] using hc27];decide),if_pos (.inr (.inl hg51))]];exact Zm 0x19e11e;rintro _ _ _ ⟨_,h,_⟩;exact Zm 0xf9e
 apply Zu 0x7940ec96dcb8e644e644e6c8e6dcdc90e631e6<;>intro hc32
 ·apply Zu 0xcc0f78
  rotate_left;apply Y 0x29;intro he;apply Y 0xbee;rw [show (fitE f y [p0,p1,p2,p3,p4,p5,p6,p7,p8] k h)=220 from by unfold fitE;rw [if_neg (show ¬(h=false∨k.ver≠[p0,p1,p2,p3,p4,p5,p6,p7,p8].getD 7 0) by rintro (q|q);(rw [q] at hg13;cases hg13);exact q hc10),if_neg (show ¬k.pl.ok=false by rw [show k.pl.ok=true from by simpa [Pln.ok] using hc27];decide),if_pos (.inr (.inr hc32))]];exact Zm 0x19e11e;rintro _ _ _ ⟨_,h,_⟩;exact Zm 0xf9e
 apply Y 0x16e86e7a;refine fe (js:=[]) (hs:=[0]) (vs:=[]) rfl trivial ob ?_;refine ⟨?_,rfl,rfl,rfl⟩;apply Y 0x9fe;rw [if_neg (show ¬(h=false∨k.ver≠[p0,p1,p2,p3,p4,p5,p6,p7,p8].getD 7 0) by rintro (q|q);(rw [q] at hg13;cases hg13);exact q hc10),if_neg (show ¬k.pl.ok=false by rw [show k.pl.ok=true from by simpa [Pln.ok] using hc27];decide),if_neg (by rintro (q|q|q);exact q hg41;exact q hg51;exact hc32 q)]
theorem Li:TiOk Tryz.prog 141 ⟨.func #[138] #[] false,1,8,.nilFunc⟩:=⟨by kernel_rfl,Tryz.t141,by kernel_rfl,by kernel_rfl,by kernel_rfl,by kernel_rfl⟩
def stepsM:List (Int×Value):=[(1,(.func (.func 122) #[] #[])),(2,(.func (.func 123) #[] #[])),(3,(.func (.func 124) #[] #[])),(6,(.func (.func 125) #[] #[]))]
def stV (p:Int):Value:=(fI stepsM p).getD .nilFunc
def stB (p:Int):Bool:=(fI stepsM p).isSome
def stF (p:Int):Nat:=if p=1 then 122 else if p=2 then 123 else if p=3 then 124 else 125
theorem lu {p:Int}:stB p=true↔p=1∨p=2∨p=3∨p=6:=by
 unfold stB stepsM
 by_cases h1:p=1
 ·subst h1;exact ⟨fun _=>.inl rfl,fun _=>rfl⟩
 by_cases h2:p=2
 ·subst h2;exact ⟨fun _=>.inr (.inl rfl),fun _=>rfl⟩
 by_cases h3:p=3
 ·subst h3;exact ⟨fun _=>.inr (.inr (.inl rfl)),fun _=>rfl⟩
 by_cases h4:p=6
 ·subst h4;exact ⟨fun _=>.inr (.inr (.inr rfl)),fun _=>rfl⟩
 simp [fI,Ne.symm h1,Ne.symm h2,Ne.symm h3,Ne.symm h4,h1,h2,h3,h4]
theorem HN {p:Int}(h:stB p=true):stV p=.func (.func (stF p)) #[] #[]:=by
 rcases lu.1 h with rfl|rfl|rfl|rfl<;>rfl
set_option maxRecDepth 10000 in
theorem EO :
    Ctr X 71 [] [] [] (fun v R' H'=>∃ g,v=.map (some g)∧R'=[]∧H'=[vV .i64 g stepsM]):=by
 refine co Tryz.func71 ?_;intro β;apply Y 0x481a;refine L.makeMap .i64 rfl (fun g=>?_);apply Y 0x91ee838fc0ffc0ffc0ffc0f;exact ⟨g,rfl,rfl,rfl⟩
end Go.Proofs.YtbpddeiogcgegaaGreat
namespace Go.Sl
structure NxOk (r:Nx):Prop where
  bad:r.e≠0→r.x=fo0∧r.done=false
  fin:r.done=true→r.x=fo0
theorem NxOk.nxE (e:Int):NxOk (nxE e):=⟨fun _=>⟨rfl,rfl⟩,fun h=>by cases h⟩
theorem iO:NxOk nxD:=⟨fun h=>absurd rfl h,fun _=>rfl⟩
theorem r9 (x:Fo):NxOk ⟨x,false,0⟩:=⟨fun h=>absurd rfl h,fun h=>by cases h⟩
theorem mH (f:Fl)(sec:Int)(want:List UInt8):NxOk (aO f sec want):=by
 unfold aO
 split
 ·exact NxOk.nxE 170
 split
 ·exact iO
 split
 ·exact Zm 0x200f
 exact r9 _
theorem NxOk.prog (f:Fl)(x:Fo):NxOk (dL f x):=by
 apply Y 0xcce
 split
 ·exact NxOk.nxE 171
 exact r9 x
theorem NxOk.next (f:Fl)(a b:Int)(s:List Int):NxOk (aR f a b s):=by
 unfold aR
 split
 ·exact NxOk.nxE 200
 split
 ·exact iO
 split
 ·exact NxOk.prog _ _
 split
 ·exact NxOk.prog _ _
 exact mH _ _ _
theorem NxOk.towS (f:Fl)(us:List Int)(at_:Int)(b:List UInt8):NxOk (towS f us at_ b):=by
 unfold Sl.towS
 split
 ·exact NxOk.nxE 210
 split
 ·exact NxOk.nxE 210
 split
 ·exact iO
 split
 ·exact NxOk.nxE 171
 exact r9 _
theorem NxOk.thn {f:Fl}{y:Lay}{x:Nx}{s:List Int}(h:NxOk x):NxOk (cj f y x s):=by
 unfold cj
 split
 ·exact Zm 0xc2e
 exact Zm 0xf10f
theorem NxOk.pl (f:Fl)(y:Lay)(s:List Int)(t:Int):NxOk (plF f y s t):=by
 unfold plF
 split
 ·exact NxOk.nxE 220
 exact mH _ _ _
theorem NxOk.sg (f:Fl)(y:Lay)(s:List Int)(c:List UInt8):NxOk (sgF f y s c):=by
 unfold sgF
 split
 ·exact NxOk.nxE 220
 split
 ·exact Zm 0xf10f
 exact Zm 0x741f
theorem NxOk.pre (f:Fl)(y:Lay)(s:List Int)(p:Pln):NxOk (dQ f y s p):=by
 unfold dQ
 split
 ·exact Zm 0x200f
 split
 ·exact NxOk.nxE 191
 split
 ·exact Zm 0xf10f
 exact Zm 0x741f
theorem NxOk.sta (f:Fl)(y:Lay)(s:List Int)(p:Pln):NxOk (eE f y s p):=by
 unfold eE
 split
 ·exact Zm 0xf10f
 exact Zm 0x741f
theorem Dk (f:Fl)(y:Lay)(s:List Int)(p:Pln):NxOk (dw f y s p):=by
 apply Y 0xbfe
 split
 ·exact Zm 0xf10f
 split
 ·exact NxOk.nxE 240
 split
 ·exact (NxOk.pl _ _ _ _).thn
 split
 ·exact Zm 0x200f
 split
 ·exact NxOk.sg _ _ _ _
 exact (NxOk.towS _ _ _ _).thn
theorem Dl (f:Fl)(y:Lay)(s:List Int):NxOk (dF f y s):=by
 apply Y 0x3ee
 split
 ·exact Zm 0xf10f
 split
 ·exact NxOk.nxE 240
 split
 ·exact Zm 0x200f
 split
 ·exact NxOk.nxE 210
 split
 ·exact (NxOk.pl _ _ _ _).thn
 split
 ·exact Zm 0x200f
 exact NxOk.sg _ _ _ _
theorem D9 (f:Fl)(y:Lay)(k:Pkg)(h:Bool):NxOk (bJ f y k h):=by
 unfold bJ
 split
 ·exact NxOk.nxE 220
 split
 ·exact Zm 0x200f
 split
 ·exact iO
 split
 ·exact Dl _ _ _
 split
 ·exact NxOk.nxE 240
 split
 ·exact Zm 0x200f
 split
 ·exact NxOk.pre _ _ _ _
 split
 ·exact NxOk.sta _ _ _ _
 exact Dk _ _ _ _
theorem NxOk.bad_eq {r:Nx}(h:NxOk r)(e:r.e≠0):r=Sl.nxE r.e:=by
 obtain ⟨h1,h2⟩:=h.bad e
 cases r
 cases h1
 cases h2;exact Zm 0x2
end Go.Sl
namespace Go.Proofs.YtbpddeiogcgegaaGreat
open Go.Sl
theorem Ip {r:Nx}(h:NxOk r):rxo r.x r.done=r.x:=by
 unfold rxo
 split
 ·rename_i q
  exact (h.fin q).symm
 exact Zm 0x2
theorem x1 (f:Fl)(a:Fa)(ok:f.Ok)(hh:a.hs.length=f.data.length)(y:Lay)(G U V:Option Addr)(gc uc vc:Nat)(hyn: -1000000≤y.n∧y.n≤1000000)(hyl:y.gs.length≤1000∧y.us.length≤1000∧y.ls.length≤1000)(hcap:Caps f a)(p0 p1 p2 p3 p4 p5 p6 p7 p8:Int)(hp:∀ x∈[p0,p1,p2,p3,p4,p5,p6,p7,p8],0≤x∧x≤4294967295)(k:Pkg)(rv:Value)(OA QA HA:Option Addr)(oc qc hc:Nat)(hpl:k.pl.ops.length≤9223372036854775807∧k.pl.seq.length≤1000000∧k.pl.st.length≤1000000)(M:Option Addr)(h:Bool)(hvc:y.ls.length≤vc)(hlay:eT f y=true)(hrd:(bj f y.a y.b).2.2=0)(hs9:(bj f y.a y.b).1=[p0,p1,p2,p3,p4,p5,p6,p7,p8])(hst:stB p0=true)(hfe:p0≠6→fitE f y [p0,p1,p2,p3,p4,p5,p6,p7,p8] k h=0):
    dr X (stF p0) [ag M 0] (flR f a++[Rd G (I64 y.gs),Rd U (I64 y.us),Rd V (I64 y.ls),Rd OA (ck k.pl.ops),Rd QA (I64 k.pl.seq),Rd HA (I64 k.pl.st)]) [Own 140 38 M 1 1 (mcA f a y G U V gc uc vc (.int .i64 p0::.int .i64 p1::.int .i64 p2::.int .i64 p3::.int .i64 p4::.int .i64 p5::.int .i64 p6::.int .i64 p7::.int .i64 p8::mcK k OA QA HA oc qc hc (rv::.int .i64 0::.int .i64 0::.int .i64 0::.slice none 0 0::.bool false::[])))] (bX [{ v:=fw (bJ f y k h).e,recovered:=false }] (fun v R' H'=>(bJ f y k h).e=0∧∃ (OZ:Option Addr) (oz:Nat),v=.tuple #[]∧R'=[Rd OZ (U8 (rxo (bJ f y k h).x (bJ f y k h).done).data)]∧H'=[Own 140 38 M 1 1 (mcA f a y G U V gc uc vc (.int .i64 p0::.int .i64 p1::.int .i64 p2::.int .i64 p3::.int .i64 p4::.int .i64 p5::.int .i64 p6::.int .i64 p7::.int .i64 p8::mcK k OA QA HA oc qc hc (rv::.int .i64 (rxo (bJ f y k h).x (bJ f y k h).done).kind::.int .i64 (rxo (bJ f y k h).x (bJ f y k h).done).sec::.int .i64 (rxo (bJ f y k h).x (bJ f y k h).done).at_::.slice OZ (rxo (bJ f y k h).x (bJ f y k h).done).data.length oz::.bool (!(bJ f y k h).done)::[])))]) (fun R' H'=>(bJ f y k h).e≠0∧R'=[]∧H'=[])):=by
 apply Y 0xc1e;intro hok;have hph:p0=6∨p0=1∨p0=2∨p0=3:=by
  rcases lu.1 hst with q|q|q|q
  ·exact .inr (.inl q)
  ·exact .inr (.inr (.inl q))
  ·exact .inr (.inr (.inr q))
  exact .inl q
 by_cases q6:p0=6
 ·rw [show (bJ f y k h)=dF f y [p0,p1,p2,p3,p4,p5,p6,p7,p8] from IM (s:=[p0,p1,p2,p3,p4,p5,p6,p7,p8]) hlay hrd hs9 q6,show stF p0=125 from by rw [q6];rfl]
  exact GB f a hok hh y G U V gc uc vc hyn hyl hcap p0 p1 p2 p3 p4 p5 p6 p7 p8 hp k rv OA QA HA oc qc hc hpl M hlay
 have hfe':=hfe q6;have hfit:=Eg hfe'
 by_cases q1:p0=1
 ·rw [show (bJ f y k h)=dQ f y [p0,p1,p2,p3,p4,p5,p6,p7,p8] k.pl from IJ (s:=[p0,p1,p2,p3,p4,p5,p6,p7,p8]) hlay hrd hs9 hfe' q1,show stF p0=122 from by rw [q1];rfl]
  exact u6 f a hok hh y G U V gc uc vc hyn hyl hcap p0 p1 p2 p3 p4 p5 p6 p7 p8 hp k rv OA QA HA oc qc hc hpl M hfit hlay
 by_cases q2:p0=2
 ·rw [show (bJ f y k h)=eE f y [p0,p1,p2,p3,p4,p5,p6,p7,p8] k.pl from II (s:=[p0,p1,p2,p3,p4,p5,p6,p7,p8]) hlay hrd hs9 hfe' q2,show stF p0=123 from by rw [q2];rfl]
  exact AR f a hok hh y G U V gc uc vc hyn hyl hcap p0 p1 p2 p3 p4 p5 p6 p7 p8 hp k rv OA QA HA oc qc hc hpl M hfit hlay
 have q3:p0=3:=oe;rw [show (bJ f y k h)=dw f y [p0,p1,p2,p3,p4,p5,p6,p7,p8] k.pl from IH (s:=[p0,p1,p2,p3,p4,p5,p6,p7,p8]) hlay hrd hs9 hfe' (by show ¬(p0=0∨p0=4∨p0=5)∧¬p0=6∧¬p0>6;omega) (by exact q1) (by exact q2),show stF p0=124 from by rw [q3];rfl]
 exact AD f a hok hh y G U V gc uc vc hyn hyl hcap p0 p1 p2 p3 p4 p5 p6 p7 p8 hp k rv OA QA HA oc qc hc hpl M hfit hvc hlay
theorem eP (f:Fl)(a:Fa)(ok:f.Ok)(hh:a.hs.length=f.data.length)(y:Lay)(G U V:Option Addr)(gc uc vc:Nat)(hyn: -1000000≤y.n∧y.n≤1000000)(hyl:y.gs.length≤1000∧y.us.length≤1000∧y.ls.length≤1000)(hcap:Caps f a)(k:Pkg)(rv:Value)(h:Bool)(OA QA HA:Option Addr)(oc qc hc:Nat)(hpl:k.pl.ops.length≤9223372036854775807∧k.pl.seq.length≤1000000∧k.pl.st.length≤1000000)(hvc:y.ls.length≤vc):
    Ctr X 33 [flV f a,.agg (List.toArray (di y G U V gc uc vc)),.agg (List.toArray [.int .i64 k.ver,.int .i64 k.frm,.int .i64 k.pl.sz,.int .i64 k.pl.n,.bool k.pl.lf,.int .i64 k.pl.inn,.int .i64 k.pl.out,.slice OA k.pl.ops.length oc,.slice QA k.pl.seq.length qc,.slice HA k.pl.st.length hc,rv]),.bool h] (flR f a++[Rd G (I64 y.gs),Rd U (I64 y.us),Rd V (I64 y.ls),Rd OA (ck k.pl.ops),Rd QA (I64 k.pl.seq),Rd HA (I64 k.pl.st)]) [] (fun v R' H'=>∃ (OZ:Option Addr) (oz:Nat),v=.tuple #[.agg (List.toArray [.int .i64 (bJ f y k h).x.kind,.int .i64 (bJ f y k h).x.sec,.int .i64 (bJ f y k h).x.at_,.slice OZ (bJ f y k h).x.data.length oz]),.bool (bJ f y k h).done,.int .i64 (bJ f y k h).e]∧R'=[Rd OZ (U8 (bJ f y k h).x.data)]∧H'=[]):=by
 apply Y 0xc1e;intro hok;obtain ⟨os1,os2,on1,on2,owl,odl,orows,ol1,ol2,owear⟩:=ok;apply Y 0x982f;intro p0 p1 p2 p3 p4 p5 p6 p7 p8 hs9;apply Y 0x242f;intro hp;have hp0:=hp p0 oO;refine sf (X:=X) (fn:=Tryz.f33) Tryz.func33 rfl oa rfl ?_;intro β;apply Y 0x6a;intro A4;apply Y 0x7b;intro A5;apply Y 0x7b;intro A6;apply Y 0xa8;intro A8;apply Y 0xa8;intro A9;apply Y 0xa8;intro A10;apply Y 0x5cb;refine cfz 0 [1,2,3,4,5] ?_;apply Y 0x730f530f7845e26e6de900f6e0f;refine al (fh (f.size:Int) f a hh oe y G U V gc uc vc hyn hyl) ?_;apply Zu 0x3a170e88<;>intro hc19
 ·have hlay0:eT f y=false:=obg;apply Y 0xd03fb0e9848e9be6b8b;rw [show (bJ f y k h)=nxE _ from FX hlay0];exact Zm 0x54e
 have hlay:eT f y=true:=obg;apply Y 0x730f530f8d;refine al (Fj f a hok hh ⟨y.n,y.a,y.b,y.s0,y.s1,G,y.gs.length,gc,U,y.us.length,uc,V,y.ls.length,vc⟩ hcap) ?_;apply Y 0xd4e88;rw [hs9];apply Y 0xa8282870e;intro A11;apply Zu 0xdd12ee589848e756e<;>intro hc29
 ·apply Y 0x5;refine aE [_,_,_,_,_,_,_,_,_,_,_,_,_,_] ⟨Has.r 0 rfl,Has.r 1 rfl,Has.r 2 rfl,Has.r 3 rfl,Has.r 4 rfl,Has.r 5 rfl,Has.r 6 rfl,Has.r 7 rfl,Has.r 8 rfl,Has.r 9 rfl,Has.r 10 rfl,Has.r 11 rfl,Has.r 12 rfl,Has.o 2 rfl,trivial⟩ ?_;apply Y 0x333f;refine mq 1 rfl (ldR 13) ?_;apply Y 0xd03fb0e8afc48e8ae699be89e36b3ae;rw [show (bJ f y k h)=nxE _ from FW hlay hc29];exact Zm 0x54e
 have hrd:(bj f y.a y.b).2.2=0:=hc29;rw [hrd];apply Y 0xb959;refine Dp rfl ?_;apply Y 0xdde1c1feb1f7845e291fcb;refine sp (ab (vs:=[_,_,_,_,_,_,_,_,_,_,_]) rfl rfl rfl (Src.r 1 rfl) rfl rfl ob) ?_;apply Y 0x7bba;intro A38;apply Y 0xfeeeee2c0f49;refine mfo 0 ?_;refine al (EO) ?_;apply Y 0x41e;intro mg;apply Y 0x89e3860f;refine sp (Ev.cast (u:=.tuple #[stV p0,.bool (stB p0)]) (vN rfl rfl rfl rfl Li rfl rfl (fD.o 0 rfl)) rfl) ?_;apply Y 0x281f181f69;refine LM.q 6 rfl oa (Ev.pure rfl) rfl trivial ?_;apply Zu 0x3a38588a5c17e3776e<;>intro hc47
 ·have hst:¬(p0=1∨p0=2∨p0=3∨p0=6):=fun q=>by rw [lu.2 q] at hc47;cases hc47
  apply Zu 0x791f858<;>intro hc50
  ·replace hc50:p0>6:=hc50;apply Y 0x78;refine ba (js:=[]) (js':=[0,1,2,3,4]) (dT 240) rfl rfl rfl ob trivial rfl ?_ ?_
   rotate_left;apply Y 0x29;intro he;apply Y 0x3e0ff5e47e;rw [show (bJ f y k h)=nxE _ from IL (s:=[p0,p1,p2,p3,p4,p5,p6,p7,p8]) hlay hrd hs9 hc50];exact Zm 0x54e;rintro _ _ _ ⟨_,h,_⟩;exact Zm 0xf9e
  replace hc50:¬p0>6:=hc50;apply Y 0xb0e981d0f48e4c8b59;refine zW (js:=[0]) (hs:=[]) (vs:=[_,_,_]) (lG A8 A9 A10 0) rfl ⟨⟨_,_,0,_,rfl,rfl,Src.o 1 rfl,.inl ⟨rfl,by decide,_,rfl,rfl,rfl⟩⟩,⟨_,_,0,_,rfl,rfl,Src.o 2 rfl,.inr ⟨rfl,rfl⟩⟩,⟨_,_,0,_,rfl,rfl,Src.o 3 rfl,.inr ⟨rfl,rfl⟩⟩,trivial⟩ ob ?_;rw [show (bJ f y k h)=nxD from Cs (s:=[p0,p1,p2,p3,p4,p5,p6,p7,p8]) hlay hrd hs9 (by show p0=0∨p0=4∨p0=5;omega)];exact Zm 0x54e
 have hst:stB p0=true:=by simpa using hc47
 rw [HN hst];apply Zu 0xdd1f85859<;>intro hc55
 ·replace hc55:p0≠6:=hc55;apply Y 0xac;refine ba (js:=[4]) (js':=[0,1,2,3]) (IZ f a hok hh y G U V gc uc vc hyn hyl hcap p0 p1 p2 p3 p4 p5 p6 p7 p8 hp k rv OA QA HA oc qc hc hpl A38 h) rfl rfl rfl ob hcx rfl ?_ ?_
  rotate_left;apply Y 0x29;intro hfe;apply Y 0x3e0ff5e13e;rw [show (bJ f y k h)=nxE _ from IK (s:=[p0,p1,p2,p3,p4,p5,p6,p7,p8]) hlay hrd hs9 (show ¬(p0=0∨p0=4∨p0=5)∧¬p0=6∧¬p0>6 from by have:=lu.1 hst;omega) hfe];exact Zm 0x54e;apply Y 0x41e;intro hfe;apply Y 0x1c98860f;refine pz (js:=[0]) (js':=[1,2,3,4]) (x1 f a hok hh y G U V gc uc vc hyn hyl hcap p0 p1 p2 p3 p4 p5 p6 p7 p8 hp k rv OA QA HA oc qc hc hpl A38 h hvc hlay hrd hs9 hst (fun q=>by first|exact hfe|exact absurd hc55 q)) rfl rfl rfl rfl rfl ob hcx rfl ?_ ?_
  rotate_left;apply Y 0x29;intro hge;exact Zm 0x54eed3f3e0ff5e13e;apply Y 0x23e;intro hge GO goc;apply Y 0x43e7c2fcb860f;refine mq 1 rfl (nkR 15) ?_;refine mq 2 rfl (faR 15) ?_;apply Y 0xfaec33f;refine mq 5 rfl (nkR 15) ?_;refine mq 6 rfl (faR 15) ?_;refine mq 7 rfl (ldR 15) ?_;apply Y 0x272fe88afc3f2f66e31d0ff6e69a3e96e37e;intro hnx;apply Y 0xc03f;refine ⟨GO,goc,?_,?_,rfl⟩
  ·rw [hnx,Bool.not_not,hge];exact Zm 0x2
  rw [hnx];exact Zm 0x2
 replace hc55:p0=6:=hc55;apply Y 0x1c59;refine pz (js:=[4]) (js':=[0,1,2,3]) (x1 f a hok hh y G U V gc uc vc hyn hyl hcap p0 p1 p2 p3 p4 p5 p6 p7 p8 hp k rv OA QA HA oc qc hc hpl A38 h hvc hlay hrd hs9 hst (fun q=>by first|exact hfe|exact absurd hc55 q)) rfl rfl rfl rfl rfl ob hcx rfl ?_ ?_
 rotate_left;apply Y 0x29;intro hge;exact Zm 0x54eed3f3e0ff5e13e;apply Y 0x23e;intro hge GO goc;apply Y 0x43e7c2fcb860f;refine mq 1 rfl (nkR 15) ?_;refine mq 2 rfl (faR 15) ?_;apply Y 0xfaec33f;refine mq 5 rfl (nkR 15) ?_;refine mq 6 rfl (faR 15) ?_;refine mq 7 rfl (ldR 15) ?_;apply Y 0x272fe88afc3f2f66e31d0ff6e69a3e96e37e;intro hnx;apply Y 0xc03f;refine ⟨GO,goc,?_,?_,rfl⟩
 ·rw [hnx,Bool.not_not,hge];exact Zm 0x2
 rw [hnx];exact Zm 0x2
end Go.Proofs.YtbpddeiogcgegaaGreat
