/-
  Part of a proof.
-/
import Derived.ProofKit
import Derived.Deep.Slices
import Derived.Below
import Derived.OpenShut
import Derived.Lib.SmallJoins
import Derived.ChangeArms
import Derived.Test.YtbpddeiogcgegaaGreatYWSvG
set_option maxHeartbeats 0
set_option maxRecDepth 4000
set_option linter.all false
namespace Go.Proofs.YtbpddeiogcgegaaGreat
open Go.Sl
theorem cA {f:Fl}{y:Lay}{x:Nx}{s:List Int}(h:x.e≠0∨x.done=false):b8 f y x s=x:=if_pos h
theorem gr {f:Fl}{y:Lay}{x:Nx}{s:List Int}(h:x.e=0)(h2:x.done=true):b8 f y x s=aO f y.a y.b s:=if_neg (by rintro (q|q);exact q h;rw [h2] at q;cases q)
theorem gS {D:List (List UInt8)}{k:Nat}(h:k<D.length):(D.take (k+1)).flatten=(D.take k).flatten++D.getD k []:=by
 rw [aC D [] k h,List.flatten_append]
 simp
theorem kZ {f:Fl}(ok:f.Ok):∀ {k:Nat},k≤f.data.length→((f.data.take k).flatten).length=k*f.size
  |0,_=>by simp
  |k+1,h=>by rw [gS h,List.length_append,kZ ok oe,ok.rows k h,Nat.succ_mul]
theorem Bp (f:Fl)(a:Fa)(ok:f.Ok)(hh:a.hs.length=f.data.length)(y:Lay)(G U V:Option Addr)(gc uc vc:Nat)(hyn: -1000000≤y.n∧y.n≤1000000)(hyl:y.gs.length≤1000∧y.us.length≤1000∧y.ls.length≤1000)(hn0:0≤y.n∧y.n≤(f.data.length:Int)):
    Ctr X 65 [flV f a,.agg (List.toArray (hY y G U V gc uc vc))] (flR f a) [] (fun v R' H'=>∃ (A:Option Addr) (c:Nat),(eQ f y.n).length≤c∧v=.slice A (eQ f y.n).length c∧R'=[]∧H'=[Own 5 1 A (eQ f y.n).length c (U8 (eQ f y.n))]):=by
 apply Y 0xc2e;intro hok;obtain ⟨os1,os2,on1,on2,owl,odl,orows,ol1,ol2,owear⟩:=ok;refine co Tryz.func65 ?_;intro β;apply Y 0x2a;intro A2;apply Y 0xdd;intro A3;apply Y 0x7afba0e8d28;intro A7;apply Y 0x19228;refine lp [] [] (fun q:Nat×Option Addr×Nat=>[(2,ag A2 0),(3,ag A3 0),(5,.slice q.2.1 ((f.data.take q.1).flatten).length q.2.2),(6,.int .i64 (q.1:Int))]) (kz [_,_,_,_,_,_]) (fun q=>[Own 5 1 q.2.1 ((f.data.take q.1).flatten).length q.2.2 (U8 ((f.data.take q.1).flatten))]) (fun q=>(q.1:Int)≤y.n) (fun q=>y.n.toNat-q.1) (0,A7,0) ou (lk [0,1,2,3,4,5] [0]) ?_;apply Y 0xb1e;intro k A c hk
 dsimp only at hk ⊢;apply Zu 0x78d8484<;>intro
 ·apply Y 0x49;have hrow:=orows k oe;have e1:((f.data.take (k+1)).flatten)=((f.data.take k).flatten)++f.data.getD k []:=gS oe;have hil:((f.data.take k).flatten).length=k*f.size:=kZ hok oe;apply Y 0x1c0f;intro hkz;apply Y 0x36b8a;refine sp (ae (k:=k) rfl rfl rfl rfl rfl rfl rfl oe (Src.r 2 rfl) oy) ?_;apply Y 0x200f;refine L.append (j:=0) rfl rfl rfl rfl ob rfl rfl rfl rfl ((Src.kid 3 rfl oH (k) OG).cast (bB _)) qP (b4 _) oe oM rfl (fun A20 cc20=>?_);apply Y 0x3a90e;refine QE.round (i:=(k,A,c)) ((k+1,A20,cc20)) ou ou (by exact lk [0,1,2,3,4,5] [0] ⟨rfl,rfl,QQ,rfl,trivial⟩ (hh:=⟨(by exact congrArg some (ay Q6 oaM)),trivial⟩))
 apply Y 0xc8e469;intro hAc;apply Y 0x20e5a8a;obtain rfl:k=y.n.toNat:=oe;exact ⟨A,c,hAc,rfl,rfl,rfl⟩
end Go.Proofs.YtbpddeiogcgegaaGreat
namespace Go.Sl
theorem nine {s:List Int}(h:s.length=9):s=[s.getD 0 0,s.getD 1 0,s.getD 2 0,s.getD 3 0,s.getD 4 0,s.getD 5 0,s.getD 6 0,s.getD 7 0,s.getD 8 0]:=by
 match s,h with
 |[_,_,_,_,_,_,_,_,_],_=>rfl
theorem Ab (f:Fl)(a b:Int):(a6 f a b).1.length=9:=by
 unfold a6
 split
 ·exact BM ..
 rfl
theorem ly (l:List UInt8):∀ (i:Nat),i<l.length→(aW l).getD (2*i) 0=l.getD i 0∧(aW l).getD (2*i+1) 0= ~~~(l.getD i 0):=by
 induction l with
 |nil=>intro i hi;cases hi
 |cons b l ih=>
  intro i hi;have e:aW (b::l)=b:: ~~~b::aW l:=rfl;rw [e]
  cases i with
  |zero=>exact ⟨rfl,rfl⟩
  |succ i=>
   have:=ih i obU;rw [show 2*(i+1)=2*i+1+1 by omega,show 2*i+1+1+1=(2*i+1)+1+1 by omega]
   simpa using this
theorem Eo (b:UInt8): ~~~(~~~b)=b:=by
 apply UInt8.eq_of_toBitVec_eq
 simp
theorem x4 {l:List UInt8}{i:Nat}(h:i<l.length):dp (aW l) i=true:=by
 unfold dp;rw [(ly l i h).1,(ly l i h).2,Eo]
 exact beq_self_eq_true _
theorem jZ (l:List UInt8){k:Nat}(h:k≤l.length):aQ (aW l) k=true:=by
 unfold aQ;apply Y 0xa00f
 exact fun i hi=>x4 (by have:=List.mem_range.1 hi;omega)
theorem mI (l:List UInt8):cr (aW l) l.length=l:=by
 refine aF (d:=0) (cn _ _) fun i hi=>?_
 rw [cn] at hi;rw [fz hi,(ly l i hi).1]
theorem AG (n w:Nat):cz n (w+1)=cz (n/256) w++[UInt8.ofNat n]:=by
 unfold cz;rw [List.range_succ,List.map_append,List.map_singleton,show w+1-1-w=0 by omega,Nat.pow_zero,Nat.div_one]
 congr 1;refine List.map_congr_left fun i hi=>?_
 have:=List.mem_range.1 hi;rw [Nat.div_div_eq_div_mul,← Nat.pow_succ',show (w-1-i).succ=w+1-1-i by omega]
theorem ka:∀ (w n:Nat),n<256^w→pN (cz n w)=n
  |0,n,h=>by
    have:n=0:=qi
    subst this
    rfl
  |w+1,n,h=>by
    rw [AG,pM,ka w (n/256) (by rw [Nat.div_lt_iff_lt_mul ob,← Nat.pow_succ];exact h)]
    rw [UInt8.toNat_ofNat']
    omega
theorem uM (s:List Int){k:Nat}(h:k≤9):(bh s k).length=rW k:=by
 apply Y 0x350f;intro e
 match k,h with
 |0,_=>rfl
 |1,_|2,_|3,_|4,_|5,_|6,_|7,_|8,_|9,_=>
  apply Y 0xe51f;rw [show (bh s 0).length=0 from rfl]
  rfl
theorem s8 (s:List Int)(k m:Nat):∃ r,bh s (k+m)=bh s k++r:=by
 induction m with
 |zero=>exact ⟨[],by simp⟩
 |succ m ih=>
  obtain ⟨r,hr⟩:=ih;exact ⟨r++cz (s.getD (k+m) 0).toNat (wds.getD (k+m) 0),by rw [← Nat.add_assoc,dY,hr,List.append_assoc]⟩
theorem pr (s:List Int){k:Nat}(h:k<9):((bh s 9).drop (rW k)).take (wds.getD k 0)=cz (s.getD k 0).toNat (wds.getD k 0):=by
 obtain ⟨r,hr⟩:=s8 s (k+1) (9-(k+1));rw [show k+1+(9-(k+1))=9 by omega,dY s k,List.append_assoc] at hr;rw [hr,← uM s (show k≤9 by omega),List.drop_append_of_le_length (Nat.le_refl _),List.drop_length,List.nil_append];have:=cJ (s.getD k 0).toNat (wds.getD k 0);rw [List.take_append_of_le_length oe,List.take_of_length_le oe]
theorem xV {s:List Int}(hs:s.length=9)(h:aN s=true):wL (bh s 9)=s:=by
 refine aF (d:=0) (by rw [ij,hs]) fun i hi=>?_
 rw [ij] at hi;have hr:=bI h hi;rw [wK hi,pr s hi,ka _ _ oe]
 omega
theorem cX {s:List Int}(hs:s.length=9)(h:aN s=true):cm (ak s)=some s:=by
 have hl:=dZ s;have e:cr (aW (bh s 9)) 15=bh s 9:=by
  have:=mI (bh s 9)
  rwa [hl] at this
 rw [dG h]
 unfold cm;rw [if_pos (jZ _ oe),e,xV hs h]
theorem zj {s:List Int}(h:aN s=true):aQ (ak s) 15=true:=by
 rw [dG h]
 exact jZ _ (by rw [dZ];exact Nat.le_refl _)
theorem yf {p q b:UInt8}(h1:p= ~~~q)(h2:p&&& ~~~b= ~~~b)(h3:q&&&b=b):q=b:=by
 subst h1;refine uO fun i hi=>?_
 apply Y 0xca1f;intro g2;have g3:=congrArg (fun x:UInt8=>x.toBitVec[i]) h3
 simp at g2 g3 ⊢
 cases hq:q.toBitVec[i]<;>cases hb:b.toBitVec[i]<;>simp_all
theorem dR {b w:List UInt8}{k n:Nat}(hk:k<n)(h:bL b w n=true):b.getD k 0&&&w.getD k 0=w.getD k 0:=by
 unfold bL at h;rw [List.all_eq_true] at h
 simpa [-List.getD_eq_getElem?_getD] using h k (List.mem_range.2 hk)
theorem mS {l w:List UInt8}{n:Nat}(hl:l.length=2*n)(hw:w.length=2*n)(ha:bL l w (2*n)=true)(hc:aQ w n=true)(h:aQ l n=true):l=w:=by
 have get:∀ i,i<n→l.getD (2*i) 0=w.getD (2*i) 0∧l.getD (2*i+1) 0=w.getD (2*i+1) 0:=by
  intro i hi;have c1:=iZ hi hc;have c2:=iZ hi h
  unfold dp at c1 c2;replace c1:=eq_of_beq c1;replace c2:=eq_of_beq c2;have a1:=dR (k:=2*i) oe ha;have a2:=dR (k:=2*i+1) oe ha;have e:=yf (p:=l.getD (2*i) 0) (q:=l.getD (2*i+1) 0) (b:=w.getD (2*i+1) 0) c2 (by rw [← c1];exact a1) a2;exact ⟨by rw [c2,c1,e],e⟩
 refine aF (d:=0) oe fun i hi=>?_
 rw [hl] at hi
 rcases Nat.mod_two_eq_zero_or_one i with h0|h0
 ·have:=(get (i/2) oe).1
  rwa [show 2*(i/2)=i by omega] at this
 have:=(get (i/2) oe).2
 rwa [show 2*(i/2)+1=i by omega] at this
theorem eO (b:UInt8):(255:UInt8)&&&b=b:=by
 apply UInt8.eq_of_toBitVec_eq;rw [UInt8.toBitVec_and]
 show BitVec.allOnes 8&&&b.toBitVec=_;rw [BitVec.allOnes_and]
structure Chg (f g:Fl)(sec:Int)(w:Int):Prop where
  ok:g.Ok
  n:g.data.length=f.data.length
  s:g.size=f.size
  l:g.limit=f.limit
  d:g.dead=f.dead
  oth:∀ i,i≠sec.toNat→g.data.getD i []=f.data.getD i []
  wo:∀ i,i≠sec.toNat→g.wear.getD i 0=f.wear.getD i 0
  ws:f.wear.getD sec.toNat 0≤g.wear.getD sec.toNat 0∧g.wear.getD sec.toNat 0≤f.wear.getD sec.toNat 0+w
section
variable {f g h:Fl}{sec w v:Int}
theorem Chg.refl (ok:f.Ok):Chg f f sec 0:=⟨ok,rfl,rfl,rfl,rfl,fun _ _=>rfl,fun _ _=>rfl,by omega⟩
theorem Chg.trans (a:Chg f g sec w)(b:Chg g h sec v):Chg f h sec (w+v):=
  ⟨b.ok,b.n.trans a.n,b.s.trans a.s,b.l.trans a.l,b.d.trans a.d,fun i hi=>(b.oth i hi).trans (a.oth i hi),fun i hi=>(b.wo i hi).trans (a.wo i hi),by have:=a.ws;have:=b.ws;omega⟩
theorem Chg.mono (a:Chg f g sec w)(hv:w≤v):Chg f g sec v:=⟨a.ok,a.n,a.s,a.l,a.d,a.oth,a.wo,by have:=a.ws;omega⟩
theorem Chg.other {b:Int}(a:Chg f g sec w)(hb:b.toNat≠sec.toNat):av g b=av f b:=a.oth _ hb
theorem Chg.cut {x:Fo}(ok:f.Ok)(hE:ao f x=0)(mk:Nat→UInt8):Chg f (aS f x mk) x.sec (if x.kind=1 then 1 else 0):=by
 apply Y 0xfc0f;intro K;have hs:=(dO hE).2.1;refine ⟨K.ok,K.n,K.s,K.l,K.d,fun i hi=>mK hE (fun e=>hi e.symm),fun i hi=>?_,?_⟩
 ·exact (iW hE oe).symm
 by_cases hk:x.kind=1
 ·have:=mJ (mk:=mk) ok hE (k:=x.sec.toNat) hk oe;rw [if_pos hk]
  omega
 have:=iW (mk:=mk) hE (k:=x.sec.toNat) (fun h=>hk h.1);rw [if_neg hk]
 omega
theorem eV {at_:Int}{d:List UInt8}(hs:0≤sec∧sec<(f.data.length:Int))(hd:f.dead.getD sec.toNat false=false)(ha:0≤at_∧at_+(d.length:Int)≤(f.size:Int)):ao f ⟨2,sec,at_,d⟩=0:=
  iw (.inr rfl) ⟨hs.1,by dsimp only;omega,fun _=>by dsimp only;omega⟩ hd (fun h=>by cases h.1)
theorem ir (hs:0≤sec∧sec<(f.data.length:Int))(hd:f.dead.getD sec.toNat false=false)(hw:f.wear.getD sec.toNat 0≠f.limit):ao f ⟨1,sec,0,[]⟩=0:=
  iw (.inl rfl) ⟨hs.1,by dsimp only;omega,fun h=>by cases h⟩ hd (fun h=>hw h.2)
variable {want:List UInt8}
theorem gO (hs:0≤sec∧sec<(f.data.length:Int))(hw:want.length=f.size)(hne:av f sec≠want)(hE:ao f (bQ f sec want)=0):aM f sec want=⟨bQ f sec want,false,0⟩:=by
 apply Y 0x510f;intro hin
 exact gR hin hne rfl (by rw [hE];exact fun h=>h rfl)
theorem u6 (hs:0≤sec∧sec<(f.data.length:Int))(hw:want.length=f.size)(he:av f sec=want):aM f sec want=⟨fo0,true,0⟩:=by
 apply Y 0x510f;intro hin
 exact mh hin he
theorem mm {k:Nat}(hs:0≤sec∧sec<(f.data.length:Int))(hw:want.length=f.size)(he:av f sec=want):aq sec want k f=(f,0):=by
 rw [iR (.inl (by rw [u6 hs hw he])),u6 hs hw he]
theorem mo {k:Nat}(ok:f.Ok)(hs:0≤sec∧sec<(f.data.length:Int))(hw:want.length=f.size)(hd:f.dead.getD sec.toNat false=false)(hb:gq (av f sec) want f.size=true):
    ∃ g,aq sec want (k+1) f=(g,0)∧av g sec=want∧Chg f g sec 0:=by
 by_cases he:av f sec=want
 ·exact ⟨f,mm hs hw he,he,Chg.refl ok⟩
 have hx:bQ f sec want=⟨2,sec,0,want⟩:=fq hb;have hE:ao f (bQ f sec want)=0:=by rw [hx];exact eV hs hd ⟨Int.le_refl _,by omega⟩
 have ht:=gO hs hw he hE;have hr:av (aS f (bQ f sec want) (fun _=>255)) sec=want:=by rw [bz hE];exact u2 hs hw hb hx
 have C:=Chg.cut ok hE (fun _=>255);rw [c6,hx,if_neg (by show ¬(2:Int)=1;decide),← hx] at C;refine ⟨aS f (bQ f sec want) (fun _=>255),?_,hr,C⟩;rw [kG (by rw [ht];exact fun h=>by rcases h with h|h;cases h;exact h rfl),ht]
 exact mm (by rw [C.n];exact hs) (by rw [C.s];exact hw) hr
theorem mr {k:Nat}(ok:f.Ok)(hs:0≤sec∧sec<(f.data.length:Int))(hw:want.length=f.size)(hd:f.dead.getD sec.toNat false=false)(hl:f.wear.getD sec.toNat 0<f.limit):
    ∃ g,aq sec want (k+2) f=(g,0)∧av g sec=want∧Chg f g sec 1:=by
 by_cases hb:gq (av f sec) want f.size=true
 ·obtain ⟨g,h1,h2,h3⟩:=mo (k:=k+1) ok hs hw hd hb;exact ⟨g,h1,h2,h3.mono ob⟩
 ·have hx:bQ f sec want=⟨1,sec,0,[]⟩:=fo (show gq (av f sec) want f.size=false by simpa using hb);have he:av f sec≠want:=by
   intro e
   apply hb;rw [e];refine List.all_eq_true.2 fun i _=>?_
   have:want.getD i 0&&& ~~~(want.getD i 0)=0:=(dQ _ _).1 (by
    refine uO fun i hi=>?_
    simp)
   rw [this]
   rfl
  have hE:ao f (bQ f sec want)=0:=by rw [hx];exact ir hs hd oe
  have ht:=gO hs hw he hE;have hr:av (aS f (bQ f sec want) (fun _=>255)) sec=List.replicate f.size 255:=by rw [bz hE];exact ke hs hx
  have C:=Chg.cut ok hE (fun _=>255);rw [c6,hx,if_pos (by show (1:Int)=1;rfl),← hx] at C;obtain ⟨g,h1,h2,h3⟩:=mo (k:=k) (f:=aS f (bQ f sec want) (fun _=>255)) C.ok (by rw [C.n];exact hs) (by rw [C.s];exact hw) (by rw [C.d];exact hd) (by rw [hr,C.s];exact td _ _);refine ⟨g,?_,h2,(C.trans h3).mono ob⟩;rw [kG (by rw [ht];exact fun h=>by rcases h with h|h;cases h;exact h rfl),ht]
  exact h1
end
theorem Du (s:List Int):(ak s).length≤30:=by rcases vj s with h|h<;>rw [h]<;>decide
theorem E1 (n:Nat)(g:Int)(slot:List UInt8)(h:slot.length≤30):(al n g slot).length≤n+38:=by
 unfold al;apply Y 0xc82f;have e:(if 0<g then aW (cz g.toNat 4) else List.replicate 8 255).length=8:=by
  split
  ·exact cg _
  exact List.length_replicate
 rw [e]
 omega
theorem rP {f:Fl}{x:Fo}{m:Nat}(h:x.data.length≤m):(ec f x).x.data.length≤m:=by
 unfold ec
 split
 ·exact Zm 0xc1e
 exact h
theorem gQ (f:Fl)(sec:Int)(want:List UInt8):(aM f sec want).x.data.length≤want.length:=by
 unfold aM
 split
 ·exact Zm 0xc1e
 split
 ·exact Zm 0xc1e
 split
 ·exact Zm 0xc1e
 unfold bQ
 split
 ·exact Zm 0x83e
 exact Zm 0xc1e
theorem AH {f:Fl}(ok:f.Ok)(a b:Int)(s:List Int):(aO f a b s).x.data.length≤5000:=by
 have h:=ok.s2;have hs:=Du s
 unfold aO
 split
 ·exact Zm 0xc1e
 split
 ·exact Zm 0xc1e
 split
 ·exact rP ou
 split
 ·exact rP (by dsimp only;rw [List.length_take];omega)
 have:=gQ f (aY f a b).oth (al f.size 0 (ak s));have:=E1 f.size 0 (ak s) hs
 omega
structure Fresh (f:Fl)(a b:Int)(s:List Int)(g:Fl):Prop where
  ok:g.Ok
  n:g.data.length=f.data.length
  sz:g.size=f.size
  l:g.limit=f.limit
  d:g.dead=f.dead
  ra:av g a=al f.size 1 (ak s)
  rb:av g b=al f.size 0 []
  oth:∀ i,i≠a.toNat→i≠b.toNat→g.data.getD i []=f.data.getD i []
  w:∀ i,g.wear.getD i 0≤f.wear.getD i 0+1
theorem sD {f:Fl}{a b:Int}{s:List Int}(ok:f.Ok)(hf:cN f a b=true)(hr:aN s=true)(hd:f.dead.getD a.toNat false=false∧f.dead.getD b.toNat false=false)(hl:f.wear.getD a.toNat 0<f.limit∧f.wear.getD b.toNat 0<f.limit):
    (b9 f a b s).2=0∧Fresh f a b s (b9 f a b s).1:=by
 have hft:=fT hf;have hsl:8+(ak s).length≤f.size:=by have:=cB hr;omega
 have hne:a.toNat≠b.toNat:=oe;obtain ⟨g,g1,g2,g3⟩:=mr (k:=1) (sec:=a) (want:=al f.size 1 (ak s)) ok ⟨hft.2.1,hft.2.2.2.1⟩ (cf hsl) hd.1 hl.1;obtain ⟨h,h1,h2,h3⟩:=mr (f:=g) (k:=1) (sec:=b) (want:=al f.size 0 []) g3.ok ⟨hft.2.2.1,by rw [g3.n];exact hft.2.2.2.2.1⟩ (by rw [g3.s];exact cf OO) (by rw [g3.d];exact hd.2) (by rw [g3.wo _ (fun e=>hne e.symm),g3.l];exact hl.2);rw [sE hf hr g1 h1]
 dsimp only;refine ⟨rfl,h3.ok,h3.n.trans g3.n,h3.s.trans g3.s,h3.l.trans g3.l,h3.d.trans g3.d,(h3.other hne).trans g2,h2,fun i hi hj=>(h3.oth i hj).trans (g3.oth i hi),fun i=>?_⟩;have e1:=g3.ws;have e2:=h3.ws
 by_cases ha:i=a.toNat
 ·subst ha;rw [h3.wo _ hne]
  exact e1.2
 by_cases hb:i=b.toNat
 ·subst hb;have:=g3.wo b.toNat ha
  omega
 rw [h3.wo i hb,g3.wo i ha]
 omega
open Go.ChangeShapes Go.WideShapes Go.RowKit Go.Deep
theorem IG {w:World}{a:Addr}{v:Value}(h:w.cell? a=some v):a.block<w.heap.size:=by
 rcases Nat.lt_or_ge a.block w.heap.size with h1|h1
 ·exact h1
 unfold World.cell? at h;rw [Array.getElem?_eq_none h1] at h
 simp at h
theorem Rd.lt {w:World}{A:Option Addr}{xs:List Value}(h:(Rd A xs).p w){k:Nat}(hk:(Rd A xs).fp k):k<w.heap.size:=by
 obtain ⟨hne,a,rfl,rfl⟩:=hk
 cases xs with
 |nil=>exact absurd rfl hne
 |cons u us=>
  obtain ⟨b,hb,hc⟩:=h 0 u rfl
  cases hb;have:=IG hc
  rwa [pA] at this
theorem KidsR.lt {w:World}{hs:List Hd}{vss:List (List Value)}(h:(KidsR hs vss).p w){k:Nat}(hk:(KidsR hs vss).fp k):k<w.heap.size:=by
 apply Y 0xeb1f;intro i hd v h1 h2 h3
 exact Rd.lt (h i hd v h1 h2) h3
theorem Sat.start {w:World}{R:List Pr}(hr:∀ r∈R,r.p w)(hf:∀ r∈R,∀ k,r.fp k→k<w.heap.size):Sat (bT w R []) w R []:=
  ⟨⟨rfl,rfl,rfl,Nat.le_refl _,fun _ _ _=>rfl⟩,hr,fun r h k hk=>⟨hf r h k hk,.inr (.inr ⟨r,h,hk⟩)⟩,fun i c h=>by simp at h,fun i c h=>by simp at h,fun i j c d h=>by simp at h,fun r _ j c h=>by simp at h⟩
theorem Sat.below {w w':World}{R R' H':List Pr}(h:Sat (bT w R []) w' R' H'):Below w.heap.size w w':=
  ⟨h.ext.os,h.ext.tape,h.ext.output,h.ext.size,fun k hk=>h.ext.block k hk (fun ⟨i,c,hi,_⟩=>by simp at hi)⟩
section
variable {H:Type}{enc:TypeId×Value→H}{P:Program}{w:World}{base:Nat}{spare:Nat→Bool}{held:Bool}
def ix (n:Int):UInt8:=UInt8.ofNat n.toNat
theorem lE {n:Int}(h:(Lit.int .u8 n).wf=true):Value.int .u8 ((ix n).toNat:Int)=.int .u8 n:=by
 have:0≤n∧n≤255:=by
  simp [Lit.wf,IntKind.min,IntKind.max,IntKind.signed,IntKind.bits] at h
  omega
 unfold ix
 congr 1
 simp
 omega
theorem AB {t e:TypeId}{fuel:Nat}{cs:List Value}{x:DataW H×List MemPlace}(ht:P.underlying t=some (.slice e))(he:P.underlying e=some (.int .u8))(hc:P.cellsOf e=1)(h:DataW.trod enc P w base spare held fuel t cs=some x):
    ∃ (A:Option Addr) (c:Nat) (l:List UInt8),cs=[.slice A l.length c]∧l.length≤c∧l.length≤maxLen∧(Rd A (U8 l)).p w:=by
 rcases open_ints ht he hc h with ⟨rfl,_⟩|⟨a,len,cap,zs,rfl,_,hl,hm,hz,_,hcell,hwz⟩
 ·exact ⟨none,0,[],rfl,Nat.le_refl _,Nat.zero_le _,fun j u hu=>by simp [U8] at hu⟩
 have hle:len≤zs.length:=by rw [hz];split<;>omega
 have hlen:((zs.take len).map ix).length=len:=by rw [List.length_map,List.length_take];omega
 refine ⟨some a,cap,(zs.take len).map ix,by rw [hlen],by omega,by omega,fun j u hu=>⟨a,rfl,?_⟩⟩;have hj:j<len:=by
  have:=(List.getElem?_eq_some_iff.1 hu).1
  rwa [aH,hlen] at this
 rw [hcell j oe,← hu];have hw:=hwz _ (List.getElem_mem (show j<zs.length by omega));have hu2:(U8 ((zs.take len).map ix))[j]?=some (.int .u8 ((ix (zs[j]'oe)).toNat:Int)):=by
  simp [U8,hj,show j<zs.length from by omega]
 rw [hu2,lE hw]
 simp [List.getD_eq_getElem?_getD,show j<zs.length from by omega]
end
open Go.ChangeShapes Go.WideShapes Go.RowKit Go.Deep Go.Joins
section
variable {H:Type}{enc:TypeId×Value→H}{P:Program}{w:World}{base:Nat}{spare:Nat→Bool}{held:Bool}
theorem rV {n:Nat}{t e:TypeId}{fuel:Nat}{cs:List Value}{x:DataW H×List MemPlace}(ht:P.underlying t=some (.array n e))(he:P.underlying e=some (.int .u8))(ce:P.cellsOf e=1)(hl:cs.length=n)
    (h:DataW.trod enc P w base spare held fuel t cs=some x):∀ i,i<n→∃ y:UInt8,cs[i]?=some (.int .u8 (y.toNat:Int)):=by
 intro i hi;obtain ⟨xs,m2,-,-,-,hxl,hg⟩:=DataW.trod_array ht h;have g:=hg i hi;rw [ce,List.getElem?_eq_getElem (by rw [hxl];exact hi)] at g;have e1:(cs.drop (i*1)).take 1=[cs[i]'oe]:=by
  rw [Nat.mul_one,List.drop_eq_getElem_cons oe,List.take_succ_cons,List.take_zero]
 rw [e1] at g;obtain ⟨z,hz,-,wz⟩:=DataW.trod_int he g;exact ⟨ix z,by rw [List.getElem?_eq_getElem oe,(List.cons.inj hz).1,lE wz]⟩
end
section
variable {H:Type}{enc:TypeId×Value→H}{P:Program}{w:World}{base:Nat}{spare:Nat→Bool}{held:Bool}
def u9 (r:List UInt8):List Value:=[.int .u8 ((r.getD 0 0).toNat:Int),.int .u8 ((r.getD 1 0).toNat:Int),.int .u8 ((r.getD 2 0).toNat:Int),.int .u8 ((r.getD 3 0).toNat:Int),.int .u8 ((r.getD 4 0).toNat:Int),.int .u8 ((r.getD 5 0).toNat:Int),.int .u8 ((r.getD 6 0).toNat:Int),.int .u8 ((r.getD 7 0).toNat:Int),.int .u8 ((r.getD 8 0).toNat:Int)]
end
structure Wr where
  r:List UInt8
  T:Option Addr
  tc:Nat
  ths:List Hd
  ts:List (List UInt8)
def Wr.zero:Wr:=⟨[],none,0,[],[]⟩
def Wr.cells (x:Wr):List Value:=u9 x.r++[.slice x.T x.ts.length x.tc]
section
variable {H:Type}{enc:TypeId×Value→H}{P:Program}{w:World}{base:Nat}{spare:Nat→Bool}{held:Bool}
end
theorem fS {α:Type}{l m:List α}{i:Nat}(h:i<l.length)(d:α):(l++m).getD i d=l.getD i d:=by simp [List.getD_eq_getElem?_getD,List.getElem?_append_left h]
def su (gen:Int):List UInt8:=if 0<gen then aW (cz gen.toNat 4) else List.replicate 8 255
theorem Bu (gen:Int):(su gen).length=8:=by
 unfold su
 split
 ·exact cg _
 exact List.length_replicate
theorem iY (n:Nat)(gen:Int)(slot:List UInt8):al n gen slot=su gen++(slot++List.replicate (n-8-slot.length) 255):=List.append_assoc ..
theorem df (n:Nat)(gen:Int)(slot:List UInt8):(al n gen slot).take 8=su gen:=by
 rw [iY,List.take_append_of_le_length oaL,List.take_of_length_le oaL]
theorem eC (n:Nat)(gen:Int)(slot:List UInt8):(al n gen slot).drop 8=slot++List.replicate (n-8-slot.length) 255:=by
 rw [iY,List.drop_append_of_le_length oaL,List.drop_of_length_le oaL,List.nil_append]
theorem ku (row:List UInt8)(i:Nat):aX row i=((row.drop 8).drop (30*i)).take 30:=by
 unfold aX;rw [List.drop_drop]
theorem pX {n:Nat}{gen:Int}{slot:List UInt8}(h:slot.length=30):aX (al n gen slot) 0=slot:=by
 rw [ku,eC,Nat.mul_zero,List.drop_zero,List.take_append_of_le_length oe,List.take_of_length_le oe]
theorem pW {n i:Nat}{gen:Int}{slot:List UInt8}(h:slot.length=30)(hi:0<i)(hn:38+30*i≤n):aX (al n gen slot) i=List.replicate 30 255:=by
 rw [ku,eC,List.drop_append,List.drop_of_length_le oe,List.nil_append,List.drop_replicate,List.take_replicate]
 congr 1
 omega
theorem sB {row h:List UInt8}(e:row.take 8=h):l4 row=l4 h:=by
 unfold l4;rw [← e,gC ob,mH ob]
theorem sC {g:Nat}(h:g<4294967296):l4 (aW (cz g 4))=(g:Int):=by
 have hl:=cJ g 4;have e:cr (aW (cz g 4)) 4=cz g 4:=by
  have:=mI (cz g 4)
  rwa [hl] at this
 unfold l4;rw [if_pos (jZ _ oe),e,ka 4 g h]
theorem jK {f:Fl}{n:Nat}{gen:Int}{s:List Int}{x:Lg}(hn:f.size=n)(h38:38≤n)(hs:s.length=9)(hr:aN s=true):∀ k,k<bC f→bN (al n gen (ak s)) x (k+1)={ x with free:=1,s:=s,found:=true }
  |0,_=>by
    have e:=pX (n:=n) (gen:=gen) (cB hr)
    have hb:bZ (ak s)=false:=by
      cases hb:bZ (ak s) with
      |false=>rfl
      |true=>
        have:=ja (by rw [cB hr];decide) hb
        rw [cX hs hr] at this
        cases this
    rw [bp,kj (s:=s) (by rw [e];exact hb) (by rw [e];exact cX hs hr)]
    rfl
  |k+1,hk=>by
    rw [bp,jK hn h38 hs hr k oe]
    have h30:38+30*(k+1)≤n:=by
      have:=(bX (f:=f) (row:=List.replicate n 255) (i:=k+1) (by rw [List.length_replicate,hn]) hk).2
      omega
    rw [km (by rw [pW (cB hr) (Nat.succ_pos k) h30];exact zU 30)]
theorem r8 (o m:UInt8):kS o o m=o:=by
 unfold kS;refine uO fun i hi=>?_
 simp
 cases o.toBitVec[i]<;>cases m.toBitVec[i]<;>rfl
theorem kR {o w c:UInt8}(m:UInt8)(h1:o&&&c=c)(h2:w&&&c=c):kS o w m&&&c=c:=by
 unfold kS;refine uO fun i hi=>?_
 have g1:=congrArg (fun x:UInt8=>x.toBitVec[i]) h1;apply Y 0xca1f;intro g2
 simp at g1 g2 ⊢
 cases ho:o.toBitVec[i]<;>cases hw:w.toBitVec[i]<;>cases hc:c.toBitVec[i]<;>cases hm:m.toBitVec[i]<;>simp_all
theorem lJ (c:UInt8):c&&&c=c:=by
 refine uO fun i hi=>?_
 simp
theorem c5 {b w:List UInt8}{n:Nat}(h:∀ i,i<n→b.getD i 0&&&w.getD i 0=w.getD i 0):bL b w n=true:=by
 unfold bL;apply Y 0xa00f;intro i hi;rw [h i (List.mem_range.1 hi)]
 exact beq_self_eq_true _
theorem iB {b w:List UInt8}{k n:Nat}(h:k≤n):bL (b.take n) w k=bL b w k:=by
 induction k with
 |zero=>rfl
 |succ k ih=>rw [fH,fH,ih oe,bu oe]
theorem vb {row want:List UInt8}{n i:Nat}(h:gq row want n=true)(hi:i<n):row.getD i 0&&&want.getD i 0=want.getD i 0:=by
 unfold gq at h;rw [List.all_eq_true] at h
 exact (dQ _ _).2 (eq_of_beq (h i (List.mem_range.2 hi)))
section
variable {f:Fl}{x:Fo}{mk:Nat→UInt8}
theorem zv (hE:ao f x=0):av (aS f x mk) x.sec=ji f x mk:=by
 unfold av;rw [bz hE]
 exact n6 (ga hE).lt
theorem p9 {b:Int}(hE:ao f x=0)(h:x.sec.toNat≠b.toNat):av (aS f x mk) b=av f b:=mK hE h
theorem nr {i:Nat}(hi:i<f.size)(hk:x.kind≠1)(ho:¬(x.at_≤(i:Int)∧(i:Int)-x.at_<(x.data.length:Int))):(ji f x mk).getD i 0=(av f x.sec).getD i 0:=by
 rw [gW hi]
 unfold ry;rw [iA hk ho,r8]
 rfl
theorem zI {i j:Nat}(hi:i<f.size)(hk:x.kind≠1)(h0:(i:Int)=x.at_+(j:Int))(hj:j<x.data.length):(ji f x mk).getD i 0=kS ((av f x.sec).getD i 0) ((av f x.sec).getD i 0&&&x.data.getD j 0) (mk i):=by
 rw [gW hi]
 unfold ry;rw [lG hk ⟨by omega,by omega⟩,show ((i:Int)-x.at_).toNat=j by omega]
 rfl
theorem zJ {i:Nat}(hi:i<f.size)(hk:x.kind=1):(ji f x mk).getD i 0=kS ((av f x.sec).getD i 0) 255 (mk i):=by
 rw [gW hi]
 unfold ry;rw [w8 hk]
 rfl
end
theorem iN {row row':List UInt8}{x:Lg}:∀ {k:Nat},(∀ i,i<k→aX row' i=aX row i)→bN row' x k=bN row x k
  |0,_=>rfl
  |k+1,h=>by
    rw [bp,bp,iN (fun i hi=>h i oe)]
    unfold stepL
    rw [h k (Nat.lt_succ_self k)]
theorem fO {row:List UInt8}{x:Lg}{k:Nat}:∀ {n:Nat},k≤n→(∀ i,k≤i→i<n→bZ (aX row i)=true)→bN row x n=bN row x k
  |0,hk,_=>by rw [Nat.le_zero.1 hk]
  |n+1,hk,h=>by
    by_cases e:k=n+1
    · rw [e]
    · rw [bp,fO oe (fun i h1 h2=>h i h1 oe),km (h n oe (Nat.lt_succ_self n))]
theorem mE {row:List UInt8}{x:Lg}:∀ {n i:Nat},(bN row x n).free≤i→i<n→bZ (aX row i)=true
  |0,_,_,hi=>absurd hi (Nat.not_lt_zero _)
  |n+1,i,hf,hi=>by
    rw [bp] at hf
    cases hb:bZ (aX row n) with
    |true=>
      by_cases e:i=n
      · rw [e,hb]
      · rw [km hb] at hf
        exact mE hf oe
    |false=>
      exfalso
      have:(stepL row (bN row x n) n).free=n+1:=by
        cases hs:cm (aX row n) with
        |none=>rw [tF hb hs]
        |some s=>rw [kj hb hs]
      omega
def lgx (sec oth:Int)(g:Nat):Lg:={ lg0 with sec:=sec,oth:=oth,gen:=(g:Int) }
def ed (g:Nat):List UInt8:=aW (cz g 4)
theorem ez (g:Nat):(ed g).length=8:=cg g
theorem dA {g:Nat}(h:1≤g):su (g:Int)=ed g:=by
 unfold su;rw [if_pos oe,Int.toNat_natCast]
 rfl
theorem EJ (g:Nat):aQ (ed g) 4=true:=jZ _ (by rw [cJ];decide)
def scJ (f:Fl)(sec oth:Int)(g:Nat):Lg:=bN (av f sec) (lgx sec oth g) (bC f)
structure Jb (f:Fl)(sec oth:Int)(g:Nat)(s:List Int)(t:Nat):Prop where
  ok:f.Ok
  ne:sec.toNat≠oth.toNat
  sr:0≤sec∧sec<(f.data.length:Int)
  tr:0≤oth∧oth<(f.data.length:Int)
  sz:38≤f.size
  sd:f.dead.getD sec.toNat false=false
  od:f.dead.getD oth.toNat false=false
  g0:1≤g
  g1:g<4294967296
  head:(av f sec).take 8=ed g
  fnd:(scJ f sec oth g).found=true
  st:(scJ f sec oth g).s=s
  tn:(scJ f sec oth g).torn≤t
def O1 (f:Fl)(oth:Int)(g:Nat):Prop:=∃ c,c<g∧bL (av f oth) (ed c) 8=true
def O2 (f:Fl)(sec oth:Int)(g:Nat)(p:List Int):Prop:=
  (scJ f sec oth g).free=bC f∧bL (av f oth) (ed (g+1)) 8=true∧(av f oth).take 8≠ed (g+1)∧(av f oth).drop 8=ak p++List.replicate (f.size-8-(ak p).length) 255
theorem sA {row:List UInt8}{c:Nat}(hl:8≤row.length)(hc:c<4294967296)(h:bL row (ed c) 8=true):l4 row= -1∨(row.take 8=ed c∧l4 row=(c:Int)):=by
 by_cases hk:aQ row 4=true
 ·have e:row.take 8=ed c:=by
   refine mS (n:=4) Oq (ez c) ?_ (EJ c) ?_
   ·rw [iB ob]
    exact h
   rw [gC ob]
   exact hk
  refine .inr ⟨e,?_⟩;rw [sB e]
  exact sC hc
 refine .inl ?_
 unfold l4;rw [if_neg hk]
section
variable {f:Fl}{sec oth a b:Int}{g t:Nat}{s p:List Int}
theorem Jb.ol (J:Jb f sec oth g s t):(av f oth).length=f.size:=J.ok.rows _ (by have:=J.tr;omega)
theorem Jb.sl (J:Jb f sec oth g s t):(av f sec).length=f.size:=J.ok.rows _ (by have:=J.sr;omega)
theorem Jb.gen (J:Jb f sec oth g s t):l4 (av f sec)=(g:Int):=by
 rw [sB J.head]
 exact sC J.g1
theorem Jb.ogen (J:Jb f sec oth g s t)(h:O1 f oth g∨O2 f sec oth g p)(hg:g+1<4294967296):l4 (av f oth)<(g:Int):=by
 apply Y 0x650f;intro hl;have:=J.sz
 rcases h with ⟨c,hc,h⟩|⟨_,h,hn,_⟩
 ·rcases sA oe oe h with e|⟨_,e⟩<;>omega
 rcases sA oe hg h with e|⟨e,_⟩
 ·omega
 exact absurd e hn
theorem Jb.find (J:Jb f sec oth g s t)(ho:l4 (av f oth)<(g:Int))(hp:sec=a∧oth=b∨sec=b∧oth=a):aY f a b=scJ f sec oth g:=by
 have hn:=J.ne;have h1:=J.sr;have h2:=J.tr;apply Y 0x610f;intro hz;have hg:=J.gen;have hf:cN f a b=true:=by
  refine decide_eq_true ?_
  rcases hp with ⟨rfl,rfl⟩|⟨rfl,rfl⟩
  ·exact ⟨fun e=>hn (by rw [e]),h1.1,h2.1,h1.2,h2.2,hz⟩
  exact ⟨fun e=>hn (by rw [e]),h2.1,h1.1,h2.2,h1.2,hz⟩
 have hpk:ax f a b=lgx sec oth g:=by
  unfold ax lgx
  rcases hp with ⟨rfl,rfl⟩|⟨rfl,rfl⟩
  ·rw [if_neg oe,hg]
  rw [if_pos oe,hg]
 unfold aY;rw [if_pos hf,hpk,if_neg (by show ¬((g:Int)<0);omega)]
 rfl
theorem DG (f:Fl)(sec oth:Int)(g:Nat):(scJ f sec oth g).sec=sec∧(scJ f sec oth g).oth=oth∧(scJ f sec oth g).gen=(g:Int):=iO _ _ _
theorem DH (f:Fl)(sec oth:Int)(g:Nat):(scJ f sec oth g).free≤bC f:=(iP rfl rfl _).1
end
section
variable {f:Fl}{sec oth:Int}{g t:Nat}{s p:List Int}{mk:Nat→UInt8}
theorem G4 {f':Fl}{x:Fo}{k:Nat}(hE:ao f x=0)(hk:x.kind=2)(ha:x.at_=8+30*(k:Int))(hd:x.data.length=30)(hl:(av f x.sec).length=f.size)(hp:k<bC f)(hf:f'=aS f x mk):
    (∀ i,i<bC f→i≠k→aX (av f' x.sec) i=aX (av f x.sec) i)∧(av f' x.sec).take 8=(av f x.sec).take 8∧
    (bZ (aX (av f x.sec) k)=true→∀ j,j<30→(aX (av f' x.sec) k).getD j 0=kS 255 (x.data.getD j 0) (mk (8+30*k+j))):=by
 have hn:x.kind≠1:=oe;have hr:av f' x.sec=ji f x mk:=by rw [hf];exact zv hE
 have hl':(av f' x.sec).length=f.size:=by rw [hr,cu]
 have hkl:=(bX hl hp).2;refine ⟨fun i hi hne=>?_,?_,fun hb j hj=>?_⟩
 ·have h1:=bX hl hi;have h2:=bX (f:=f) hl' hi;refine aF (d:=0) (by rw [h1.1,h2.1]) fun j hj=>?_
  rw [h2.1] at hj
  unfold aX;rw [bu hj,bu hj,bn,bn,hr,nr oe hn];rw [ha,hd]
  omega
 ·refine aF (d:=0) (by rw [List.length_take,List.length_take,hl,hl']) fun j hj=>?_
  rw [List.length_take] at hj;rw [bu oe,bu oe,hr,nr oe hn];rw [ha,hd]
  omega
 have h1:=bX hl hp;have ho:(av f x.sec).getD (8+30*k+j) 0=255:=by
  have:=lF hb (i:=j) (by rw [h1.1];exact hj)
  unfold aX at this
  rwa [bu hj,bn] at this
 have:(aX (av f' x.sec) k).getD j 0=(ji f x mk).getD (8+30*k+j) 0:=by
  unfold aX;rw [bu hj,bn,hr]
 rw [this,zI (j:=j) oe hn (by rw [ha];push_cast;omega) oe,ho,eO]
theorem KI {x:Fo}(J:Jb f sec oth g s t)(hpl:p.length=9)(hp:aN p=true)(hx:x=⟨2,sec,8+30*((scJ f sec oth g).free:Int),ak p⟩)(hfr:(scJ f sec oth g).free<bC f):
    ao f x=0∧((∃ u,(u=t∨u=t+1∧¬ ∀ i,mk i=255)∧Jb (aS f x mk) sec oth g s u∧¬ ∀ i,mk i=255)∨Jb (aS f x mk) sec oth g p t)∧av (aS f x mk) oth=av f oth:=by
 have hsl:=cB hp;have hkl:=(bX J.sl hfr).2;have hE:ao f x=0:=by
  rw [hx]
  exact eV J.sr J.sd ⟨by omega,by omega⟩
 have hxs:x.sec=sec:=obp;have hot:av (aS f x mk) oth=av f oth:=p9 hE (by rw [hxs];exact J.ne);refine ⟨hE,?_,hot⟩;apply Y 0x3c1f;intro h1 h2 h3;rw [hxs] at h1 h2 h3;apply Y 0x710f;intro K;apply Y 0x410f;intro hpc
 generalize hf':aS f x mk=f' at*;apply Y 0x6a1f;intro hb0
 generalize hk:(scJ f sec oth g).free=k at*;have hbk:=hb0 k (Nat.le_refl _) hfr;replace h3:=h3 hbk;rw [show x.data=ak p by rw [hx]] at h3;have hl':(av f' sec).length=f.size:=QW;have hs30:=bX (f:=f) hl' hfr;apply Y 0x891f;intro hold;have hnew:scJ f' sec oth g=stepL (av f' sec) (scJ f sec oth g) k:=by
  have e1:scJ f' sec oth g=bN (av f' sec) (lgx sec oth g) (k+1):=by
   unfold scJ;rw [hpc];refine fO hfr fun i hi hi2=>?_
   rw [h1 i hi2 oe]
   exact hb0 i oe hi2
  rw [e1,bp,hold]
  congr 1
  exact iN fun i hi=>h1 i oe oe
 have base:∀ (s':List Int) (u:Nat),(scJ f' sec oth g).found=true→(scJ f' sec oth g).s=s'→(scJ f' sec oth g).torn≤u→Jb f' sec oth g s' u:=fun s' u q1 q2 q3=>
  ⟨K.ok,J.ne,by rw [K.n];exact J.sr,by rw [K.n];exact J.tr,by rw [K.s];exact J.sz,by rw [K.d];exact J.sd,by rw [K.d];exact J.od,J.g0,J.g1,by rw [h2];exact J.head,q1,q2,q3⟩
 have habove:bL (aX (av f' sec) k) (ak p) 30=true:=c5 fun j hj=>by
  rw [h3 j hj]
  exact kR _ (eO _) (lJ _)
 have hwhole:(∀ i,mk i=255)→aX (av f' sec) k=ak p:=fun hw=>by
  refine aF (d:=0) (by rw [hs30.1,hsl]) fun j hj=>?_
  rw [hs30.1] at hj;rw [h3 j hj,hw,fv]
 have hsnb:bZ (ak p)=false:=by
  cases hb:bZ (ak p) with
  |false=>rfl
  |true=>
   have:=ja (by rw [hsl];decide) hb;rw [cX hpl hp] at this
   cases this
 cases hb:bZ (aX (av f' sec) k) with
 |true=>
  refine .inl ⟨t,.inl rfl,?_,fun hw=>by rw [hwhole hw,hsnb] at hb;cases hb⟩;rw [km hb] at hnew
  exact base s t (by rw [hnew];exact J.fnd) (by rw [hnew];exact J.st) (by rw [hnew];exact J.tn)
 |false=>
  cases hst:cm (aX (av f' sec) k) with
  |none=>
   have hnw:¬ ∀ i,mk i=255:=fun hw=>by rw [hwhole hw,cX hpl hp] at hst;cases hst
   refine .inl ⟨t+1,.inr ⟨rfl,hnw⟩,?_,hnw⟩;rw [tF hb hst] at hnew
   exact base s (t+1) (by rw [hnew];exact J.fnd) (by rw [hnew];exact J.st) (by rw [hnew];have:=J.tn;dsimp only;omega)
  |some q=>
   have hco:aQ (aX (av f' sec) k) 15=true:=by
    unfold cm at hst
    split at hst
    ·assumption
    cases hst
   have he:=mS (n:=15) hs30.1 hsl habove (zj hp) hco;have hq:q=p:=by
    rw [he,cX hpl hp] at hst
    injection hst with hst
    exact hst.symm
   rw [hq] at hst;rw [kj hb hst] at hnew
   exact .inr (base p t (by rw [hnew]) (by rw [hnew]) (by rw [hnew];exact J.tn))
theorem KH {x:Fo}(J:Jb f sec oth g s t)(hg:g+1<4294967296)(hpl:p.length=9)(hp:aN p=true)(hx:x=⟨2,oth,0,ed (g+1)⟩)(hfr:(scJ f sec oth g).free=bC f)
    (ha:bL (av f oth) (ed (g+1)) 8=true) (hdr:(av f oth).drop 8=ak p++List.replicate (f.size-8-(ak p).length) 255):
    ao f x=0∧((Jb (aS f x mk) sec oth g s t∧O2 (aS f x mk) sec oth g p∧¬ ∀ i,mk i=255)∨(Jb (aS f x mk) oth sec (g+1) p t∧O1 (aS f x mk) sec (g+1))):=by
 apply Y 0x610f;intro hz;have hE:ao f x=0:=by
  rw [hx];exact Zm 0x5d1f
 refine ⟨hE,?_⟩;have hxs:x.sec=oth:=obp;apply Y 0xe91f;intro hn;have hxd:x.data=ed (g+1):=obp;apply Y 0x991f;intro hse;apply Y 0x3c0f;intro hr;apply Y 0x710f;intro K;apply Y 0x650f;intro hol;have hin:∀ i,i<8→(av (aS f x mk) oth).getD i 0=kS ((av f oth).getD i 0) ((ed (g+1)).getD i 0) (mk i):=fun i hi=>by
  rw [hr,zI (j:=i) oe hn (by rw [hx];show (i:Int)=0+i;omega) (by rw [hxd,ez];exact hi),hxs,hxd,dR hi ha]
 have hout:(av (aS f x mk) oth).drop 8=(av f oth).drop 8:=by
  refine aF (d:=0) Q9 fun i hi=>?_
  rw [List.length_drop,hr,cu] at hi;rw [bn,bn,hr,nr oe hn,hxs];rw [hxd,ez,show x.at_=0 by rw [hx]]
  omega
 apply Y 0x410f;intro hpc;apply Y 0x791f;intro hsc
 by_cases he:(av (aS f x mk) oth).take 8=ed (g+1)
 ·refine .inr ⟨?_,g,Nat.lt_succ_self g,?_⟩
  ·have hrow:av (aS f x mk) oth=al f.size ((g+1:Nat):Int) (ak p):=by
    exact Zm 0x261f
   have hgo:scJ (aS f x mk) oth sec (g+1)={ lgx oth sec (g+1) with free:=1,s:=p,found:=true }:=by
    unfold scJ;rw [hpc,hrow];have h1:0<bC f:=jQ hz;apply Y 0x4c1f;intro k hk;rw [hk,jK (f:=f) rfl hz hpl hp k oe]
   exact ⟨K.ok,fun e=>J.ne e.symm,by rw [K.n];exact J.tr,by rw [K.n];exact J.sr,by rw [K.s];exact hz,by rw [K.d];exact J.od,by rw [K.d];exact J.sd,by omega,hg,he,by rw [hgo],by rw [hgo],by rw [hgo];exact Nat.zero_le _⟩
  rw [hse,← iB (Nat.le_refl 8),J.head]
  exact c5 fun i _=>lJ _
 refine .inl ⟨⟨K.ok,J.ne,by rw [K.n];exact J.sr,by rw [K.n];exact J.tr,by rw [K.s];exact hz,by rw [K.d];exact J.sd,by rw [K.d];exact J.od,J.g0,J.g1,by rw [hse];exact J.head,by rw [hsc];exact J.fnd,by rw [hsc];exact J.st,by rw [hsc];exact J.tn⟩,⟨by rw [hsc,hpc];exact hfr,?_,he,by rw [hout,hdr,K.s]⟩,fun hw=>he ?_⟩
 ·exact c5 fun i hi=>by
   rw [hin i hi]
   exact kR _ (dR hi ha) (lJ _)
 refine aF (d:=0) (by rw [List.length_take,hr,cu,ez];omega) fun i hi=>?_
 rw [List.length_take] at hi;rw [bu oe,hin i oe,hw,fv]
theorem KG {x:Fo}(J:Jb f sec oth g s t)(O:O1 f oth g)(hp:aN p=true)(hx:x=bQ f oth (al f.size 0 (ak p)))(hwr:f.wear.getD oth.toNat 0<f.limit):
    ao f x=0∧Jb (aS f x mk) sec oth g s t∧O1 (aS f x mk) oth g∧(scJ (aS f x mk) sec oth g)=scJ f sec oth g:=by
 apply Y 0x610f;intro hz;have hsl:=cB hp;have hxs:x.sec=oth:=by rw [hx];exact c6 f oth _
 apply Y 0x650f;intro hol;apply Y 0x371f;intro hwl;have hE:ao f x=0:=by
  rw [hx]
  cases hb:gq (f.data.getD oth.toNat []) (al f.size 0 (ak p)) f.size with
  |true=>rw [fq hb];exact eV J.tr J.od ⟨Int.le_refl _,by omega⟩
  |false=>rw [fo hb];exact ir J.tr J.od oe
 apply Y 0x991f;intro hse;apply Y 0x3c0f;intro hr;apply Y 0x710f;intro K;apply Y 0x410f;intro hpc;apply Y 0x791f;intro hsc;refine ⟨hE,⟨K.ok,J.ne,by rw [K.n];exact J.sr,by rw [K.n];exact J.tr,by rw [K.s];exact hz,by rw [K.d];exact J.sd,by rw [K.d];exact J.od,J.g0,J.g1,by rw [hse];exact J.head,by rw [hsc];exact J.fnd,by rw [hsc];exact J.st,by rw [hsc];exact J.tn⟩,?_,hsc⟩
 cases hb:gq (f.data.getD oth.toNat []) (al f.size 0 (ak p)) f.size with
 |true=>
  have hx1:=fq hb;rw [← hx] at hx1;have hn:x.kind≠1:=by rw [hx1];show ¬(2:Int)=1;decide
  refine ⟨0,J.g0,c5 fun i hi=>?_⟩;have h255:(al f.size 0 (ak p)).getD i 0=255:=by
   rw [← bu hi,df]
   exact bO _ _ _ _ hi
  have ho:(av f oth).getD i 0=255:=by
   have:=vb hb (i:=i) oe;rw [h255] at this;have e:(av f oth).getD i 0&&&255=(av f oth).getD i 0:=by
    refine uO fun j hj=>?_
    have h1:((255:UInt8).toBitVec)[j]=true:=by
     have:∀ j,(h:j<8)→((255:UInt8).toBitVec)[j]=true:=ob
     exact this j hj
    rw [UInt8.toBitVec_and,BitVec.getElem_and,h1,Bool.and_true]
   exact e.symm.trans this
  rw [hr,zI (j:=i) oe hn (by rw [hx1];show (i:Int)=0+i;omega) (by rw [hx1];dsimp only;omega),hxs,ho,eO];rw [show x.data=al f.size 0 (ak p) by rw [hx1],h255,r8]
  exact eO _
 |false=>
  have hx1:=fo hb;rw [← hx] at hx1;obtain ⟨c,hc,h⟩:=O;refine ⟨c,hc,c5 fun i hi=>?_⟩;rw [hr,zJ oe (by rw [hx1]),hxs]
  exact kR _ (dR hi h) (eO _)
end
def jmu (f:Fl)(sec oth:Int)(g:Nat)(s p:List Int):Nat:=
  if s=p then 0 else if (scJ f sec oth g).free<bC f then 1 else if dm (av f oth) (al f.size ((g:Int)+1) (ak p))=true then 1 else 1+tMu f oth (al f.size 0 (ak p))
theorem jm (f:Fl)(sec oth:Int)(g:Nat)(s p:List Int):jmu f sec oth g s p≤3:=by
 have:=gT f oth (al f.size 0 (ak p))
 unfold jmu
 split
 ·omega
 split
 ·omega
 split<;>omega
def JV (f:Fl)(a b:Int)(s p:List Int)(t G m:Nat):Prop:=
  ∃ sec oth g,(sec=a∧oth=b∨sec=b∧oth=a)∧g≤G∧Jb f sec oth g s t∧(O1 f oth g∨O2 f sec oth g p)∧jmu f sec oth g s p≤m
def JC (f:Fl)(a b:Int)(s:List Int)(t G:Nat):Prop:=
  ∃ sec oth g,(sec=a∧oth=b∨sec=b∧oth=a)∧g≤G∧Jb f sec oth g s t∧O1 f oth g
section
variable {f:Fl}{a b:Int}{s p:List Int}{t G m:Nat}
theorem Jb.mono {sec oth:Int}{g u:Nat}(J:Jb f sec oth g s t)(h:t≤u):Jb f sec oth g s u:=
  ⟨J.ok,J.ne,J.sr,J.tr,J.sz,J.sd,J.od,J.g0,J.g1,J.head,J.fnd,J.st,Nat.le_trans J.tn h⟩
theorem JC.jv (h:JC f a b s t G)(p:List Int):JV f a b s p t G 3:=by
 apply Y 0xcb1f;intro sec oth g hp hg J O;exact ⟨sec,oth,g,hp,hg,J,.inl O,jm _ _ _ _ _ _⟩
theorem JV.find (h:JV f a b s p t G m)(hG:G+1<4294967296):(aY f a b).found=true∧(aY f a b).s=s∧(aY f a b).torn≤t:=by
 apply Y 0xbb1f;intro sec oth g hp hg J O hj;rw [J.find (J.ogen O oe) hp];exact ⟨J.fnd,J.st,J.tn⟩
theorem JC.find (h:JC f a b s t G)(hG:G+1<4294967296):(aY f a b).found=true∧(aY f a b).s=s∧(aY f a b).torn≤t:=(h.jv s).find hG
end
theorem FN {f g:Fl}{a b:Int}{s:List Int}(hf:cN f a b=true)(hs:s.length=9)(hr:aN s=true)(F:Fresh f a b s g)(hd:f.dead.getD a.toNat false=false∧f.dead.getD b.toNat false=false):JC g a b s 0 1:=by
 have hft:=fT hf;have hsc:scJ g a b 1={ lgx a b 1 with free:=1,s:=s,found:=true }:=by
  unfold scJ;have h1:0<bC g:=jQ (by rw [F.sz];exact hft.2.2.2.2.2);obtain ⟨k,hk⟩:∃ k,bC g=k+1:=⟨bC g-1,by omega⟩;rw [hk,F.ra,jK (f:=g) F.sz hft.2.2.2.2.2 hs hr k oe]
 refine ⟨a,b,1,.inl ⟨rfl,rfl⟩,Nat.le_refl _,⟨F.ok,by omega,by rw [F.n];exact ⟨hft.2.1,hft.2.2.2.1⟩,by rw [F.n];exact ⟨hft.2.2.1,hft.2.2.2.2.1⟩,by rw [F.sz];exact hft.2.2.2.2.2,by rw [F.d];exact hd.1,by rw [F.d];exact hd.2,Nat.le_refl _,by decide,?_,by rw [hsc],by rw [hsc],by rw [hsc];exact Nat.le_refl _⟩,0,by decide,c5 fun i hi=>?_⟩
 ·rw [F.ra,df]
  exact dA (Nat.le_refl 1)
 rw [F.rb,← bu hi,df,show su 0=List.replicate 8 255 from rfl,bO _ _ _ _ hi]
 exact eO _
end Go.Sl
