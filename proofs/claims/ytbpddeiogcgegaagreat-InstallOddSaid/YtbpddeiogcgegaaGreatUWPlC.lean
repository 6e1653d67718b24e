/-
  Part of a proof.
-/
import Derived.Shelf.Slices.Cells
import Derived.Shelf.Slices.Empties
import Derived.Shelf.Slices.In.SortNone
import Derived.Sort.OwnSortedInts
import Derived.Shelf.Sort.Plain
import Derived.Test.YtbpddeiogcgegaaGreatUWOrV
set_option maxHeartbeats 0
set_option maxRecDepth 4000
set_option linter.all false
namespace Go.Proofs.YtbpddeiogcgegaaGreat
open Go.Sl
theorem Am (c:Bool){f:Nat}{args:List Value}{R H:List Pr}{b:Bool}(h:Ctr X f args R H (fun v R' H'=>v=.bool b∧R'=[]∧H'=[]))(hb:b=c):Ctr X f args R H (fun v R' H'=>v=.bool c∧R'=[]∧H'=[]):=hb▸h
def fS (chg:List Nat)(M:List (List Int))(i k:Nat):List Nat:=(List.range k).filter fun k=>(M.getD (chg.getD i 0) []).contains ((chg.getD k 0:Nat):Int)
theorem zT {chg:List Nat}{M:List (List Int)}{i k:Nat}(h:(M.getD (chg.getD i 0) []).contains ((chg.getD k 0:Nat):Int)=true):fS chg M i (k+1)=fS chg M i k++[k]:=by
 unfold fS;rw [List.range_succ,List.filter_append,List.filter_cons,if_pos h];exact Zm 0x2
theorem De {chg:List Nat}{M:List (List Int)}{i k:Nat}(h:(M.getD (chg.getD i 0) []).contains ((chg.getD k 0:Nat):Int)=false):fS chg M i (k+1)=fS chg M i k:=by
 unfold fS;rw [List.range_succ,List.filter_append,List.filter_cons,if_neg oaz];exact Zm 0x51e
theorem zU (chg:List Nat)(M:List (List Int))(i k:Nat):(fS chg M i k).length≤k:=by
 have:=List.length_filter_le (fun k=>(M.getD (chg.getD i 0) []).contains ((chg.getD k 0:Nat):Int)) (List.range k)
 rwa [List.length_range] at this
theorem x3 (LA:Option Addr)(ls:List (List Int))(lc m:Nat)(hm:ls.length=m)(hs:List Hd)(hh:hs.length=ls.length)(hr:cw ls=true)(h16:ls.length≤16)(hlr:∀ i,(ls.getD i []).length≤9223372036854775807):
    Ctr X 77 [.slice LA m lc] [Rd LA (aC hs (J8 ls)),aS hs (J8 ls)] [] (fun v R' H'=>∃ (A B:Option Addr) (c d:Nat),v=.agg (List.toArray [.slice A (tm ls).length c,.slice B (tp ls).length d,.int .i64 0])∧R'=[Rd A (I64 (NI (tm ls))),Rd B (I64 (NI (tp ls)))]∧H'=[]):=by
 subst hm;have h:=x4 LA ls lc hs hh oe hlr;obtain ⟨e1,e2,e3⟩:=MH hr h16;rw [e1,e2,e3] at h;exact Zm 0xc2e
theorem GD (S n:Nat)(inn out:Int)(ops:List Po)(OA:Option Addr)(oc:Nat)(qv hv:Value)(hops:ops.length≤9223372036854775807)(hS1:1≤S)(hS2:S≤4096)(hn1:1≤n)(hn2:n≤64)(hE:cF inn out ops=0)(hi1:inn≤(S:Int)*(n:Int))(hi2:out≤(S:Int)*(n:Int)):
    Ctr X 78 [.agg (List.toArray [.int .i64 (S:Int),.int .i64 (n:Int),.bool false,.int .i64 inn,.int .i64 out,.slice OA ops.length oc,qv,hv])] [Rd OA (ck ops)] [] (fun v R' H'=>∃ (A:Option Addr) (c:Nat) (hs:List Hd),v=.slice A (aH (ah ops) inn S n).length c∧R'=[Rd A (aC hs (J8 (jX (aH (ah ops) inn S n) (bN (ah ops) inn S n n) (aH (ah ops) inn S n).length))),aS hs (J8 (jX (aH (ah ops) inn S n) (bN (ah ops) inn S n n) (aH (ah ops) inn S n).length))]∧H'=[]∧hs.length=(aH (ah ops) inn S n).length):=by
 refine co Tryz.func78 ?_;intro β;apply Y 0x100f;intro k1 k2 k3 k4 k5 k6;apply Y 0x710f;intro hsy;apply Y 0x1de;intro hsl;apply Y 0x540f;intro hnS;apply Y 0xe82f;intro r1 r2 r3 r4;apply Y 0xe31f;intro hpad;apply Y 0xd31f;intro hml;apply Y 0x4ee;intro hcl;apply Y 0x6a;intro A1;apply Y 0xf7edb49;refine al (fN S n false inn out ops OA oc qv hv hops hS1 hS2 hn1 hn2 hE) ?_;apply Y 0x19;intro CA cc;apply Y 0x80edb494a;refine sp (ab (vs:=[_,_,_,_]) rfl rfl rfl (Src.r 1 rfl) rfl rfl ob) ?_;apply Y 0xf23f3b;rw [r1,r2];apply Y 0x6ee;intro MA mc mhs hmhs;apply Y 0x2b48d828;intro A20;apply Y 0x851fcd49;refine lp [] [] (fun q:Nat×Option Addr×Nat×List Hd=>[(3,.slice CA (aH (ah ops) inn S n).length cc),(4,.slice MA (bN (ah ops) inn S (rdN inn out S) (rdN inn out S)).length mc),(6,.slice q.2.1 (jX (aH (ah ops) inn S n) (bN (ah ops) inn S n n) q.1).length q.2.2.1),(7,.int .i64 (q.1:Int))]) (kzz [_,_,_] [] fun q=>[aS q.2.2.2 (J8 (jX (aH (ah ops) inn S n) (bN (ah ops) inn S n n) q.1))]) (fun q=>[Own 31 1 q.2.1 (jX (aH (ah ops) inn S n) (bN (ah ops) inn S n n) q.1).length q.2.2.1 (aC q.2.2.2 (J8 (jX (aH (ah ops) inn S n) (bN (ah ops) inn S n n) q.1)))]) (fun q=>q.1≤(aH (ah ops) inn S n).length∧q.2.2.2.length=q.1) (fun q=>(aH (ah ops) inn S n).length-q.1) (0,A20,0,[]) ⟨Nat.zero_le _,rfl⟩ (lk [1,2,3,0] [0]) ?_;apply Y 0xd10f;intro i A c hs hi hhs
 dsimp only at hi hhs ⊢;apply Zu 0x2a9d<;>intro
 ·apply Y 0x2b4899;intro A27;apply Y 0xcd49;refine lp [] [] (fun q:Nat×Option Addr×Nat=>[(3,.slice CA (aH (ah ops) inn S n).length cc),(4,.slice MA (bN (ah ops) inn S (rdN inn out S) (rdN inn out S)).length mc),(6,.slice A (jX (aH (ah ops) inn S n) (bN (ah ops) inn S n n) i).length c),(7,.int .i64 (i:Int)),(8,.slice q.2.1 (fS (aH (ah ops) inn S n) (bN (ah ops) inn S n n) i q.1).length q.2.2),(9,.int .i64 (q.1:Int))]) (kz [_,_,_,_]) (fun q=>[Own 3 1 q.2.1 (fS (aH (ah ops) inn S n) (bN (ah ops) inn S n n) i q.1).length q.2.2 (I64 (NI (fS (aH (ah ops) inn S n) (bN (ah ops) inn S n n) i q.1))),Own 31 1 A (jX (aH (ah ops) inn S n) (bN (ah ops) inn S n n) i).length c (aC hs (J8 (jX (aH (ah ops) inn S n) (bN (ah ops) inn S n n) i)))]) (fun q=>q.1≤(aH (ah ops) inn S n).length) (fun q=>(aH (ah ops) inn S n).length-q.1) (0,A27,0) (Nat.zero_le _) (lk [0,1,2,3] [1,0]) ?_;apply Y 0xf1e;intro k B d hk
  dsimp only at hk ⊢;apply Zu 0x2a9d<;>intro
  ·apply Y 0x599;obtain ⟨hci,hcb⟩:=uq (l:=(ah ops)) (inn:=inn) (S:=S) (n:=n) (i:=i) oe;have hcN:((aH (ah ops) inn S n).getD i 0)<(rdN inn out S):=Nat.lt_of_not_le fun g=>by rw [mz hS1 r4 g] at hcb;cases hcb
   have hmr:(bN (ah ops) inn S (rdN inn out S) (rdN inn out S)).getD ((aH (ah ops) inn S n).getD i 0) []=(bN (ah ops) inn S n n).getD ((aH (ah ops) inn S n).getD i 0) []:=by rw [← hpad,lO]
   have hrow:((bN (ah ops) inn S (rdN inn out S) (rdN inn out S)).getD ((aH (ah ops) inn S n).getD i 0) []).length=(jl (ah ops) inn S ((aH (ah ops) inn S n).getD i 0) (rdN inn out S)).length:=by rw [eh hcN,bm]
   have hrow2:=iA (ah ops) inn S ((aH (ah ops) inn S n).getD i 0) (rdN inn out S);apply Y 0xc9c92d1f9a3fc9ad;refine LQ.bool 41 rfl (imp of_decide_eq_true ?_) (imp of_decide_eq_false ?_)<;>intro
   ·apply Y 0x62d1f69a3f6dcdcdc;refine sq (ae (k:=((aH (ah ops) inn S n).getD i 0)) rfl rfl rfl rfl rfl rfl rfl oe (Src.r 0 rfl) Qi) ?_;apply Y 0x6;refine sq (Ev.load rfl rfl rfl (Src.r 0 rfl) (cv hmhs oe)) ?_;apply Y 0x6dcdc;refine sq (ae (k:=k) rfl rfl rfl rfl rfl rfl rfl oe (Src.r 2 rfl) Qq) ?_;apply Y 0x62d1f6;refine LQ.call (.bool (((bN (ah ops) inn S (rdN inn out S) (rdN inn out S)).getD ((aH (ah ops) inn S n).getD i 0) []).contains ((((aH (ah ops) inn S n).getD k 0):Nat):Int))) (yR (mhs.getD ((aH (ah ops) inn S n).getD i 0) (none,0)).1 ((bN (ah ops) inn S (rdN inn out S) (rdN inn out S)).getD ((aH (ah ops) inn S n).getD i 0) []) (mhs.getD ((aH (ah ops) inn S n).getD i 0) (none,0)).2 ((((aH (ah ops) inn S n).getD k 0):Nat):Int) (by rw [hrow];omega)) (fun _ _ _ h=>h.1) rfl ⟨((Has.kid 1 rfl QR ((aH (ah ops) inn S n).getD i 0) qU).cast (dq _)),trivial⟩ rfl ?_;apply Zu 0x3a40e<;>intro hc54
    ·rw [hmr] at hc54;have he:(fS (aH (ah ops) inn S n) (bN (ah ops) inn S n n) i (k+1))=(fS (aH (ah ops) inn S n) (bN (ah ops) inn S n n) i k)++[k]:=zT hc54;have hrl:=zU (aH (ah ops) inn S n) (bN (ah ops) inn S n n) i k;apply Y 0x2bac;intro A57;apply Y 0x1d2f;intro A58 cc58;apply Y 0x9a81e;refine QE.round (i:=(k,B,d)) ((k+1,A58,cc58)) ot ot (by exact lk [0,1,2,3] [0,1] ⟨rfl,rfl,rfl,rfl,OH,rfl,trivial⟩ (hh:=⟨(congrArg some (ay OH qd)),rfl,trivial⟩))
    rw [hmr] at hc54;have he:(fS (aH (ah ops) inn S n) (bN (ah ops) inn S n n) i (k+1))=(fS (aH (ah ops) inn S n) (bN (ah ops) inn S n n) i k):=De hc54;apply Y 0x9a7a;refine QE.round (i:=(k,B,d)) ((k+1,B,d)) ot ot (by exact lk [0,1,2,3] [0,1] ⟨rfl,rfl,rfl,rfl,Qm,rfl,trivial⟩ (hh:=⟨(congrArg some OT),rfl,trivial⟩))
   exact Zm 0x18
  apply Y 0xa9;obtain rfl:k=(aH (ah ops) inn S n).length:=oe;apply Y 0x8c7c;have hal:=c7 (aH (ah ops) inn S n) (bN (ah ops) inn S n n) i;apply Y 0x2bac;intro A61;refine L.append (j:=0) rfl rfl rfl rfl ob rfl rfl rfl rfl (Src.o 1 rfl) rfl (dG rfl) (by rw [c7];omega) QD rfl (fun A62 cc62=>?_);apply Y 0x9a81e;refine QE.more (r:=aS (hs++[(B,d)]) (J8 (jX (aH (ah ops) inn S n) (bN (ah ops) inn S n n) i)++[I64 (NI (fS (aH (ah ops) inn S n) (bN (ah ops) inn S n n) i (aH (ah ops) inn S n).length))])) (dI 4 0 d rfl rfl (by rw [bS,c7];exact hhs)) ?_;refine QE.round (i:=(i,A,c,hs)) ((i+1,A62,cc62,hs++[(B,d)])) Qy ot (by exact lk [2,3,4,0] [0] ⟨rfl,rfl,oat,rfl,trivial⟩ (hr:=⟨rfl,rfl,rfl,(congrArg some (by dsimp only;rw [jW,← mJ];rfl)),trivial⟩) (hh:=⟨(congrArg some (ay oat (by dsimp only;rw [jW,← jd (by rw [c7];exact hhs),bm];rfl))),trivial⟩))
 apply Y 0x130fe8c8a9;refine qrt [0,4] [] [_] rfl rt ?_;obtain rfl:i=(aH (ah ops) inn S n).length:=oe;rw [show (jX (aH (ah ops) inn S n) (bN (ah ops) inn S n n) (aH (ah ops) inn S n).length).length=_ from c7 _ _ _];exact ⟨A,c,hs,rfl,rfl,rfl,hhs⟩
theorem FO (BA:Option Addr)(ol bc:Nat)(sz n:Int)(lf:Bool)(inn out:Int)(ops:List Po)(OA:Option Addr)(oc:Nat)(hops:ops.length≤9223372036854775807)(_hol:ol≤9223372036854775807):
    Ctr X 37 [.agg (List.toArray [.slice BA ol bc,.bool lf,.int .i64 inn,.int .i64 out,.slice OA ops.length oc,.int .i64 sz,.int .i64 n])] [Rd OA (ck ops)] [] (fun v R' H'=>∃ (O Q Hh:Option Addr) (c1 c2 c3:Nat),v=.tuple #[.agg (List.toArray [.int .i64 (mkP lf inn out sz n ops ol).sz,.int .i64 (mkP lf inn out sz n ops ol).n,.bool (mkP lf inn out sz n ops ol).lf,.int .i64 (mkP lf inn out sz n ops ol).inn,.int .i64 (mkP lf inn out sz n ops ol).out,.slice O (mkP lf inn out sz n ops ol).ops.length c1,.slice Q (mkP lf inn out sz n ops ol).q.length c2,.slice Hh (mkP lf inn out sz n ops ol).h.length c3]),.int .i64 (mkE lf inn out sz n ops ol)]∧R'=[Rd O (ck (mkP lf inn out sz n ops ol).ops),Rd Q (I64 (mkP lf inn out sz n ops ol).q),Rd Hh (I64 (mkP lf inn out sz n ops ol).h)]∧H'=[]):=by
 refine co Tryz.func37 ?_;intro β;apply Y 0x6a;intro A1;apply Y 0xa8;intro A2;apply Y 0xa8ba98e21ef8f8788c7c49;intro A4;apply Zu 0x3a12c88791f98e21e58984c<;>intro hc17
 ·have hE1:cF inn out ops≠0:=by simpa using hc17
  apply Y 0x770fdbedbe260f8916b8b;have hE:mkE lf inn out sz n ops ol=_:=MR hE1;apply Y 0x690f;intro hP;rw [hP,hE];exact Zm 0x350f
 have hE0:cF inn out ops=0:=by simpa using hc17
 apply Zu 0x3a98f821e5859<;>intro hc21
 ·apply Y 0x770fdbedbe260f8916b8b;have hE:mkE lf inn out sz n ops ol=_:=MQ hE0 hc21;apply Y 0x690f;intro hP;rw [hP,hE];exact Zm 0x350f
 apply Y 0x5c1f5859;refine al (wT sz n lf inn out ops OA oc (.slice none 0 0) (.slice none 0 0)) ?_;apply Zu 0x3a12c88<;>intro hc25
 ·apply Y 0x770fdbedbe260f8916b8b;have hE:mkE lf inn out sz n ops ol=_:=MP hE0 oak (by simpa using hc25);apply Y 0x690f;intro hP;rw [hP,hE];exact Zm 0x350f
 apply Zu 0xdd1f821e7f85859<;>intro hc33
 ·apply Y 0x770fdbedbe260f8916b8b;have hE:mkE lf inn out sz n ops ol=_:=MO hE0 oak (by simpa using hc25) oe;apply Y 0x690f;intro hP;rw [hP,hE];exact Zm 0x350f
 have hszb0:kb sz n inn out=true:=by simpa using hc25
 have hlf0:lf=false:=oak;subst hlf0;apply Y 0xefe;intro hszb;obtain ⟨S,rfl⟩:∃ q:Nat,sz=(q:Int):=⟨sz.toNat,by omega⟩;obtain ⟨n,rfl⟩:∃ q:Nat,n=(q:Int):=⟨n.toNat,by omega⟩;apply Y 0xffe;intro hS1 hS2 hn1 hn2 hi1 hi2;apply Y 0x4ee;intro hcl;apply Y 0x5c1f8d;refine al (fN S n false inn out ops OA oc (.slice none 0 0) (.slice none 0 0) hops hS1 hS2 hn1 hn2 hE0) ?_;apply Y 0x19;intro CA cc;apply Zu 0x79d87871ed1e54970e<;>intro
 ·apply Y 0x770fdbedbe260f8916b8b;have hE:mkE false inn out (S:Int) (n:Int) ops ol=2:=MN hE0 rfl hszb0 hc33 oaB;have hP:mkP false inn out (S:Int) (n:Int) ops ol=Pp.zero:=yu oa7;rw [hP,hE];exact Zm 0x350f
 apply Y 0xbd;have hro:cw (mkM inn S n ops)=true:=Ew;have haml:(mkM inn S n ops).length=(aH (ah ops) inn S n).length:=c7 _ _ _;obtain ⟨s,hs2,hoH,hoQ,hof,hoE⟩:=Ij hro (by rw [haml];omega);have hQl:(tm (mkM inn S n ops)).length=(aH (ah ops) inn S n).length:=by rw [hoQ,← haml];exact iJ.1 hof
 have hHl:(tp (mkM inn S n ops)).length≤16:=by rw [hoH];exact MS (by rw [haml] at hs2;exact hs2) oe
 apply Y 0x5c1f78;refine aL (GD S n inn out ops OA oc (.slice none 0 0) (.slice none 0 0) hops hS1 hS2 hn1 hn2 hE0 hi1 hi2) ?_;apply Y 0x6ee;intro A42 c42 hs hhs;apply Y 0x2c;refine aL (x3 A42 (mkM inn S n ops) c42 (aH (ah ops) inn S n).length haml hs (hhs.trans haml.symm) hro oe (fun i=>by have:=GE (l:=(ah ops)) (inn:=inn) (S:=S) (n:=n) i;unfold mkM;omega)) ?_;apply Y 0x50e;intro QA HA qc hc;apply Y 0xa82c;intro A6;apply Y 0xf8ab71eb00fcba3e;refine al (yl CA QA (aH (ah ops) inn S n) (tm (mkM inn S n ops)) cc qc oe oe (fun i hi=>by rw [hoQ,← haml];exact gM _ _ (l6 (by rw [← hoQ];exact hi)))) ?_;apply Y 0x19;intro A47 c47;apply Y 0xf8b99848eb6e70e;refine al (yl CA HA (aH (ah ops) inn S n) (tp (mkM inn S n ops)) cc hc oe oe (fun i hi=>by rw [hoH];exact Ck (by rw [haml] at hs2;exact hs2) (l6 (by rw [← hoH];exact hi)))) ?_;apply Y 0x19;intro A52 c52;apply Y 0x48981d0f14e8de;refine sp (ab (vs:=[_,_,_,_,_,_,_,_]) rfl rfl rfl (Src.o 3 rfl) rfl rfl ob) ?_;apply Y 0xe81a3e;refine qfz 1 [0,2,3] ?_;apply Y 0xb81f;refine qfz 0 [1,2] ?_;apply Y 0x460f;refine qrt [9,1,0] [] [_,_] rfl ⟨⟨_,_,0,_,rfl,rfl,Src.o 0 rfl,.inl ⟨rfl,by decide,_,rfl,rfl,rfl⟩⟩,rfl,trivial⟩ ?_;have hE:mkE false inn out (S:Int) (n:Int) ops ol=0:=IB hE0 rfl hszb0 hc33 oaB;have hP:=D6 hE;rw [Int.toNat_natCast,Int.toNat_natCast] at hP;rw [hP,hE]
 simp only [bm];exact ⟨OA,A47,A52,oc,c47,c52,rfl,rfl,rfl⟩
open Go.Shelf
def ik:Go.Shelf.Ren:=⟨fun|189=>60|125=>105|257=>104|128=>169|129=>170|294=>160|295=>161|296=>162|297=>163|298=>164|299=>165|216=>166|300=>167|301=>168|328=>212|329=>213|330=>214|331=>215|332=>216|215=>217|343=>243|n=>n,fun|28=>31|3=>3|46=>196|0=>0|51=>232|53=>256|4=>4|183=>247|182=>246|131=>252|5=>5|9=>9|218=>297|222=>264|228=>319|229=>320|n=>n,fun|n=>n⟩
theorem gY:Go.Proofs.Lays.n189 Tryz.prog ik:={
  mixed:=by kernel_rfl,
  f125:=Tryz.func105.trans (congrArg some oa),
  f128:=Tryz.func169.trans (congrArg some oa),
  f129:=Tryz.func170.trans (congrArg some oa),
  f189:=Tryz.func60.trans (congrArg some oa),
  f215:=Tryz.func217.trans (congrArg some oa),
  f216:=Tryz.func166.trans (congrArg some oa),
  f257:=Tryz.func104.trans (congrArg some oa),
  f294:=Tryz.func160.trans (congrArg some oa),
  f295:=Tryz.func161.trans (congrArg some oa),
  f296:=Tryz.func162.trans (congrArg some oa),
  f297:=Tryz.func163.trans (congrArg some oa),
  f298:=Tryz.func164.trans (congrArg some oa),
  f299:=Tryz.func165.trans (congrArg some oa),
  f300:=Tryz.func167.trans (congrArg some oa),
  f301:=Tryz.func168.trans (congrArg some oa),
  f328:=Tryz.func212.trans (congrArg some oa),
  f329:=Tryz.func213.trans (congrArg some oa),
  f330:=Tryz.func214.trans (congrArg some oa),
  f331:=Tryz.func215.trans (congrArg some oa),
  f332:=Tryz.func216.trans (congrArg some oa),
  f343:=Tryz.func243.trans (congrArg some oa),
  t0:=Tryz.underlying0,
  a0:=Tryz.isAgg0,
  z0:=Tryz.sizeOf0,
  v0:=Tryz.zeroValue0,
  t3:=Tryz.underlying3,
  a3:=Tryz.isAgg3,
  z3:=Tryz.sizeOf3,
  v3:=Tryz.zeroValue3,
  t4:=Tryz.underlying4,
  a4:=Tryz.isAgg4,
  z4:=Tryz.sizeOf4,
  v4:=Tryz.zeroValue4,
  t5:=Tryz.underlying5,
  a5:=Tryz.isAgg5,
  z5:=Tryz.sizeOf5,
  v5:=Tryz.zeroValue5,
  t9:=Tryz.underlying9,
  a9:=Tryz.isAgg9,
  z9:=Tryz.sizeOf9,
  v9:=Tryz.zeroValue9,
  t28:=Tryz.underlying31,
  a28:=Tryz.isAgg31,
  z28:=Tryz.sizeOf31,
  v28:=Tryz.zeroValue31,
  t46:=Tryz.underlying196,
  a46:=Tryz.isAgg196,
  z46:=Tryz.sizeOf196,
  v46:=Tryz.zeroValue196,
  t51:=Tryz.underlying232,
  a51:=Tryz.isAgg232,
  z51:=Tryz.sizeOf232,
  v51:=Tryz.zeroValue232,
  t53:=Tryz.underlying256,
  a53:=Tryz.isAgg256,
  z53:=Tryz.sizeOf256,
  v53:=Tryz.zeroValue256,
  t131:=Tryz.underlying252,
  a131:=Tryz.isAgg252,
  z131:=Tryz.sizeOf252,
  v131:=Tryz.zeroValue252,
  t182:=Tryz.underlying246,
  a182:=Tryz.isAgg246,
  z182:=Tryz.sizeOf246,
  v182:=Tryz.zeroValue246,
  t183:=Tryz.underlying247,
  a183:=Tryz.isAgg247,
  z183:=Tryz.sizeOf247,
  v183:=Tryz.zeroValue247,
  t218:=Tryz.underlying297,
  a218:=Tryz.isAgg297,
  z218:=Tryz.sizeOf297,
  v218:=Tryz.zeroValue297,
  t222:=Tryz.underlying264,
  a222:=Tryz.isAgg264,
  z222:=Tryz.sizeOf264,
  v222:=Tryz.zeroValue264,
  t228:=Tryz.underlying319,
  a228:=Tryz.isAgg319,
  z228:=Tryz.sizeOf319,
  v228:=Tryz.zeroValue319,
  t229:=Tryz.underlying320,
  a229:=Tryz.isAgg320,
  z229:=Tryz.sizeOf320,
  v229:=Tryz.zeroValue320 }
def fT:Go.Shelf.Ren:=⟨fun|20=>61|n=>n,fun|22=>31|3=>3|4=>4|0=>0|n=>n,fun|n=>n⟩
theorem e9:Go.Proofs.Lays2.n20 Tryz.prog fT:={
  mixed:=by kernel_rfl,
  f20:=Tryz.func61.trans (congrArg some oa),
  t0:=Tryz.underlying0,
  a0:=Tryz.isAgg0,
  z0:=Tryz.sizeOf0,
  v0:=Tryz.zeroValue0,
  t3:=Tryz.underlying3,
  a3:=Tryz.isAgg3,
  z3:=Tryz.sizeOf3,
  v3:=Tryz.zeroValue3,
  t4:=Tryz.underlying4,
  a4:=Tryz.isAgg4,
  z4:=Tryz.sizeOf4,
  v4:=Tryz.zeroValue4,
  t22:=Tryz.underlying31,
  a22:=Tryz.isAgg31,
  z22:=Tryz.sizeOf31,
  v22:=Tryz.zeroValue31,
  i3:=by kernel_rfl }
open Go.Sl Go.Sort
theorem Ab (l:List Int):I64 l=l.map (Value.int .i64):=rfl
theorem vW {w:World}{e n m c:Nat}{A:Option Addr}{xs ys:List Value}(h:(Own e 1 A n c (xs++ys)).p w)(hx:xs.length=m)(hm:m≤n):(Own e 1 A m c xs).p w:=by
 refine ⟨by rw [hx,Nat.mul_one],?_⟩
 rcases h.2 with ⟨hv,h0⟩|⟨g,cap,cur,hv,hb,hh,h3,h4,h5,h6⟩
 ·injection hv with h7 h8 h9
  subst h7 h9 h0;obtain rfl:m=0:=oe
  exact .inl ⟨rfl,rfl⟩
 injection hv with h7 h8 h9
 subst h7 h9;refine .inr ⟨g,c,cur,rfl,hb,hh,by omega,h4,h5,?_⟩;rw [Nat.mul_one] at h6 ⊢;have h8:=congrArg (List.take m) h6
 rwa [List.take_take,Nat.min_eq_left hm,List.take_left' hx] at h8
theorem DL (A:Option Addr)(l:List Int)(c:Nat)(hl:l.length≤1000000):
    Ctr X 60 [.slice A l.length c] [] [Own 3 1 A l.length c (I64 l)] (fun v R' H'=>v=.tuple #[]∧R'=[]∧H'=[Own 3 1 A l.length c (I64 (l.mergeSort fun x y=>decide (x≤y)))]):=by
 refine ⟨⟨⟨Tryz.f60,Tryz.func60,by kernel_rfl,by kernel_rfl⟩⟩,fun w hs=>?_⟩;have ho:=hs.own 0 _ rfl
 rcases ho.2 with ⟨hv,h0⟩|⟨g,cap,cur,hv,_,hh,h3,h4,h5,h6⟩
 ·injection hv with h7 h8 h9
  obtain rfl:l=[]:=List.length_eq_zero_iff.1 h0;refine (Any.slices_Sort_int_none gY A c w).mono ?_;rintro e w' ⟨rfl,rfl⟩;rw [List.mergeSort_nil];exact Zm 0x2b2f
 injection hv with h7 h8 h9
 subst h7 h9;apply Y 0x342f;intro hg;rw [Nat.mul_one,Ab] at h6;refine (Any.slices_Sort_int gY g 0 c l w (holds_of_blockI hh h6) hg oe).mono ?_;rintro e w' ⟨rfl,q,os,rfl⟩;have hml:(l.mergeSort fun x y=>decide (x≤y)).length=l.length:=List.length_mergeSort l;have hst:=j2 (grownBy_sortedI (w:=w) (g:=g) (n:=q) (os:=os) (l.mergeSort fun x y=>decide (x≤y)).toArray);have hn:=ownsRow_sortedI (base:=0) (n:=q) (os:=os) hml (Nat.zero_le g) hh h3 h4 h5;refine ⟨_,_,_,⟨rfl,rfl,rfl⟩,rfl,hs.upd (j:=0) rfl hst (fun k hk _=>⟨_,rfl,by injection hk⟩) (Own 3 1 (some ⟨g,0,none⟩) l.length c (I64 (l.mergeSort fun x y=>decide (x≤y)))) hn (fun k hk=>?_)⟩;apply Y 0x341f;intro a ha hk
 injection ha with ha
 subst ha;exact Zm 0x1b2f
theorem zy (A:Option Addr)(l:List Int)(c:Nat)(hl:l.length≤1000000):
    Ctr X 61 [.slice A l.length c] [] [Own 3 1 A l.length c (I64 l)] (fun v R' H'=>v=.slice A (Lib.compact l).length c∧R'=[]∧H'=[Own 3 1 A (Lib.compact l).length c (I64 (Lib.compact l))]):=by
 refine ⟨⟨⟨Tryz.f61,Tryz.func61,by kernel_rfl,by kernel_rfl⟩⟩,fun w hs=>?_⟩;have ho:=hs.own 0 _ rfl
 rcases ho.2 with ⟨hv,h0⟩|⟨g,cap,cur,hv,_,hh,h3,h4,h5,h6⟩
 ·injection hv with h7 h8 h9
  obtain rfl:l=[]:=List.length_eq_zero_iff.1 h0;refine (Any.slices_Compact_int_empty e9 A c w).mono ?_;rintro e w' ⟨rfl,rfl⟩;exact Zm 0x2b2f
 injection hv with h7 h8 h9
 subst h7 h9;apply Y 0x342f;intro hg;rw [Nat.mul_one,Ab] at h6;refine (Any.slices_Compact_int e9 g 0 c l w (holds_of_blockI hh h6) oe h3).mono ?_;rintro e w' ⟨rfl,q,rfl⟩;rw [← grow_empty (putRow _ _ _ _ _)];have hle:=Lib.compact_length_le l;have hml:(Lib.compact l++List.replicate (l.length-(Lib.compact l).length) 0).length=l.length:=by rw [List.length_append,List.length_replicate];omega
 have hst:=j2 (grownBy_sortedI (w:=w) (g:=g) (n:=q) (os:=#[]) (Lib.compact l++List.replicate (l.length-(Lib.compact l).length) 0).toArray);have hn:=ownsRow_sortedI (base:=0) (n:=q) (os:=#[]) hml (Nat.zero_le g) hh h3 h4 h5;rw [List.map_append] at hn;refine ⟨_,_,_,⟨rfl,rfl,rfl⟩,rfl,hs.upd (j:=0) rfl hst (fun k hk _=>⟨_,rfl,by injection hk⟩) (Own 3 1 (some ⟨g,0,none⟩) (Lib.compact l).length c (I64 (Lib.compact l))) (vW hn (bw _) hle) (fun k hk=>?_)⟩;apply Y 0x341f;intro a ha hk
 injection ha with ha
 subst ha;exact Zm 0x1b2f
def StI (A2:Option Addr)(s:List Int×Option Addr×Nat):List Pr:=[Own 31 1 A2 1 1 [.slice s.2.1 s.1.length s.2.2],Own 3 1 s.2.1 s.1.length s.2.2 (I64 s.1)]
def RD (x:Int):List Value:=[.int .i64 x]
def PJ (s:List Int×Option Addr×Nat)(x:Int)(s2:List Int×Option Addr×Nat):Prop:=s2.1=s.1++[x]
def MW (s:List Int×Option Addr×Nat)(_x:Int):Prop:=s.1.length≤1000000
theorem G4 (b:Nat)(r:Loop)(PA:Option Addr)(SA:Option Addr)(l:List Int)(ca:Nat)(hll:l.length≤1000000)(A2:Option Addr)(hy:r5 X b r RD (StI A2) PJ MW):
    Ctr X 239 [.func (.yield b) #[] #[],ag PA 0] [Rd PA [.slice SA l.length ca],Rd SA (I64 l)] [dp b r,Own 31 1 A2 1 1 [.slice none ([]:List Int).length 0],Own 3 1 none ([]:List Int).length 0 (I64 ([]:List Int))] (fun v R' H'=>R'=[]∧∃ (O:Option Addr) (c:Nat),H'=dp b r::StI A2 (l,O,c)):=by
 refine co Tryz.func239 ?_;intro β;apply Y 0xaa38a4e48;refine lp [0,5,6] [_,_,_] (fun q:Nat×Option Addr×Nat=>[(7,.int .i64 (q.1:Int))]) (kz [_,_]) (fun q=>[dp b r,Own 31 1 A2 1 1 [.slice q.2.1 (l.take q.1).length q.2.2],Own 3 1 q.2.1 (l.take q.1).length q.2.2 (I64 (l.take q.1))]) (fun q=>q.1≤l.length) (fun q=>l.length-q.1) (0,none,0) (Nat.zero_le _) (lk [0,1] [0,1,2]) ?_;apply Y 0xf1e;intro k O c hk
 dsimp only at hk ⊢;apply Zu 0x7930e<;>intro
 ·apply Y 0x4899;refine sp (ae (k:=k) rfl rfl rfl rfl rfl rfl rfl oe (Src.r 1 rfl) ov) ?_;refine sp (Ev.load rfl rfl rfl (Src.r 1 rfl) (aG oe)) ?_;apply Y 0x49;refine pF ?_;apply Y 0x69e69e;refine LY.yield (js:=[0,1,2]) (js':=[]) hy (l.take k,O,c) (l.getD k 0) (show (l.take k).length≤1000000 by rw [List.length_take];omega) rfl rfl rfl rfl ob rfl ?_;apply Y 0xf1e;intro s2 O2 c2 hnx;have hnx2:s2=l.take k++[l.getD k 0]:=hnx;rw [← aA l 0 k oe] at hnx2;subst hnx2;apply Y 0x69e;refine LY.nil ?_;apply Y 0x8a;refine C.cond rfl (fun h=>by cases h) (fun _=>?_);apply Y 0x20efb7a;refine QE.round (i:=(k,O,c)) ((k+1,O2,c2)) ot ot (lk [0,1] [0,1,2])
 apply Y 0xd43f560fe5e;obtain rfl:k=l.length:=oe;apply Y 0x36e;exact ⟨rfl,O,c,rfl⟩
theorem AE (SA:Option Addr)(n ca:Nat):
    Ctr X 199 [.slice SA n ca] [] [] (fun v R' H'=>∃ PA:Option Addr,v=.func (.func 239) #[] #[ag PA 0]∧R'=[Rd PA [.slice SA n ca]]∧H'=[]):=by
 refine co Tryz.func199 ?_;intro β;apply Y 0xbc0f48;intro A1;apply Y 0x130fe8c81;refine qrt [0] [] [_] rfl rt ?_;exact ⟨A1,rfl,rfl,rfl⟩
theorem Dd (PA:Option Addr)(SA:Option Addr)(ls:List Int)(ca:Nat)(hll:ls.length≤1000000):
    Ctr X 261 [.slice none 0 0,.func (.func 239) #[] #[ag PA 0]] [Rd PA [.slice SA ls.length ca],Rd SA (I64 ls)] [] (fun v R' H'=>∃ (O:Option Addr) (c:Nat),v=.slice O ls.length c∧R'=[]∧H'=[Own 3 1 O ls.length c (I64 ls)]):=by
 refine An (X:=X) (fn:=Tryz.f261) Tryz.func261 rfl oa rfl ?_;intro β;apply Y 0xbc0f48;intro A2;apply Y 0xaa178320f549;refine uJ (Rf:=[Rd PA [.slice SA ls.length ca],Rd SA (I64 ls)]) (js:=[0,1]) (js':=[]) (He:=fun i:Option Addr×Nat=>StI A2 (ls,i.1,i.2)) rfl rfl rfl ob hcx (fun l d fn tmps hfr=>?_) (fun d i=>?_)
 ·refine (G4 l _ PA SA ls ca hll A2 ?_).mono ?_
  ·intro β2 w2 s x hg hs2;obtain ⟨xs,O,c⟩:=s;have hrl:xs.length≤1000000:=hg;refine sW (He:=StI A2) (good:=PJ (xs,O,c) x) hfr ob rfl rfl rfl rfl rfl rfl rfl hs2 ?_;apply Y 0x81e;refine fun a1 w1 hf1 hs1=>⟨rfl,_,_,hf1,hs1,?_⟩
   apply Y 0x2b71ee;intro A10;refine L.append (j:=2) rfl rfl rfl rfl ob rfl rfl rfl rfl (Src.o 3 rfl) rfl (dG rfl) (by show xs.length+1≤_;omega) (by show (xs.length+1)*8≤_;omega) rfl (fun A11 c11=>?_);apply Y 0x60e9be;refine fun a2 w3 hf2 hs3=>⟨rfl,(xs++[x],A11,c11),rfl,?_⟩
   apply Y 0x462f;intro h3;have e1:(xs++[x]).length=xs.length+1:=oO
   unfold StI;apply Y 0xd4e;rw [e1,← cK]
   exact h3
  rintro v R' H' ⟨rfl,O,c,rfl⟩;exact ⟨rfl,(O,c),rfl⟩
 obtain ⟨O,c⟩:=i
 dsimp only [StI];exact Zm 0x150fb03fe811ee48fb
theorem zz (PA:Option Addr)(SA:Option Addr)(l:List Int)(ca:Nat)(hll:l.length≤1000000):
    Ctr X 238 [.func (.func 239) #[] #[ag PA 0]] [Rd PA [.slice SA l.length ca],Rd SA (I64 l)] [] (fun v R' H'=>∃ (O:Option Addr) (c:Nat),v=.slice O l.length c∧R'=[]∧H'=[Own 3 1 O l.length c (I64 l)]):=by
 refine co Tryz.func238 ?_;intro β;apply Y 0xb91a;refine al (Dd PA SA l ca hll) ?_;apply Y 0x19;intro O c;exact Zm 0x150f91ee81
theorem AZ (PA:Option Addr)(SA:Option Addr)(l:List Int)(ca:Nat)(hll:l.length≤1000000):
    Ctr X 198 [.func (.func 239) #[] #[ag PA 0]] [Rd PA [.slice SA l.length ca],Rd SA (I64 l)] [] (fun v R' H'=>∃ (O:Option Addr) (c:Nat),v=.slice O l.length c∧R'=[]∧H'=[Own 3 1 O l.length c (I64 (pR l))]):=by
 refine co Tryz.func198 ?_;intro β;apply Y 0xb91a;refine al (zz PA SA l ca hll) ?_;apply Y 0x19;intro O c;apply Y 0xb91;refine L.call (js:=[0]) (js':=[]) (DL O l c hll) rfl rfl rfl ob trivial rfl ?_;exact Zm 0x150f91ee8c89888
theorem CK (A:Option Addr)(a:List Int)(c:Nat)(B:Option Addr)(b:List Int)(d:Nat)(m k:Nat)(hm:a.length=m)(hk0:b.length=k)(ha:a.length≤9223372036854775807)(_hb:b.length≤9223372036854775807):
    Ctr X 197 [.slice A m c,.slice B k d] [Rd A (I64 a),Rd B (I64 b)] [] (fun v R' H'=>v=.bool (decide (a=b))∧R'=[]∧H'=[]):=by
 refine co Tryz.func197 ?_;intro β;subst hm hk0;apply Zu 0xddd89d1a<;>intro hc10
 ·apply Y 0x6c;exact ⟨congrArg Value.bool ((decide_eq_false (fun e=>hc10 (by rw [e]))).symm),rfl,rfl⟩
 apply Y 0xaad85859;refine lp [0,1,12] [_,_,_] (fun k:Nat=>[(13,.int .i64 (k:Int))]) (kz [_,_]) nz (fun k=>k≤a.length∧∀ i,i<k→a.getD i 0=b.getD i 0) (fun k=>a.length-k) 0 ⟨Nat.zero_le _,bq⟩ (lk [0,1] []) ?_;apply Y 0xb1e;intro k hk heq;apply Zu 0x7930e<;>intro
 ·apply Y 0xc95feba3fc9ad5c899;refine sq (ae (k:=k) rfl rfl rfl rfl rfl rfl rfl oe (Src.r 1 rfl) ov) ?_;refine sq (Ev.load rfl rfl rfl (Src.r 1 rfl) (aG oe)) ?_;apply Zu 0xdd40e<;>intro hc24
  ·apply Y 0x4b3da0e;exact ⟨congrArg Value.bool ((decide_eq_false (fun e=>hc24 (by rw [e]))).symm),rfl,rfl⟩
  apply Y 0x20efb7a;refine QE.round (k+1) (by exact ⟨by omega,bx heq hc24⟩) oe (lk [0,1] [])
 apply Y 0xd91aa9;exact ⟨congrArg Value.bool ((decide_eq_true (a8 (d:=0) oe (fun i hi=>heq i oe))).symm),rfl,rfl⟩
end Go.Proofs.YtbpddeiogcgegaaGreat
