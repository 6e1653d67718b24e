/-
  Part of a proof.
-/
import Derived.Shelf.Slices.Cells
import Derived.Shelf.Slices.Empties
import Derived.Shelf.Slices.In.SortNone
import Derived.Sort.OwnSortedInts
import Derived.Shelf.Sort.Plain
import Derived.Test.YtbpddeiogcgegaaGreatVWOrV
set_option maxHeartbeats 0
set_option maxRecDepth 4000
set_option linter.all false
namespace Go.Proofs.YtbpddeiogcgegaaGreat
open Go.Sl
theorem rm (c:Bool){f:Nat}{args:List Value}{R H:List Pr}{b:Bool}(h:Ctr X f args R H (fun v R' H'=>v=.bool b∧R'=[]∧H'=[]))(hb:b=c):Ctr X f args R H (fun v R' H'=>v=.bool c∧R'=[]∧H'=[]):=hb▸h
def fX (chg:List Nat)(M:List (List Int))(i k:Nat):List Nat:=(List.range k).filter fun k=>(M.getD (chg.getD i 0) []).contains ((chg.getD k 0:Nat):Int)
theorem AV {chg:List Nat}{M:List (List Int)}{i k:Nat}(h:(M.getD (chg.getD i 0) []).contains ((chg.getD k 0:Nat):Int)=true):fX chg M i (k+1)=fX chg M i k++[k]:=by
 unfold fX;rw [List.range_succ,List.filter_append,List.filter_cons,if_pos h];exact Zm 0x2
theorem Ea {chg:List Nat}{M:List (List Int)}{i k:Nat}(h:(M.getD (chg.getD i 0) []).contains ((chg.getD k 0:Nat):Int)=false):fX chg M i (k+1)=fX chg M i k:=by
 unfold fX;rw [List.range_succ,List.filter_append,List.filter_cons,if_neg oaF];exact Zm 0x81e
theorem AW (chg:List Nat)(M:List (List Int))(i k:Nat):(fX chg M i k).length≤k:=by
 have:=List.length_filter_le (fun k=>(M.getD (chg.getD i 0) []).contains ((chg.getD k 0:Nat):Int)) (List.range k)
 rwa [List.length_range] at this
theorem yT (LA:Option Addr)(ls:List (List Int))(lc m:Nat)(hm:ls.length=m)(hs:List Hd)(hh:hs.length=ls.length)(hr:cw ls=true)(h16:ls.length≤16)(hlr:∀ i,(ls.getD i []).length≤9223372036854775807):
    Ctr X 77 [.slice LA m lc] [Rd LA (ay hs (J8 ls)),KidsR hs (J8 ls)] [] (fun v R' H'=>∃ (A B:Option Addr) (c d:Nat),v=.agg (List.toArray [.slice A (uq ls).length c,.slice B (ur ls).length d,.int .i64 0])∧R'=[Rd A (I64 (NI (uq ls))),Rd B (I64 (NI (ur ls)))]∧H'=[]):=by
 subst hm;have h:=yU LA ls lc hs hh oe hlr;obtain ⟨e1,e2,e3⟩:=M4 hr h16;rw [e1,e2,e3] at h;exact Zm 0x22e
theorem Hw (S n:Nat)(inn out:Int)(ops:List Po)(OA:Option Addr)(oc:Nat)(qv hv:Value)(hops:ops.length≤9223372036854775807)(hS1:1≤S)(hS2:S≤4096)(hn1:1≤n)(hn2:n≤64)(hE:cG inn out ops=0)(hi1:inn≤(S:Int)*(n:Int))(hi2:out≤(S:Int)*(n:Int)):
    Ctr X 78 [.agg (List.toArray [.int .i64 (S:Int),.int .i64 (n:Int),.bool false,.int .i64 inn,.int .i64 out,.slice OA ops.length oc,qv,hv])] [Rd OA (bZ ops)] [] (fun v R' H'=>∃ (A:Option Addr) (c:Nat) (hs:List Hd),v=.slice A (aL (ah ops) inn S n).length c∧R'=[Rd A (ay hs (J8 (kC (aL (ah ops) inn S n) (bS (ah ops) inn S n n) (aL (ah ops) inn S n).length))),KidsR hs (J8 (kC (aL (ah ops) inn S n) (bS (ah ops) inn S n n) (aL (ah ops) inn S n).length))]∧H'=[]∧hs.length=(aL (ah ops) inn S n).length):=by
 refine co Tryz.func78 ?_;intro β;apply Y 0x800f;intro k1 k2 k3 k4 k5 k6;apply Y 0x220f;intro hsy;apply Y 0x7de;intro hsl;apply Y 0x750f;intro hnS;apply Y 0x4b2f;intro r1 r2 r3 r4;apply Y 0x251f;intro hpad;apply Y 0x151f;intro hml;apply Y 0xaee;intro hcl;apply Y 0x4a;intro A1;apply Y 0x68e7c49;refine al (fU S n false inn out ops OA oc qv hv hops hS1 hS2 hn1 hn2 hE) ?_;apply Y 0x19;intro CA cc;apply Y 0x40e7c493a;refine sp (aa (vs:=[_,_,_,_]) rfl rfl rfl (Src.r 1 rfl) rfl rfl ob) ?_;apply Y 0x593f1b;rw [r1,r2];apply Y 0xcee;intro MA mc mhs hmhs;apply Y 0x3b7e848;intro A20;apply Y 0xd61fad49;refine lp [] [] (fun q:Nat×Option Addr×Nat×List Hd=>[(3,.slice CA (aL (ah ops) inn S n).length cc),(4,.slice MA (bS (ah ops) inn S (rdN inn out S) (rdN inn out S)).length mc),(6,.slice q.2.1 (kC (aL (ah ops) inn S n) (bS (ah ops) inn S n n) q.1).length q.2.2.1),(7,.int .i64 (q.1:Int))]) (kzz [_,_,_] [] fun q=>[KidsR q.2.2.2 (J8 (kC (aL (ah ops) inn S n) (bS (ah ops) inn S n n) q.1))]) (fun q=>[Own 31 1 q.2.1 (kC (aL (ah ops) inn S n) (bS (ah ops) inn S n n) q.1).length q.2.2.1 (ay q.2.2.2 (J8 (kC (aL (ah ops) inn S n) (bS (ah ops) inn S n n) q.1)))]) (fun q=>q.1≤(aL (ah ops) inn S n).length∧q.2.2.2.length=q.1) (fun q=>(aL (ah ops) inn S n).length-q.1) (0,A20,0,[]) ⟨Nat.zero_le _,rfl⟩ (lk [1,2,3,0] [0]) ?_;apply Y 0x920f;intro i A c hs hi hhs
 dsimp only at hi hhs ⊢;apply Zu 0xe9bd<;>intro
 ·apply Y 0x3b789;intro A27;apply Y 0xad49;refine lp [] [] (fun q:Nat×Option Addr×Nat=>[(3,.slice CA (aL (ah ops) inn S n).length cc),(4,.slice MA (bS (ah ops) inn S (rdN inn out S) (rdN inn out S)).length mc),(6,.slice A (kC (aL (ah ops) inn S n) (bS (ah ops) inn S n n) i).length c),(7,.int .i64 (i:Int)),(8,.slice q.2.1 (fX (aL (ah ops) inn S n) (bS (ah ops) inn S n n) i q.1).length q.2.2),(9,.int .i64 (q.1:Int))]) (kz [_,_,_,_]) (fun q=>[Own 3 1 q.2.1 (fX (aL (ah ops) inn S n) (bS (ah ops) inn S n n) i q.1).length q.2.2 (I64 (NI (fX (aL (ah ops) inn S n) (bS (ah ops) inn S n n) i q.1))),Own 31 1 A (kC (aL (ah ops) inn S n) (bS (ah ops) inn S n n) i).length c (ay hs (J8 (kC (aL (ah ops) inn S n) (bS (ah ops) inn S n n) i)))]) (fun q=>q.1≤(aL (ah ops) inn S n).length) (fun q=>(aL (ah ops) inn S n).length-q.1) (0,A27,0) (Nat.zero_le _) (lk [0,1,2,3] [1,0]) ?_;apply Y 0x72e;intro k B d hk
  dsimp only at hk ⊢;apply Zu 0xe9bd<;>intro
  ·apply Y 0x589;obtain ⟨hci,hcb⟩:=vg (l:=(ah ops)) (inn:=inn) (S:=S) (n:=n) (i:=i) oe;have hcN:((aL (ah ops) inn S n).getD i 0)<(rdN inn out S):=Nat.lt_of_not_le fun g=>by rw [mZ hS1 r4 g] at hcb;cases hcb
   have hmr:(bS (ah ops) inn S (rdN inn out S) (rdN inn out S)).getD ((aL (ah ops) inn S n).getD i 0) []=(bS (ah ops) inn S n n).getD ((aL (ah ops) inn S n).getD i 0) []:=by rw [← hpad,mi]
   have hrow:((bS (ah ops) inn S (rdN inn out S) (rdN inn out S)).getD ((aL (ah ops) inn S n).getD i 0) []).length=(jG (ah ops) inn S ((aL (ah ops) inn S n).getD i 0) (rdN inn out S)).length:=by rw [ey hcN,bp]
   have hrow2:=iO (ah ops) inn S ((aL (ah ops) inn S n).getD i 0) (rdN inn out S);apply Y 0x2a2a1f1f224f2a6d;refine LQ.bool 41 rfl (imp of_decide_eq_true ?_) (imp of_decide_eq_false ?_)<;>intro
   ·apply Y 0x281f1f28224f283d3d3d;refine sq (ae (k:=((aL (ah ops) inn S n).getD i 0)) rfl rfl rfl rfl rfl rfl rfl oe (Src.r 0 rfl) Ql) ?_;apply Y 0x28;refine sq (Ev.load rfl rfl rfl (Src.r 0 rfl) (cv hmhs oe)) ?_;apply Y 0x283d3d;refine sq (ae (k:=k) rfl rfl rfl rfl rfl rfl rfl oe (Src.r 2 rfl) Qt) ?_;apply Y 0x281f1f28;refine LQ.call (.bool (((bS (ah ops) inn S (rdN inn out S) (rdN inn out S)).getD ((aL (ah ops) inn S n).getD i 0) []).contains ((((aL (ah ops) inn S n).getD k 0):Nat):Int))) (zS (mhs.getD ((aL (ah ops) inn S n).getD i 0) (none,0)).1 ((bS (ah ops) inn S (rdN inn out S) (rdN inn out S)).getD ((aL (ah ops) inn S n).getD i 0) []) (mhs.getD ((aL (ah ops) inn S n).getD i 0) (none,0)).2 ((((aL (ah ops) inn S n).getD k 0):Nat):Int) (by rw [hrow];omega)) (fun _ _ _ h=>h.1) rfl ⟨((Has.kid 1 rfl QV ((aL (ah ops) inn S n).getD i 0) qX).cast (dt _)),trivial⟩ rfl ?_;apply Zu 0x1a80e<;>intro hc54
    ·rw [hmr] at hc54;have he:(fX (aL (ah ops) inn S n) (bS (ah ops) inn S n n) i (k+1))=(fX (aL (ah ops) inn S n) (bS (ah ops) inn S n n) i k)++[k]:=AV hc54;have hrl:=AW (aL (ah ops) inn S n) (bS (ah ops) inn S n n) i k;apply Y 0x3b9c;intro A57;apply Y 0xdf2f;intro A58 cc58;apply Y 0x8ad1e;refine QE.round (i:=(k,B,d)) ((k+1,A58,cc58)) ou ou (by exact lk [0,1,2,3] [0,1] ⟨rfl,rfl,rfl,rfl,OM,rfl,trivial⟩ (hh:=⟨(congrArg some (ax OM qg)),rfl,trivial⟩))
    rw [hmr] at hc54;have he:(fX (aL (ah ops) inn S n) (bS (ah ops) inn S n n) i (k+1))=(fX (aL (ah ops) inn S n) (bS (ah ops) inn S n n) i k):=Ea hc54;apply Y 0x8a5a;refine QE.round (i:=(k,B,d)) ((k+1,B,d)) ou ou (by exact lk [0,1,2,3] [0,1] ⟨rfl,rfl,rfl,rfl,Qq,rfl,trivial⟩ (hh:=⟨(congrArg some OW),rfl,trivial⟩))
   exact Zm 0x18
  apply Y 0xa9;obtain rfl:k=(aL (ah ops) inn S n).length:=oe;apply Y 0xebdb;have hal:=de (aL (ah ops) inn S n) (bS (ah ops) inn S n n) i;apply Y 0x3b9c;intro A61;refine L.append (j:=0) rfl rfl rfl rfl ob rfl rfl rfl rfl (Src.o 1 rfl) rfl (dJ rfl) (by rw [de];omega) Qj rfl (fun A62 cc62=>?_);apply Y 0x8ad1e;refine QE.more (r:=KidsR (hs++[(B,d)]) (J8 (kC (aL (ah ops) inn S n) (bS (ah ops) inn S n n) i)++[I64 (NI (fX (aL (ah ops) inn S n) (bS (ah ops) inn S n n) i (aL (ah ops) inn S n).length))])) (dM 4 0 d rfl rfl (by rw [bU,de];exact hhs)) ?_;refine QE.round (i:=(i,A,c,hs)) ((i+1,A62,cc62,hs++[(B,d)])) QC ou (by exact lk [2,3,4,0] [0] ⟨rfl,rfl,oaz,rfl,trivial⟩ (hr:=⟨rfl,rfl,rfl,(congrArg some (by dsimp only;rw [kB,← nf];rfl)),trivial⟩) (hh:=⟨(congrArg some (ax oaz (by dsimp only;rw [kB,← jz (by rw [de];exact hhs),bp];rfl))),trivial⟩))
 apply Y 0x340fd8c8a9;refine qrt [0,4] [] [_] rfl rt ?_;obtain rfl:i=(aL (ah ops) inn S n).length:=oe;rw [show (kC (aL (ah ops) inn S n) (bS (ah ops) inn S n n) (aL (ah ops) inn S n).length).length=_ from de _ _ _];exact ⟨A,c,hs,rfl,rfl,rfl,hhs⟩
theorem GI (BA:Option Addr)(ol bc:Nat)(sz n:Int)(lf:Bool)(inn out:Int)(ops:List Po)(OA:Option Addr)(oc:Nat)(hops:ops.length≤9223372036854775807)(_hol:ol≤9223372036854775807):
    Ctr X 37 [.agg (List.toArray [.slice BA ol bc,.bool lf,.int .i64 inn,.int .i64 out,.slice OA ops.length oc,.int .i64 sz,.int .i64 n])] [Rd OA (bZ ops)] [] (fun v R' H'=>∃ (O Q Hh:Option Addr) (c1 c2 c3:Nat),v=.tuple #[.agg (List.toArray [.int .i64 (mkP lf inn out sz n ops ol).sz,.int .i64 (mkP lf inn out sz n ops ol).n,.bool (mkP lf inn out sz n ops ol).lf,.int .i64 (mkP lf inn out sz n ops ol).inn,.int .i64 (mkP lf inn out sz n ops ol).out,.slice O (mkP lf inn out sz n ops ol).ops.length c1,.slice Q (mkP lf inn out sz n ops ol).q.length c2,.slice Hh (mkP lf inn out sz n ops ol).h.length c3]),.int .i64 (mkE lf inn out sz n ops ol)]∧R'=[Rd O (bZ (mkP lf inn out sz n ops ol).ops),Rd Q (I64 (mkP lf inn out sz n ops ol).q),Rd Hh (I64 (mkP lf inn out sz n ops ol).h)]∧H'=[]):=by
 refine co Tryz.func37 ?_;intro β;apply Y 0x4a;intro A1;apply Y 0x98;intro A2;apply Y 0x98fa77ec0ef8f868ebdb49;intro A4;apply Zu 0x1a1aba81b1f77ec0e58886b<;>intro hc17
 ·have hE1:cG inn out ops≠0:=by simpa using hc17
  apply Y 0x680f2ce2ce170f5915bcb;have hE:mkE lf inn out sz n ops ol=_:=Nc hE1;apply Y 0x6a0f;intro hP;rw [hP,hE];exact Zm 0x460f
 have hE0:cG inn out ops=0:=by simpa using hc17
 apply Zu 0x1a88f8c0e5899<;>intro hc21
 ·apply Y 0x680f2ce2ce170f5915bcb;have hE:mkE lf inn out sz n ops ol=_:=Nb hE0 hc21;apply Y 0x6a0f;intro hP;rw [hP,hE];exact Zm 0x460f
 apply Y 0x4e1f5899;refine al (xN sz n lf inn out ops OA oc (.slice none 0 0) (.slice none 0 0)) ?_;apply Zu 0x1a1aba8<;>intro hc25
 ·apply Y 0x680f2ce2ce170f5915bcb;have hE:mkE lf inn out sz n ops ol=_:=Na hE0 oaq (by simpa using hc25);apply Y 0x6a0f;intro hP;rw [hP,hE];exact Zm 0x460f
 apply Zu 0x5d1f8c0e6f85899<;>intro hc33
 ·apply Y 0x680f2ce2ce170f5915bcb;have hE:mkE lf inn out sz n ops ol=_:=M9 hE0 oaq (by simpa using hc25) oe;apply Y 0x6a0f;intro hP;rw [hP,hE];exact Zm 0x460f
 have hszb0:kN sz n inn out=true:=by simpa using hc25
 have hlf0:lf=false:=oaq;subst hlf0;apply Y 0x600f;intro hszb;obtain ⟨S,rfl⟩:∃ q:Nat,sz=(q:Int):=⟨sz.toNat,by omega⟩;obtain ⟨n,rfl⟩:∃ q:Nat,n=(q:Int):=⟨n.toNat,by omega⟩;apply Y 0x700f;intro hS1 hS2 hn1 hn2 hi1 hi2;apply Y 0xaee;intro hcl;apply Y 0x4e1f3c;refine al (fU S n false inn out ops OA oc (.slice none 0 0) (.slice none 0 0) hops hS1 hS2 hn1 hn2 hE0) ?_;apply Y 0x19;intro CA cc;apply Zu 0x79e86890eb1e54930e<;>intro
 ·apply Y 0x680f2ce2ce170f5915bcb;have hE:mkE false inn out (S:Int) (n:Int) ops ol=2:=M8 hE0 rfl hszb0 hc33 oaH;have hP:mkP false inn out (S:Int) (n:Int) ops ol=Pp.zero:=zx obg;rw [hP,hE];exact Zm 0x460f
 apply Y 0x9d;have hro:cw (mkM inn S n ops)=true:=Fw;have haml:(mkM inn S n ops).length=(aL (ah ops) inn S n).length:=de _ _ _;obtain ⟨s,hs2,hoH,hoQ,hof,hoE⟩:=IP hro (by rw [haml];omega);have hQl:(uq (mkM inn S n ops)).length=(aL (ah ops) inn S n).length:=by rw [hoQ,← haml];exact iX.1 hof
 have hHl:(ur (mkM inn S n ops)).length≤16:=by rw [hoH];exact Nf (by rw [haml] at hs2;exact hs2) oe
 apply Y 0x4e1f68;refine aJ (Hw S n inn out ops OA oc (.slice none 0 0) (.slice none 0 0) hops hS1 hS2 hn1 hn2 hE0 hi1 hi2) ?_;apply Y 0xcee;intro A42 c42 hs hhs;apply Y 0xab;refine aJ (yT A42 (mkM inn S n ops) c42 (aL (ah ops) inn S n).length haml hs (hhs.trans haml.symm) hro oe (fun i=>by have:=Hx (l:=(ah ops)) (inn:=inn) (S:=S) (n:=n) i;unfold mkM;omega)) ?_;apply Y 0xb0e;intro QA HA qc hc;apply Y 0x98ab;intro A6;apply Y 0xf82c90eade7b32e;refine al (zn CA QA (aL (ah ops) inn S n) (uq (mkM inn S n ops)) cc qc oe oe (fun i hi=>by rw [hoQ,← haml];exact gX _ _ (mI (by rw [← hoQ];exact hi)))) ?_;apply Y 0x19;intro A47 c47;apply Y 0xf8f988a8e46e30e;refine al (zn CA HA (aL (ah ops) inn S n) (ur (mkM inn S n ops)) cc hc oe oe (fun i hi=>by rw [hoH];exact Dc (by rw [haml] at hs2;exact hs2) (mI (by rw [← hoH];exact hi)))) ?_;apply Y 0x19;intro A52 c52;apply Y 0x7889de73e5ce;refine sp (aa (vs:=[_,_,_,_,_,_,_,_]) rfl rfl rfl (Src.o 3 rfl) rfl rfl ob) ?_;apply Y 0xd8132e;refine qfz 1 [0,2,3] ?_;apply Y 0x3a1f;refine qfz 0 [1,2] ?_;apply Y 0x5f0f;refine qrt [9,1,0] [] [_,_] rfl ⟨⟨_,_,0,_,rfl,rfl,Src.o 0 rfl,.inl ⟨rfl,by decide,_,rfl,rfl,rfl⟩⟩,rfl,trivial⟩ ?_;have hE:mkE false inn out (S:Int) (n:Int) ops ol=0:=I1 hE0 rfl hszb0 hc33 oaH;have hP:=E3 hE;rw [Int.toNat_natCast,Int.toNat_natCast] at hP;rw [hP,hE]
 simp only [bp];exact ⟨OA,A47,A52,oc,c47,c52,rfl,rfl,rfl⟩
open Go.Shelf
def iD:Go.Shelf.Ren:=⟨fun|189=>60|125=>105|257=>104|128=>169|129=>170|294=>160|295=>161|296=>162|297=>163|298=>164|299=>165|216=>166|300=>167|301=>168|328=>212|329=>213|330=>214|331=>215|332=>216|215=>217|343=>243|n=>n,fun|28=>31|3=>3|46=>196|0=>0|51=>232|53=>256|4=>4|183=>247|182=>246|131=>252|5=>5|9=>9|218=>297|222=>264|228=>319|229=>320|n=>n,fun|n=>n⟩
theorem iq:Go.Proofs.Lays.n189 Tryz.prog iD:={
  mixed:=by kernel_rfl,
  f125:=Tryz.func105.trans (congrArg some oa),
  f128:=Tryz.func169.trans (congrArg some oa),
  f129:=Tryz.func170.trans (congrArg some oa),
  f189:=Tryz.func60.trans (congrArg some oa),
  f215:=Tryz.func217.trans (congrArg some oa),
  f216:=Tryz.func166.trans (congrArg some oa),
  f257:=Tryz.func104.trans (congrArg some oa),
  f294:=Tryz.func160.trans (congrArg some oa),
  f295:=Tryz.func161.trans (congrArg some oa),
  f296:=Tryz.func162.trans (congrArg some oa),
  f297:=Tryz.func163.trans (congrArg some oa),
  f298:=Tryz.func164.trans (congrArg some oa),
  f299:=Tryz.func165.trans (congrArg some oa),
  f300:=Tryz.func167.trans (congrArg some oa),
  f301:=Tryz.func168.trans (congrArg some oa),
  f328:=Tryz.func212.trans (congrArg some oa),
  f329:=Tryz.func213.trans (congrArg some oa),
  f330:=Tryz.func214.trans (congrArg some oa),
  f331:=Tryz.func215.trans (congrArg some oa),
  f332:=Tryz.func216.trans (congrArg some oa),
  f343:=Tryz.func243.trans (congrArg some oa),
  t0:=Tryz.underlying0,
  a0:=Tryz.isAgg0,
  z0:=Tryz.sizeOf0,
  v0:=Tryz.zeroValue0,
  t3:=Tryz.underlying3,
  a3:=Tryz.isAgg3,
  z3:=Tryz.sizeOf3,
  v3:=Tryz.zeroValue3,
  t4:=Tryz.underlying4,
  a4:=Tryz.isAgg4,
  z4:=Tryz.sizeOf4,
  v4:=Tryz.zeroValue4,
  t5:=Tryz.underlying5,
  a5:=Tryz.isAgg5,
  z5:=Tryz.sizeOf5,
  v5:=Tryz.zeroValue5,
  t9:=Tryz.underlying9,
  a9:=Tryz.isAgg9,
  z9:=Tryz.sizeOf9,
  v9:=Tryz.zeroValue9,
  t28:=Tryz.underlying31,
  a28:=Tryz.isAgg31,
  z28:=Tryz.sizeOf31,
  v28:=Tryz.zeroValue31,
  t46:=Tryz.underlying196,
  a46:=Tryz.isAgg196,
  z46:=Tryz.sizeOf196,
  v46:=Tryz.zeroValue196,
  t51:=Tryz.underlying232,
  a51:=Tryz.isAgg232,
  z51:=Tryz.sizeOf232,
  v51:=Tryz.zeroValue232,
  t53:=Tryz.underlying256,
  a53:=Tryz.isAgg256,
  z53:=Tryz.sizeOf256,
  v53:=Tryz.zeroValue256,
  t131:=Tryz.underlying252,
  a131:=Tryz.isAgg252,
  z131:=Tryz.sizeOf252,
  v131:=Tryz.zeroValue252,
  t182:=Tryz.underlying246,
  a182:=Tryz.isAgg246,
  z182:=Tryz.sizeOf246,
  v182:=Tryz.zeroValue246,
  t183:=Tryz.underlying247,
  a183:=Tryz.isAgg247,
  z183:=Tryz.sizeOf247,
  v183:=Tryz.zeroValue247,
  t218:=Tryz.underlying297,
  a218:=Tryz.isAgg297,
  z218:=Tryz.sizeOf297,
  v218:=Tryz.zeroValue297,
  t222:=Tryz.underlying264,
  a222:=Tryz.isAgg264,
  z222:=Tryz.sizeOf264,
  v222:=Tryz.zeroValue264,
  t228:=Tryz.underlying319,
  a228:=Tryz.isAgg319,
  z228:=Tryz.sizeOf319,
  v228:=Tryz.zeroValue319,
  t229:=Tryz.underlying320,
  a229:=Tryz.isAgg320,
  z229:=Tryz.sizeOf320,
  v229:=Tryz.zeroValue320 }
def fY:Go.Shelf.Ren:=⟨fun|20=>61|n=>n,fun|22=>31|3=>3|4=>4|0=>0|n=>n,fun|n=>n⟩
theorem fk:Go.Proofs.Lays2.n20 Tryz.prog fY:={
  mixed:=by kernel_rfl,
  f20:=Tryz.func61.trans (congrArg some oa),
  t0:=Tryz.underlying0,
  a0:=Tryz.isAgg0,
  z0:=Tryz.sizeOf0,
  v0:=Tryz.zeroValue0,
  t3:=Tryz.underlying3,
  a3:=Tryz.isAgg3,
  z3:=Tryz.sizeOf3,
  v3:=Tryz.zeroValue3,
  t4:=Tryz.underlying4,
  a4:=Tryz.isAgg4,
  z4:=Tryz.sizeOf4,
  v4:=Tryz.zeroValue4,
  t22:=Tryz.underlying31,
  a22:=Tryz.isAgg31,
  z22:=Tryz.sizeOf31,
  v22:=Tryz.zeroValue31,
  i3:=by kernel_rfl }
open Go.Sl Go.Sort
theorem Bg (l:List Int):I64 l=l.map (Value.int .i64):=rfl
theorem wZ {w:World}{e n m c:Nat}{A:Option Addr}{xs ys:List Value}(h:(Own e 1 A n c (xs++ys)).p w)(hx:xs.length=m)(hm:m≤n):(Own e 1 A m c xs).p w:=by
 refine ⟨by rw [hx,Nat.mul_one],?_⟩
 rcases h.2 with ⟨hv,h0⟩|⟨g,cap,cur,hv,hb,hh,h3,h4,h5,h6⟩
 ·injection hv with h7 h8 h9
  subst h7 h9 h0;obtain rfl:m=0:=oe
  exact .inl ⟨rfl,rfl⟩
 injection hv with h7 h8 h9
 subst h7 h9;refine .inr ⟨g,c,cur,rfl,hb,hh,by omega,h4,h5,?_⟩;rw [Nat.mul_one] at h6 ⊢;have h8:=congrArg (List.take m) h6
 rwa [List.take_take,Nat.min_eq_left hm,List.take_left' hx] at h8
theorem EG (A:Option Addr)(l:List Int)(c:Nat)(hl:l.length≤1000000):
    Ctr X 60 [.slice A l.length c] [] [Own 3 1 A l.length c (I64 l)] (fun v R' H'=>v=.tuple #[]∧R'=[]∧H'=[Own 3 1 A l.length c (I64 (l.mergeSort fun x y=>decide (x≤y)))]):=by
 refine ⟨⟨⟨Tryz.f60,Tryz.func60,by kernel_rfl,by kernel_rfl⟩⟩,fun w hs=>?_⟩;have ho:=hs.own 0 _ rfl
 rcases ho.2 with ⟨hv,h0⟩|⟨g,cap,cur,hv,_,hh,h3,h4,h5,h6⟩
 ·injection hv with h7 h8 h9
  obtain rfl:l=[]:=List.length_eq_zero_iff.1 h0;refine (Any.slices_Sort_int_none iq A c w).mono ?_;rintro e w' ⟨rfl,rfl⟩;rw [List.mergeSort_nil];exact Zm 0xbd2f
 injection hv with h7 h8 h9
 subst h7 h9;apply Y 0x662f;intro hg;rw [Nat.mul_one,Bg] at h6;refine (Any.slices_Sort_int iq g 0 c l w (holds_of_blockI hh h6) hg oe).mono ?_;rintro e w' ⟨rfl,q,os,rfl⟩;have hml:(l.mergeSort fun x y=>decide (x≤y)).length=l.length:=List.length_mergeSort l;have hst:=kF (grownBy_sortedI (w:=w) (g:=g) (n:=q) (os:=os) (l.mergeSort fun x y=>decide (x≤y)).toArray);have hn:=ownsRow_sortedI (base:=0) (n:=q) (os:=os) hml (Nat.zero_le g) hh h3 h4 h5;refine ⟨_,_,_,⟨rfl,rfl,rfl⟩,rfl,hs.upd (j:=0) rfl hst (fun k hk _=>⟨_,rfl,by injection hk⟩) (Own 3 1 (some ⟨g,0,none⟩) l.length c (I64 (l.mergeSort fun x y=>decide (x≤y)))) hn (fun k hk=>?_)⟩;apply Y 0x751f;intro a ha hk
 injection ha with ha
 subst ha;exact Zm 0xad2f
theorem Az (A:Option Addr)(l:List Int)(c:Nat)(hl:l.length≤1000000):
    Ctr X 61 [.slice A l.length c] [] [Own 3 1 A l.length c (I64 l)] (fun v R' H'=>v=.slice A (Lib.compact l).length c∧R'=[]∧H'=[Own 3 1 A (Lib.compact l).length c (I64 (Lib.compact l))]):=by
 refine ⟨⟨⟨Tryz.f61,Tryz.func61,by kernel_rfl,by kernel_rfl⟩⟩,fun w hs=>?_⟩;have ho:=hs.own 0 _ rfl
 rcases ho.2 with ⟨hv,h0⟩|⟨g,cap,cur,hv,_,hh,h3,h4,h5,h6⟩
 ·injection hv with h7 h8 h9
  obtain rfl:l=[]:=List.length_eq_zero_iff.1 h0;refine (Any.slices_Compact_int_empty fk A c w).mono ?_;rintro e w' ⟨rfl,rfl⟩;exact Zm 0xbd2f
 injection hv with h7 h8 h9
 subst h7 h9;apply Y 0x662f;intro hg;rw [Nat.mul_one,Bg] at h6;refine (Any.slices_Compact_int fk g 0 c l w (holds_of_blockI hh h6) oe h3).mono ?_;rintro e w' ⟨rfl,q,rfl⟩;rw [← grow_empty (putRow _ _ _ _ _)];have hle:=Lib.compact_length_le l;have hml:(Lib.compact l++List.replicate (l.length-(Lib.compact l).length) 0).length=l.length:=by rw [List.length_append,List.length_replicate];omega
 have hst:=kF (grownBy_sortedI (w:=w) (g:=g) (n:=q) (os:=#[]) (Lib.compact l++List.replicate (l.length-(Lib.compact l).length) 0).toArray);have hn:=ownsRow_sortedI (base:=0) (n:=q) (os:=#[]) hml (Nat.zero_le g) hh h3 h4 h5;rw [List.map_append] at hn;refine ⟨_,_,_,⟨rfl,rfl,rfl⟩,rfl,hs.upd (j:=0) rfl hst (fun k hk _=>⟨_,rfl,by injection hk⟩) (Own 3 1 (some ⟨g,0,none⟩) (Lib.compact l).length c (I64 (Lib.compact l))) (wZ hn (bu _) hle) (fun k hk=>?_)⟩;apply Y 0x751f;intro a ha hk
 injection ha with ha
 subst ha;exact Zm 0xad2f
def StI (A2:Option Addr)(s:List Int×Option Addr×Nat):List Pr:=[Own 31 1 A2 1 1 [.slice s.2.1 s.1.length s.2.2],Own 3 1 s.2.1 s.1.length s.2.2 (I64 s.1)]
def Rv (x:Int):List Value:=[.int .i64 x]
def PM (s:List Int×Option Addr×Nat)(x:Int)(s2:List Int×Option Addr×Nat):Prop:=s2.1=s.1++[x]
def Nj (s:List Int×Option Addr×Nat)(_x:Int):Prop:=s.1.length≤1000000
theorem HY (b:Nat)(r:Loop)(PA:Option Addr)(SA:Option Addr)(l:List Int)(ca:Nat)(hll:l.length≤1000000)(A2:Option Addr)(hy:sZ X b r Rv (StI A2) PM Nj):
    Ctr X 239 [.func (.yield b) #[] #[],ag PA 0] [Rd PA [.slice SA l.length ca],Rd SA (I64 l)] [dr b r,Own 31 1 A2 1 1 [.slice none ([]:List Int).length 0],Own 3 1 none ([]:List Int).length 0 (I64 ([]:List Int))] (fun v R' H'=>R'=[]∧∃ (O:Option Addr) (c:Nat),H'=dr b r::StI A2 (l,O,c)):=by
 refine co Tryz.func239 ?_;intro β;apply Y 0xba38c4e7;refine lp [0,5,6] [_,_,_] (fun q:Nat×Option Addr×Nat=>[(7,.int .i64 (q.1:Int))]) (kz [_,_]) (fun q=>[dr b r,Own 31 1 A2 1 1 [.slice q.2.1 (l.take q.1).length q.2.2],Own 3 1 q.2.1 (l.take q.1).length q.2.2 (I64 (l.take q.1))]) (fun q=>q.1≤l.length) (fun q=>l.length-q.1) (0,none,0) (Nat.zero_le _) (lk [0,1] [0,1,2]) ?_;apply Y 0x72e;intro k O c hk
 dsimp only at hk ⊢;apply Zu 0x7920e<;>intro
 ·apply Y 0x789;refine sp (ae (k:=k) rfl rfl rfl rfl rfl rfl rfl oe (Src.r 1 rfl) ox) ?_;refine sp (Ev.load rfl rfl rfl (Src.r 1 rfl) (aH oe)) ?_;apply Y 0x49;refine rn ?_;apply Y 0x99e99e;refine LY.yield (js:=[0,1,2]) (js':=[]) hy (l.take k,O,c) (l.getD k 0) (show (l.take k).length≤1000000 by rw [List.length_take];omega) rfl rfl rfl rfl ob rfl ?_;apply Y 0x72e;intro s2 O2 c2 hnx;have hnx2:s2=l.take k++[l.getD k 0]:=hnx;rw [← aB l 0 k oe] at hnx2;subst hnx2;apply Y 0x99e;refine LY.nil ?_;apply Y 0x6a;refine C.cond rfl (fun h=>by cases h) (fun _=>?_);apply Y 0xd0e5a;refine QE.round (i:=(k,O,c)) ((k+1,O2,c2)) ou ou (lk [0,1] [0,1,2])
 apply Y 0x5b3f270f66e;obtain rfl:k=l.length:=oe;apply Y 0xb6e;exact ⟨rfl,O,c,rfl⟩
theorem BL (SA:Option Addr)(n ca:Nat):
    Ctr X 199 [.slice SA n ca] [] [] (fun v R' H'=>∃ PA:Option Addr,v=.func (.func 239) #[] #[ag PA 0]∧R'=[Rd PA [.slice SA n ca]]∧H'=[]):=by
 refine co Tryz.func199 ?_;intro β;apply Y 0x1e0f7;intro A1;apply Y 0xac1f340fd8c81;exact ⟨A1,rfl,rfl,rfl⟩
theorem D9 (PA:Option Addr)(SA:Option Addr)(ls:List Int)(ca:Nat)(hll:ls.length≤1000000):
    Ctr X 261 [.slice none 0 0,.func (.func 239) #[] #[ag PA 0]] [Rd PA [.slice SA ls.length ca],Rd SA (I64 ls)] [] (fun v R' H'=>∃ (O:Option Addr) (c:Nat),v=.slice O ls.length c∧R'=[]∧H'=[Own 3 1 O ls.length c (I64 ls)]):=by
 refine Bz (X:=X) (fn:=Tryz.f261) Tryz.func261 rfl oa rfl ?_;intro β;apply Y 0x1e0f7;intro A2;apply Y 0xba168230f549;refine vA (Rf:=[Rd PA [.slice SA ls.length ca],Rd SA (I64 ls)]) (js:=[0,1]) (js':=[]) (He:=fun i:Option Addr×Nat=>StI A2 (ls,i.1,i.2)) rfl rfl rfl ob hcx (fun l d fn tmps hfr=>?_) (fun d i=>?_)
 ·refine (HY l _ PA SA ls ca hll A2 ?_).mono ?_
  ·intro β2 w2 s x hg hs2;obtain ⟨xs,O,c⟩:=s;have hrl:xs.length≤1000000:=hg;refine tO (He:=StI A2) (good:=PM (xs,O,c) x) hfr ob rfl rfl rfl rfl rfl rfl rfl hs2 ?_;apply Y 0xd1e;refine fun a1 w1 hf1 hs1=>⟨rfl,_,_,hf1,hs1,?_⟩
   apply Y 0x3b66ee;intro A10;refine L.append (j:=2) rfl rfl rfl rfl ob rfl rfl rfl rfl (Src.o 3 rfl) rfl (dJ rfl) (by show xs.length+1≤_;omega) (by show (xs.length+1)*8≤_;omega) rfl (fun A11 c11=>?_);apply Y 0xfdcbe;refine fun a2 w3 hf2 hs3=>⟨rfl,(xs++[x],A11,c11),rfl,?_⟩
   apply Y 0x982f;intro h3;have e1:(xs++[x]).length=xs.length+1:=oS
   unfold StI;apply Y 0x84e;rw [e1,← c5]
   exact h3
  rintro v R' H' ⟨rfl,O,c,rfl⟩;exact ⟨rfl,(O,c),rfl⟩
 obtain ⟨O,c⟩:=i
 dsimp only [StI];exact Zm 0x260fe63fd816ee774e
theorem AA (PA:Option Addr)(SA:Option Addr)(l:List Int)(ca:Nat)(hll:l.length≤1000000):
    Ctr X 238 [.func (.func 239) #[] #[ag PA 0]] [Rd PA [.slice SA l.length ca],Rd SA (I64 l)] [] (fun v R' H'=>∃ (O:Option Addr) (c:Nat),v=.slice O l.length c∧R'=[]∧H'=[Own 3 1 O l.length c (I64 l)]):=by
 refine co Tryz.func238 ?_;intro β;apply Y 0xf9c9;refine al (D9 PA SA l ca hll) ?_;apply Y 0x19;intro O c;exact Zm 0x260f11ed81
theorem B6 (PA:Option Addr)(SA:Option Addr)(l:List Int)(ca:Nat)(hll:l.length≤1000000):
    Ctr X 198 [.func (.func 239) #[] #[ag PA 0]] [Rd PA [.slice SA l.length ca],Rd SA (I64 l)] [] (fun v R' H'=>∃ (O:Option Addr) (c:Nat),v=.slice O l.length c∧R'=[]∧H'=[Own 3 1 O l.length c (I64 (rF l))]):=by
 refine co Tryz.func198 ?_;intro β;apply Y 0xf9c9;refine al (AA PA SA l ca hll) ?_;apply Y 0x19;intro O c;apply Y 0xf91;refine L.call (js:=[0]) (js':=[]) (EG O l c hll) rfl rfl rfl ob trivial rfl ?_;exact Zm 0x260f11ed8c888a8
theorem DC (A:Option Addr)(a:List Int)(c:Nat)(B:Option Addr)(b:List Int)(d:Nat)(m k:Nat)(hm:a.length=m)(hk0:b.length=k)(ha:a.length≤9223372036854775807)(_hb:b.length≤9223372036854775807):
    Ctr X 197 [.slice A m c,.slice B k d] [Rd A (I64 a),Rd B (I64 b)] [] (fun v R' H'=>v=.bool (decide (a=b))∧R'=[]∧H'=[]):=by
 refine co Tryz.func197 ?_;intro β;subst hm hk0;apply Zu 0x5de8bdc9<;>intro hc10
 ·apply Y 0x4c;exact ⟨congrArg Value.bool ((decide_eq_false (fun e=>hc10 (by rw [e]))).symm),rfl,rfl⟩
 apply Y 0xbae85899;refine lp [0,1,12] [_,_,_] (fun k:Nat=>[(13,.int .i64 (k:Int))]) (kz [_,_]) nz (fun k=>k≤a.length∧∀ i,i<k→a.getD i 0=b.getD i 0) (fun k=>a.length-k) 0 ⟨Nat.zero_le _,br⟩ (lk [0,1] []) ?_;apply Y 0xa1e;intro k hk heq;apply Zu 0x7920e<;>intro
 ·apply Y 0x2aefe424f2a6d5c889;refine sq (ae (k:=k) rfl rfl rfl rfl rfl rfl rfl oe (Src.r 1 rfl) ox) ?_;refine sq (Ev.load rfl rfl rfl (Src.r 1 rfl) (aH oe)) ?_;apply Zu 0x5d80e<;>intro hc24
  ·apply Y 0x8bdc70e;exact ⟨congrArg Value.bool ((decide_eq_false (fun e=>hc24 (by rw [e]))).symm),rfl,rfl⟩
  apply Y 0xd0e5a;refine QE.round (k+1) (by exact ⟨by omega,bB heq hc24⟩) oe (lk [0,1] [])
 apply Y 0xd9c9a9;exact ⟨congrArg Value.bool ((decide_eq_true (aV (d:=0) oe (fun i hi=>heq i oe))).symm),rfl,rfl⟩
theorem xK (l:List Int):(rF l).length=l.length:=(iI l).length_eq
theorem wC (A:Option Addr)(l:List Nat)(c:Nat)(n:Int)(hl:l.length≤9223372036854775807):Ctr X 200 [.slice A l.length c,.int .i64 n] [Rd A (I64 (NI l))] [] (fun v R' H'=>v=.bool ((NI l).contains n)∧R'=[]∧H'=[]):=by
 have:=lB A (NI l) c n obN;rw [bp] at this
 exact this
theorem GU (A:Option Addr)(l:List Nat)(c:Nat)(n:Int)(hl:l.length≤9223372036854775807):Ctr X 134 [.slice A l.length c,.int .i64 n] [Rd A (I64 (NI l))] [] (fun v R' H'=>v=.int .i64 (eM (NI l) n)∧R'=[]∧H'=[]):=by
 have:=ea A (NI l) c n obN;rw [bp] at this
 exact this
theorem E9 {l:List Int}{t:Int}(h:eM l t<0):l.contains t=false:=by
 have:=uQ (l:=l) (t:=t);rw [decide_eq_true h] at this
 simpa using this.symm
theorem sv {l:List Int}{t:Int}(h:¬eM l t<0):l.contains t=true:=by
 have:=uQ (l:=l) (t:=t);rw [decide_eq_false h] at this
 simpa using this.symm
theorem Cr {row:List Int}{p:Nat→Bool}{j t:Nat}(h:∀ k,k<j→∀ t:Nat,row.getD k 0=(t:Int)→p t=true)(ht:row.getD j 0=(t:Int))(hx:p t=true):∀ k,k<j+1→∀ t:Nat,row.getD k 0=(t:Int)→p t=true:=by
 intro k hk t' ht'
 rcases Nat.lt_or_ge k j with g|g
 ·exact h k g t' ht'
 obtain rfl:k=j:=oe;rw [ht] at ht';obtain rfl:t=t':=oe
 exact hx
theorem nq (sz n:Int)(lf:Bool)(inn out:Int)(ops:List Po)(seq st:List Int)(OA QA HA:Option Addr)(oc qc hc:Nat)(hops:ops.length≤9223372036854775807)(hql:seq.length≤1000000)(hhl:st.length≤1000000):
    Ctr X 126 [.agg (List.toArray [.int .i64 sz,.int .i64 n,.bool lf,.int .i64 inn,.int .i64 out,.slice OA ops.length oc,.slice QA seq.length qc,.slice HA st.length hc])] [Rd OA (bZ ops),Rd QA (I64 seq),Rd HA (I64 st)] [] (fun v R' H'=>v=.bool (eN lf sz n inn out ops seq st)∧R'=[]∧H'=[]):=by
 refine co Tryz.func126 ?_;intro β;apply Y 0x4a;intro A1;apply Y 0x383f77ec0e7c549;rintro _ _ _ ⟨_,rfl,rfl,rfl⟩;apply Y 0xb87e848;refine L.bool 23 rfl (imp ky ?_) (imp kA ?_)<;>intro hg23
 ·apply Y 0x19a489a;refine C.cond rfl (fun _=>?_) (fun h=>by cases h);apply Y 0x4c;exact ⟨congrArg Value.bool ((kS fun h=>hg23 h.1).symm),rfl,rfl⟩
 apply Y 0x48b2e7be4;refine L.bool 28 rfl ?_ ?_<;>intro hg28
 ·apply Y 0x19a;refine C.cond rfl (fun _=>?_) (fun h=>by cases h);apply Y 0x4c;exact ⟨congrArg Value.bool ((kS fun h=>by rw [h.2.1] at hg28;cases hg28).symm),rfl,rfl⟩
 have hlf0:lf=false:=hg28;have hE0:cG inn out ops=0:=hg23;apply Y 0x468e4;refine al (FT sz n lf inn out ops OA oc (.slice QA seq.length qc) (.slice HA st.length hc)) ?_;apply Zu 0x1a384a8<;>intro hc32
 ·have hszb1:kN sz n inn out=false:=by simpa using hc32
  apply Y 0x4c;exact ⟨congrArg Value.bool ((kS fun h=>by rw [h.2.2.1] at hszb1;cases hszb1).symm),rfl,rfl⟩
 have hszb0:kN sz n inn out=true:=by simpa using hc32
 subst hlf0;apply Y 0x600f;intro hszb;obtain ⟨S,rfl⟩:∃ q:Nat,sz=(q:Int):=⟨sz.toNat,by omega⟩;obtain ⟨n,rfl⟩:∃ q:Nat,n=(q:Int):=⟨n.toNat,by omega⟩;apply Y 0x700f;intro hS1 hS2 hn1 hn2 hi1 hi2;apply Y 0xaee;intro hcl;apply Y 0xa72f;intro hcp;apply Y 0xaa2f;intro hvv;rw [Int.toNat_natCast,Int.toNat_natCast] at hvv;have hvn:∀ {P:Prop},(eN false (S:Int) (n:Int) inn out ops seq st=true→P)→¬P→eN false (S:Int) (n:Int) inn out ops seq st=false:=fun f g=>by
  cases hb:eN false (S:Int) (n:Int) inn out ops seq st with
  |false=>rfl
  |true=>exact absurd (f hb) g
 apply Y 0x68e3c;refine al (wF S n false inn out ops OA oc (.slice QA seq.length qc) (.slice HA st.length hc) hops hS1 hS2 hn1 hn2 hE0) ?_;apply Y 0x19;intro CA cc;apply Y 0x1b7c5493a;refine aJ (BL QA seq.length qc) ?_;apply Y 0x71e;intro PA;refine al (B6 PA QA seq qc hql) ?_;apply Y 0x19;intro TA tc;apply Y 0x430f63a;refine al (DC TA (rF seq) tc CA (NI (aL (ah ops) inn S n)) cc seq.length (aL (ah ops) inn S n).length (xK seq) (bp _) (by rw [xK];omega) ob2) ?_;apply Zu 0x1a1a8<;>intro hc41
 ·have hns:¬rF seq=NI (aL (ah ops) inn S n):=by simpa using hc41
  apply Y 0x4c;exact ⟨congrArg Value.bool ((hvn (fun h=>(hvv.1 h).2.2.2.1) (hns)).symm),rfl,rfl⟩
 have hys:rF seq=NI (aL (ah ops) inn S n):=by simpa using hc41
 have hnd:=xJ hcp hys;obtain ⟨hsl2,hsm⟩:=(jo hcp).1 hys;apply Y 0xba38bce1ae5899;refine lp [1,5,43,44] [_,_,_,_] (fun i:Nat=>[(45,.int .i64 (i:Int))]) (kz [_,_,_,_,_]) nz (fun i=>i≤st.length∧∀ k,k<i→stT (NI (aL (ah ops) inn S n)) st k=true) (fun i=>st.length-i) 0 ⟨Nat.zero_le _,br⟩ (lk [3,2,4,5,6] []) ?_;apply Y 0xa1e;intro i hi hall;apply Zu 0x7920e<;>intro
 ·apply Y 0x2d389f3fcd3ff989;refine al (wC CA (aL (ah ops) inn S n) cc _ oe) ?_;apply Y 0x48a8;refine L.bool 54 rfl ?_ ?_<;>intro hg54
  ·have hx:stT (NI (aL (ah ops) inn S n)) st i=false:=xF (by simpa using hg54);apply Y 0x1393939;refine C.cond rfl (fun _=>?_) (fun h=>by cases h);apply Y 0x8bdc70e;exact ⟨congrArg Value.bool ((hvn (fun h=>(hvv.1 h).2.2.2.2.1) (fun g=>by rw [show stB _ st=false from kD (k:=i) oe hx] at g;cases g)).symm),rfl,rfl⟩
  apply Y 0xacacac;refine L.bool 57 rfl (imp of_decide_eq_true ?_) (imp of_decide_eq_false ?_)<;>intro
  ·apply Y 0x4c1eb91c;refine sp (ae (k:=(i-1)) rfl rfl rfl rfl rfl rfl oe oe (Src.r 4 rfl) ox) ?_;apply Zu 0xe9ed9f3f4<;>intro hc67
   ·have hx:stT (NI (aL (ah ops) inn S n)) st i=false:=xE oe hc67;apply Y 0x8bdc70e;exact ⟨congrArg Value.bool ((hvn (fun h=>(hvv.1 h).2.2.2.2.1) (fun g=>by rw [show stB _ st=false from kD (k:=i) oe hx] at g;cases g)).symm),rfl,rfl⟩
   have hx:stT (NI (aL (ah ops) inn S n)) st i=true:=lP (by simpa using hg54) hc67;exact Zm 0xaf0fd0e5a
  have hx:stT (NI (aL (ah ops) inn S n)) st i=true:=lQ (by simpa using hg54) oe;apply Y 0x3843939;refine C.cond rfl (fun h=>by cases h) (fun _=>?_);exact Zm 0xaf0fd0e5a
 apply Y 0x7a9;refine L.makeMap .i64 rfl (fun g=>?_);apply Y 0x452fba38f8581;intro hst;refine lp [1,5,8,71,72] [_,_,_,_,_] (fun i:Nat=>[(73,.int .i64 (i:Int))]) (kz [_,_,_,_,_]) (fun i=>[wY .i64 g (C5 seq i)]) (fun i=>i≤seq.length) (fun i=>seq.length-i) 0 (Nat.zero_le _) (lk [0,1,2,3,4] [0]) ?_;intro i hi;apply Zu 0x7920e<;>intro
 ·apply Y 0xf989;refine sp (ae (k:=i) rfl rfl rfl rfl rfl rfl rfl oe (Src.r 3 rfl) ox) ?_;refine sp (Ev.load rfl rfl rfl (Src.r 3 rfl) (aH oe)) ?_;apply Y 0xb86838;refine vx (j:=0) rfl rfl rfl rfl rfl rfl rfl rfl ?_;apply Y 0xd0efd;refine QE.round (i+1) oe oe (by exact lk [0,1,2,3,4] [0] (hh:=⟨(congrArg some (congrArg (wY .i64 g) (by rw [jR];exact uH (r7 fun j hj=>eZ hnd j i hj oe)))),trivial⟩))
 apply Y 0x55a9;obtain rfl:i=seq.length:=oe;refine C.freezeAny 0 rfl [] ob ob ?_;apply Y 0xa04f68;refine aJ (nU S n inn out ops OA oc (.slice QA seq.length qc) (.slice HA st.length hc) hops hS1 hS2 hn1 hn2 hE0 hi1 hi2) ?_;apply Y 0x2c2f;intro MA mhs hmhs;apply Y 0xba38;refine lp [1,5,8,83,84] [_,_,_,_,_] (fun u:Nat=>[(85,.int .i64 (u:Int))]) (kz [_,_,_,_,_,_,_,_]) nz (fun u=>u≤n∧∀ k,k<u→okU (ah ops) inn S n seq st k=true) (fun u=>n-u) 0 ⟨Nat.zero_le _,br⟩ (lk [0,1,2,3,4,5,6,7] []) ?_;apply Y 0xa1e;intro u hu hallu;apply Zu 0x7920e<;>intro
 ·apply Y 0x589;have hrl:((bS (ah ops) inn S n n).getD u []).length≤n:=by rw [ey oe,bp];exact iO _ _ _ _ _
  apply Y 0x2c;refine sp (ae (k:=u) rfl rfl rfl rfl rfl rfl rfl oe (Src.r 0 rfl) (by rw [bk oaE,bU,bY];omega)) ?_;refine sp (Ev.load rfl rfl rfl (Src.r 0 rfl) (cv (by rw [bY];exact hmhs) (by rw [bY];omega))) ?_;apply Y 0xbae8738;refine lp [1,5,8,83,84,85,11,90,91] [_,_,_,_,_,_,_,_,_] (fun j:Nat=>[(92,.int .i64 (j:Int))]) (kz [_,_,_,_,_,_,_,_]) nz (fun j=>j≤((bS (ah ops) inn S n n).getD u []).length∧∀ k,k<j→∀ t:Nat,((bS (ah ops) inn S n n).getD u []).getD k 0=(t:Int)→okT seq st u t=true) (fun j=>((bS (ah ops) inn S n n).getD u []).length-j) 0 ⟨Nat.zero_le _,fun _ h=>absurd h (Nat.not_lt_zero _)⟩ (lk [0,1,2,3,4,5,6,7] []) ?_;apply Y 0xa1e;intro j hj hallj;apply Zu 0x7920e<;>intro
  ·apply Y 0x589;obtain ⟨t,htj,htn,htr,htm⟩:=x7 (l:=(ah ops)) (inn:=inn) (S:=S) (n:=n) (u:=u) (j:=j) oe oe;apply Y 0x68;refine sp (ae (k:=j) rfl rfl rfl rfl rfl rfl rfl oe (Src.cast (Src.kid 1 rfl oaE u (by rw [bU,bY];omega)) (dt _)) ox) ?_;refine sp (Ev.cast (u:=.int .i64 (t:Int)) (Ev.load rfl rfl rfl (Src.cast (Src.kid 1 rfl oaE u (by rw [bU,bY];omega)) (dt _)) (aH oe)) (congrArg (Value.int .i64) htj)) ?_;apply Y 0x49;have hmu:fN (C5 seq seq.length) (u:Int)=some (.int .i64 (eM seq u)):=uz hnd (hsm u (dG.2 ⟨by omega,(l8 htr).1⟩));have hmt:fN (C5 seq seq.length) (t:Int)=some (.int .i64 (eM seq t)):=uz hnd (hsm t htm);apply Y 0x6bce1ae68;refine al (lB HA st hc (t:Int) oe) ?_;apply Y 0x48a8;refine L.bool 101 rfl ?_ ?_<;>intro hg101
   ·apply Y 0xed;refine sp (lH rfl rfl rfl rfl rfl rfl rfl (fJ.r 2 rfl) hmu) ?_;apply Y 0xed;refine sp (lH rfl rfl rfl rfl rfl rfl rfl (fJ.r 2 rfl) hmt) ?_;apply Zu 0xe94<;>intro hc109
    ·have hx:okT seq st u t=false:=EY (by simpa using hg101) hc109;apply Y 0x8bdc12e1be2be70e;exact ⟨congrArg Value.bool ((hvn (fun h=>(hvv.1 h).2.2.2.2.2) (fun g=>by rw [show plB (ah ops) inn S n seq st=false from kD (k:=u) oe (EX htr htn hx)] at g;cases g)).symm),rfl,rfl⟩
    have hx:okT seq st u t=true:=mo hc109;exact Zm 0x773fd0e5a
   have hx:okT seq st u t=true:=mr (by simpa using hg101);apply Y 0x19a39;refine C.cond rfl (fun h=>by cases h) (fun _=>?_);exact Zm 0x773fd0e5a
  apply Y 0xd0e66e;obtain rfl:j=((bS (ah ops) inn S n n).getD u []).length:=oe;apply Y 0xb42f;intro hux;refine QE.round (u+1) obk oe (lk [0,1,2,3,4,5,6,7] [])
 apply Y 0xd9c9a9;exact ⟨congrArg Value.bool ((hvv.2 ⟨hE0,rfl,hszb0,hys,hst,fj fun k hk=>hallu k oe⟩).symm),rfl,rfl⟩
theorem tf (sz n:Int)(lf:Bool)(inn out:Int)(ops:List Po)(seq st:List Int)(OA QA HA:Option Addr)(oc qc hc:Nat)(hops:ops.length≤9223372036854775807)(hql:seq.length≤1000000)(hhl:st.length≤1000000):
    Ctr X 80 [.agg (List.toArray [.int .i64 sz,.int .i64 n,.bool lf,.int .i64 inn,.int .i64 out,.slice OA ops.length oc,.slice QA seq.length qc,.slice HA st.length hc])] [Rd OA (bZ ops),Rd QA (I64 seq),Rd HA (I64 st)] [] (fun v R' H'=>v=.bool (eN lf sz n inn out ops seq st)∧R'=[]∧H'=[]):=by
 refine co Tryz.func80 ?_;intro β;apply Y 0x4a;intro A1;apply Zu 0x971f48a81b1f77ec0e7c549<;>intro hg15
 ·apply Y 0x19a489a;refine C.cond rfl (fun _=>?_) (fun h=>by cases h);apply Y 0x4c;exact ⟨congrArg Value.bool ((kS fun h=>by rw [h.1] at hg15;cases hg15).symm),rfl,rfl⟩
 ·apply Y 0x48b2e7be4;refine L.bool 20 rfl ?_ ?_<;>intro hg20
  ·apply Y 0x19a;refine C.cond rfl (fun _=>?_) (fun h=>by cases h);apply Y 0x4c;exact ⟨congrArg Value.bool ((kS fun h=>by rw [h.2.1] at hg20;cases hg20).symm),rfl,rfl⟩
  ·have hlf0:lf=false:=hg20;have hE0:cG inn out ops=0:=by simpa using hg15
   apply Y 0x468e4;refine al (xN sz n lf inn out ops OA oc (.slice QA seq.length qc) (.slice HA st.length hc)) ?_;apply Zu 0x1a384a8<;>intro hc24
   ·have hszb1:kN sz n inn out=false:=by simpa using hc24
    apply Y 0x4c;exact ⟨congrArg Value.bool ((kS fun h=>by rw [h.2.2.1] at hszb1;cases hszb1).symm),rfl,rfl⟩
   ·have hszb0:kN sz n inn out=true:=by simpa using hc24
    subst hlf0;apply Y 0x600f;intro hszb;obtain ⟨S,rfl⟩:∃ q:Nat,sz=(q:Int):=⟨sz.toNat,by omega⟩;obtain ⟨n,rfl⟩:∃ q:Nat,n=(q:Int):=⟨n.toNat,by omega⟩;apply Y 0x700f;intro hS1 hS2 hn1 hn2 hi1 hi2;apply Y 0xaee;intro hcl;apply Y 0xa72f;intro hcp;apply Y 0xaa2f;intro hvv;rw [Int.toNat_natCast,Int.toNat_natCast] at hvv;have hvn:∀ {P:Prop},(eN false (S:Int) (n:Int) inn out ops seq st=true→P)→¬P→eN false (S:Int) (n:Int) inn out ops seq st=false:=fun f g=>by
     cases hb:eN false (S:Int) (n:Int) inn out ops seq st with
     |false=>rfl
     |true=>exact absurd (f hb) g
    obtain ⟨r1,r2,r3,r4⟩:=yv (n:=n) hE0 hS1 hS2 hn2 hi1 hi2;apply Y 0x251f;intro hpad;apply Y 0x151f;intro hml;apply Y 0x68e3c;refine al (fU S n false inn out ops OA oc (.slice QA seq.length qc) (.slice HA st.length hc) hops hS1 hS2 hn1 hn2 hE0) ?_;apply Y 0x19;intro CA cc;apply Zu 0x5d38481b7c5493a<;>intro
    ·apply Y 0x4c;exact ⟨congrArg Value.bool ((hvn (fun h=>((jo hcp).1 (hvv.1 h).2.2.2.1).1) oe).symm),rfl,rfl⟩
    ·apply Y 0xad9d;refine lp [1,3] [_,_] (fun i:Nat=>[(4,.int .i64 (i:Int))]) (kz [_,_,_,_,_]) nz (fun i=>i≤(aL (ah ops) inn S n).length∧∀ k,k<i→¬eM seq (((aL (ah ops) inn S n).getD k 0:Nat):Int)<0) (fun i=>(aL (ah ops) inn S n).length-i) 0 ⟨Nat.zero_le _,br⟩ (lk [1,0,2,3,4] []) ?_;apply Y 0xa1e;intro i hi halli;apply Zu 0xe9bd<;>intro
     ·apply Y 0x2a50ea0e6d589;refine sq (ae (k:=i) rfl rfl rfl rfl rfl rfl rfl oe (Src.r 1 rfl) Qt) ?_;refine sq (Ev.load rfl rfl rfl (Src.r 1 rfl) (Eg oe)) ?_;refine LQ.call (.int .i64 (eM seq (((aL (ah ops) inn S n).getD i 0:Nat):Int))) (ea QA seq qc (((aL (ah ops) inn S n).getD i 0:Nat):Int) oe) (fun _ _ _ h=>h.1) rfl hcx rfl ?_;apply Zu 0x7980e<;>intro hc46
      ·apply Y 0x8bdc70e;exact ⟨congrArg Value.bool ((hvn (fun h=>((jo hcp).1 (hvv.1 h).2.2.2.1).2 ((aL (ah ops) inn S n).getD i 0) (mI oe)) (iV.1 hc46)).symm),rfl,rfl⟩
      apply Y 0x8a5a;refine QE.round (i+1) (by exact ⟨by omega,bB halli hc46⟩) oe (lk [0,1,2,3,4] [])
     ·apply Y 0xad5a9;have hys:rF seq=NI (aL (ah ops) inn S n):=(jo hcp).2 ⟨by omega,fun t ht=>Classical.byContradiction fun g=>by
       have hm:=Ji ht;refine halli (LS (aL (ah ops) inn S n) t) oe ?_;rw [hm.2]
       exact iV.2 g⟩
      refine lp [1,3] [_,_] (fun i:Nat=>[(5,.int .i64 (i:Int))]) (kz [_,_,_,_,_]) nz (fun i=>i≤st.length∧∀ k,k<i→stT (NI (aL (ah ops) inn S n)) st k=true) (fun i=>st.length-i) 0 ⟨Nat.zero_le _,br⟩ (lk [0,1,2,3,4] []) ?_;apply Y 0xa1e;intro i hi hall;apply Zu 0xe9f8658<;>intro
      ·apply Y 0xbae324ffc50ea0efc6d589;refine LQ.call (.int .i64 (eM (NI (aL (ah ops) inn S n)) (st.getD i 0))) (GU CA (aL (ah ops) inn S n) cc (st.getD i 0) oe) (fun _ _ _ h=>h.1) rfl hcx rfl ?_;apply Y 0x2a;refine LQ.bool 62 rfl (imp of_decide_eq_true ?_) (imp of_decide_eq_false ?_)<;>intro hg62
       ·have hx:stT (NI (aL (ah ops) inn S n)) st i=false:=xF (E9 hg62);apply Y 0x80efbfbfbfb;refine C.cond rfl (fun _=>?_) (fun h=>by cases h);apply Y 0x8bdc70e;exact ⟨congrArg Value.bool ((hvn (fun h=>(hvv.1 h).2.2.2.2.1) (fun g=>by rw [show stB _ st=false from kD (k:=i) oe hx] at g;cases g)).symm),rfl,rfl⟩
       apply Y 0x3d3d3d;refine LQ.bool 65 rfl (imp of_decide_eq_true ?_) (imp of_decide_eq_false ?_)<;>intro
       ·apply Y 0x284f1f283d50e28a0e28;refine sq (ae (k:=(i-1)) rfl rfl rfl rfl rfl rfl oe oe (Src.r 4 rfl) ox) ?_;apply Zu 0x7952e2a283dbae28324f283d50e28a0e28bae28<;>intro hc79
        ·have hx:stT (NI (aL (ah ops) inn S n)) st i=false:=xE oe hc79;apply Y 0x8bdc70e;exact ⟨congrArg Value.bool ((hvn (fun h=>(hvv.1 h).2.2.2.2.1) (fun g=>by rw [show stB _ st=false from kD (k:=i) oe hx] at g;cases g)).symm),rfl,rfl⟩
        have hx:stT (NI (aL (ah ops) inn S n)) st i=true:=lP (sv hg62) hc79;exact Zm 0xaf0f8a5a
       have hx:stT (NI (aL (ah ops) inn S n)) st i=true:=lQ (sv hg62) oe;apply Y 0x52e2a28fbfbfb;refine C.cond rfl (fun h=>by cases h) (fun _=>?_);exact Zm 0xaf0f8a5a
      ·apply Y 0x593ff877ec0e7a9;rw [r1,r2];apply Y 0xcee;intro MA mc mhs hmhs;apply Y 0x452fad5e848;intro hst;refine lp [1,3,6] [_,_,_] (fun u:Nat=>[(8,.int .i64 (u:Int))]) (kz [_,_,_,_,_,_,_]) nz (fun u=>u≤(rdN inn out S)∧∀ k,k<u→okU (ah ops) inn S n seq st k=true) (fun u=>(rdN inn out S)-u) 0 ⟨Nat.zero_le _,br⟩ (lk [0,1,2,3,4,5,6] []) ?_;apply Y 0xa1e;intro u hu hallu;apply Zu 0xe9bd<;>intro
       ·apply Y 0xad89;refine lp [1,3,6,8] [_,_,_,_] (fun j:Nat=>[(9,.int .i64 (j:Int))]) (kz [_,_,_,_,_,_,_]) nz (fun j=>j≤((bS (ah ops) inn S (rdN inn out S) (rdN inn out S)).getD u []).length∧∀ k,k<j→∀ t:Nat,((bS (ah ops) inn S (rdN inn out S) (rdN inn out S)).getD u []).getD k 0=(t:Int)→okT seq st u t=true) (fun j=>((bS (ah ops) inn S (rdN inn out S) (rdN inn out S)).getD u []).length-j) 0 ⟨Nat.zero_le _,fun _ h=>absurd h (Nat.not_lt_zero _)⟩ (lk [0,1,2,3,4,5,6] []) ?_;apply Y 0xa1e;intro j hj hallj;apply Y 0x55;have hmr:((bS (ah ops) inn S (rdN inn out S) (rdN inn out S)).getD u [])=(bS (ah ops) inn S n n).getD u []:=by rw [← hpad,mi]
        have hrl:((bS (ah ops) inn S (rdN inn out S) (rdN inn out S)).getD u []).length≤n:=by rw [hmr,ey oe,bp];exact iO _ _ _ _ _
        apply Zu 0xe95f3f1e3fb868<;>intro
        ·apply Y 0x589;obtain ⟨t,htj,htn,htr,htm⟩:=x7 (l:=(ah ops)) (inn:=inn) (S:=S) (n:=n) (u:=u) (j:=j) oe (by rw [← hmr];omega);rw [← hmr] at htj;apply Y 0x65f3f1e3f9c;refine sp (ae (k:=j) rfl rfl rfl rfl rfl rfl rfl oe (Src.cast (Src.kid 1 rfl QV u qX) (dt _)) ox) ?_;refine sp (Ev.cast (u:=.int .i64 (t:Int)) (Ev.load rfl rfl rfl (Src.cast (Src.kid 1 rfl QV u qX) (dt _)) (aH oe)) (congrArg (Value.int .i64) htj)) ?_;apply Y 0xfce11fd11f6d49;refine LQ.call (.int .i64 (eM st (t:Int))) (ea HA st hc (t:Int) oe) (fun _ _ _ h=>h.1) rfl hcx rfl ?_;apply Y 0x2a;refine LQ.bool 115 rfl (imp of_decide_eq_true ?_) (imp of_decide_eq_false ?_)<;>intro hg115
         ·apply Y 0x283de11f28d11f28;refine LQ.call (.int .i64 (eM seq (u:Int))) (ea QA seq qc (u:Int) oe) (fun _ _ _ h=>h.1) rfl hcx rfl ?_;apply Y 0x283de11f28d11f28;refine LQ.call (.int .i64 (eM seq (t:Int))) (ea QA seq qc (t:Int) oe) (fun _ _ _ h=>h.1) rfl hcx rfl ?_;apply Zu 0x7952e2a28<;>intro hc125
          ·have hx:okT seq st u t=false:=EY (E9 hg115) hc125;apply Y 0x8bdc12e1be2be70e;exact ⟨congrArg Value.bool ((hvn (fun h=>(hvv.1 h).2.2.2.2.2) (fun g=>by rw [show plB (ah ops) inn S n seq st=false from kD (k:=u) oe (EX htr htn hx)] at g;cases g)).symm),rfl,rfl⟩
          have hx:okT seq st u t=true:=mo hc125;exact Zm 0x873f8a5a
         have hx:okT seq st u t=true:=mr (sv hg115);apply Y 0x80ee4efbfb;refine C.cond rfl (fun h=>by cases h) (fun _=>?_);exact Zm 0x873f8a5a
        apply Y 0x8a66e;obtain rfl:j=((bS (ah ops) inn S (rdN inn out S) (rdN inn out S)).getD u []).length:=oe;rw [hmr] at hallj;apply Y 0xb42f;intro hux;refine QE.round (u+1) obk oe (lk [0,1,2,3,4,5,6] [])
       ·apply Y 0xd9c9a9;exact ⟨congrArg Value.bool ((hvv.2 ⟨hE0,rfl,hszb0,hys,hst,fj fun k hk=>by
         rcases Nat.lt_or_ge k (rdN inn out S) with g|g
         ·exact hallu k oe
         ·exact IQ (mZ hS1 r4 g)⟩).symm),rfl,rfl⟩
end Go.Proofs.YtbpddeiogcgegaaGreat
