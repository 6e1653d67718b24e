/-
  Part of a proof.
-/
import Derived.Shelf.Slices.Cells
import Derived.Shelf.Slices.Empties
import Derived.Shelf.Slices.In.SortNone
import Derived.Sort.OwnSortedInts
import Derived.Shelf.Sort.Plain
import Derived.Test.YtbpddeiogcgegaaGreatYWOrV
set_option maxHeartbeats 0
set_option maxRecDepth 4000
set_option linter.all false
namespace Go.Proofs.YtbpddeiogcgegaaGreat
open Go.Sl
theorem CW (c:Bool){f:Nat}{args:List Value}{R H:List Pr}{b:Bool}(h:Ctr X f args R H (fun v R' H'=>v=.bool b∧R'=[]∧H'=[]))(hb:b=c):Ctr X f args R H (fun v R' H'=>v=.bool c∧R'=[]∧H'=[]):=hb▸h
def gJ (chg:List Nat)(M:List (List Int))(i k:Nat):List Nat:=(List.range k).filter fun k=>(M.getD (chg.getD i 0) []).contains ((chg.getD k 0:Nat):Int)
theorem Cz {chg:List Nat}{M:List (List Int)}{i k:Nat}(h:(M.getD (chg.getD i 0) []).contains ((chg.getD k 0:Nat):Int)=true):gJ chg M i (k+1)=gJ chg M i k++[k]:=by
 unfold gJ;rw [List.range_succ,List.filter_append,List.filter_cons,if_pos h]
 rfl
theorem Fx {chg:List Nat}{M:List (List Int)}{i k:Nat}(h:(M.getD (chg.getD i 0) []).contains ((chg.getD k 0:Nat):Int)=false):gJ chg M i (k+1)=gJ chg M i k:=by
 unfold gJ;rw [List.range_succ,List.filter_append,List.filter_cons,if_neg oav]
 simp
theorem CB (chg:List Nat)(M:List (List Int))(i k:Nat):(gJ chg M i k).length≤k:=by
 have:=List.length_filter_le (fun k=>(M.getD (chg.getD i 0) []).contains ((chg.getD k 0:Nat):Int)) (List.range k)
 rwa [List.length_range] at this
theorem Ax (LA:Option Addr)(ls:List (List Int))(lc m:Nat)(hm:ls.length=m)(hs:List Hd)(hh:hs.length=ls.length)(hr:cH ls=true)(h16:ls.length≤16)(hlr:∀ i,(ls.getD i []).length≤9223372036854775807):
    Ctr X 77 [.slice LA m lc] [Rd LA (aB hs (J8 ls)),KidsR hs (J8 ls)] [] (fun v R' H'=>∃ (A B:Option Addr) (c d:Nat),v=.agg (List.toArray [.slice A (vN ls).length c,.slice B (vO ls).length d,.int .i64 0])∧R'=[Rd A (I64 (NI (vN ls))),Rd B (I64 (NI (vO ls)))]∧H'=[]):=by
 subst hm;have h:=Ay LA ls lc hs hh oe hlr;obtain ⟨e1,e2,e3⟩:=NR hr h16;rw [e1,e2,e3] at h
 exact h
theorem IP (S n:Nat)(inn out:Int)(ops:List Po)(OA:Option Addr)(oc:Nat)(qv hv:Value)(hops:ops.length≤9223372036854775807)(hS1:1≤S)(hS2:S≤4096)(hn1:1≤n)(hn2:n≤64)(hE:cU inn out ops=0)(hi1:inn≤(S:Int)*(n:Int))(hi2:out≤(S:Int)*(n:Int)):
    Ctr X 78 [.agg (List.toArray [.int .i64 (S:Int),.int .i64 (n:Int),.bool false,.int .i64 inn,.int .i64 out,.slice OA ops.length oc,qv,hv])] [Rd OA (cv ops)] [] (fun v R' H'=>∃ (A:Option Addr) (c:Nat) (hs:List Hd),v=.slice A (aI (ah ops) inn S n).length c∧R'=[Rd A (aB hs (J8 (lL (aI (ah ops) inn S n) (bV (ah ops) inn S n n) (aI (ah ops) inn S n).length))),KidsR hs (J8 (lL (aI (ah ops) inn S n) (bV (ah ops) inn S n n) (aI (ah ops) inn S n).length))]∧H'=[]∧hs.length=(aI (ah ops) inn S n).length):=by
 refine co Tryz.func78 ?_;intro β;apply Y 0xbce;intro k1 k2 k3 k4 k5 k6;apply Y 0x1ee;intro hsy;apply Y 0x1be;intro hsl;apply Y 0x310f;intro hnS;apply Y 0x1c1f;intro r1 r2 r3 r4;apply Y 0x8d0f;intro hpad;apply Y 0x7d0f;intro hml;apply Y 0x6ce;intro hcl;apply Y 0x2a;intro A1;apply Y 0x89efb28;refine an (gF S n false inn out ops OA oc qv hv hops hS1 hS2 hn1 hn2 hE) ?_;apply Y 0x89;intro CA cc;apply Y 0xd0efb283c;refine sp (ab (vs:=[_,_,_,_]) rfl rfl rfl (Src.r 1 rfl) rfl rfl ob) ?_;apply Y 0x822f6b;rw [r1,r2];apply Y 0x9ee;intro MA mc mhs hmhs;apply Y 0x7a2155;intro A20;apply Y 0x2f0f19228;refine lp [] [] (fun q:Nat×Option Addr×Nat×List Hd=>[(3,.slice CA (aI (ah ops) inn S n).length cc),(4,.slice MA (bV (ah ops) inn S (rdN inn out S) (rdN inn out S)).length mc),(6,.slice q.2.1 (lL (aI (ah ops) inn S n) (bV (ah ops) inn S n n) q.1).length q.2.2.1),(7,.int .i64 (q.1:Int))]) (kzz [_,_,_] [] fun q=>[KidsR q.2.2.2 (J8 (lL (aI (ah ops) inn S n) (bV (ah ops) inn S n n) q.1))]) (fun q=>[Own 31 1 q.2.1 (lL (aI (ah ops) inn S n) (bV (ah ops) inn S n n) q.1).length q.2.2.1 (aB q.2.2.2 (J8 (lL (aI (ah ops) inn S n) (bV (ah ops) inn S n n) q.1)))]) (fun q=>q.1≤(aI (ah ops) inn S n).length∧q.2.2.2.length=q.1) (fun q=>(aI (ah ops) inn S n).length-q.1) (0,A20,0,[]) ⟨Nat.zero_le _,rfl⟩ (lk [1,2,3,0] [0]) ?_;apply Y 0xaee;intro i A c hs hi hhs
 dsimp only at hi hhs ⊢;apply Zu 0x786c4<;>intro
 ·apply Y 0x7a249;intro A27;apply Y 0x19228;refine lp [] [] (fun q:Nat×Option Addr×Nat=>[(3,.slice CA (aI (ah ops) inn S n).length cc),(4,.slice MA (bV (ah ops) inn S (rdN inn out S) (rdN inn out S)).length mc),(6,.slice A (lL (aI (ah ops) inn S n) (bV (ah ops) inn S n n) i).length c),(7,.int .i64 (i:Int)),(8,.slice q.2.1 (gJ (aI (ah ops) inn S n) (bV (ah ops) inn S n n) i q.1).length q.2.2),(9,.int .i64 (q.1:Int))]) (kz [_,_,_,_]) (fun q=>[Own 3 1 q.2.1 (gJ (aI (ah ops) inn S n) (bV (ah ops) inn S n n) i q.1).length q.2.2 (I64 (NI (gJ (aI (ah ops) inn S n) (bV (ah ops) inn S n n) i q.1))),Own 31 1 A (lL (aI (ah ops) inn S n) (bV (ah ops) inn S n n) i).length c (aB hs (J8 (lL (aI (ah ops) inn S n) (bV (ah ops) inn S n n) i)))]) (fun q=>q.1≤(aI (ah ops) inn S n).length) (fun q=>(aI (ah ops) inn S n).length-q.1) (0,A27,0) (Nat.zero_le _) (lk [0,1,2,3] [1,0]) ?_;apply Y 0xb1e;intro k B d hk
  dsimp only at hk ⊢;apply Zu 0x786c4<;>intro
  ·apply Y 0x449;obtain ⟨hci,hcb⟩:=wT (l:=(ah ops)) (inn:=inn) (S:=S) (n:=n) (i:=i) oe;have hcN:((aI (ah ops) inn S n).getD i 0)<(rdN inn out S):=Nat.lt_of_not_le fun g=>by rw [pf hS1 r4 g] at hcb;cases hcb
   have hmr:(bV (ah ops) inn S (rdN inn out S) (rdN inn out S)).getD ((aI (ah ops) inn S n).getD i 0) []=(bV (ah ops) inn S n n).getD ((aI (ah ops) inn S n).getD i 0) []:=by rw [← hpad,nL]
   have hrow:((bV (ah ops) inn S (rdN inn out S) (rdN inn out S)).getD ((aI (ah ops) inn S n).getD i 0) []).length=(kH (ah ops) inn S ((aI (ah ops) inn S n).getD i 0) (rdN inn out S)).length:=by rw [eL hcN,bb]
   have hrow2:=jN (ah ops) inn S ((aI (ah ops) inn S n).getD i 0) (rdN inn out S);apply Y 0xb9b9f41f682fb93d;refine LQ.bool 41 rfl (imp of_decide_eq_true ?_) (imp of_decide_eq_false ?_)<;>intro
   ·apply Y 0x18f41f18682f181d1d1d;refine sq (ae (k:=((aI (ah ops) inn S n).getD i 0)) rfl rfl rfl rfl rfl rfl rfl oe (Src.r 0 rfl) Qb) ?_;apply Y 0x18;refine sq (Ev.load rfl rfl rfl (Src.r 0 rfl) (cG hmhs oe)) ?_;apply Y 0x181d1d;refine sq (ae (k:=k) rfl rfl rfl rfl rfl rfl rfl oe (Src.r 2 rfl) Qi) ?_;apply Y 0x18f41f18;refine LQ.call (.bool (((bV (ah ops) inn S (rdN inn out S) (rdN inn out S)).getD ((aI (ah ops) inn S n).getD i 0) []).contains ((((aI (ah ops) inn S n).getD k 0):Nat):Int))) (Bv (mhs.getD ((aI (ah ops) inn S n).getD i 0) (none,0)).1 ((bV (ah ops) inn S (rdN inn out S) (rdN inn out S)).getD ((aI (ah ops) inn S n).getD i 0) []) (mhs.getD ((aI (ah ops) inn S n).getD i 0) (none,0)).2 ((((aI (ah ops) inn S n).getD k 0):Nat):Int) (by rw [hrow];omega)) (fun _ _ _ h=>h.1) rfl ⟨((Has.kid 1 rfl QH ((aI (ah ops) inn S n).getD i 0) qM).cast (dT _)),trivial⟩ rfl ?_;apply Zu 0xe99aa9<;>intro hc54
    ·rw [hmr] at hc54;have he:(gJ (aI (ah ops) inn S n) (bV (ah ops) inn S n n) i (k+1))=(gJ (aI (ah ops) inn S n) (bV (ah ops) inn S n n) i k)++[k]:=Cz hc54;have hrl:=CB (aI (ah ops) inn S n) (bV (ah ops) inn S n n) i k;apply Y 0x7a3b;intro A57;apply Y 0x1f1f;intro A58 cc58;apply Y 0x3a90e;refine QE.round (i:=(k,B,d)) ((k+1,A58,cc58)) ou ou (by exact lk [0,1,2,3] [0,1] ⟨rfl,rfl,rfl,rfl,OJ,rfl,trivial⟩ (hh:=⟨(congrArg some (ay OJ O4)),rfl,trivial⟩))
    rw [hmr] at hc54;have he:(gJ (aI (ah ops) inn S n) (bV (ah ops) inn S n n) i (k+1))=(gJ (aI (ah ops) inn S n) (bV (ah ops) inn S n n) i k):=Fx hc54;apply Y 0x3ad9;refine QE.round (i:=(k,B,d)) ((k+1,B,d)) ou ou (by exact lk [0,1,2,3] [0,1] ⟨rfl,rfl,rfl,rfl,Qe,rfl,trivial⟩ (hh:=⟨(congrArg some OR),rfl,trivial⟩))
   omega
  apply Y 0x69;obtain rfl:k=(aI (ah ops) inn S n).length:=oe;apply Y 0xa0e8d;have hal:=dy (aI (ah ops) inn S n) (bV (ah ops) inn S n n) i;apply Y 0x7a3b;intro A61;refine L.append (j:=0) rfl rfl rfl rfl ob rfl rfl rfl rfl (Src.o 1 rfl) rfl (eZ rfl) (by rw [dy];omega) Qa rfl (fun A62 cc62=>?_);apply Y 0x3a90e;refine QE.more (r:=KidsR (hs++[(B,d)]) (J8 (lL (aI (ah ops) inn S n) (bV (ah ops) inn S n n) i)++[I64 (NI (gJ (aI (ah ops) inn S n) (bV (ah ops) inn S n n) i (aI (ah ops) inn S n).length))])) (ea 4 0 d rfl rfl (by rw [bW,dy];exact hhs)) ?_;refine QE.round (i:=(i,A,c,hs)) ((i+1,A62,cc62,hs++[(B,d)])) Qp ou (by exact lk [2,3,4,0] [0] ⟨rfl,rfl,oaq,rfl,trivial⟩ (hr:=⟨rfl,rfl,rfl,(congrArg some (by dsimp only;rw [lK,← pD];rfl)),trivial⟩) (hh:=⟨(congrArg some (ay oaq (by dsimp only;rw [lK,← kC (by rw [dy];exact hhs),bb];rfl))),trivial⟩))
 apply Y 0x7c69;refine qfz 0 [] ?_;refine qrt [0,4] [] [_] rfl rt ?_;obtain rfl:i=(aI (ah ops) inn S n).length:=oe;rw [show (lL (aI (ah ops) inn S n) (bV (ah ops) inn S n n) (aI (ah ops) inn S n).length).length=_ from dy _ _ _];exact ⟨A,c,hs,rfl,rfl,rfl,hhs⟩
theorem H5 (BA:Option Addr)(ol bc:Nat)(sz n:Int)(lf:Bool)(inn out:Int)(ops:List Po)(OA:Option Addr)(oc:Nat)(hops:ops.length≤9223372036854775807)(_hol:ol≤9223372036854775807):
    Ctr X 37 [.agg (List.toArray [.slice BA ol bc,.bool lf,.int .i64 inn,.int .i64 out,.slice OA ops.length oc,.int .i64 sz,.int .i64 n])] [Rd OA (cv ops)] [] (fun v R' H'=>∃ (O Q Hh:Option Addr) (c1 c2 c3:Nat),v=.tuple #[.agg (List.toArray [.int .i64 (mkP lf inn out sz n ops ol).sz,.int .i64 (mkP lf inn out sz n ops ol).n,.bool (mkP lf inn out sz n ops ol).lf,.int .i64 (mkP lf inn out sz n ops ol).inn,.int .i64 (mkP lf inn out sz n ops ol).out,.slice O (mkP lf inn out sz n ops ol).ops.length c1,.slice Q (mkP lf inn out sz n ops ol).q.length c2,.slice Hh (mkP lf inn out sz n ops ol).h.length c3]),.int .i64 (mkE lf inn out sz n ops ol)]∧R'=[Rd O (cv (mkP lf inn out sz n ops ol).ops),Rd Q (I64 (mkP lf inn out sz n ops ol).q),Rd Hh (I64 (mkP lf inn out sz n ops ol).h)]∧H'=[]):=by
 refine co Tryz.func37 ?_;intro β;apply Y 0x2a;intro A1;apply Y 0x88;intro A2;apply Y 0x88caf5edcd8d868a0e8d28;intro A4;apply Zu 0xe91db29821ff5edc27beb<;>intro hc17
 ·have hE1:cU inn out ops≠0:=by simpa using hc17
  apply Y 0xa30f39e39ed20f4a598c;have hE:mkE lf inn out sz n ops ol=_:=N3 hE1;apply Y 0x150f;intro hP;rw [hP,hE];exact Zm 0x220f
 have hE0:cU inn out ops=0:=by simpa using hc17
 apply Zu 0xe9f8d8dc2aa<;>intro hc21
 ·apply Y 0xa30f39e39ed20f4a598c;have hE:mkE lf inn out sz n ops ol=_:=N2 hE0 hc21;apply Y 0x150f;intro hP;rw [hP,hE];exact Zm 0x220f
 apply Y 0x441f2aa;refine an (zk sz n lf inn out ops OA oc (.slice none 0 0) (.slice none 0 0)) ?_;apply Zu 0xe91db29<;>intro hc25
 ·apply Y 0xa30f39e39ed20f4a598c;have hE:mkE lf inn out sz n ops ol=_:=N1 hE0 oaf (by simpa using hc25);apply Y 0x150f;intro hP;rw [hP,hE];exact Zm 0x220f
 apply Zu 0x5d1d8dc3d82aa<;>intro hc33
 ·apply Y 0xa30f39e39ed20f4a598c;have hE:mkE lf inn out sz n ops ol=_:=N0 hE0 oaf (by simpa using hc25) oe;apply Y 0x150f;intro hP;rw [hP,hE];exact Zm 0x220f
 have hszb0:lZ sz n inn out=true:=by simpa using hc25
 have hlf0:lf=false:=oaf;subst hlf0;apply Y 0x5ee;intro hszb;obtain ⟨S,rfl⟩:∃ q:Nat,sz=(q:Int):=⟨sz.toNat,by omega⟩;obtain ⟨n,rfl⟩:∃ q:Nat,n=(q:Int):=⟨n.toNat,by omega⟩;apply Y 0x7ee;intro hS1 hS2 hn1 hn2 hi1 hi2;apply Y 0x6ce;intro hcl;apply Y 0x441f2e8;refine an (gF S n false inn out ops OA oc (.slice none 0 0) (.slice none 0 0) hops hS1 hS2 hn1 hn2 hE0) ?_;apply Y 0x89;intro CA cc;apply Zu 0x783b32ec3e428b0e<;>intro
 ·apply Y 0xa30f39e39ed20f4a598c;have hE:mkE false inn out (S:Int) (n:Int) ops ol=2:=NZ hE0 rfl hszb0 hc33 oaz;have hP:mkP false inn out (S:Int) (n:Int) ops ol=Pp.zero:=AV oai;rw [hP,hE];exact Zm 0x220f
 apply Y 0xaa;have hro:cH (mkM inn S n ops)=true:=GH;have haml:(mkM inn S n ops).length=(aI (ah ops) inn S n).length:=dy _ _ _;obtain ⟨s,hs2,hoH,hoQ,hof,hoE⟩:=J0 hro (by rw [haml];omega);have hQl:(vN (mkM inn S n ops)).length=(aI (ah ops) inn S n).length:=by rw [hoQ,← haml];exact jX.1 hof
 have hHl:(vO (mkM inn S n ops)).length≤16:=by rw [hoH];exact N4 (by rw [haml] at hs2;exact hs2) oe
 apply Y 0x441f68;refine a8 (IP S n inn out ops OA oc (.slice none 0 0) (.slice none 0 0) hops hS1 hS2 hn1 hn2 hE0 hi1 hi2) ?_;apply Y 0x9ee;intro A42 c42 hs hhs;apply Y 0xdb;refine a8 (Ax A42 (mkM inn S n ops) c42 (aI (ah ops) inn S n).length haml hs (hhs.trans haml.symm) hro oe (fun i=>by have:=IQ (l:=(ah ops)) (inn:=inn) (S:=S) (n:=n) i;unfold mkM;omega)) ?_;apply Y 0x4d;intro QA HA qc hc;apply Y 0x88db;intro A6;apply Y 0xd88a32e9be7b72e;refine an (AP CA QA (aI (ah ops) inn S n) (vN (mkM inn S n ops)) cc qc oe oe (fun i hi=>by rw [hoQ,← haml];exact iU _ _ (nY (by rw [← hoQ];exact hi)))) ?_;apply Y 0x89;intro A47 c47;apply Y 0xd848f897e26eb0e;refine an (AP CA HA (aI (ah ops) inn S n) (vO (mkM inn S n ops)) cc hc oe oe (fun i hi=>by rw [hoH];exact Ew (by rw [haml] at hs2;exact hs2) (nY (by rw [← hoH];exact hi)))) ?_;apply Y 0x89;intro A52 c52;apply Y 0x2f8fcef1eaae;refine sp (ab (vs:=[_,_,_,_,_,_,_,_]) rfl rfl rfl (Src.o 3 rfl) rfl rfl ob) ?_;apply Y 0x5a72e;refine qfz 1 [0,2,3] ?_;apply Y 0xf11f;refine qfz 0 [1,2] ?_;apply Y 0x980f;refine qrt [9,1,0] [] [_,_] rfl ⟨⟨_,_,0,_,rfl,rfl,Src.o 0 rfl,.inl ⟨rfl,by decide,_,rfl,rfl,rfl⟩⟩,rfl,trivial⟩ ?_;have hE:mkE false inn out (S:Int) (n:Int) ops ol=0:=Kc hE0 rfl hszb0 hc33 oaz;have hP:=Gk hE;rw [Int.toNat_natCast,Int.toNat_natCast] at hP;rw [hP,hE]
 simp only [bb];exact ⟨OA,A47,A52,oc,c47,c52,rfl,rfl,rfl⟩
open Go.Shelf
def jE:Go.Shelf.Ren:=⟨fun|189=>60|125=>105|257=>104|128=>169|129=>170|294=>160|295=>161|296=>162|297=>163|298=>164|299=>165|216=>166|300=>167|301=>168|328=>212|329=>213|330=>214|331=>215|332=>216|215=>217|343=>243|n=>n,fun|28=>31|3=>3|46=>196|0=>0|51=>232|53=>256|4=>4|183=>247|182=>246|131=>252|5=>5|9=>9|218=>297|222=>264|228=>319|229=>320|n=>n,fun|n=>n⟩
theorem jo:Go.Proofs.Lays.n189 Tryz.prog jE:={
  mixed:=by kernel_rfl,
  f125:=Tryz.func105.trans (congrArg some oa),
  f128:=Tryz.func169.trans (congrArg some oa),
  f129:=Tryz.func170.trans (congrArg some oa),
  f189:=Tryz.func60.trans (congrArg some oa),
  f215:=Tryz.func217.trans (congrArg some oa),
  f216:=Tryz.func166.trans (congrArg some oa),
  f257:=Tryz.func104.trans (congrArg some oa),
  f294:=Tryz.func160.trans (congrArg some oa),
  f295:=Tryz.func161.trans (congrArg some oa),
  f296:=Tryz.func162.trans (congrArg some oa),
  f297:=Tryz.func163.trans (congrArg some oa),
  f298:=Tryz.func164.trans (congrArg some oa),
  f299:=Tryz.func165.trans (congrArg some oa),
  f300:=Tryz.func167.trans (congrArg some oa),
  f301:=Tryz.func168.trans (congrArg some oa),
  f328:=Tryz.func212.trans (congrArg some oa),
  f329:=Tryz.func213.trans (congrArg some oa),
  f330:=Tryz.func214.trans (congrArg some oa),
  f331:=Tryz.func215.trans (congrArg some oa),
  f332:=Tryz.func216.trans (congrArg some oa),
  f343:=Tryz.func243.trans (congrArg some oa),
  t0:=Tryz.underlying0,
  a0:=Tryz.isAgg0,
  z0:=Tryz.sizeOf0,
  v0:=Tryz.zeroValue0,
  t3:=Tryz.underlying3,
  a3:=Tryz.isAgg3,
  z3:=Tryz.sizeOf3,
  v3:=Tryz.zeroValue3,
  t4:=Tryz.underlying4,
  a4:=Tryz.isAgg4,
  z4:=Tryz.sizeOf4,
  v4:=Tryz.zeroValue4,
  t5:=Tryz.underlying5,
  a5:=Tryz.isAgg5,
  z5:=Tryz.sizeOf5,
  v5:=Tryz.zeroValue5,
  t9:=Tryz.underlying9,
  a9:=Tryz.isAgg9,
  z9:=Tryz.sizeOf9,
  v9:=Tryz.zeroValue9,
  t28:=Tryz.underlying31,
  a28:=Tryz.isAgg31,
  z28:=Tryz.sizeOf31,
  v28:=Tryz.zeroValue31,
  t46:=Tryz.underlying196,
  a46:=Tryz.isAgg196,
  z46:=Tryz.sizeOf196,
  v46:=Tryz.zeroValue196,
  t51:=Tryz.underlying232,
  a51:=Tryz.isAgg232,
  z51:=Tryz.sizeOf232,
  v51:=Tryz.zeroValue232,
  t53:=Tryz.underlying256,
  a53:=Tryz.isAgg256,
  z53:=Tryz.sizeOf256,
  v53:=Tryz.zeroValue256,
  t131:=Tryz.underlying252,
  a131:=Tryz.isAgg252,
  z131:=Tryz.sizeOf252,
  v131:=Tryz.zeroValue252,
  t182:=Tryz.underlying246,
  a182:=Tryz.isAgg246,
  z182:=Tryz.sizeOf246,
  v182:=Tryz.zeroValue246,
  t183:=Tryz.underlying247,
  a183:=Tryz.isAgg247,
  z183:=Tryz.sizeOf247,
  v183:=Tryz.zeroValue247,
  t218:=Tryz.underlying297,
  a218:=Tryz.isAgg297,
  z218:=Tryz.sizeOf297,
  v218:=Tryz.zeroValue297,
  t222:=Tryz.underlying264,
  a222:=Tryz.isAgg264,
  z222:=Tryz.sizeOf264,
  v222:=Tryz.zeroValue264,
  t228:=Tryz.underlying319,
  a228:=Tryz.isAgg319,
  z228:=Tryz.sizeOf319,
  v228:=Tryz.zeroValue319,
  t229:=Tryz.underlying320,
  a229:=Tryz.isAgg320,
  z229:=Tryz.sizeOf320,
  v229:=Tryz.zeroValue320 }
def gK:Go.Shelf.Ren:=⟨fun|20=>61|n=>n,fun|22=>31|3=>3|4=>4|0=>0|n=>n,fun|n=>n⟩
theorem fI:Go.Proofs.Lays2.n20 Tryz.prog gK:={
  mixed:=by kernel_rfl,
  f20:=Tryz.func61.trans (congrArg some oa),
  t0:=Tryz.underlying0,
  a0:=Tryz.isAgg0,
  z0:=Tryz.sizeOf0,
  v0:=Tryz.zeroValue0,
  t3:=Tryz.underlying3,
  a3:=Tryz.isAgg3,
  z3:=Tryz.sizeOf3,
  v3:=Tryz.zeroValue3,
  t4:=Tryz.underlying4,
  a4:=Tryz.isAgg4,
  z4:=Tryz.sizeOf4,
  v4:=Tryz.zeroValue4,
  t22:=Tryz.underlying31,
  a22:=Tryz.isAgg31,
  z22:=Tryz.sizeOf31,
  v22:=Tryz.zeroValue31,
  i3:=by kernel_rfl }
open Go.Sl Go.Sort
theorem CL (l:List Int):I64 l=l.map (Value.int .i64):=rfl
theorem yu {w:World}{e n m c:Nat}{A:Option Addr}{xs ys:List Value}(h:(Own e 1 A n c (xs++ys)).p w)(hx:xs.length=m)(hm:m≤n):(Own e 1 A m c xs).p w:=by
 refine ⟨by rw [hx,Nat.mul_one],?_⟩
 rcases h.2 with ⟨hv,h0⟩|⟨g,cap,cur,hv,hb,hh,h3,h4,h5,h6⟩
 ·injection hv with h7 h8 h9
  subst h7 h9 h0;obtain rfl:m=0:=oe
  exact .inl ⟨rfl,rfl⟩
 injection hv with h7 h8 h9
 subst h7 h9;refine .inr ⟨g,c,cur,rfl,hb,hh,by omega,h4,h5,?_⟩;rw [Nat.mul_one] at h6 ⊢;have h8:=congrArg (List.take m) h6
 rwa [List.take_take,Nat.min_eq_left hm,List.take_left' hx] at h8
theorem FX (A:Option Addr)(l:List Int)(c:Nat)(hl:l.length≤1000000):
    Ctr X 60 [.slice A l.length c] [] [Own 3 1 A l.length c (I64 l)] (fun v R' H'=>v=.tuple #[]∧R'=[]∧H'=[Own 3 1 A l.length c (I64 (l.mergeSort fun x y=>decide (x≤y)))]):=by
 refine ⟨⟨⟨Tryz.f60,Tryz.func60,by kernel_rfl,by kernel_rfl⟩⟩,fun w hs=>?_⟩;have ho:=hs.own 0 _ rfl
 rcases ho.2 with ⟨hv,h0⟩|⟨g,cap,cur,hv,_,hh,h3,h4,h5,h6⟩
 ·injection hv with h7 h8 h9
  obtain rfl:l=[]:=List.length_eq_zero_iff.1 h0;refine (Any.slices_Sort_int_none jo A c w).mono ?_;rintro e w' ⟨rfl,rfl⟩;rw [List.mergeSort_nil];exact ⟨_,_,_,⟨rfl,rfl,rfl⟩,rfl,hs⟩
 injection hv with h7 h8 h9
 subst h7 h9;have hg:=(Array.getElem?_eq_some_iff.1 hh).1;rw [Nat.mul_one,CL] at h6;refine (Any.slices_Sort_int jo g 0 c l w (holds_of_blockI hh h6) hg oe).mono ?_;rintro e w' ⟨rfl,q,os,rfl⟩;have hml:(l.mergeSort fun x y=>decide (x≤y)).length=l.length:=List.length_mergeSort l;have hst:=lP (grownBy_sortedI (w:=w) (g:=g) (n:=q) (os:=os) (l.mergeSort fun x y=>decide (x≤y)).toArray);have hn:=ownsRow_sortedI (base:=0) (n:=q) (os:=os) hml (Nat.zero_le g) hh h3 h4 h5;refine ⟨_,_,_,⟨rfl,rfl,rfl⟩,rfl,hs.upd (j:=0) rfl hst (fun k hk _=>⟨_,rfl,by injection hk⟩) (Own 3 1 (some ⟨g,0,none⟩) l.length c (I64 (l.mergeSort fun x y=>decide (x≤y)))) hn (fun k hk=>?_)⟩;apply Y 0xed0f;intro a ha hk
 injection ha with ha
 subst ha;exact Zm 0x9d1f
theorem B7 (A:Option Addr)(l:List Int)(c:Nat)(hl:l.length≤1000000):
    Ctr X 61 [.slice A l.length c] [] [Own 3 1 A l.length c (I64 l)] (fun v R' H'=>v=.slice A (Lib.compact l).length c∧R'=[]∧H'=[Own 3 1 A (Lib.compact l).length c (I64 (Lib.compact l))]):=by
 refine ⟨⟨⟨Tryz.f61,Tryz.func61,by kernel_rfl,by kernel_rfl⟩⟩,fun w hs=>?_⟩;have ho:=hs.own 0 _ rfl
 rcases ho.2 with ⟨hv,h0⟩|⟨g,cap,cur,hv,_,hh,h3,h4,h5,h6⟩
 ·injection hv with h7 h8 h9
  obtain rfl:l=[]:=List.length_eq_zero_iff.1 h0;refine (Any.slices_Compact_int_empty fI A c w).mono ?_;rintro e w' ⟨rfl,rfl⟩;exact ⟨_,_,_,⟨rfl,rfl,rfl⟩,rfl,hs⟩
 injection hv with h7 h8 h9
 subst h7 h9;have hg:=(Array.getElem?_eq_some_iff.1 hh).1;rw [Nat.mul_one,CL] at h6;refine (Any.slices_Compact_int fI g 0 c l w (holds_of_blockI hh h6) oe h3).mono ?_;rintro e w' ⟨rfl,q,rfl⟩;rw [← grow_empty (putRow _ _ _ _ _)];have hle:=Lib.compact_length_le l;have hml:(Lib.compact l++List.replicate (l.length-(Lib.compact l).length) 0).length=l.length:=by rw [List.length_append,List.length_replicate];omega
 have hst:=lP (grownBy_sortedI (w:=w) (g:=g) (n:=q) (os:=#[]) (Lib.compact l++List.replicate (l.length-(Lib.compact l).length) 0).toArray);have hn:=ownsRow_sortedI (base:=0) (n:=q) (os:=#[]) hml (Nat.zero_le g) hh h3 h4 h5;rw [List.map_append] at hn;refine ⟨_,_,_,⟨rfl,rfl,rfl⟩,rfl,hs.upd (j:=0) rfl hst (fun k hk _=>⟨_,rfl,by injection hk⟩) (Own 3 1 (some ⟨g,0,none⟩) (Lib.compact l).length c (I64 (Lib.compact l))) (yu hn (bq _) hle) (fun k hk=>?_)⟩;apply Y 0xed0f;intro a ha hk
 injection ha with ha
 subst ha;exact Zm 0x9d1f
def StI (A2:Option Addr)(s:List Int×Option Addr×Nat):List Pr:=[Own 31 1 A2 1 1 [.slice s.2.1 s.1.length s.2.2],Own 3 1 s.2.1 s.1.length s.2.2 (I64 s.1)]
def Su (x:Int):List Value:=[.int .i64 x]
def RO (s:List Int×Option Addr×Nat)(x:Int)(s2:List Int×Option Addr×Nat):Prop:=s2.1=s.1++[x]
def Pm (s:List Int×Option Addr×Nat)(_x:Int):Prop:=s.1.length≤1000000
theorem Jj (b:Nat)(r:Loop)(PA:Option Addr)(SA:Option Addr)(l:List Int)(ca:Nat)(hll:l.length≤1000000)(A2:Option Addr)(hy:uR X b r Su (StI A2) RO Pm):
    Ctr X 239 [.func (.yield b) #[] #[],ag PA 0] [Rd PA [.slice SA l.length ca],Rd SA (I64 l)] [dS b r,Own 31 1 A2 1 1 [.slice none ([]:List Int).length 0],Own 3 1 none ([]:List Int).length 0 (I64 ([]:List Int))] (fun v R' H'=>R'=[]∧∃ (O:Option Addr) (c:Nat),H'=dS b r::StI A2 (l,O,c)):=by
 refine co Tryz.func239 ?_;intro β;apply Y 0x193a3e2;refine lp [0,5,6] [_,_,_] (fun q:Nat×Option Addr×Nat=>[(7,.int .i64 (q.1:Int))]) (kz [_,_]) (fun q=>[dS b r,Own 31 1 A2 1 1 [.slice q.2.1 (l.take q.1).length q.2.2],Own 3 1 q.2.1 (l.take q.1).length q.2.2 (I64 (l.take q.1))]) (fun q=>q.1≤l.length) (fun q=>l.length-q.1) (0,none,0) (Nat.zero_le _) (lk [0,1] [0,1,2]) ?_;apply Y 0xb1e;intro k O c hk
 dsimp only at hk ⊢;apply Zu 0x1cda<;>intro
 ·apply Y 0x249;refine sp (ae (k:=k) rfl rfl rfl rfl rfl rfl rfl oe (Src.r 1 rfl) ow) ?_;refine sp (Ev.load rfl rfl rfl (Src.r 1 rfl) (aJ oe)) ?_;apply Y 0x28;refine tu ?_;apply Y 0x37e37e;refine LY.yield (js:=[0,1,2]) (js':=[]) hy (l.take k,O,c) (l.getD k 0) (show (l.take k).length≤1000000 by rw [List.length_take];omega) rfl rfl rfl rfl ob rfl ?_;apply Y 0xb1e;intro s2 O2 c2 hnx;have hnx2:s2=l.take k++[l.getD k 0]:=hnx;rw [← aC l 0 k oe] at hnx2;subst hnx2;apply Y 0x37e;refine LY.nil ?_;apply Y 0x1b;refine C.cond rfl (fun h=>by cases h) (fun _=>?_);apply Y 0x6dd9;refine QE.round (i:=(k,O,c)) ((k+1,O2,c2)) ou ou (lk [0,1] [0,1,2])
 apply Y 0x64e;refine lQ ?_;refine qrt [] [0,1,2] [] rfl trivial ?_;obtain rfl:k=l.length:=oe;apply Y 0xe4e;exact ⟨rfl,O,c,rfl⟩
theorem C9 (SA:Option Addr)(n ca:Nat):
    Ctr X 199 [.slice SA n ca] [] [] (fun v R' H'=>∃ PA:Option Addr,v=.func (.func 239) #[] #[ag PA 0]∧R'=[Rd PA [.slice SA n ca]]∧H'=[]):=by
 refine co Tryz.func199 ?_;intro β;apply Y 0x920f2;intro A1;apply Y 0x7c1;refine qfz 0 [] ?_;refine qrt [0] [] [_] rfl rt ?_;exact ⟨A1,rfl,rfl,rfl⟩
theorem Fw (PA:Option Addr)(SA:Option Addr)(ls:List Int)(ca:Nat)(hll:ls.length≤1000000):
    Ctr X 261 [.slice none 0 0,.func (.func 239) #[] #[ag PA 0]] [Rd PA [.slice SA ls.length ca],Rd SA (I64 ls)] [] (fun v R' H'=>∃ (O:Option Addr) (c:Nat),v=.slice O ls.length c∧R'=[]∧H'=[Own 3 1 O ls.length c (I64 ls)]):=by
 refine CX (X:=X) (fn:=Tryz.f261) Tryz.func261 rfl oa rfl ?_;intro β;apply Y 0x920f2;intro A2;apply Y 0x1968eee428;refine xl (Rf:=[Rd PA [.slice SA ls.length ca],Rd SA (I64 ls)]) (js:=[0,1]) (js':=[]) (He:=fun i:Option Addr×Nat=>StI A2 (ls,i.1,i.2)) rfl rfl rfl ob hcx (fun l d fn tmps hfr=>?_) (fun d i=>?_)
 ·refine (Jj l _ PA SA ls ca hll A2 ?_).mono ?_
  ·intro β2 w2 s x hg hs2;obtain ⟨xs,O,c⟩:=s;have hrl:xs.length≤1000000:=hg;refine vu (He:=StI A2) (good:=RO (xs,O,c) x) hfr ob rfl rfl rfl rfl rfl rfl rfl hs2 ?_;apply Y 0x90e;refine fun a1 w1 hf1 hs1=>⟨rfl,_,_,hf1,hs1,?_⟩
   apply Y 0x7a3ebe;intro A10;refine L.append (j:=2) rfl rfl rfl rfl ob rfl rfl rfl rfl (Src.o 3 rfl) rfl (eZ rfl) (by show xs.length+1≤_;omega) (by show (xs.length+1)*8≤_;omega) rfl (fun A11 c11=>?_);apply Y 0x50eac;refine fun a2 w3 hf2 hs3=>⟨rfl,(xs++[x],A11,c11),rfl,?_⟩
   have h3:=hs3.sel (js:=[0,1,2]) ob;have e1:(xs++[x]).length=xs.length+1:=Ob
   unfold StI
   dsimp only;rw [e1,← cS]
   exact h3
  rintro v R' H' ⟨rfl,O,c,rfl⟩;exact ⟨rfl,(O,c),rfl⟩
 obtain ⟨O,c⟩:=i
 dsimp only [StI];exact Zm 0xf10fb12f5aebe273e
theorem B9 (PA:Option Addr)(SA:Option Addr)(l:List Int)(ca:Nat)(hll:l.length≤1000000):
    Ctr X 238 [.func (.func 239) #[] #[ag PA 0]] [Rd PA [.slice SA l.length ca],Rd SA (I64 l)] [] (fun v R' H'=>∃ (O:Option Addr) (c:Nat),v=.slice O l.length c∧R'=[]∧H'=[Own 3 1 O l.length c (I64 l)]):=by
 refine co Tryz.func238 ?_;intro β;apply Y 0x4812;refine an (Fw PA SA l ca hll) ?_;apply Y 0x89;intro O c;exact Zm 0xf10f20e5a
theorem Dt (PA:Option Addr)(SA:Option Addr)(l:List Int)(ca:Nat)(hll:l.length≤1000000):
    Ctr X 198 [.func (.func 239) #[] #[ag PA 0]] [Rd PA [.slice SA l.length ca],Rd SA (I64 l)] [] (fun v R' H'=>∃ (O:Option Addr) (c:Nat),v=.slice O l.length c∧R'=[]∧H'=[Own 3 1 O l.length c (I64 (tH l))]):=by
 refine co Tryz.func198 ?_;intro β;apply Y 0x4812;refine an (B9 PA SA l ca hll) ?_;apply Y 0x89;intro O c;apply Y 0x481;refine L.call (js:=[0]) (js':=[]) (FX O l c hll) rfl rfl rfl ob trivial rfl ?_;exact Zm 0xf10f20e7cf829
theorem EV (A:Option Addr)(a:List Int)(c:Nat)(B:Option Addr)(b:List Int)(d:Nat)(m k:Nat)(hm:a.length=m)(hk0:b.length=k)(ha:a.length≤9223372036854775807)(_hb:b.length≤9223372036854775807):
    Ctr X 197 [.slice A m c,.slice B k d] [Rd A (I64 a),Rd B (I64 b)] [] (fun v R' H'=>v=.bool (decide (a=b))∧R'=[]∧H'=[]):=by
 refine co Tryz.func197 ?_;intro β;subst hm hk0;apply Zu 0x5d1558da<;>intro hc10
 ·apply Y 0x5c;exact ⟨congrArg Value.bool ((decide_eq_false (fun e=>hc10 (by rw [e]))).symm),rfl,rfl⟩
 apply Y 0x1958aa;refine lp [0,1,12] [_,_,_] (fun k:Nat=>[(13,.int .i64 (k:Int))]) (kz [_,_]) nz (fun k=>k≤a.length∧∀ i,i<k→a.getD i 0=b.getD i 0) (fun k=>a.length-k) 0 ⟨Nat.zero_le _,bA⟩ (lk [0,1] []) ?_;apply Y 0xf0e;intro k hk heq;apply Zu 0x1cda<;>intro
 ·apply Y 0xb92ce882fb93d284849;refine sq (ae (k:=k) rfl rfl rfl rfl rfl rfl rfl oe (Src.r 1 rfl) ow) ?_;refine sq (Ev.load rfl rfl rfl (Src.r 1 rfl) (aJ oe)) ?_;apply Zu 0x5d9aa9<;>intro hc24
  ·apply Y 0x4babf9;exact ⟨congrArg Value.bool ((decide_eq_false (fun e=>hc24 (by rw [e]))).symm),rfl,rfl⟩
  apply Y 0x6dd9;refine QE.round (k+1) (by exact ⟨by omega,bK heq hc24⟩) oe (lk [0,1] [])
 apply Y 0x39f969;exact ⟨congrArg Value.bool ((decide_eq_true (aF (d:=0) oe (fun i hi=>heq i oe))).symm),rfl,rfl⟩
end Go.Proofs.YtbpddeiogcgegaaGreat
