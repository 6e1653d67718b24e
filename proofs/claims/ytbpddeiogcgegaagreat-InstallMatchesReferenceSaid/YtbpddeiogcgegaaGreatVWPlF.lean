/-
  Part of a proof.
-/
import Derived.Test.YtbpddeiogcgegaaGreatVWPlC
import Derived.Test.YtbpddeiogcgegaaGreatVPo
set_option maxHeartbeats 0
set_option maxRecDepth 4000
set_option linter.all false
namespace Go.Proofs.YtbpddeiogcgegaaGreat
open Go.Sl
theorem yh {n:Nat}(x:UInt8)(_h:1≤n):(List.replicate n (Value.int .u8 0)).take 0++U8 [x]++(List.replicate n (Value.int .u8 0)).drop (0+(U8 [x]).length)=U8 (List.replicate 1 x++List.replicate (n-1) 0):=by
 rw [← b9,List.take_zero,List.nil_append,List.drop_replicate]
 congr 1
 simp [U8]
theorem Nn (b:List UInt8)(a S:Nat):(U8 (List.replicate S 255)).take 0++U8 ((b.drop (min a b.length)).take (min (b.length-min a b.length) S))++(U8 (List.replicate S 255)).drop (0+(U8 ((b.drop (min a b.length)).take (min (b.length-min a b.length) S))).length)=U8 (ctK b a S):=by
 rw [← Ha,← b9,List.take_zero,List.nil_append,hY,List.drop_replicate,aG,List.length_take,List.length_drop]
 congr 3;exact Zm 0x18
theorem sQ (SA SB:Option Addr)(a b:List UInt8)(ca cb n m:Nat)(ha:a.length=n)(hb:b.length=m)(hab:a.length=b.length)(hal:a.length≤100000):
    Ctr X 135 [.slice SA n ca,.slice SB m cb] [Rd SA (U8 a),Rd SB (U8 b)] [] (fun v R' H'=>∃ (O:Option Addr) (c:Nat),v=.slice O (aE a b a.length).length c∧R'=[]∧H'=[Own 223 2 O (aE a b a.length).length c (a7 (aE a b a.length))]):=by
 subst ha hb
 exact kj SA SB a b ca cb hab hal
theorem AI (SA SB:Option Addr)(a b:List UInt8)(ca cb n m:Nat)(ha:a.length=n)(hb:b.length=m)(hab:a.length=b.length)(hal:a.length≤100000):
    Ctr X 226 [.slice SA n ca,.slice SB m cb] [Rd SA (U8 a),Rd SB (U8 b)] [] (fun v R' H'=>∃ (O:Option Addr) (c:Nat),v=.slice O (aE a b a.length).length c∧R'=[]∧H'=[Own 223 2 O (aE a b a.length).length c (a7 (aE a b a.length))]):=by
 subst ha hb
 exact pU SA SB a b ca cb hab hal
theorem yg (x:UInt8)(B:Option Addr)(bc n:Nat)(h1:1≤n)(hn:n≤4096):
    Ctr X 257 [.slice B 1 bc,.int .i64 (n:Int)] [Rd B (U8 [x])] [] (fun v R' H'=>∃ A,v=.slice A n n∧R'=[]∧H'=[Own 5 1 A n n (U8 (List.replicate n x))]):=by
 refine co Tryz.func257 ?_;intro β;apply Zu 0xe958c9<;>intro
 ·exact Zm 0x18
 apply Y 0x9b3f6ec1f483c;refine al (IX n oe) ?_;apply Zu 0x603fb858e848a8<;>intro
 ·exact Zm 0x18
 apply Zu 0xe9b9<;>intro
 ·exact Zm 0x18
 apply Y 0xacef999;refine lF (m:=n) rfl rfl rfl rfl rfl rfl rfl rfl rfl oab oe rfl (fun A30=>?_);apply Y 0x2d1;refine L.copy (j:=0) (o:=0) rfl rfl rfl rfl rfl (fun g h _=>h) rfl rfl (Src.r 0 rfl) (by simp [U8];omega) (bN _) (by rw [aG,List.length_replicate];simp;omega) rfl ?_;apply Y 0xba49;refine lp [] [] (fun q:Nat×List UInt8=>[(7,.slice A30 n n),(8,.int .i64 (q.1:Int))]) nz (fun q=>[Own 5 1 A30 n n (U8 (List.replicate q.1 x++q.2))]) (fun q=>1≤q.1∧q.1≤n∧q.2.length=n-q.1) (fun q=>n-q.1) (1,List.replicate (n-1) 0) ⟨Nat.le_refl _,h1,by simp⟩ (by exact lk [] [0] ⟨rfl,oT,trivial⟩ (hh:=⟨(congrArg some (ax rfl (yh x h1))),trivial⟩)) ?_;apply Y 0xcc2f;intro p ys hp1 hp2 hyl
 dsimp only at hp1 hp2 hyl ⊢;apply Zu 0xe9bd<;>intro
 ·apply Y 0xd6e3814ffae36fbe891f443ffe0fee0fde0f4d0fba99;refine L.copy (j:=0) (o:=p) (xs:=U8 (List.replicate p x++ys)) (ys:=U8 (List.replicate (min p (n-p)) x)) (D:=bj A30 n p 1) (dn:=n-p) rfl rfl rfl rfl rfl (fun g h _=>xp (n:=n) (p:=p) h oe) rfl rfl (Src.cast (Src.take (Src.o 0 oT) (min p (n-p))) (lZ (p:=p) (k:=min p (n-p)) (ys:=ys) oe)) Q1 (bN _) qZ oT ?_;apply Y 0x512fe6e3;intro e8;apply Y 0x25e6c6ae3ca;refine QE.round (i:=(p,ys)) ((p+min p (n-p),ys.drop (min p (n-p)))) q8 ou (by exact lk [] [0] ⟨rfl,q9,trivial⟩ (hh:=⟨(congrArg some (ax rfl (tS hyl hp2))),trivial⟩))
 apply Y 0xd8c8a9;obtain rfl:p=n:=oe;obtain rfl:ys=[]:=List.eq_nil_of_length_eq_zero oe;apply Y 0x11e;exact ⟨A30,rfl,rfl,by rw [List.append_nil];rfl⟩
theorem hI (BA:Option Addr)(b:List UInt8)(bc t S:Nat)(_hbl:b.length≤1000000)(hts:t*S≤1000000)(_ht:t≤1000000)(hS1:1≤S)(hS2:S≤4096)(hbc:b.length≤bc):
    Ctr X 227 [.slice BA b.length bc,.int .i64 (t:Int),.int .i64 (S:Int)] [Rd BA (U8 b)] [] (fun v R' H'=>∃ A,v=.slice A S S∧R'=[]∧H'=[Own 5 1 A S S (U8 (ctF b t S))]):=by
 refine co Tryz.func227 ?_;intro β;apply Y 0x2a0f;intro m1;apply Y 0x3b7c9;intro A8;apply Y 0x430f6;refine al (yg 255 _ _ S hS1 hS2) ?_;apply Y 0x71e;intro A10;apply Y 0x48f01f482d1;refine sp (Ev.cast (u:=.int .i64 (((min (t*S) b.length):Nat):Int)) (Ev.cast (u:=.int .i64 (min ((t*S:Nat):Int) (b.length:Int))) (Ev.pure rfl) (congrArg (Value.int .i64) Qm)) (congrArg (Value.int .i64) oe)) ?_;refine sp (bw (l:=(min (t*S) b.length)) rfl rfl rfl rfl rfl rfl oe) ?_;refine L.copy (j:=0) (o:=0) (xs:=U8 (List.replicate S 255)) (ys:=U8 ((b.drop (min (t*S) b.length)).take (min (b.length-(min (t*S) b.length)) S))) (D:=A10) (dn:=S) rfl rfl rfl rfl rfl (fun g h _=>h) rfl rfl (Src.cast (Src.take (Src.sub (Src.r 1 rfl) bc (min (t*S) b.length) 1 oI) (min (b.length-(min (t*S) b.length)) S)) QZ) (by rw [aG,List.length_take,List.length_drop];omega) (bN _) (by rw [aG,aG,List.length_take,List.length_drop,List.length_replicate];omega) rfl ?_;apply Y 0x11ed8c888;exact ⟨A10,rfl,rfl,congrArg (fun z=>[Own 5 1 A10 S S z]) (Nn b (t*S) S)⟩
theorem dp (BA:Option Addr)(b:List UInt8)(bc t S:Nat)(hbl:b.length≤1000000)(hts:t*S≤1000000)(ht:t≤1000000)(hS1:1≤S)(hS2:S≤4096):
    Ctr X 27 [.slice BA b.length bc,.int .i64 (t:Int),.int .i64 (S:Int)] [Rd BA (U8 b)] [] (fun v R' H'=>∃ (A:Option Addr) (c:Nat),v=.slice A S c∧R'=[]∧H'=[Own 5 1 A S c (U8 (ctF b t S))]):=by
 refine co Tryz.func27 ?_;intro β;apply Y 0x2a0f;intro m1;apply Y 0x531f;intro m2;apply Y 0x1a0f;intro hb2;apply Y 0xc60f7c9;intro A10;apply Y 0xba1f01fbd1;refine lp [] [] (fun q:Nat×Option Addr×Nat=>[(0,.slice BA b.length bc),(1,.int .i64 (t:Int)),(2,.int .i64 (S:Int)),(8,.int .i64 ((t*S+q.1:Nat):Int)),(7,.slice q.2.1 (ctK b (t*S) q.1).length q.2.2)]) (kz [_]) (fun q=>[Own 5 1 q.2.1 (ctK b (t*S) q.1).length q.2.2 (U8 (ctK b (t*S) q.1))]) (fun q=>q.1≤S) (fun q=>S-q.1) (0,A10,0) (Nat.zero_le _) (lk [0] [0]) ?_;apply Y 0x72e;intro j A c hj
 dsimp only at hj ⊢;apply Zu 0x7911d1f62d1fbd<;>intro
 ·apply Y 0xc989;refine eK (fun z:UInt8=>[(0,.slice BA b.length bc),(1,.int .i64 (t:Int)),(2,.int .i64 (S:Int)),(8,.int .i64 ((t*S+j:Nat):Int)),(7,.slice A (ctK b (t*S) j).length c),(9,.int .u8 (z.toNat:Int))]) (fun z:UInt8=>[Rd BA (U8 b)]) (fun z:UInt8=>[Own 5 1 A (ctK b (t*S) j).length c (U8 (ctK b (t*S) j))]) (fun z:UInt8=>z=ctB b (t*S+j)) ?_ ?_
  ·apply Zu 0xe92d<;>intro
   ·apply Y 0x9c;refine sp (ae (k:=t*S+j) rfl rfl rfl rfl rfl rfl rfl oe (Src.r 0 rfl) oI) ?_;apply Y 0xd1e5be;refine QE.join (b.getD (t*S+j) 0) (by unfold ctB;rw [if_pos oe]) (lk [0] [0])
   apply Y 0x5a;refine QE.join (255) (by unfold ctB;rw [if_neg oe]) (lk [0] [0])
  intro z hz;have hcl:=j8 b (t*S) j;apply Y 0x3b9c;intro A32;refine L.append (j:=0) rfl rfl rfl rfl ob rfl rfl rfl rfl (Src.o 1 rfl) rfl (dJ rfl) (by rw [j8];omega) oJ rfl (fun A33 cc33=>?_);apply Y 0x8ad1e;have he:=DE b (t*S) j;rw [← hz] at he;have hel:(ctK b (t*S) (j+1)).length=(ctK b (t*S) j).length+1:=qi;refine QE.round (i:=(j,A,c)) ((j+1,A33,cc33)) ou ou (by exact lk [0] [0] ⟨rfl,rfl,rfl,rfl,qK,trivial⟩ (hh:=⟨(congrArg some (ax hel.symm Qp)),trivial⟩))
 apply Y 0x11ed8c8a9;obtain rfl:j=S:=oe;have hl:=j8 b (t*j) j;exact ⟨A,c,by show Value.slice A _ c=_;rw [hl],rfl,by show [Own 5 1 A _ c _]=_;rw [hl];rfl⟩
theorem yo (SA SB:Option Addr)(a b:List UInt8)(ca cb n m:Nat)(ha:a.length=n)(hb:b.length=m)(hab:a.length=b.length)(hal:a.length≤100000):
    Ctr X 81 [.slice SA n ca,.slice SB m cb] [Rd SA (U8 a),Rd SB (U8 b)] [] (fun v R' H'=>v=.int .i64 ((HR a b:Nat):Int)∧R'=[]∧H'=[]):=by
 refine co Tryz.func81 ?_;intro β;apply Y 0xea0f;intro hcl;have htt:=mC a b a.length;apply Y 0x2dc9c9;refine al (sQ SA SB a b ca cb n m ha hb hab hal) ?_;apply Y 0x19;intro O oc;apply Y 0xba17c5493a;refine lp [] [] (fun k:Nat=>[(6,.slice O (aE a b a.length).length oc),(7,.int .i64 (k:Int)),(5,.int .i64 ((5+ndS ((aE a b a.length).take k):Nat):Int))]) (kz [_]) nz (fun k=>k≤(aE a b a.length).length) (fun k=>(aE a b a.length).length-k) 0 (Nat.zero_le _) (lk [0] []) ?_;intro k hk;apply Zu 0xe9bd<;>intro
 ·apply Y 0x89;have hr:=fh (a:=a) (b:=b) (k:=a.length) (i:=k) oe;have hsu:=uE (aE a b a.length) (k:=k) oe;have htk:=uD (aE a b a.length) k;apply Y 0xc14f124ffc2a6d;refine sq (Ev.load rfl rfl rfl (Src.r 0 rfl) (bI (aE a b a.length) k 1 oe ob)) ?_;apply Y 0xc14f124f2adce;refine sq (Ev.load rfl rfl rfl (Src.r 0 rfl) (bI (aE a b a.length) k 0 oe ob)) ?_;apply Y 0x8a3f0ffcdce4f1f;refine QE.round (k+1) oe oe (by exact lk [0] [] ⟨rfl,rfl,(congrArg some (congrArg (Value.int .i64) (by show (_:Int)+((4+(((aE a b a.length).getD k (0,0)).2:Int))-(((aE a b a.length).getD k (0,0)).1:Int))=_;omega))),trivial⟩)
 apply Y 0xd9c8a9;obtain rfl:k=(aE a b a.length).length:=oe;refine ⟨congrArg (fun z:Nat=>Value.int .i64 (z:Int)) ?_,rfl,rfl⟩;exact Zm 0x2b6e
theorem It (B SA:Option Addr)(old:List UInt8)(l:List Sy)(bc sc:Nat)(hbl:old.length≤1000000)(hl:l.length≤1000000)(hok:Co old l):
    Ctr X 85 [.slice B old.length bc,.slice SA l.length sc] [Rd B (U8 old),Rd SA (cU l)] [] (fun v R' H'=>∃ (A:Option Addr) (c:Nat),v=.tuple #[.slice A (bg old l).length c,.int .i64 0]∧R'=[]∧H'=[Own 5 1 A (bg old l).length c (U8 (bg old l))]):=by
 refine co Tryz.func85 ?_;intro β;apply Y 0xc60f7c8;intro A9;apply Y 0xad49;refine lp [] [] (fun q:Nat×Option Addr×Nat=>[(0,.slice B old.length bc),(1,.slice SA l.length sc),(7,.int .i64 (q.1:Int)),(6,.slice q.2.1 (bg old (l.take q.1)).length q.2.2)]) (kz [_,_]) (fun q=>[Own 5 1 q.2.1 (bg old (l.take q.1)).length q.2.2 (U8 (bg old (l.take q.1)))]) (fun q=>q.1≤l.length) (fun q=>l.length-q.1) (0,A9,0) (Nat.zero_le _) (lk [0,1] [0]) ?_;apply Y 0x72e;intro i A c hi
 dsimp only at hi ⊢;apply Y 0x122f;intro hrl;apply Zu 0xe9bd<;>intro
 ·apply Y 0x311f980f2d89;refine sp (Ev.load rfl rfl rfl (Src.r 1 rfl) ((eV (i:=i) (j:=2) oe ob).trans rfl)) ?_;apply Y 0x1;refine eK (fun z:UInt8=>[(0,.slice B old.length bc),(1,.slice SA l.length sc),(7,.int .i64 (i:Int)),(6,.slice A (bg old (l.take i)).length c),(8,.int .u8 (z.toNat:Int))]) (fun z:UInt8=>[Rd B (U8 old),Rd SA (cU l)]) (fun z:UInt8=>[Own 5 1 A (bg old (l.take i)).length c (U8 (bg old (l.take i)))]) (fun z:UInt8=>z=EE old (l.getD i Sy.zero)) ?_ ?_
  ·apply Y 0x311f980f2d;refine sp (Ev.load rfl rfl rfl (Src.r 1 rfl) ((eV (i:=i) (j:=0) oe ob).trans rfl)) ?_;apply Zu 0x1a88<;>intro hc25
   ·have hat:=hok i oe hc25;apply Y 0xc1e488f3f311f980fbd;refine al (Jh (l.getD i Sy.zero).at_ 0 ((old.length:Int)-1)) ?_;apply Zu 0x1a13aa8<;>intro hc35
    ·have h36:=of_decide_eq_false ((Bool.not_eq_true' _).mp hc35);exact Zm 0x18
    apply Y 0x5be6d3f8f3f311f980f489c99;refine sp (By rfl rfl) ?_;apply Y 0xd1e;refine QE.join (((l.getD i Sy.zero).b+old.getD (l.getD i Sy.zero).at_.toNat 0)) (by unfold EE;rw [if_pos hc25]) (lk [0,1] [0])
   apply Y 0x5a;refine QE.join ((l.getD i Sy.zero).b) (by unfold EE;rw [if_neg (by rw [hc25];decide)]) (lk [0,1] [0])
  intro z hz;apply Y 0x3b9c;intro A48;apply Y 0xaf2f;intro A49 cc49;apply Y 0xf92f8ad1e;intro he;rw [← hz] at he;apply Y 0xf12f;intro hel;refine QE.round (i:=(i,A,c)) ((i+1,A49,cc49)) ou ou (by exact lk [0,1] [0] ⟨rfl,rfl,rfl,qK,trivial⟩ (hh:=⟨(congrArg some (ax hel.symm Qp)),trivial⟩))
 apply Y 0xa2ed8e87a9;obtain rfl:i=l.length:=oe;exact Zm 0x78eb6e
theorem m6 (B:Option Addr)(old:List UInt8)(bc:Nat)(lf:Bool)(inn out:Int)(ops:List Po)(OA:Option Addr)(oc:Nat)(hops:ops.length≤9223372036854775807)(hbl:old.length≤1000000)(hlf:lf=false)(hE:cG inn out ops=0)(hin:inn=(old.length:Int)):
    Ctr X 41 [.slice B old.length bc,.agg (List.toArray [.bool lf,.int .i64 inn,.int .i64 out,.slice OA ops.length oc])] [Rd B (U8 old),Rd OA (bZ ops)] [] (fun v R' H'=>∃ (A:Option Addr) (c:Nat),v=.tuple #[.slice A (bg old (syS inn out ops)).length c,.int .i64 0]∧R'=[]∧H'=[Own 5 1 A (bg old (syS inn out ops)).length c (U8 (bg old (syS inn out ops)))]):=by
 refine co Tryz.func41 ?_;intro β;have hrun:=vu hE hin;subst hlf;apply Y 0x4a;intro A3;apply Y 0x77e7c538;refine al (jm false inn out ops OA oc hops) ?_;apply Y 0x19;intro SA sc;apply Zu 0x5d387c55e8483a<;>intro hc21
 ·exact absurd hE hc21
 apply Zu 0x1a881b58c899<;>intro hc25
 ·cases hc25
 apply Zu 0x5d11bbd99<;>intro
 ·exact Zm 0x18
 apply Y 0x483c;refine al (It B SA old (syS inn out ops) bc sc hbl hrun.2 hrun.1) ?_;apply Y 0x19;intro YA yc;apply Zu 0x1a11b58e8483a<;>intro hc48
 ·exact Zm 0x461fa2e59e87
 cases hc48
theorem rangesV_at:∀ (l:List (Nat×Nat)) (k:Nat),k<l.length→((a7 l).drop (k*2)).take 2=[.int .i64 ((l.getD k (0,0)).1:Int),.int .i64 ((l.getD k (0,0)).2:Int)]
  |[],_,h=>absurd h (Nat.not_lt_zero _)
  |_::_,0,_=>rfl
  |_::l,k+1,h=>by
    rw [show (k+1)*2=k*2+2 from by omega]
    exact rangesV_at l k qD
theorem Gw (BA:Option Addr)(old:List UInt8)(bc:Nat)(sz n:Int)(lf:Bool)(inn out:Int)(ops:List Po)(seq st:List Int)(OA QA HA:Option Addr)(oc qc hc:Nat)(hops:ops.length≤9223372036854775807)(hql:seq.length≤1000000)(hhl:st.length≤1000000)(hol:old.length≤9223372036854775807)(hbc:old.length≤bc):
    Ctr X 183 [.slice BA old.length bc,.agg (List.toArray [.int .i64 sz,.int .i64 n,.bool lf,.int .i64 inn,.int .i64 out,.slice OA ops.length oc,.slice QA seq.length qc,.slice HA st.length hc])] [Rd BA (U8 old),Rd OA (bZ ops),Rd QA (I64 seq),Rd HA (I64 st)] [] (fun v R' H'=>v=.tuple #[.agg (List.toArray [.int .i64 (e9 lf sz n inn out ops seq st old).s,.int .i64 (e9 lf sz n inn out ops seq st old).u,.int .i64 (e9 lf sz n inn out ops seq st old).r,.int .i64 (e9 lf sz n inn out ops seq st old).e,.int .i64 (e9 lf sz n inn out ops seq st old).o]),.int .i64 (dQ lf sz n inn out ops seq st old)]∧R'=[]∧H'=[]):=by
 refine co Tryz.func183 ?_;intro β;apply Y 0x4a;intro A3;apply Y 0x98;intro A4;apply Zu 0x1a383aa8293f68e68ebdb5ba49<;>intro hc19
 ·have hvl:eN lf sz n inn out ops seq st=false:=Q9;apply Y 0x942ff9e7d15bcb;intro hE;apply Y 0x5b0f;intro hV;exact Zm 0x53e85e
 apply Zu 0x5d38f8c0e2d<;>intro hc24
 ·have hne:(old.length:Int)≠inn:=hc24;apply Y 0x552f;intro hvl;apply Y 0xa42ff9e7d15bcb;intro hE;apply Y 0x5b0f;intro hV;exact Zm 0x53e85e
 have hin:(old.length:Int)=inn:=hc24;apply Y 0x552f;intro hvl;apply Y 0xbb0f;intro hE0 hlf0 hszb0;apply Y 0x9b0f;intro hseq;apply Y 0x600f;intro hszb;subst hlf0;obtain ⟨S,rfl⟩:∃ q:Nat,sz=(q:Int):=⟨sz.toNat,by omega⟩;obtain ⟨n,rfl⟩:∃ q:Nat,n=(q:Int):=⟨n.toNat,by omega⟩;rw [Int.toNat_natCast,Int.toNat_natCast] at hseq;apply Y 0x700f;intro hS1 hS2 hn1 hn2 hi1 hi2;apply Y 0xaee;intro hcl;apply Y 0x7a0f;intro hk64;apply Y 0xcb0f;intro k1 k2 k3 k4 k5 k6;apply Y 0x7de;intro hsl;apply Y 0x222f;intro hnl;apply Y 0xc42f;intro hol2;apply Y 0x8a0f;intro hsy;apply Y 0x77ec0ef974e5a;refine al (AT BA old bc false inn out ops OA oc hops rfl hE0 hin.symm) ?_;rw [hsy];apply Y 0x19;intro NA nc;apply Y 0x69e5e848ab;intro hnc;apply Y 0xba381b583868ebdb;refine lp [] [] (fun i:Nat=>[(0,.slice BA old.length bc),(3,ag A3 0),(4,ag A4 0),(6,.slice NA (bg old (ah ops)).length nc),(40,.slice QA seq.length qc),(41,.int .i64 (seq.length:Int)),(42,.int .i64 (i:Int)),(8,.int .i64 (((ndT old (bg old (ah ops)) S (seq.take i)):Nat):Int)),(9,.int .i64 (((ndG old (bg old (ah ops)) S (seq.take i)):Nat):Int))]) (kz [_,_,_,_,_,_]) (kz [_]) (fun i=>i≤seq.length) (fun i=>seq.length-i) 0 (Nat.zero_le _) (lk [0,1,2,3,4,5] [0]) ?_;intro i hi;apply Zu 0x7920e<;>intro
 ·apply Y 0x2b2f589;intro t hst htn htc;apply Y 0x9a0f;intro htS;apply Y 0xcd3f68;refine sp (Ev.cast (u:=.int .i64 (t:Int)) (Ev.load rfl rfl rfl (Src.r 4 rfl) (aH oe)) (congrArg (Value.int .i64) hst)) ?_;apply Y 0x3beb3e660f520e1;refine mq 2 rfl (faR 1) ?_;apply Y 0xe9e36e6c1f;refine mq 7 rfl (faR 1) ?_;refine mq 8 rfl (ldR 1) ?_;apply Y 0xd9e201f;refine al (hI BA old bc t S oe oe oe hS1 hS2 hbc) ?_;apply Y 0x71e;intro A50;apply Y 0xf6e3ab;refine al (hI NA (bg old (ah ops)) nc t S oe oe oe hS1 hS2 hnc) ?_;apply Y 0x71e;intro A55;apply Y 0x57e330e;refine al (AI A50 A55 (ctF old t S) (ctF (bg old (ah ops)) t S) S S S S (cj _ _ _) (cj _ _ _) (by rw [cj,cj]) (by rw [cj];omega)) ?_;apply Y 0x19;intro O oc2;apply Y 0x36b4e35ce;refine LM.nil oa hcx ?_;apply Y 0xa4e35eba6a;refine lp [] [] (fun k:Nat=>[(0,.slice BA old.length bc),(3,ag A3 0),(4,ag A4 0),(6,.slice NA (bg old (ah ops)).length nc),(40,.slice QA seq.length qc),(41,.int .i64 (seq.length:Int)),(42,.int .i64 (i:Int)),(8,.int .i64 (((ndT old (bg old (ah ops)) S (seq.take i)):Nat):Int)),(9,.int .i64 (((ndG old (bg old (ah ops)) S (seq.take i)):Nat):Int)),(56,.slice O (aE (ctF old t S) (ctF (bg old (ah ops)) t S) (ctF old t S).length).length oc2),(57,.int .i64 ((aE (ctF old t S) (ctF (bg old (ah ops)) t S) (ctF old t S).length).length:Int)),(58,.int .i64 (k:Int)),(12,.int .i64 ((5+ndS ((aE (ctF old t S) (ctF (bg old (ah ops)) t S) (ctF old t S).length).take k):Nat):Int))]) (kz [_,_,_,_,_,_,_]) (kz [_]) (fun k=>k≤(aE (ctF old t S) (ctF (bg old (ah ops)) t S) (ctF old t S).length).length) (fun k=>(aE (ctF old t S) (ctF (bg old (ah ops)) t S) (ctF old t S).length).length-k) 0 (Nat.zero_le _) (lk [0,1,2,3,4,5,6] [2]) ?_;intro k hk;apply Zu 0x7920e<;>intro
  ·apply Y 0x589;have hcl9:=fg (ctF old t S) (ctF (bg old (ah ops)) t S) (ctF old t S).length;apply Y 0x2b0f;intro hcfl;apply Y 0x68;refine sp (cf (k:=k) (m:=k*2) rfl rfl rfl rfl rfl oe oe (Src.r 0 rfl) (bC (k:=k) oe) rfl) ?_;refine sp (aa (vs:=[.int .i64 (((aE (ctF old t S) (ctF (bg old (ah ops)) t S) (ctF old t S).length).getD k (0,0)).1:Int),.int .i64 (((aE (ctF old t S) (ctF (bg old (ah ops)) t S) (ctF old t S).length).getD k (0,0)).2:Int)]) rfl rfl rfl (Src.r 0 rfl) (rangesV_at (aE (ctF old t S) (ctF (bg old (ah ops)) t S) (ctF old t S).length) k oe) rfl ob) ?_;apply Y 0x98;intro A14;apply Y 0x886b;have hr:=fh (a:=(ctF old t S)) (b:=(ctF (bg old (ah ops)) t S)) (k:=(ctF old t S).length) (i:=k) oe;have hsu:=uE (aE (ctF old t S) (ctF (bg old (ah ops)) t S) (ctF old t S).length) (k:=k) oe;apply Y 0x192f;intro htk;apply Y 0xf82f;intro htt;apply Y 0x2b0f;intro hcfl;apply Y 0xd0e4dec1edacada2c;refine QE.round (k+1) oe oe (by exact lk [0,1,2,3,4,5,6] [0] ⟨rfl,rfl,rfl,rfl,rfl,rfl,rfl,rfl,rfl,rfl,rfl,rfl,(congrArg some (congrArg (Value.int .i64) (by show (_:Int)+((4+(((aE (ctF old t S) (ctF (bg old (ah ops)) t S) (ctF old t S).length).getD k (0,0)).2:Int))-(((aE (ctF old t S) (ctF (bg old (ah ops)) t S) (ctF old t S).length).getD k (0,0)).1:Int))=_;omega))),trivial⟩)
  apply Y 0x192fa9;intro htk;apply Y 0xf82f;intro htt;apply Y 0x2b0f;intro hcfl;apply Y 0x292f;intro hTi;apply Y 0xb82f;intro hGi;apply Y 0x48ca9c;refine sp (Ev.cast (u:=.int .i64 (max (((ndG old (bg old (ah ops)) S (seq.take i)):Nat):Int) ((5+ndS ((aE (ctF old t S) (ctF (bg old (ah ops)) t S) (ctF old t S).length).take k):Nat):Int))) (Ev.pure rfl) (congrArg (Value.int .i64) qa)) ?_;apply Y 0xd0efd48;obtain rfl:k=(aE (ctF old t S) (ctF (bg old (ah ops)) t S) (ctF old t S).length).length:=oe;apply Y 0x492f;intro hsT;apply Y 0xd82f;intro hsG;have hsR:ndR old (bg old (ah ops)) S (seq.getD i 0)=5+ndS ((aE (ctF old t S) (ctF (bg old (ah ops)) t S) (ctF old t S).length).take (aE (ctF old t S) (ctF (bg old (ah ops)) t S) (ctF old t S).length).length):=by rw [hst,List.take_length];rfl
  refine QE.round (i+1) oe oe (by exact lk [1,2,3,4,5,6] [0] ⟨rfl,rfl,rfl,rfl,rfl,rfl,rfl,(congrArg some (congrArg (Value.int .i64) oe)),(congrArg some (congrArg (Value.int .i64) oe)),trivial⟩)
 apply Y 0x55a9;obtain rfl:i=seq.length:=oe;apply Zu 0xe968b6e<;>intro
 ·apply Y 0x842ff9e5915bcb;intro hE;apply Y 0x592f;intro hV;exact Zm 0x53e85e
 apply Y 0x392f9d;intro hT;rw [List.take_length] at hT;apply Y 0xc82f;intro hG;rw [List.take_length] at hG;apply Y 0xc12f;intro hU;apply Y 0x660f;refine mq 0 rfl (faR 1) ?_;refine mq 1 rfl (ldR 1) ?_;apply Y 0xededde;refine mq 4 rfl (faR 1) ?_;refine mq 5 rfl (ldR 1) ?_;apply Y 0x7a3f;refine mq 7 rfl (Ev.sub rfl rfl oe oe) ?_;refine mq 8 rfl (faR 1) ?_;refine mq 9 rfl (ldR 1) ?_;refine mq 10 rfl (Ev.cast (u:=.int .i64 (((ndU (ndT old (bg old (ah ops)) S seq) S):Nat):Int)) (Ev.quo rfl rfl oe oe oe) (congrArg (Value.int .i64) OS)) ?_;apply Y 0xeb1fdb1f;refine mq 13 rfl (Ev.mul rfl rfl oe oe) ?_;apply Y 0xc70f;refine mq 15 rfl (Ev.cast (u:=.int .i64 (((2*S+(ndG old (bg old (ah ops)) S seq)):Nat):Int)) (Ev.add rfl rfl oe oe) (congrArg (Value.int .i64) oe)) ?_;refine mq 16 rfl (Ev.build rfl rfl rfl rfl rfl rfl rfl) ?_;refine mfo 17 ?_;apply Y 0x98;intro A15;apply Y 0x69;refine LM.f 18 rfl oa trivial ?_;apply Y 0xb12f491c3fca55e6cadada7381b76acc6b;intro hNN;apply Y 0x722f;intro hW1;apply Y 0xe82f;intro hCq;apply Y 0xa12f49eb3f3c3f4c3f414fc1e1b2c;intro hCC;apply Y 0x742ff9ed815b810f788bb2c3f55e6ca6caca55e6ca55eda55eda788bbfb3f6caca55e6cadada68;intro hE;have hV:=mz hE;rw [Int.toNat_natCast] at hV;exact Zm 0x53e85e
theorem mw (BA:Option Addr)(old:List UInt8)(bc:Nat)(sz n:Int)(lf:Bool)(inn out:Int)(ops:List Po)(seq st:List Int)(OA QA HA:Option Addr)(oc qc hc:Nat)(hops:ops.length≤9223372036854775807)(hql:seq.length≤1000000)(hhl:st.length≤1000000)(hol:old.length≤9223372036854775807)(_hbc:old.length≤bc):
    Ctr X 39 [.slice BA old.length bc,.agg (List.toArray [.int .i64 sz,.int .i64 n,.bool lf,.int .i64 inn,.int .i64 out,.slice OA ops.length oc,.slice QA seq.length qc,.slice HA st.length hc])] [Rd BA (U8 old),Rd OA (bZ ops),Rd QA (I64 seq),Rd HA (I64 st)] [] (fun v R' H'=>v=.tuple #[.agg (List.toArray [.int .i64 (e9 lf sz n inn out ops seq st old).s,.int .i64 (e9 lf sz n inn out ops seq st old).u,.int .i64 (e9 lf sz n inn out ops seq st old).r,.int .i64 (e9 lf sz n inn out ops seq st old).e,.int .i64 (e9 lf sz n inn out ops seq st old).o]),.int .i64 (dQ lf sz n inn out ops seq st old)]∧R'=[]∧H'=[]):=by
 refine co Tryz.func39 ?_;intro β;apply Y 0x4a;intro A3;apply Y 0x98;intro A4;apply Zu 0x1a385813aa8393f68e68ebdb49<;>intro hc22
 ·have hvl:eN lf sz n inn out ops seq st=false:=oao;apply Y 0x942ff9e5915bcb;intro hE;apply Y 0x5b0f;intro hV;exact Zm 0x53e85e
 apply Zu 0x5d1f8c0ebd99<;>intro hc29
 ·have hne:(old.length:Int)≠inn:=hc29;apply Y 0x652f;intro hvl;apply Y 0xa42ff9e5915bcb;intro hE;apply Y 0x5b0f;intro hV;exact Zm 0x53e85e
 have hin:(old.length:Int)=inn:=hc29;apply Y 0x652f;intro hvl;apply Y 0xbb0f;intro hE0 hlf0 hszb0;apply Y 0x9b0f;intro hseq;apply Y 0x600f;intro hszb;subst hlf0;obtain ⟨S,rfl⟩:∃ q:Nat,sz=(q:Int):=⟨sz.toNat,by omega⟩;obtain ⟨n,rfl⟩:∃ q:Nat,n=(q:Int):=⟨n.toNat,by omega⟩;rw [Int.toNat_natCast,Int.toNat_natCast] at hseq;apply Y 0x700f;intro hS1 hS2 hn1 hn2 hi1 hi2;apply Y 0xaee;intro hcl;apply Y 0x7a0f;intro hk64;apply Y 0xcb0f;intro k1 k2 k3 k4 k5 k6;apply Y 0x7de;intro hsl;apply Y 0x222f;intro hnl;apply Y 0xc42f;intro hol2;apply Y 0x8a0f;intro hsy;apply Y 0x77ec0ef999;refine al (m6 BA old bc false inn out ops OA oc hops oe rfl hE0 hin.symm) ?_;rw [hsy];apply Y 0x19;intro NA nc;apply Y 0xad20e168ebdb5e848ab;refine lp [] [] (fun i:Nat=>[(0,.slice BA old.length bc),(3,ag A3 0),(4,ag A4 0),(7,.slice NA (bg old (ah ops)).length nc),(11,.int .i64 (i:Int)),(9,.int .i64 (((ndT old (bg old (ah ops)) S (seq.take i)):Nat):Int)),(10,.int .i64 (((ndG old (bg old (ah ops)) S (seq.take i)):Nat):Int))]) (kz [_,_,_,_,_,_]) (kz [_]) (fun i=>i≤seq.length) (fun i=>seq.length-i) 0 (Nat.zero_le _) (lk [0,1,2,3,4,5] [0]) ?_;intro i hi;apply Zu 0xe91b658<;>intro
 ·apply Y 0x2b2f589;intro t hst htn htc;apply Y 0x9a0f;intro htS;apply Y 0xede6ce4beb3e660f;refine mq 4 rfl (ae (k:=i) rfl rfl rfl rfl rfl rfl rfl oe (Src.r 4 rfl) ox) ?_;refine mq 5 rfl (Ev.cast (u:=.int .i64 (t:Int)) (Ev.load rfl rfl rfl (Src.r 4 rfl) (aH oe)) (congrArg (Value.int .i64) hst)) ?_;refine mq 6 rfl (faR 1) ?_;refine mq 7 rfl (ldR 1) ?_;apply Y 0xb5e;refine mq 10 rfl (faR 1) ?_;refine mq 11 rfl (ldR 1) ?_;apply Y 0x201f;refine mq 13 rfl (ae (k:=i) rfl rfl rfl rfl rfl rfl rfl oe (Src.r 4 rfl) ox) ?_;refine mq 14 rfl (Ev.cast (u:=.int .i64 (t:Int)) (Ev.load rfl rfl rfl (Src.r 4 rfl) (aH oe)) (congrArg (Value.int .i64) hst)) ?_;refine mq 15 rfl (faR 1) ?_;refine mq 16 rfl (ldR 1) ?_;apply Y 0x54e;refine al (dp BA old bc t S oe oe oe hS1 hS2) ?_;apply Y 0x19;intro A53 c53;apply Y 0x69ab;refine LM.f 17 rfl oa trivial ?_;refine al (dp NA (bg old (ah ops)) nc t S oe oe oe hS1 hS2) ?_;apply Y 0x19;intro A62 c62;apply Y 0x330e;refine LM.f 18 rfl oa trivial ?_;refine al (yo A53 A62 (ctF old t S) (ctF (bg old (ah ops)) t S) c53 c62 S S (cj _ _ _) (cj _ _ _) (by rw [cj,cj]) (by rw [cj];omega)) ?_;apply Y 0x56a6c491f330ea8;have hrl:=yp (ctF old t S) (ctF (bg old (ah ops)) t S);apply Y 0x2b0f;intro hcfl;apply Y 0x292f;intro hTi;apply Y 0xb82f;intro hGi;apply Y 0x9c1ca9c;refine sp (Ev.cast (u:=.int .i64 (max (((ndG old (bg old (ah ops)) S (seq.take i)):Nat):Int) ((HR (ctF old t S) (ctF (bg old (ah ops)) t S):Nat):Int))) (Ev.pure rfl) (congrArg (Value.int .i64) qa)) ?_;apply Y 0x492f8ad1e;intro hsT;apply Y 0xd82f;intro hsG;have hsR:ndR old (bg old (ah ops)) S (seq.getD i 0)=HR (ctF old t S) (ctF (bg old (ah ops)) t S):=by rw [hst];rfl
  refine QE.round (i+1) oe oe (by exact lk [0,1,2,3,4,5] [2] ⟨rfl,rfl,rfl,rfl,rfl,(congrArg some (congrArg (Value.int .i64) oe)),(congrArg some (congrArg (Value.int .i64) oe)),trivial⟩)
 apply Y 0x55a9;obtain rfl:i=seq.length:=oe;apply Zu 0xe968b6e<;>intro
 ·apply Y 0x842ff9e5915bcb;intro hE;apply Y 0x592f;intro hV;exact Zm 0x53e85e
 apply Y 0x392f9d;intro hT;rw [List.take_length] at hT;apply Y 0xc82f;intro hG;rw [List.take_length] at hG;apply Y 0xc12f;intro hU;apply Y 0x1bc1eca1b2c;refine sp (Ev.cast (u:=.int .i64 (((ndU (ndT old (bg old (ah ops)) S seq) S):Nat):Int)) (Ev.quo rfl rfl oe oe oe) (congrArg (Value.int .i64) OS)) ?_;apply Y 0xb12f491c3fca55e6ca2d381b7381b71;intro hNN;apply Y 0x722f;intro hW1;apply Y 0xe82f;intro hCq;apply Y 0xa12f49eb3f3c3f2d14c3f414fc1e1b68;intro hCC;apply Y 0x655e1b9c;refine sp (Ev.cast (u:=.int .i64 (((2*S+(ndG old (bg old (ah ops)) S seq)):Nat):Int)) (Ev.add rfl rfl oe oe) (congrArg (Value.int .i64) oe)) ?_;apply Y 0x742ff9ed815bfa2c3f55e6ca6caca55e6ca55e655e6fb3f6caca55e6ca48;intro hE;have hV:=mz hE;rw [Int.toNat_natCast] at hV;exact Zm 0x53e85e
end Go.Proofs.YtbpddeiogcgegaaGreat
namespace Go.Sl
theorem jy {P:Program}(w:World)(t tn ty e:TypeId)(i:TypeInfo)(z:Value)(k kn:IntKind)(ht:P.underlying t=some (.slice e))(htn:P.underlying tn=some (.int kn))(hi:P.info? e=some i)(hz:i.zero=some z)
    (q:Nat) (h0:0<q) (hs:0<i.size) (h63:((q:Nat):Int)≤9223372036854775807) (h48:q*i.bytes≤281474976710656) (hfit:Builtin.nextslicecap q 0*i.bytes≤281474976710656):
    (Builtin.append_ #[t,tn] ty #[.slice none 0 0,.int k q]).run P w=
      .ok (.slice (some ⟨w.heap.size,0,none⟩) q (grownCap w q 0 e))
        (w.drew.alloc (.cells (Builtin.zeroCells z.cells q++Builtin.zeroCells z.cells (grownCap w q 0 e-q)) e)):=by
 have hn:¬ (q≤0):=oe;apply Y 0x922f;intro hw;have h63':¬ (9223372036854775807<(q:Int)):=oe;have h48':¬ (281474976710656<Builtin.nextslicecap q 0*i.bytes):=oe;have h48i:¬ (281474976710656<(q:Int)*(i.bytes:Int)):=by
  exact Zm 0x18df1f
 apply Y 0x952f;intro hneg;apply Y 0xc52f;intro hns;have hq0:¬ q=0:=oe
 simp [Builtin.append_,run_underlying ht,run_underlying htn,sizeOf,typeInfo,zeroValue,hi,hz,asInt,asIntOf,hw,hneg,hns,h63',h48',h48i,Question.forced,run_firstCells_none,newRow,grownCap,hq0]
section
variable {X:Cx}{β:Base}{n:Nat}{ds:List Deferred}{ops:Array Oper}{Q:Exit→Act→World→Prop}{rest:List Oper}{Γ:Env}{R H:List Pr}
theorem FA {d t tn e ty q:Nat}{pos:String}{af:Array Edge}{x y:Operand}{i ei it:Ti}{kn kq:IntKind}{z:Value}(ht:ar t X.tab=some i)(hdesc:i.desc=.slice e)(he:ar e X.tab=some ei)(hsz:ei.size=1)(hz:ei.zero=z)(hzc:z.cells=#[z])
    (htn:ar tn X.tab=some it) (hit:it.desc=.int kn) (hx:ev Γ x=some (.slice none 0 0)) (hy:ev Γ y=some (.int kq (q:Int))) (hq:0<q)
    (hml:q≤9223372036854775807) (hb:q*ei.bytes≤140737488355328) (hd:Nat.blt d n=true)
    (k:∀ A' c',L X β n ds ops Q rest ((d,.slice A' q c')::Γ) R (H++[Own e 1 A' q c' (List.replicate q z)])):
    L X β n ds ops Q (⟨some d,.call ⟨.builtin .append,#[x,y],#[t,tn]⟩,ty,pos,af,none⟩::rest) Γ R H:=by
 intro a w hf hsat;refine wpList_plain rfl fun K hK=>?_
 obtain ⟨e1,_⟩:=X.ok _ _ ht;rw [hdesc] at e1;obtain ⟨e2,_⟩:=X.ok _ _ htn;rw [hit] at e2;obtain ⟨_,jf,hjf,g1,g2,g3⟩:=X.ok _ _ he;have hfit:Builtin.nextslicecap q 0*jf.bytes≤281474976710656:=by
  have h1:=nextslicecap_le (need:=q) (old:=0) oe;apply Y 0x772f;intro h2;rw [g2] at h2 ⊢;have h3:2*q*ei.bytes=2*(q*ei.bytes):=Nat.mul_assoc _ _ _;exact Zm 0x18
 have hqb:q*jf.bytes≤281474976710656:=by rw [g2];omega
 have hrun:=jy (P:=X.P) w t tn ty e jf ei.zero kq kn e1 e2 hjf g3 q hq (by rw [g1,hsz];decide) oe hqb hfit;have hrun':(execOp a.eval ⟨some d,.call ⟨.builtin .append,#[x,y],#[t,tn]⟩,ty,pos,af,none⟩).run X.P w=.ok (.value (.slice (some ⟨w.heap.size,0,none⟩) q (grownCap w q 0 e))) (w.drew.alloc (.cells (Builtin.zeroCells ei.zero.cells q++Builtin.zeroCells ei.zero.cells (grownCap w q 0 e-q)) e)):=by
  exact Zm 0x250f
 apply Y 0x14e;rw [hrun'];have hge:=grownCap_ge w q 0 e;have hle:=grownCap_le_maxLen w q 0 e Qb;apply Y 0x462f;intro hz1;refine hK _ _ (k (some ⟨w.heap.size,0,none⟩) _ _ _ (hf.put oU _) (hsat.snoc ((Stp.drew w _).trans (Stp.alloc _ _ _)) (fun _ h _=>h) _ ?_ ?_))
 ·refine ⟨by rw [List.length_replicate,Nat.mul_one],.inr ⟨w.heap.size,_,_,rfl,Nat.zero_le _,heap_alloc_new w.drew _,hge,hle,?_,?_⟩⟩
  ·rw [Array.size_append,hz1,hz1];exact Zm 0x18
  rw [Array.toList_append,hz,fG hzc];have h1:(List.replicate q z).length=q*1:=by rw [List.length_replicate,Nat.mul_one]
  rw [← h1,List.take_left]
 intro k hk;have:=lg hk;subst this;exact Zm 0x130f
theorem Own.empty {w:World}{e m c:Nat}{A:Option Addr}{xs:List Value}(h:(Own e 1 A m c xs).p w):(Own e 1 A 0 c []).p w:=by
 refine ⟨rfl,?_⟩
 rcases h.2 with ⟨hv,h0⟩|⟨g,cap,cur,hv,hb,hh,h3,h4,h5,h6⟩
 ·injection hv with h7 h8 h9
  subst h7 h9
  exact .inl ⟨rfl,rfl⟩
 injection hv with h7 h8 h9
 subst h7 h9
 exact .inr ⟨g,c,cur,rfl,hb,hh,Nat.zero_le _,h4,h5,by simp⟩
theorem L.empty {e m c:Nat}{A:Option Addr}{xs:List Value}{H':List Pr}(h:L X β n ds ops Q rest Γ R (Own e 1 A 0 c []::H')):L X β n ds ops Q rest Γ R (Own e 1 A m c xs::H'):=
  fun a w hf hs=>h a w hf (hs.repl (fun h=>Own.empty h) (fun _ hk=>hk))
theorem Bh {A B:Option Addr}{xs ys:List Value}(c d:Nat)(h1:Has R H (Rd A xs))(h2:Has R H (Rd B ys)):Has R H (KidsR [(A,c),(B,d)] [xs,ys]):=by
 have key:∀ (i:Nat) (h:Hd) (v:List Value),[(A,c),(B,d)][i]?=some h→[xs,ys][i]?=some v→Has R H (Rd h.1 v):=by
  intro i h v hh hv
  match i,hh,hv with
  |0,hh,hv=>
   obtain rfl:(A,c)=h:=obu;obtain rfl:xs=v:=obv
   exact h1
  |1,hh,hv=>
   obtain rfl:(B,d)=h:=obu;obtain rfl:ys=v:=obv
   exact h2
  |i+2,hh,hv=>simp at hh
 exact ⟨fun β w hs i h v hh hv=>(key i h v hh hv).1 β w hs,fun k ⟨i,h,v,hh,hv,hk⟩=>(key i h v hh hv).2 k hk⟩
theorem kK {t e m k:Nat}{x:Operand}{i ei:Ti}{A:Option Addr}{xs:List Value}(ht:ar t X.tab=some i)(hd:i.desc=.array m e)(he:ar e X.tab=some ei)(hx:ev Γ x=some (ag A k))(hs:Src R H A xs)(h0:k<xs.length):
    Ev X β Γ R H (.slice t x none none none) (.slice (A.map (·.add k)) m m):=by
 intro ρ w hρ hw o ho;apply Y 0x76e;intro e1;rw [hd] at e1;apply Y 0x39e;intro hS;obtain ⟨a,rfl,_⟩:=hs β w hw k xs[k] (by simp [h0]);have hz:(a.add k).add 0=a.add k:=by simp [Addr.add]
 simp [execOp,ho,hρ _ _ hx,ag,Instr.sliceAt,Instr.sureAddr,Instr.sliceBounds,run_underlying e1,hS,hz]
theorem Has.at {A:Option Addr}{xs:List Value}(h:Has R H (Rd A xs))(k m:Nat):Has R H (Rd (A.map (·.add k)) ((xs.drop k).take m)):=by
 have h1:=h.sub (xs.length+k+1) k 1 m oe
 unfold bj at h1;rw [if_neg oe,Nat.mul_one] at h1
 exact h1
end
end Go.Sl
