/-
  Part of a proof.
-/
import Derived.Test.YtbpddeiogcgegaaGreatUWSvB
import Derived.Test.YtbpddeiogcgegaaGreatUPo
set_option maxHeartbeats 0
set_option maxRecDepth 4000
set_option linter.all false
namespace Go.Proofs.YtbpddeiogcgegaaGreat
open Go.Sl
theorem xw {n:Nat}(x:UInt8)(_h:1≤n):(List.replicate n (Value.int .u8 0)).take 0++U8 [x]++(List.replicate n (Value.int .u8 0)).drop (0+(U8 [x]).length)=U8 (List.replicate 1 x++List.replicate (n-1) 0):=by
 rw [← b8,List.take_zero,List.nil_append,List.drop_replicate]
 congr 1
 simp [U8]
theorem MY (b:List UInt8)(a S:Nat):(U8 (List.replicate S 255)).take 0++U8 ((b.drop (min a b.length)).take (min (b.length-min a b.length) S))++(U8 (List.replicate S 255)).drop (0+(U8 ((b.drop (min a b.length)).take (min (b.length-min a b.length) S))).length)=U8 (ctK b a S):=by
 rw [← Gn,← b8,List.take_zero,List.nil_append,gQ,List.drop_replicate,aJ,List.length_take,List.length_drop]
 congr 3;exact Zm 0x18
theorem rW (SA SB:Option Addr)(a b:List UInt8)(ca cb n m:Nat)(ha:a.length=n)(hb:b.length=m)(hab:a.length=b.length)(hal:a.length≤100000):
    Ctr X 135 [.slice SA n ca,.slice SB m cb] [Rd SA (U8 a),Rd SB (U8 b)] [] (fun v R' H'=>∃ (O:Option Addr) (c:Nat),v=.slice O (aF a b a.length).length c∧R'=[]∧H'=[Own 223 2 O (aF a b a.length).length c (a6 (aF a b a.length))]):=by
 subst ha hb
 exact jQ SA SB a b ca cb hab hal
theorem zI (SA SB:Option Addr)(a b:List UInt8)(ca cb n m:Nat)(ha:a.length=n)(hb:b.length=m)(hab:a.length=b.length)(hal:a.length≤100000):
    Ctr X 226 [.slice SA n ca,.slice SB m cb] [Rd SA (U8 a),Rd SB (U8 b)] [] (fun v R' H'=>∃ (O:Option Addr) (c:Nat),v=.slice O (aF a b a.length).length c∧R'=[]∧H'=[Own 223 2 O (aF a b a.length).length c (a6 (aF a b a.length))]):=by
 subst ha hb
 exact pj SA SB a b ca cb hab hal
theorem xv (x:UInt8)(B:Option Addr)(bc n:Nat)(h1:1≤n)(hn:n≤4096):
    Ctr X 257 [.slice B 1 bc,.int .i64 (n:Int)] [Rd B (U8 [x])] [] (fun v R' H'=>∃ A,v=.slice A n n∧R'=[]∧H'=[Own 5 1 A n n (U8 (List.replicate n x))]):=by
 refine co Tryz.func257 ?_;intro β;apply Zu 0x2a581a<;>intro
 ·exact Zm 0x18
 apply Y 0x253f71b1f1c59;refine al (Iw n oe) ?_;apply Zu 0x9d2fb858d82888<;>intro
 ·exact Zm 0x18
 apply Zu 0x2af9<;>intro
 ·exact Zm 0x18
 apply Y 0xa8eb959;refine kU (m:=n) rfl rfl rfl rfl rfl rfl rfl rfl rfl oaR oe rfl (fun A30=>?_);apply Y 0x1c1;refine L.copy (j:=0) (o:=0) rfl rfl rfl rfl rfl (fun g h _=>h) rfl rfl (Src.r 0 rfl) (by simp [U8];omega) (bQ _) (by rw [aJ,List.length_replicate];simp;omega) rfl ?_;apply Y 0xaa49;refine lp [] [] (fun q:Nat×List UInt8=>[(7,.slice A30 n n),(8,.int .i64 (q.1:Int))]) nz (fun q=>[Own 5 1 A30 n n (U8 (List.replicate q.1 x++q.2))]) (fun q=>1≤q.1∧q.1≤n∧q.2.length=n-q.1) (fun q=>n-q.1) (1,List.replicate (n-1) 0) ⟨Nat.le_refl _,h1,by simp⟩ (by exact lk [] [0] ⟨rfl,oP,trivial⟩ (hh:=⟨(congrArg some (ay rfl (xw x h1))),trivial⟩)) ?_;apply Y 0x5a2f;intro p ys hp1 hp2 hyl
 dsimp only at hp1 hp2 hyl ⊢;apply Zu 0x2a9d<;>intro
 ·apply Y 0x76e3f93f5de37bbe181fcf2fcd0fbd0fad0ffb0faa59;refine L.copy (j:=0) (o:=p) (xs:=U8 (List.replicate p x++ys)) (ys:=U8 (List.replicate (min p (n-p)) x)) (D:=bh A30 n p 1) (dn:=n-p) rfl rfl rfl rfl rfl (fun g h _=>wt (n:=n) (p:=p) h oe) rfl rfl (Src.cast (Src.take (Src.o 0 oP) (min p (n-p))) (lC (p:=p) (k:=min p (n-p)) (ys:=ys) oe)) QW (bQ _) qX oP ?_;apply Y 0x3f1f17e3;intro e8;apply Y 0x86e5c9ae3da;refine QE.round (i:=(p,ys)) ((p+min p (n-p),ys.drop (min p (n-p)))) q7 ot (by exact lk [] [0] ⟨rfl,q8,trivial⟩ (hh:=⟨(congrArg some (ay rfl (sZ hyl hp2))),trivial⟩))
 apply Y 0xe8c8a9;obtain rfl:p=n:=oe;obtain rfl:ys=[]:=List.eq_nil_of_length_eq_zero oe;apply Y 0x91e;exact ⟨A30,rfl,rfl,by rw [List.append_nil];rfl⟩
theorem gO (BA:Option Addr)(b:List UInt8)(bc t S:Nat)(_hbl:b.length≤1000000)(hts:t*S≤1000000)(_ht:t≤1000000)(hS1:1≤S)(hS2:S≤4096)(hbc:b.length≤bc):
    Ctr X 227 [.slice BA b.length bc,.int .i64 (t:Int),.int .i64 (S:Int)] [Rd BA (U8 b)] [] (fun v R' H'=>∃ A,v=.slice A S S∧R'=[]∧H'=[Own 5 1 A S S (U8 (ctF b t S))]):=by
 refine co Tryz.func227 ?_;intro β;apply Y 0x190f;intro m1;apply Y 0x2b481a;intro A8;apply Y 0x520f7;refine al (xv 255 _ _ S hS1 hS2) ?_;apply Y 0x41e;intro A10;apply Y 0x28df0f281c1;refine sp (Ev.cast (u:=.int .i64 (((min (t*S) b.length):Nat):Int)) (Ev.cast (u:=.int .i64 (min ((t*S:Nat):Int) (b.length:Int))) (Ev.pure rfl) (congrArg (Value.int .i64) Qj)) (congrArg (Value.int .i64) oe)) ?_;refine sp (bt (l:=(min (t*S) b.length)) rfl rfl rfl rfl rfl rfl oe) ?_;refine L.copy (j:=0) (o:=0) (xs:=U8 (List.replicate S 255)) (ys:=U8 ((b.drop (min (t*S) b.length)).take (min (b.length-(min (t*S) b.length)) S))) (D:=A10) (dn:=S) rfl rfl rfl rfl rfl (fun g h _=>h) rfl rfl (Src.cast (Src.take (Src.sub (Src.r 1 rfl) bc (min (t*S) b.length) 1 oG) (min (b.length-(min (t*S) b.length)) S)) QV) (by rw [aJ,List.length_take,List.length_drop];omega) (bQ _) (by rw [aJ,aJ,List.length_take,List.length_drop,List.length_replicate];omega) rfl ?_;apply Y 0x91ee8c898;exact ⟨A10,rfl,rfl,congrArg (fun z=>[Own 5 1 A10 S S z]) (MY b (t*S) S)⟩
theorem dk (BA:Option Addr)(b:List UInt8)(bc t S:Nat)(hbl:b.length≤1000000)(hts:t*S≤1000000)(ht:t≤1000000)(hS1:1≤S)(hS2:S≤4096):
    Ctr X 27 [.slice BA b.length bc,.int .i64 (t:Int),.int .i64 (S:Int)] [Rd BA (U8 b)] [] (fun v R' H'=>∃ (A:Option Addr) (c:Nat),v=.slice A S c∧R'=[]∧H'=[Own 5 1 A S c (U8 (ctF b t S))]):=by
 refine co Tryz.func27 ?_;intro β;apply Y 0x190f;intro m1;apply Y 0x221f;intro m2;apply Y 0xf80f;intro hb2;apply Y 0xb50f481a;intro A10;apply Y 0xaa1df0f9d1;refine lp [] [] (fun q:Nat×Option Addr×Nat=>[(0,.slice BA b.length bc),(1,.int .i64 (t:Int)),(2,.int .i64 (S:Int)),(8,.int .i64 ((t*S+q.1:Nat):Int)),(7,.slice q.2.1 (ctK b (t*S) q.1).length q.2.2)]) (kz [_]) (fun q=>[Own 5 1 q.2.1 (ctK b (t*S) q.1).length q.2.2 (U8 (ctK b (t*S) q.1))]) (fun q=>q.1≤S) (fun q=>S-q.1) (0,A10,0) (Nat.zero_le _) (lk [0] [0]) ?_;apply Y 0xf1e;intro j A c hj
 dsimp only at hj ⊢;apply Zu 0x7913b1f74b1f9d<;>intro
 ·apply Y 0x1a99;refine fE (fun z:UInt8=>[(0,.slice BA b.length bc),(1,.int .i64 (t:Int)),(2,.int .i64 (S:Int)),(8,.int .i64 ((t*S+j:Nat):Int)),(7,.slice A (ctK b (t*S) j).length c),(9,.int .u8 (z.toNat:Int))]) (fun z:UInt8=>[Rd BA (U8 b)]) (fun z:UInt8=>[Own 5 1 A (ctK b (t*S) j).length c (U8 (ctK b (t*S) j))]) (fun z:UInt8=>z=ctB b (t*S+j)) ?_ ?_
  ·apply Zu 0x2a1c<;>intro
   ·apply Y 0xac;refine sp (ae (k:=t*S+j) rfl rfl rfl rfl rfl rfl rfl oe (Src.r 0 rfl) oG) ?_;apply Y 0x81e2be;refine QE.join (b.getD (t*S+j) 0) (by unfold ctB;rw [if_pos oe]) (lk [0] [0])
   apply Y 0x7a;refine QE.join (255) (by unfold ctB;rw [if_neg oe]) (lk [0] [0])
  intro z hz;have hcl:=jI b (t*S) j;apply Y 0x2bac;intro A32;refine L.append (j:=0) rfl rfl rfl rfl ob rfl rfl rfl rfl (Src.o 1 rfl) rfl (dG rfl) (by rw [jI];omega) oH rfl (fun A33 cc33=>?_);apply Y 0x9a81e;have he:=CM b (t*S) j;rw [← hz] at he;have hel:(ctK b (t*S) (j+1)).length=(ctK b (t*S) j).length+1:=qf;refine QE.round (i:=(j,A,c)) ((j+1,A33,cc33)) ot ot (by exact lk [0] [0] ⟨rfl,rfl,rfl,rfl,qF,trivial⟩ (hh:=⟨(congrArg some (ay hel.symm Ql)),trivial⟩))
 apply Y 0x91ee8c8a9;obtain rfl:j=S:=oe;have hl:=jI b (t*j) j;exact ⟨A,c,by show Value.slice A _ c=_;rw [hl],rfl,by show [Own 5 1 A _ c _]=_;rw [hl];rfl⟩
theorem xB (SA SB:Option Addr)(a b:List UInt8)(ca cb n m:Nat)(ha:a.length=n)(hb:b.length=m)(hab:a.length=b.length)(hal:a.length≤100000):
    Ctr X 81 [.slice SA n ca,.slice SB m cb] [Rd SA (U8 a),Rd SB (U8 b)] [] (fun v R' H'=>v=.int .i64 ((GX a b:Nat):Int)∧R'=[]∧H'=[]):=by
 refine co Tryz.func81 ?_;intro β;apply Y 0xe90f;intro hcl;have htt:=lX a b a.length;apply Y 0x1c1a1a;refine al (rW SA SB a b ca cb n m ha hb hab hal) ?_;apply Y 0x19;intro O oc;apply Y 0xaa1db5494a;refine lp [] [] (fun k:Nat=>[(6,.slice O (aF a b a.length).length oc),(7,.int .i64 (k:Int)),(5,.int .i64 ((5+ndS ((aF a b a.length).take k):Nat):Int))]) (kz [_]) nz (fun k=>k≤(aF a b a.length).length) (fun k=>(aF a b a.length).length-k) 0 (Nat.zero_le _) (lk [0] []) ?_;intro k hk;apply Zu 0x2a9d<;>intro
 ·apply Y 0x99;have hr:=eY (a:=a) (b:=b) (k:=a.length) (i:=k) oe;have hsu:=tD (aF a b a.length) (k:=k) oe;have htk:=tC (aF a b a.length) k;apply Y 0x4a3f8a3f6dc9ad;refine sq (Ev.load rfl rfl rfl (Src.r 0 rfl) (bG (aF a b a.length) k 1 oe ob)) ?_;apply Y 0x4a3f8a3fc98ce;refine sq (Ev.load rfl rfl rfl (Src.r 0 rfl) (bG (aF a b a.length) k 0 oe ob)) ?_;apply Y 0x9afd0f6d8ce5d1f;refine QE.round (k+1) oe oe (by exact lk [0] [] ⟨rfl,rfl,(congrArg some (congrArg (Value.int .i64) (by show (_:Int)+((4+(((aF a b a.length).getD k (0,0)).2:Int))-(((aF a b a.length).getD k (0,0)).1:Int))=_;omega))),trivial⟩)
 apply Y 0xd9c8a9;obtain rfl:k=(aF a b a.length).length:=oe;refine ⟨congrArg (fun z:Nat=>Value.int .i64 (z:Int)) ?_,rfl,rfl⟩;exact Zm 0x236e
theorem HV (B SA:Option Addr)(old:List UInt8)(l:List Sy)(bc sc:Nat)(hbl:old.length≤1000000)(hl:l.length≤1000000)(hok:Bq old l):
    Ctr X 85 [.slice B old.length bc,.slice SA l.length sc] [Rd B (U8 old),Rd SA (cT l)] [] (fun v R' H'=>∃ (A:Option Addr) (c:Nat),v=.tuple #[.slice A (bf old l).length c,.int .i64 0]∧R'=[]∧H'=[Own 5 1 A (bf old l).length c (U8 (bf old l))]):=by
 refine co Tryz.func85 ?_;intro β;apply Y 0xb50f48c8;intro A9;apply Y 0xcd49;refine lp [] [] (fun q:Nat×Option Addr×Nat=>[(0,.slice B old.length bc),(1,.slice SA l.length sc),(7,.int .i64 (q.1:Int)),(6,.slice q.2.1 (bf old (l.take q.1)).length q.2.2)]) (kz [_,_]) (fun q=>[Own 5 1 q.2.1 (bf old (l.take q.1)).length q.2.2 (U8 (bf old (l.take q.1)))]) (fun q=>q.1≤l.length) (fun q=>l.length-q.1) (0,A9,0) (Nat.zero_le _) (lk [0,1] [0]) ?_;apply Y 0xf1e;intro i A c hi
 dsimp only at hi ⊢;apply Y 0xef1f;intro hrl;apply Zu 0x2a9d<;>intro
 ·apply Y 0xff0f970f1c99;refine sp (Ev.load rfl rfl rfl (Src.r 1 rfl) ((eK (i:=i) (j:=2) oe ob).trans rfl)) ?_;apply Y 0x1;refine fE (fun z:UInt8=>[(0,.slice B old.length bc),(1,.slice SA l.length sc),(7,.int .i64 (i:Int)),(6,.slice A (bf old (l.take i)).length c),(8,.int .u8 (z.toNat:Int))]) (fun z:UInt8=>[Rd B (U8 old),Rd SA (cT l)]) (fun z:UInt8=>[Own 5 1 A (bf old (l.take i)).length c (U8 (bf old (l.take i)))]) (fun z:UInt8=>z=DJ old (l.getD i Sy.zero)) ?_ ?_
  ·apply Y 0xff0f970f1c;refine sp (Ev.load rfl rfl rfl (Src.r 1 rfl) ((eK (i:=i) (j:=0) oe ob).trans rfl)) ?_;apply Zu 0x3a98<;>intro hc25
   ·have hat:=hok i oe hc25;apply Y 0x61e28983fff0f970f9d;refine al (IR (l.getD i Sy.zero).at_ 0 ((old.length:Int)-1)) ?_;apply Zu 0x3a14a88<;>intro hc35
    ·have h36:=of_decide_eq_false ((Bool.not_eq_true' _).mp hc35);exact Zm 0x18
    apply Y 0x2bed63f983fff0f970f28ac59;refine sp (Al rfl rfl) ?_;apply Y 0x81e;refine QE.join (((l.getD i Sy.zero).b+old.getD (l.getD i Sy.zero).at_.toNat 0)) (by unfold DJ;rw [if_pos hc25]) (lk [0,1] [0])
   apply Y 0x7a;refine QE.join ((l.getD i Sy.zero).b) (by unfold DJ;rw [if_neg (by rw [hc25];decide)]) (lk [0,1] [0])
  intro z hz;apply Y 0x2bac;intro A48;apply Y 0xdc2f;intro A49 cc49;apply Y 0xa72f9a81e;intro he;rw [← hz] at he;apply Y 0xdf1f;intro hel;refine QE.round (i:=(i,A,c)) ((i+1,A49,cc49)) ot ot (by exact lk [0,1] [0] ⟨rfl,rfl,rfl,qF,trivial⟩ (hh:=⟨(congrArg some (ay hel.symm Ql)),trivial⟩))
 apply Y 0x22ee8d848a9;obtain rfl:i=l.length:=oe;exact Zm 0x18e36e
theorem mE (B:Option Addr)(old:List UInt8)(bc:Nat)(lf:Bool)(inn out:Int)(ops:List Po)(OA:Option Addr)(oc:Nat)(hops:ops.length≤9223372036854775807)(hbl:old.length≤1000000)(hlf:lf=false)(hE:cF inn out ops=0)(hin:inn=(old.length:Int)):
    Ctr X 41 [.slice B old.length bc,.agg (List.toArray [.bool lf,.int .i64 inn,.int .i64 out,.slice OA ops.length oc])] [Rd B (U8 old),Rd OA (ck ops)] [] (fun v R' H'=>∃ (A:Option Addr) (c:Nat),v=.tuple #[.slice A (bf old (syS inn out ops)).length c,.int .i64 0]∧R'=[]∧H'=[Own 5 1 A (bf old (syS inn out ops)).length c (U8 (bf old (syS inn out ops)))]):=by
 refine co Tryz.func41 ?_;intro β;have hrun:=uB hE hin;subst hlf;apply Y 0x6a;intro A3;apply Y 0x98edb538;refine al (iT false inn out ops OA oc hops) ?_;apply Y 0x19;intro SA sc;apply Zu 0xdd38db55d8284a<;>intro hc21
 ·exact absurd hE hc21
 apply Zu 0x3a983b58c859<;>intro hc25
 ·cases hc25
 apply Zu 0xdd13b9d59<;>intro
 ·exact Zm 0x18
 apply Y 0x1c59;refine al (HV B SA old (syS inn out ops) bc sc hbl hrun.2 hrun.1) ?_;apply Y 0x19;intro YA yc;apply Zu 0x3a13b58d8284a<;>intro hc48
 ·exact Zm 0xd41f22e89d848
 cases hc48
theorem rangesV_at:∀ (l:List (Nat×Nat)) (k:Nat),k<l.length→((a6 l).drop (k*2)).take 2=[.int .i64 ((l.getD k (0,0)).1:Int),.int .i64 ((l.getD k (0,0)).2:Int)]
  |[],_,h=>absurd h (Nat.not_lt_zero _)
  |_::_,0,_=>rfl
  |_::l,k+1,h=>by
    rw [show (k+1)*2=k*2+2 from by omega]
    exact rangesV_at l k qP
theorem FE (BA:Option Addr)(old:List UInt8)(bc:Nat)(sz n:Int)(lf:Bool)(inn out:Int)(ops:List Po)(seq st:List Int)(OA QA HA:Option Addr)(oc qc hc:Nat)(hops:ops.length≤9223372036854775807)(hql:seq.length≤1000000)(hhl:st.length≤1000000)(hol:old.length≤9223372036854775807)(hbc:old.length≤bc):
    Ctr X 183 [.slice BA old.length bc,.agg (List.toArray [.int .i64 sz,.int .i64 n,.bool lf,.int .i64 inn,.int .i64 out,.slice OA ops.length oc,.slice QA seq.length qc,.slice HA st.length hc])] [Rd BA (U8 old),Rd OA (ck ops),Rd QA (I64 seq),Rd HA (I64 st)] [] (fun v R' H'=>v=.tuple #[.agg (List.toArray [.int .i64 (eQ lf sz n inn out ops seq st old).s,.int .i64 (eQ lf sz n inn out ops seq st old).u,.int .i64 (eQ lf sz n inn out ops seq st old).r,.int .i64 (eQ lf sz n inn out ops seq st old).e,.int .i64 (eQ lf sz n inn out ops seq st old).o]),.int .i64 (dM lf sz n inn out ops seq st old)]∧R'=[]∧H'=[]):=by
 refine co Tryz.func183 ?_;intro β;apply Y 0x6a;intro A3;apply Y 0xa8;intro A4;apply Zu 0x3a384a88c23ff7e788c7c5aa49<;>intro hc19
 ·have hvl:eD lf sz n inn out ops seq st=false:=Q5;apply Y 0x622fa9e2d16b8b;intro hE;apply Y 0x5a0f;intro hV;exact Zm 0x33e35e
 apply Zu 0xdd38f821e1c<;>intro hc24
 ·have hne:(old.length:Int)≠inn:=hc24;apply Y 0x232f;intro hvl;apply Y 0x722fa9e2d16b8b;intro hE;apply Y 0x5a0f;intro hV;exact Zm 0x33e35e
 have hin:(old.length:Int)=inn:=hc24;apply Y 0x232f;intro hvl;apply Y 0xca0f;intro hE0 hlf0 hszb0;apply Y 0x9a0f;intro hseq;apply Y 0xefe;intro hszb;subst hlf0;obtain ⟨S,rfl⟩:∃ q:Nat,sz=(q:Int):=⟨sz.toNat,by omega⟩;obtain ⟨n,rfl⟩:∃ q:Nat,n=(q:Int):=⟨n.toNat,by omega⟩;rw [Int.toNat_natCast,Int.toNat_natCast] at hseq;apply Y 0xffe;intro hS1 hS2 hn1 hn2 hi1 hi2;apply Y 0x4ee;intro hcl;apply Y 0x790f;intro hk64;apply Y 0xda0f;intro k1 k2 k3 k4 k5 k6;apply Y 0x1de;intro hsl;apply Y 0xff1f;intro hnl;apply Y 0x922f;intro hol2;apply Y 0x890f;intro hsy;apply Y 0x98e21eb9fb7a;refine al (zR BA old bc false inn out ops OA oc hops rfl hE0 hin.symm) ?_;rw [hsy];apply Y 0x19;intro NA nc;apply Y 0x29e5d8282c;intro hnc;apply Y 0xaa383b5838788c7c;refine lp [] [] (fun i:Nat=>[(0,.slice BA old.length bc),(3,ag A3 0),(4,ag A4 0),(6,.slice NA (bf old (ah ops)).length nc),(40,.slice QA seq.length qc),(41,.int .i64 (seq.length:Int)),(42,.int .i64 (i:Int)),(8,.int .i64 (((ndT old (bf old (ah ops)) S (seq.take i)):Nat):Int)),(9,.int .i64 (((ndG old (bf old (ah ops)) S (seq.take i)):Nat):Int))]) (kz [_,_,_,_,_,_]) (kz [_]) (fun i=>i≤seq.length) (fun i=>seq.length-i) 0 (Nat.zero_le _) (lk [0,1,2,3,4,5] [0]) ?_;intro i hi;apply Zu 0x7930e<;>intro
 ·apply Y 0xc82f599;intro t hst htn htc;apply Y 0x990f;intro htS;apply Y 0x473f78;refine sp (Ev.cast (u:=.int .i64 (t:Int)) (Ev.load rfl rfl rfl (Src.r 4 rfl) (aG oe)) (congrArg (Value.int .i64) hst)) ?_;apply Y 0xdae43e550f530e1;refine mq 2 rfl (faR 1) ?_;apply Y 0x5aea6eaa1f;refine mq 7 rfl (faR 1) ?_;refine mq 8 rfl (ldR 1) ?_;apply Y 0x4aece0f;refine al (gO BA old bc t S oe oe oe hS1 hS2 hbc) ?_;apply Y 0x41e;intro A50;apply Y 0x96e32c;refine al (gO NA (bf old (ah ops)) nc t S oe oe oe hS1 hS2 hnc) ?_;apply Y 0x41e;intro A55;apply Y 0x27e370e;refine al (zI A50 A55 (ctF old t S) (ctF (bf old (ah ops)) t S) S S S S (b9 _ _ _) (b9 _ _ _) (by rw [b9,b9]) (by rw [b9];omega)) ?_;apply Y 0x19;intro O oc2;apply Y 0x3734e38de;refine LM.nil oa hcx ?_;apply Y 0x45e26eaa8a;refine lp [] [] (fun k:Nat=>[(0,.slice BA old.length bc),(3,ag A3 0),(4,ag A4 0),(6,.slice NA (bf old (ah ops)).length nc),(40,.slice QA seq.length qc),(41,.int .i64 (seq.length:Int)),(42,.int .i64 (i:Int)),(8,.int .i64 (((ndT old (bf old (ah ops)) S (seq.take i)):Nat):Int)),(9,.int .i64 (((ndG old (bf old (ah ops)) S (seq.take i)):Nat):Int)),(56,.slice O (aF (ctF old t S) (ctF (bf old (ah ops)) t S) (ctF old t S).length).length oc2),(57,.int .i64 ((aF (ctF old t S) (ctF (bf old (ah ops)) t S) (ctF old t S).length).length:Int)),(58,.int .i64 (k:Int)),(12,.int .i64 ((5+ndS ((aF (ctF old t S) (ctF (bf old (ah ops)) t S) (ctF old t S).length).take k):Nat):Int))]) (kz [_,_,_,_,_,_,_]) (kz [_]) (fun k=>k≤(aF (ctF old t S) (ctF (bf old (ah ops)) t S) (ctF old t S).length).length) (fun k=>(aF (ctF old t S) (ctF (bf old (ah ops)) t S) (ctF old t S).length).length-k) 0 (Nat.zero_le _) (lk [0,1,2,3,4,5,6] [2]) ?_;intro k hk;apply Zu 0x7930e<;>intro
  ·apply Y 0x599;have hcl9:=eX (ctF old t S) (ctF (bf old (ah ops)) t S) (ctF old t S).length;apply Y 0x2a0f;intro hcfl;apply Y 0x78;refine sp (cn (k:=k) (m:=k*2) rfl rfl rfl rfl rfl oe oe (Src.r 0 rfl) (bA (k:=k) oe) rfl) ?_;refine sp (ab (vs:=[.int .i64 (((aF (ctF old t S) (ctF (bf old (ah ops)) t S) (ctF old t S).length).getD k (0,0)).1:Int),.int .i64 (((aF (ctF old t S) (ctF (bf old (ah ops)) t S) (ctF old t S).length).getD k (0,0)).2:Int)]) rfl rfl rfl (Src.r 0 rfl) (rangesV_at (aF (ctF old t S) (ctF (bf old (ah ops)) t S) (ctF old t S).length) k oe) rfl ob) ?_;apply Y 0xa8;intro A14;apply Y 0x984c;have hr:=eY (a:=(ctF old t S)) (b:=(ctF (bf old (ah ops)) t S)) (k:=(ctF old t S).length) (i:=k) oe;have hsu:=tD (aF (ctF old t S) (ctF (bf old (ah ops)) t S) (ctF old t S).length) (k:=k) oe;apply Y 0xb62f;intro htk;apply Y 0xa62f;intro htt;apply Y 0x2a0f;intro hcfl;apply Y 0x20efbdce61efadafaab;refine QE.round (k+1) oe oe (by exact lk [0,1,2,3,4,5,6] [0] ⟨rfl,rfl,rfl,rfl,rfl,rfl,rfl,rfl,rfl,rfl,rfl,rfl,(congrArg some (congrArg (Value.int .i64) (by show (_:Int)+((4+(((aF (ctF old t S) (ctF (bf old (ah ops)) t S) (ctF old t S).length).getD k (0,0)).2:Int))-(((aF (ctF old t S) (ctF (bf old (ah ops)) t S) (ctF old t S).length).getD k (0,0)).1:Int))=_;omega))),trivial⟩)
  apply Y 0xb62fa9;intro htk;apply Y 0xa62f;intro htt;apply Y 0x2a0f;intro hcfl;apply Y 0xc62f;intro hTi;apply Y 0x662f;intro hGi;apply Y 0x28daac;refine sp (Ev.cast (u:=.int .i64 (max (((ndG old (bf old (ah ops)) S (seq.take i)):Nat):Int) ((5+ndS ((aF (ctF old t S) (ctF (bf old (ah ops)) t S) (ctF old t S).length).take k):Nat):Int))) (Ev.pure rfl) (congrArg (Value.int .i64) O7)) ?_;apply Y 0x20efb60e28;obtain rfl:k=(aF (ctF old t S) (ctF (bf old (ah ops)) t S) (ctF old t S).length).length:=oe;apply Y 0xe62f;intro hsT;apply Y 0x862f;intro hsG;have hsR:ndR old (bf old (ah ops)) S (seq.getD i 0)=5+ndS ((aF (ctF old t S) (ctF (bf old (ah ops)) t S) (ctF old t S).length).take (aF (ctF old t S) (ctF (bf old (ah ops)) t S) (ctF old t S).length).length):=by rw [hst,List.take_length];rfl
  refine QE.round (i+1) oe oe (by exact lk [1,2,3,4,5,6] [0] ⟨rfl,rfl,rfl,rfl,rfl,rfl,rfl,(congrArg some (congrArg (Value.int .i64) oe)),(congrArg some (congrArg (Value.int .i64) oe)),trivial⟩)
 apply Y 0x55a9;obtain rfl:i=seq.length:=oe;apply Zu 0x2a7836e<;>intro
 ·apply Y 0x522fa9e8916b8b;intro hE;apply Y 0xf62f;intro hV;exact Zm 0x33e35e
 apply Y 0xd62fbd;intro hT;rw [List.take_length] at hT;apply Y 0x762f;intro hG;rw [List.take_length] at hG;apply Y 0xaf1f;intro hU;apply Y 0x550f;refine mq 0 rfl (faR 1) ?_;refine mq 1 rfl (ldR 1) ?_;apply Y 0xade9de;refine mq 4 rfl (faR 1) ?_;refine mq 5 rfl (ldR 1) ?_;apply Y 0x343f;refine mq 7 rfl (Ev.sub rfl rfl oe oe) ?_;refine mq 8 rfl (faR 1) ?_;refine mq 9 rfl (ldR 1) ?_;refine mq 10 rfl (Ev.cast (u:=.int .i64 (((ndU (ndT old (bf old (ah ops)) S seq) S):Nat):Int)) (Ev.quo rfl rfl oe oe oe) (congrArg (Value.int .i64) OO)) ?_;apply Y 0x4a1f3a1f;refine mq 13 rfl (Ev.mul rfl rfl oe oe) ?_;apply Y 0xe20f;refine mq 15 rfl (Ev.cast (u:=.int .i64 (((2*S+(ndG old (bf old (ah ops)) S seq)):Nat):Int)) (Ev.add rfl rfl oe oe) (congrArg (Value.int .i64) oe)) ?_;refine mq 16 rfl (Ev.build rfl rfl rfl rfl rfl rfl rfl) ?_;refine mfo 17 ?_;apply Y 0xa8;intro A15;apply Y 0x69;refine fx 18 rfl oa trivial ?_;apply Y 0x9f1f49953fda15e7dafafa48383b488afc4c;intro hNN;apply Y 0x502f;intro hW1;apply Y 0x962f;intro hCq;apply Y 0x8f1f49753fb53fc53fc93f61e3bab;intro hCC;apply Y 0x422fa9ee816bb70f48989ca53f15e7da7dada15e7da15efa15efa48989c853f7dada15e7dafafa78;intro hE;have hV:=lV hE;rw [Int.toNat_natCast] at hV;exact Zm 0x33e35e
theorem lU (BA:Option Addr)(old:List UInt8)(bc:Nat)(sz n:Int)(lf:Bool)(inn out:Int)(ops:List Po)(seq st:List Int)(OA QA HA:Option Addr)(oc qc hc:Nat)(hops:ops.length≤9223372036854775807)(hql:seq.length≤1000000)(hhl:st.length≤1000000)(hol:old.length≤9223372036854775807)(_hbc:old.length≤bc):
    Ctr X 39 [.slice BA old.length bc,.agg (List.toArray [.int .i64 sz,.int .i64 n,.bool lf,.int .i64 inn,.int .i64 out,.slice OA ops.length oc,.slice QA seq.length qc,.slice HA st.length hc])] [Rd BA (U8 old),Rd OA (ck ops),Rd QA (I64 seq),Rd HA (I64 st)] [] (fun v R' H'=>v=.tuple #[.agg (List.toArray [.int .i64 (eQ lf sz n inn out ops seq st old).s,.int .i64 (eQ lf sz n inn out ops seq st old).u,.int .i64 (eQ lf sz n inn out ops seq st old).r,.int .i64 (eQ lf sz n inn out ops seq st old).e,.int .i64 (eQ lf sz n inn out ops seq st old).o]),.int .i64 (dM lf sz n inn out ops seq st old)]∧R'=[]∧H'=[]):=by
 refine co Tryz.func39 ?_;intro β;apply Y 0x6a;intro A3;apply Y 0xa8;intro A4;apply Zu 0x3a385814a88d23ff7e788c7c49<;>intro hc22
 ·have hvl:eD lf sz n inn out ops seq st=false:=oai;apply Y 0x622fa9e8916b8b;intro hE;apply Y 0x5a0f;intro hV;exact Zm 0x33e35e
 apply Zu 0xdd1f821e9d59<;>intro hc29
 ·have hne:(old.length:Int)≠inn:=hc29;apply Y 0x332f;intro hvl;apply Y 0x722fa9e8916b8b;intro hE;apply Y 0x5a0f;intro hV;exact Zm 0x33e35e
 have hin:(old.length:Int)=inn:=hc29;apply Y 0x332f;intro hvl;apply Y 0xca0f;intro hE0 hlf0 hszb0;apply Y 0x9a0f;intro hseq;apply Y 0xefe;intro hszb;subst hlf0;obtain ⟨S,rfl⟩:∃ q:Nat,sz=(q:Int):=⟨sz.toNat,by omega⟩;obtain ⟨n,rfl⟩:∃ q:Nat,n=(q:Int):=⟨n.toNat,by omega⟩;rw [Int.toNat_natCast,Int.toNat_natCast] at hseq;apply Y 0xffe;intro hS1 hS2 hn1 hn2 hi1 hi2;apply Y 0x4ee;intro hcl;apply Y 0x790f;intro hk64;apply Y 0xda0f;intro k1 k2 k3 k4 k5 k6;apply Y 0x1de;intro hsl;apply Y 0xff1f;intro hnl;apply Y 0x922f;intro hol2;apply Y 0x890f;intro hsy;apply Y 0x98e21eb959;refine al (mE BA old bc false inn out ops OA oc hops oe rfl hE0 hin.symm) ?_;rw [hsy];apply Y 0x19;intro NA nc;apply Y 0xcd30e1788c7c5d8282c;refine lp [] [] (fun i:Nat=>[(0,.slice BA old.length bc),(3,ag A3 0),(4,ag A4 0),(7,.slice NA (bf old (ah ops)).length nc),(11,.int .i64 (i:Int)),(9,.int .i64 (((ndT old (bf old (ah ops)) S (seq.take i)):Nat):Int)),(10,.int .i64 (((ndG old (bf old (ah ops)) S (seq.take i)):Nat):Int))]) (kz [_,_,_,_,_,_]) (kz [_]) (fun i=>i≤seq.length) (fun i=>seq.length-i) 0 (Nat.zero_le _) (lk [0,1,2,3,4,5] [0]) ?_;intro i hi;apply Zu 0x2a3b758<;>intro
 ·apply Y 0xc82f599;intro t hst htn htc;apply Y 0x990f;intro htS;apply Y 0xade1ceeae43e550f;refine mq 4 rfl (ae (k:=i) rfl rfl rfl rfl rfl rfl rfl oe (Src.r 4 rfl) ov) ?_;refine mq 5 rfl (Ev.cast (u:=.int .i64 (t:Int)) (Ev.load rfl rfl rfl (Src.r 4 rfl) (aG oe)) (congrArg (Value.int .i64) hst)) ?_;refine mq 6 rfl (faR 1) ?_;refine mq 7 rfl (ldR 1) ?_;apply Y 0x55e;refine mq 10 rfl (faR 1) ?_;refine mq 11 rfl (ldR 1) ?_;apply Y 0xce0f;refine mq 13 rfl (ae (k:=i) rfl rfl rfl rfl rfl rfl rfl oe (Src.r 4 rfl) ov) ?_;refine mq 14 rfl (Ev.cast (u:=.int .i64 (t:Int)) (Ev.load rfl rfl rfl (Src.r 4 rfl) (aG oe)) (congrArg (Value.int .i64) hst)) ?_;refine mq 15 rfl (faR 1) ?_;refine mq 16 rfl (ldR 1) ?_;apply Y 0x74e;refine al (dk BA old bc t S oe oe oe hS1 hS2) ?_;apply Y 0x19;intro A53 c53;apply Y 0x692c;refine fx 17 rfl oa trivial ?_;refine al (dk NA (bf old (ah ops)) nc t S oe oe oe hS1 hS2) ?_;apply Y 0x19;intro A62 c62;apply Y 0x370e;refine fx 18 rfl oa trivial ?_;refine al (xB A53 A62 (ctF old t S) (ctF (bf old (ah ops)) t S) c53 c62 S S (b9 _ _ _) (b9 _ _ _) (by rw [b9,b9]) (by rw [b9];omega)) ?_;apply Y 0x58a5cc71f370e88;have hrl:=xC (ctF old t S) (ctF (bf old (ah ops)) t S);apply Y 0x2a0f;intro hcfl;apply Y 0xc62f;intro hTi;apply Y 0x662f;intro hGi;apply Y 0xac1daac;refine sp (Ev.cast (u:=.int .i64 (max (((ndG old (bf old (ah ops)) S (seq.take i)):Nat):Int) ((GX (ctF old t S) (ctF (bf old (ah ops)) t S):Nat):Int))) (Ev.pure rfl) (congrArg (Value.int .i64) O7)) ?_;apply Y 0xe62f9a81e;intro hsT;apply Y 0x862f;intro hsG;have hsR:ndR old (bf old (ah ops)) S (seq.getD i 0)=GX (ctF old t S) (ctF (bf old (ah ops)) t S):=by rw [hst];rfl
  refine QE.round (i+1) oe oe (by exact lk [0,1,2,3,4,5] [2] ⟨rfl,rfl,rfl,rfl,rfl,(congrArg some (congrArg (Value.int .i64) oe)),(congrArg some (congrArg (Value.int .i64) oe)),trivial⟩)
 apply Y 0x55a9;obtain rfl:i=seq.length:=oe;apply Zu 0x2a7836e<;>intro
 ·apply Y 0x522fa9e8916b8b;intro hE;apply Y 0xf62f;intro hV;exact Zm 0x33e35e
 apply Y 0xd62fbd;intro hT;rw [List.take_length] at hT;apply Y 0x762f;intro hG;rw [List.take_length] at hG;apply Y 0xaf1f;intro hU;apply Y 0x3b61eda3bab;refine sp (Ev.cast (u:=.int .i64 (((ndU (ndT old (bf old (ah ops)) S seq) S):Nat):Int)) (Ev.quo rfl rfl oe oe oe) (congrArg (Value.int .i64) OO)) ?_;apply Y 0x9f1f49953fda15e7da1c383b48383b481;intro hNN;apply Y 0x502f;intro hW1;apply Y 0x962f;intro hCq;apply Y 0x8f1f49753fb53f1c1c53fc93f61e3b78;intro hCC;apply Y 0x715e3bac;refine sp (Ev.cast (u:=.int .i64 (((2*S+(ndG old (bf old (ah ops)) S seq)):Nat):Int)) (Ev.add rfl rfl oe oe) (congrArg (Value.int .i64) oe)) ?_;apply Y 0x422fa9ee816bbaa53f15e7da7dada15e7da15e715e7853f7dada15e7da28;intro hE;have hV:=lV hE;rw [Int.toNat_natCast] at hV;exact Zm 0x33e35e
end Go.Proofs.YtbpddeiogcgegaaGreat
namespace Go.Sl
theorem ja {P:Program}(w:World)(t tn ty e:TypeId)(i:TypeInfo)(z:Value)(k kn:IntKind)(ht:P.underlying t=some (.slice e))(htn:P.underlying tn=some (.int kn))(hi:P.info? e=some i)(hz:i.zero=some z)
    (q:Nat) (h0:0<q) (hs:0<i.size) (h63:((q:Nat):Int)≤9223372036854775807) (h48:q*i.bytes≤281474976710656) (hfit:Builtin.nextslicecap q 0*i.bytes≤281474976710656):
    (Builtin.append_ #[t,tn] ty #[.slice none 0 0,.int k q]).run P w=
      .ok (.slice (some ⟨w.heap.size,0,none⟩) q (grownCap w q 0 e))
        (w.drew.alloc (.cells (Builtin.zeroCells z.cells q++Builtin.zeroCells z.cells (grownCap w q 0 e-q)) e)):=by
 have hn:¬ (q≤0):=oe;apply Y 0x702f;intro hw;have h63':¬ (9223372036854775807<(q:Int)):=oe;have h48':¬ (281474976710656<Builtin.nextslicecap q 0*i.bytes):=oe;have h48i:¬ (281474976710656<(q:Int)*(i.bytes:Int)):=by
  exact Zm 0x18ed1f
 apply Y 0x632f;intro hneg;apply Y 0x932f;intro hns;have hq0:¬ q=0:=oe
 simp [Builtin.append_,run_underlying ht,run_underlying htn,sizeOf,typeInfo,zeroValue,hi,hz,asInt,asIntOf,hw,hneg,hns,h63',h48',h48i,Question.forced,run_firstCells_none,newRow,grownCap,hq0]
section
variable {X:Cx}{β:Base}{n:Nat}{ds:List Deferred}{ops:Array Oper}{Q:Exit→Act→World→Prop}{rest:List Oper}{Γ:Env}{R H:List Pr}
theorem EA {d t tn e ty q:Nat}{pos:String}{af:Array Edge}{x y:Operand}{i ei it:Ti}{kn kq:IntKind}{z:Value}(ht:au t X.tab=some i)(hdesc:i.desc=.slice e)(he:au e X.tab=some ei)(hsz:ei.size=1)(hz:ei.zero=z)(hzc:z.cells=#[z])
    (htn:au tn X.tab=some it) (hit:it.desc=.int kn) (hx:ev Γ x=some (.slice none 0 0)) (hy:ev Γ y=some (.int kq (q:Int))) (hq:0<q)
    (hml:q≤9223372036854775807) (hb:q*ei.bytes≤140737488355328) (hd:Nat.blt d n=true)
    (k:∀ A' c',L X β n ds ops Q rest ((d,.slice A' q c')::Γ) R (H++[Own e 1 A' q c' (List.replicate q z)])):
    L X β n ds ops Q (⟨some d,.call ⟨.builtin .append,#[x,y],#[t,tn]⟩,ty,pos,af,none⟩::rest) Γ R H:=by
 intro a w hf hsat;refine wpList_plain rfl fun K hK=>?_
 obtain ⟨e1,_⟩:=X.ok _ _ ht;rw [hdesc] at e1;obtain ⟨e2,_⟩:=X.ok _ _ htn;rw [hit] at e2;obtain ⟨_,jf,hjf,g1,g2,g3⟩:=X.ok _ _ he;have hfit:Builtin.nextslicecap q 0*jf.bytes≤281474976710656:=by
  have h1:=nextslicecap_le (need:=q) (old:=0) oe;apply Y 0x252f;intro h2;rw [g2] at h2 ⊢;have h3:2*q*ei.bytes=2*(q*ei.bytes):=Nat.mul_assoc _ _ _;exact Zm 0x18
 have hqb:q*jf.bytes≤281474976710656:=by rw [g2];omega
 have hrun:=ja (P:=X.P) w t tn ty e jf ei.zero kq kn e1 e2 hjf g3 q hq (by rw [g1,hsz];decide) oe hqb hfit;have hrun':(execOp a.eval ⟨some d,.call ⟨.builtin .append,#[x,y],#[t,tn]⟩,ty,pos,af,none⟩).run X.P w=.ok (.value (.slice (some ⟨w.heap.size,0,none⟩) q (grownCap w q 0 e))) (w.drew.alloc (.cells (Builtin.zeroCells ei.zero.cells q++Builtin.zeroCells ei.zero.cells (grownCap w q 0 e-q)) e)):=by
  exact Zm 0x140f
 apply Y 0xe3e;rw [hrun'];have hge:=grownCap_ge w q 0 e;have hle:=grownCap_le_maxLen w q 0 e Qa;apply Y 0x142f;intro hz1;refine hK _ _ (k (some ⟨w.heap.size,0,none⟩) _ _ _ (hf.put oQ _) (hsat.snoc ((Stp.drew w _).trans (Stp.alloc _ _ _)) (fun _ h _=>h) _ ?_ ?_))
 ·refine ⟨by rw [List.length_replicate,Nat.mul_one],.inr ⟨w.heap.size,_,_,rfl,Nat.zero_le _,heap_alloc_new w.drew _,hge,hle,?_,?_⟩⟩
  ·rw [Array.size_append,hz1,hz1];exact Zm 0x18
  rw [Array.toList_append,hz,fy hzc];have h1:(List.replicate q z).length=q*1:=by rw [List.length_replicate,Nat.mul_one]
  rw [← h1,List.take_left]
 intro k hk;have:=kF hk;subst this;exact Zm 0x220f
theorem Own.empty {w:World}{e m c:Nat}{A:Option Addr}{xs:List Value}(h:(Own e 1 A m c xs).p w):(Own e 1 A 0 c []).p w:=by
 refine ⟨rfl,?_⟩
 rcases h.2 with ⟨hv,h0⟩|⟨g,cap,cur,hv,hb,hh,h3,h4,h5,h6⟩
 ·injection hv with h7 h8 h9
  subst h7 h9
  exact .inl ⟨rfl,rfl⟩
 injection hv with h7 h8 h9
 subst h7 h9
 exact .inr ⟨g,c,cur,rfl,hb,hh,Nat.zero_le _,h4,h5,by simp⟩
theorem L.empty {e m c:Nat}{A:Option Addr}{xs:List Value}{H':List Pr}(h:L X β n ds ops Q rest Γ R (Own e 1 A 0 c []::H')):L X β n ds ops Q rest Γ R (Own e 1 A m c xs::H'):=
  fun a w hf hs=>h a w hf (hs.repl (fun h=>Own.empty h) (fun _ hk=>hk))
theorem Ac {A B:Option Addr}{xs ys:List Value}(c d:Nat)(h1:Has R H (Rd A xs))(h2:Has R H (Rd B ys)):Has R H (aS [(A,c),(B,d)] [xs,ys]):=by
 have key:∀ (i:Nat) (h:Hd) (v:List Value),[(A,c),(B,d)][i]?=some h→[xs,ys][i]?=some v→Has R H (Rd h.1 v):=by
  intro i h v hh hv
  match i,hh,hv with
  |0,hh,hv=>
   obtain rfl:(A,c)=h:=obi;obtain rfl:xs=v:=obk
   exact h1
  |1,hh,hv=>
   obtain rfl:(B,d)=h:=obi;obtain rfl:ys=v:=obk
   exact h2
  |i+2,hh,hv=>simp at hh
 exact ⟨fun β w hs i h v hh hv=>(key i h v hh hv).1 β w hs,fun k ⟨i,h,v,hh,hv,hk⟩=>(key i h v hh hv).2 k hk⟩
theorem j9 {t e m k:Nat}{x:Operand}{i ei:Ti}{A:Option Addr}{xs:List Value}(ht:au t X.tab=some i)(hd:i.desc=.array m e)(he:au e X.tab=some ei)(hx:ev Γ x=some (ag A k))(hs:Src R H A xs)(h0:k<xs.length):
    Ev X β Γ R H (.slice t x none none none) (.slice (A.map (·.add k)) m m):=by
 intro ρ w hρ hw o ho;apply Y 0x46e;intro e1;rw [hd] at e1;apply Y 0xe8e;intro hS;obtain ⟨a,rfl,_⟩:=hs β w hw k xs[k] (by simp [h0]);have hz:(a.add k).add 0=a.add k:=by simp [Addr.add]
 simp [execOp,ho,hρ _ _ hx,ag,Instr.sliceAt,Instr.sureAddr,Instr.sliceBounds,run_underlying e1,hS,hz]
theorem Has.at {A:Option Addr}{xs:List Value}(h:Has R H (Rd A xs))(k m:Nat):Has R H (Rd (A.map (·.add k)) ((xs.drop k).take m)):=by
 have h1:=h.sub (xs.length+k+1) k 1 m oe
 unfold bh at h1;rw [if_neg oe,Nat.mul_one] at h1
 exact h1
end
end Go.Sl
