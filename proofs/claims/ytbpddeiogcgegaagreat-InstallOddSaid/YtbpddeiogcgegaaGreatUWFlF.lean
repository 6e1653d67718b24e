/-
  Part of a proof.
-/
import Derived.Test.YtbpddeiogcgegaaGreatUWFlA
set_option maxHeartbeats 0
set_option maxRecDepth 4000
set_option linter.all false
namespace Go.Proofs.YtbpddeiogcgegaaGreat
open Go.Sl
theorem ug (f:Fl)(a:Fa)(ok:f.Ok)(hh:a.hs.length=f.data.length):
    Ctr X 28 [flV f a] (flR f a) [] (fun v R' H'=>∃ b:Fa,v=flV f b∧R'=[]∧H'=flO f b∧b.hs.length=f.data.length):=by
 obtain ⟨os1,os2,on1,on2,owl,odl,orows,ol1,ol2,owear⟩:=ok;refine co Tryz.func28 ?_;intro β;apply Y 0x6a;intro A1;apply Y 0xa8;intro A2;apply Y 0x7ccb;refine C.join (fun q:Option Addr×Option Addr×Nat×Option Addr×Nat=>[(0,flV f a),(1,ag A1 0),(2,ag A2 0),(3,ag q.1 0)]) (fun q:Option Addr×Option Addr×Nat×Option Addr×Nat=>[Rd A1 (flL f a),Rd a.D (aC a.hs (B8 f.data)),aS a.hs (B8 f.data),Rd a.W (I64 f.wear),Rd a.E (Bs f.dead)]) (fun q:Option Addr×Option Addr×Nat×Option Addr×Nat=>[Own 34 5 A2 1 1 [.int .i64 0,.slice none 0 0,.slice none 0 0,.int .i64 0,.slice none 0 0],Own 34 5 q.1 1 1 [.int .i64 (f.size:Int),.slice none 0 0,.slice q.2.1 f.wear.length q.2.2.1,.int .i64 f.limit,.slice q.2.2.2.1 f.dead.length q.2.2.2.2],Own 3 1 q.2.1 f.wear.length q.2.2.1 (I64 f.wear),Own 4 1 q.2.2.2.1 f.dead.length q.2.2.2.2 (Bs f.dead)]) (fun q:Option Addr×Option Addr×Nat×Option Addr×Nat=>True) ?_ ?_
 ·refine aE [_,_,_,_,_] (Hq [0,1,2,3,4] rfl) ?_;apply Y 0xba1f1f0f270ff60fd60fdee;refine mq 9 rfl (faR 0) ?_;refine mq 10 rfl (ldR 0) ?_;refine LM.alt [4,8,13] oa ob hcx ⟨⟨_,rfl,?_⟩,⟨_,rfl,?_⟩,⟨_,rfl,?_⟩,trivial⟩
  ·apply Y 0x2b;intro A9;apply Y 0x3;refine LM.alt [7,8,13] oa ob hcx ⟨⟨_,rfl,?_⟩,⟨_,rfl,?_⟩,⟨_,rfl,?_⟩,trivial⟩
   ·apply Y 0x850f;intro A12 cc12;apply Y 0x3;refine LM.alt [8,13] oa ob hcx ⟨⟨_,rfl,?_⟩,⟨_,rfl,?_⟩,trivial⟩
    ·apply Y 0x2b;intro A13;apply Zu 0xb71f3
     ·apply Y 0x420f;intro A16 cc16;apply Y 0xa8b5ebe0f3;intro A3;exact Zm 0xf50ffc56ef2e69
     apply Y 0xa8;intro A3;apply Y 0x420f34e3;intro A16 cc16;exact Zm 0xf50ffc56ef2e69bab3e3
    apply Y 0xa8;intro A3;apply Y 0x2b74e3;intro A13;apply Y 0x950f34e3;intro A16 cc16;exact Zm 0x681ffca3ef2e69bab3e3
   ·apply Y 0x2b;intro A13;apply Zu 0x7f2f3
    ·apply Y 0x850f;intro A12 cc12;apply Zu 0xb71f3
     ·apply Y 0x420f;intro A16 cc16;apply Y 0xa8b5ebe0f3;intro A3;exact Zm 0xf50ffc56ef2e69
     apply Y 0xa8;intro A3;apply Y 0x420f34e3;intro A16 cc16;exact Zm 0xf50ffc56ef2e69bab3e3
    apply Y 0xa8;intro A3;apply Y 0x850ff3e3;intro A12 cc12;apply Y 0x420f34e3;intro A16 cc16;exact Zm 0xf50ffc56ef2e69bab3e3
   apply Y 0xa8;intro A3;apply Zu 0x8f2f3
   ·apply Y 0x850f;intro A12 cc12;apply Y 0x2b74e3;intro A13;apply Y 0x950f34e3;intro A16 cc16;exact Zm 0x681ffca3ef2e69bab3e3
   apply Y 0x2b;intro A13;apply Y 0x850ff3e3;intro A12 cc12;apply Y 0x950f34e3;intro A16 cc16;exact Zm 0x681ffca3ef2e69bab3e3
  ·apply Y 0x2b;intro A13;apply Y 0x3;refine LM.alt [4,13] oa ob hcx ⟨⟨_,rfl,?_⟩,⟨_,rfl,?_⟩,trivial⟩
   ·apply Y 0x2b;intro A9;apply Zu 0x7f2f3
    ·apply Y 0x7c0f;intro A12 cc12;apply Zu 0xb71f3
     ·apply Y 0x6c0f;intro A16 cc16;apply Y 0xa8b5ebe0f3;intro A3;exact Zm 0x781ffc56ef2e69
     apply Y 0xa8;intro A3;apply Y 0x6c0f34e3;intro A16 cc16;exact Zm 0x781ffc56ef2e69bab3e3
    apply Y 0xa8;intro A3;apply Y 0x7c0ff3e3;intro A12 cc12;apply Y 0x6c0f34e3;intro A16 cc16;exact Zm 0x781ffc56ef2e69bab3e3
   apply Y 0xa8;intro A3;apply Y 0x2b4ae3;intro A9;apply Y 0x3d2ff3e3;intro A12 cc12;apply Y 0x6c0f34e3;intro A16 cc16;apply Y 0xfca3ef2e69bab3e3;refine aX ((A3,A12,cc12,A16,cc16)) OS (by exact lk [0,1,2,3,4] [0,2,3,1] (hh:=⟨rfl,oA,oA,oA,trivial⟩))
  apply Y 0xa8;intro A3;apply Y 0x3;refine LM.alt [4,8] oa ob hcx ⟨⟨_,rfl,?_⟩,⟨_,rfl,?_⟩,trivial⟩
  ·apply Y 0x2b;intro A9;apply Zu 0x8f2f3
   ·apply Y 0x7c0f;intro A12 cc12;apply Y 0x2b74e3;intro A13;apply Y 0x950f34e3;intro A16 cc16;exact Zm 0x203ffc4cf2e69bab3e3
   apply Y 0x2b;intro A13;apply Y 0x7c0ff3e3;intro A12 cc12;apply Y 0x950f34e3;intro A16 cc16;exact Zm 0x203ffc4cf2e69bab3e3
  apply Y 0x2b;intro A13;apply Y 0x2b4ae3;intro A9;apply Y 0x3d2ff3e3;intro A12 cc12;apply Y 0x420f34e3;intro A16 cc16;apply Y 0xfc4cf2e69bab3e3;refine aX ((A3,A12,cc12,A16,cc16)) OS (by exact lk [0,1,2,3,4] [0,1,3,2] (hh:=⟨rfl,oA,oA,oA,trivial⟩))
 rintro ⟨A3,A12,c12,A16,c16⟩ _;apply Y 0xcd58ad4e;refine C.nil_own 24 1 ?_;refine C.kids0 5 ?_;refine lp [0,1,2,3] [_,_,_,_] (fun q:Nat×Option Addr×Nat×List Hd=>[(4,.int .i64 (q.1:Int))]) (kz [_,_,_,_,_]) (fun q=>[Own 34 5 A2 1 1 [.int .i64 0,.slice none 0 0,.slice none 0 0,.int .i64 0,.slice none 0 0],Own 34 5 A3 1 1 [.int .i64 (f.size:Int),.slice q.2.1 q.1 q.2.2.1,.slice A12 f.wear.length c12,.int .i64 f.limit,.slice A16 f.dead.length c16],Own 3 1 A12 f.wear.length c12 (I64 f.wear),Own 4 1 A16 f.dead.length c16 (Bs f.dead),Own 24 1 q.2.1 q.1 q.2.2.1 (aC q.2.2.2 (B8 (f.data.take q.1))),aw 5 q.2.2.2 (B8 (f.data.take q.1))]) (fun q=>q.1≤f.data.length∧q.2.2.2.length=q.1) (fun q=>f.data.length-q.1) (0,none,0,[]) ⟨by simp,rfl⟩ (lk [0,1,2,3,4] [0,1,2,3,4,5]) ?_;apply Y 0xd10f;intro k D cD hs hk hl
 dsimp only at hk hl ⊢;apply Zu 0x2af8758<;>intro
 ·apply Y 0xb31f99;intro hrow;refine aE [_,_,_,_,_,_] ⟨Has.r 0 rfl,Has.r 1 rfl,Has.r 2 rfl,Has.r 3 rfl,Has.r 4 rfl,Has.o 1 rfl,trivial⟩ ?_;refine mq 0 rfl (faR 5) ?_;refine mq 1 rfl (ldR 5) ?_;apply Y 0xa6ef20fbde;refine mq 6 rfl (ae (k:=k) rfl rfl rfl rfl rfl rfl rfl oe (Src.r 1 rfl) ow) ?_;refine mq 7 rfl (Ev.load rfl rfl rfl (Src.r 1 rfl) (aN hh oe)) ?_;apply Y 0x2b3ae;intro A27;apply Y 0x74e3;refine L.append (j:=6) rfl rfl rfl rfl ob rfl rfl rfl rfl ((Src.kid 2 rfl oC (k) oZ).cast (a7 _)) qA (bQ _) oe oH rfl (fun A33 cc33=>?_);apply Y 0x2b96e3;intro A34;apply Y 0xf6e69;refine L.append (j:=4) rfl rfl rfl rfl ob rfl rfl rfl rfl (Src.o 7 rfl) rfl (by intro v hv;simp at hv;subst hv;rfl) oe QD rfl (fun A35 cc35=>?_);apply Y 0x9afc9be68e33be66e3;refine QE.absorb 5 6 rfl rfl [0,1,2,3,4,7] ob ?_;apply Y 0xb31f;intro hrow;refine QE.round (i:=(k,D,cD,hs)) ((k+1,A35,cc35,hs++[(A33,cc33)])) (by exact ⟨by dsimp only;omega,by simp [hl]⟩) ot (by exact lk [0,1,2,3,4] [1,2,3,4,5,0] (hh:=⟨rfl,rfl,rfl,rfl,(congrArg some (ay rfl (by rw [aA f.data [] k oe,← ng oN,Nat.zero_add]))),(congrArg some (by rw [aA f.data [] k oe,← As];rfl)),trivial⟩))
 apply Y 0xe85bc5e48a9;refine qrt [] [4,5,2,3] [_] rfl ⟨⟨_,_,0,_,rfl,rfl,Src.o 0 rfl,.inl ⟨rfl,by decide,_,rfl,rfl,rfl⟩⟩,trivial⟩ ?_;obtain rfl:f.data.length=k:=oe;apply Y 0x36e;exact ⟨⟨D,cD,hs,A12,c12,A16,c16⟩,rfl,rfl,rfl,hl⟩
theorem zN (f:Fl)(a:Fa)(ok:f.Ok)(hh:a.hs.length=f.data.length)(x:Fo)(XA:Option Addr)(xc:Nat)(hxl:x.data.length≤9223372036854775807)(hE:aU f x=0):
    Ctr X 52 [flV f a,.agg (List.toArray [.int .i64 x.kind,.int .i64 x.sec,.int .i64 x.at_,.slice XA x.data.length xc])] (flR f a++[Rd XA (U8 x.data)]) [] (fun v R' H'=>∃ A c,v=.slice A f.size c∧R'=[]∧H'=[Own 5 1 A f.size c (U8 (fB f x))]):=by
 obtain ⟨os1,os2,on1,on2,owl,odl,orows,ol1,ol2,owear⟩:=ok;apply Y 0xa92f;intro q1 q2 q3 q4 q5 q6;apply Y 0x672f;intro hrow;refine co Tryz.func52 ?_;intro β;apply Y 0x6a;intro A2;apply Y 0x7b;intro A3;apply Zu 0x4d13bdbb2e549<;>intro hc9
 ·apply Y 0x41e760ff848;intro A12;apply Y 0x91e891;exact ⟨A12,f.size,rfl,rfl,by rw [C6 hc9];rfl⟩
 apply Y 0x2b8d;intro A13;apply Y 0x3bf8;refine sp (ae (k:=x.sec.toNat) rfl rfl rfl rfl rfl rfl oe oe (Src.r 2 rfl) ow) ?_;apply Y 0x430f;refine L.append (j:=0) rfl rfl rfl rfl ob rfl rfl rfl rfl ((Src.kid 3 rfl oC (x.sec.toNat) oZ).cast (a7 _)) qA (bQ _) oe oH rfl (fun A20 cc20=>?_);apply Y 0xcd49;have hk2:x.kind=2:=oe;have hk2b:=q4 hk2;refine lp [] [] (fun k:Nat=>[(2,ag A2 0),(3,ag A3 0),(5,.slice A20 (f.data.getD x.sec.toNat []).length cc20),(6,.int .i64 (k:Int))]) (kz [_,_,_,_,_,_,_]) (fun k=>[Own 5 1 A20 (f.data.getD x.sec.toNat []).length cc20 (U8 (vH (f.data.getD x.sec.toNat []) x.data x.at_.toNat k))]) (fun k=>k≤x.data.length) (fun k=>x.data.length-k) 0 oe (by exact lk [0,1,2,3,4,5,6] [0] ⟨rfl,rfl,oA,rfl,trivial⟩ (hh:=⟨(by rw [zO];simp only [Nat.zero_add];rfl),trivial⟩)) ?_;intro k hk;apply Zu 0x2a3b758<;>intro
 ·apply Y 0x99;refine aE [_,_,_,_,_,_,_,_] ⟨Has.r 0 rfl,Has.r 1 rfl,Has.r 2 rfl,Has.r 3 rfl,Has.r 4 rfl,Has.r 5 rfl,Has.r 6 rfl,Has.o 0 rfl,trivial⟩ ?_;apply Y 0xade1ceeae43e;refine mq 4 rfl (Ev.add rfl rfl oe oe) ?_;refine mq 5 rfl (ae (k:=x.at_.toNat+k) rfl rfl rfl rfl rfl rfl oe oe (Src.r 7 rfl) (by rw [aJ,cg];omega)) ?_;refine mq 6 rfl (Ev.load rfl rfl rfl (Src.r 7 rfl) (bp (by rw [cg];omega))) ?_;refine mq 7 rfl (faR 1) ?_;refine mq 8 rfl (ldR 1) ?_;apply Y 0x27e3796e;refine sp (ae (k:=k) rfl rfl rfl rfl rfl rfl rfl oe (Src.r 6 rfl) oG) ?_;apply Y 0x34e3;refine sp (Ev.load rfl rfl rfl (Src.r 6 rfl) (bp oe)) ?_;apply Y 0x2ae3af0f68e69;refine sp (ae (k:=x.at_.toNat+k) rfl rfl rfl rfl rfl rfl oe oe (Src.o 0 rfl) (by rw [aJ,cg];omega)) ?_;apply Y 0xf2e3;refine L.store (j:=0) rfl rfl rfl rfl rfl rfl rfl (by exact bp (by rw [cg];omega)) ?_;apply Y 0x9afc;refine QE.round (k+1) oe oe (by exact lk [0,1,2,3,4,5,6] [0] (hh:=⟨(by simp only [List.set_cons_zero,List.getElem?_cons_zero];rw [jZ,C8 oe,C7 oe]),trivial⟩))
 apply Y 0x91ee8c8a9;obtain rfl:k=x.data.length:=oe;rw [C9 oe oe hrow,hrow];exact ⟨A20,cc20,rfl,rfl,rfl⟩
theorem mm (A:Option Addr)(n c:Nat)(xs:List Value)(hx:∀ v∈xs,v.oneCell'=true)(hl:xs.length=n)(hn:n≤1000000):
    Ctr X 179 [.slice A n c] [Rd A xs] [] (fun v R' H'=>∃ A' c',v=.slice A' n c'∧R'=[]∧H'=[Own 5 1 A' n c' xs]):=by
 refine co Tryz.func179 ?_;intro β;apply Y 0x7581a;refine sp (uI rfl rfl rfl rfl) ?_;apply Zu 0x3a98<;>intro hc4
 ·apply Y 0xe9e;obtain rfl:A=none:=by simpa using hc4
  refine zX 0 rfl (fun h0=>?_);subst h0;subst hl;exact Zm 0x54e91ed2e
 apply Y 0x2b8d;intro A5;apply Y 0x7;refine L.append (j:=0) rfl rfl rfl rfl ob rfl rfl rfl rfl (Src.r 0 rfl) (by rw [hl];exact (Nat.mul_one _).symm) hx oe oH rfl (fun A7 cc7=>?_);apply Y 0x91ee81;exact ⟨A7,cc7,by simp only [Nat.zero_add];rfl,rfl,by simp only [sel,Nat.zero_add,List.nil_append];rfl⟩
theorem zj (A B:Option Addr)(c d:Nat)(xs ys:List UInt8):
    Ctr X 113 [.slice A xs.length c,.slice B ys.length d] [Rd A (U8 xs),Rd B (U8 ys)] [] (fun v R' H'=>v=.bool (xs==ys)∧R'=[]∧H'=[]):=by
 refine co Tryz.func113 ?_;intro β;apply Y 0xb91a;refine sp (uG rfl rfl rfl rfl rfl rfl rfl (Src.r 0 rfl)) ?_;apply Y 0x7;refine sp (uG rfl rfl rfl rfl rfl rfl rfl (Src.r 1 rfl)) ?_;refine sp (DB rfl rfl) ?_;apply Y 0xecd91
 unfold Lb;rw [ByteArray.toList_mk,ByteArray.toList_mk]
theorem Nx.beq {r s:Nx}(h1:r.x=s.x)(h2:r.done=s.done):(r.e==s.e)=decide (r=s):=by
 cases r
 cases s
 simp only at h1 h2;subst h1 h2;exact Zm 0x51ed3e
theorem EJ (f:Fl)(a:Fa)(ok:f.Ok)(hh:a.hs.length=f.data.length)(sec:Int)(want:List UInt8)(W:Option Addr)(wc:Nat)(_hwl:want.length≤1000000):
    Ctr X 95 [flV f a,.int .i64 sec,.slice W want.length wc] (flR f a++[Rd W (U8 want)]) [] (fun v R' H'=>∃ A c,v=.agg (List.toArray [.int .i64 (aO f sec want).x.kind,.int .i64 (aO f sec want).x.sec,.int .i64 (aO f sec want).x.at_,.slice A (aO f sec want).x.data.length c,.bool (aO f sec want).done,.int .i64 (aO f sec want).e])∧R'=[Rd A (U8 (aO f sec want).x.data)]∧H'=[]):=by
 obtain ⟨os1,os2,on1,on2,owl,odl,orows,ol1,ol2,owear⟩:=ok;apply Y 0x590f;intro hok;refine co Tryz.func95 ?_;intro β;apply Y 0x6a;intro A3;apply Y 0xa8;intro A6;apply Zu 0x561f288879e61e7f8ab7c5cb<;>intro hg17
 ·have q17:¬(0≤sec∧sec≤(f.data.length:Int)-1):=by simp at hg17;omega
  apply Y 0x1ea;refine C.cond rfl (fun _=>?_) (fun h=>by cases h);apply Zu 0xedccb0e5b8b
  ·exact Zm 0x2bce
  exact Zm 0x2bce
 have q17:0≤sec∧sec≤(f.data.length:Int)-1:=by simp at hg17;omega
 apply Zu 0xdd38453e7d<;>intro
 ·apply Zu 0xedccb0e5b8b
  ·exact Zm 0x2bce
  exact Zm 0x2bce
 apply Y 0x572f;intro hrow;apply Y 0x72feab1f7f85859;refine L.call (js:=[]) (js':=[0]) (m8 _ _ _ _ _ _ oe oe) rfl rfl rfl ob ⟨((Has.kid 2 rfl oC (sec.toNat) oZ).cast (a7 _)),(Has.r 5 rfl),trivial⟩ rfl ?_;apply Zu 0xeb0f9888<;>intro hc31
 ·apply Zu 0xedccb0e5b8b
  ·rw [ko oe hc31];exact Zm 0x2
  rw [ko oe hc31];exact Zm 0x2
 replace hc31:(f.data.getD sec.toNat [])≠want:=by simpa using hc31
 apply Y 0xa8ba1c59;intro A7;apply Y 0xcdcb4c;refine lp [1,2,3,6,7] [_,_,_,_,_] (fun q:Nat×Fo×Option Addr×Nat=>[(8,.int .i64 (q.1:Int))]) (kz [_,_,_,_,_,_]) (fun q=>[Own 62 6 A6 1 1 [.int .i64 0,.int .i64 0,.int .i64 0,.slice none 0 0,.bool false,.int .i64 0],Own 60 4 A7 1 1 [.int .i64 q.2.1.kind,.int .i64 q.2.1.sec,.int .i64 q.2.1.at_,.slice q.2.2.1 q.2.1.data.length q.2.2.2]]) (fun q=>q.1≤f.size∧AB sec want W wc (k9 (f.data.getD sec.toNat []) want q.1) q.2.1 q.2.2.1 q.2.2.2) (fun q=>f.size-q.1) (0,⟨2,sec,0,want⟩,W,wc) ⟨Nat.zero_le _,.inl ⟨rfl,rfl,rfl,rfl⟩⟩ (lk [0,1,2,3,4,5] [0,1]) ?_;apply Y 0xd10f;intro k x XA xc hk hx
 dsimp only at hk hx ⊢;apply Zu 0x791f8758<;>intro
 ·apply Y 0x6d90e31e4d1ffc1fc9ad599;refine sq (ae (k:=sec.toNat) rfl rfl rfl rfl rfl rfl oe oe (Src.r 1 rfl) ow) ?_;apply Y 0x6dea3f;refine sq (ae (k:=k) rfl rfl rfl rfl rfl rfl rfl oe ((Src.kid 2 rfl oC (sec.toNat) oZ).cast (a7 _)) oG) ?_;refine sq (Ev.load rfl rfl rfl ((Src.kid 2 rfl oC (sec.toNat) oZ).cast (a7 _)) (bp oe)) ?_;refine sq (kX rfl rfl) ?_;apply Zu 0xdd40e<;>intro hc55
  ·apply Y 0x9a60e4cbaab;refine QE.round (i:=(k,x,XA,xc)) ((k+1,⟨1,sec,0,[]⟩,none,0)) (by exact ⟨by dsimp only;omega,.inr ⟨we (k:=k) ot (fun h=>hc55 (by rw [h];rfl)),rfl,rfl,rfl⟩⟩) ot (lk [0,1,2,3,4,5] [0,1])
  apply Y 0x9a7a;refine QE.round (i:=(k,x,XA,xc)) ((k+1,x,XA,xc)) (by exact ⟨by dsimp only;omega,by dsimp only;rw [mU];exact hx.next _ (by simpa [-List.getD_eq_getElem?_getD] using dJ.1 hc55)⟩) ot (lk [0,1,2,3,4,5] [0,1])
 apply Y 0x5a9;obtain rfl:k=f.size:=oe;have hxe:=hx.eq;apply Y 0xc5e63e78;refine L.call (js:=[]) (js':=[0,1]) (ph f a hok hh x XA xc (by have:=hx.len;omega)) rfl rfl rfl ob ⟨(Has.r 1 rfl),(Has.r 2 rfl),(Has.r 3 rfl),(Has.r 4 rfl),(hx.has (Has.r 5 rfl)),trivial⟩ rfl ?_;apply Zu 0xdd3858188<;>intro hc62
 ·apply Zu 0xedccb0e5bbab9
  ·rw [mT oe hc31 hxe hc62];exact Zm 0x2
  rw [mT oe hc31 hxe hc62];exact Zm 0x2
 apply Y 0xe85bbac5e8d;refine QE.more (r:=Rd XA (U8 x.data)) ((hx.has (Has.r 5 rfl))) ?_;apply Zu 0xd01fcc
 ·rw [km oe hc31 hxe oe];exact Zm 0x2
 rw [km oe hc31 hxe oe];exact Zm 0x2
theorem Hb (f:Fl)(a:Fa)(ok:f.Ok)(hh:a.hs.length=f.data.length)(sec:Int)(want:List UInt8)(W:Option Addr)(wc:Nat)(hwl:want.length≤1000000):
    Ctr X 115 [flV f a,.int .i64 sec,.slice W want.length wc] (flR f a++[Rd W (U8 want)]) [] (fun v R' H'=>∃ A c,v=.tuple #[.agg (List.toArray [.int .i64 (aO f sec want).x.kind,.int .i64 (aO f sec want).x.sec,.int .i64 (aO f sec want).x.at_,.slice A (aO f sec want).x.data.length c]),.bool (aO f sec want).done,.int .i64 (aO f sec want).e]∧R'=[Rd A (U8 (aO f sec want).x.data)]∧H'=[]):=by
 obtain ⟨os1,os2,on1,on2,owl,odl,orows,ol1,ol2,owear⟩:=ok;apply Y 0x590f;intro hok;refine co Tryz.func115 ?_;intro β;apply Y 0x6a;intro A3;apply Y 0xa8;intro A6;apply Zu 0x261fb8787c5538<;>intro
 ·apply Y 0x1ea28ea;refine C.cond rfl (fun _=>?_) (fun h=>by cases h);apply Zu 0xed65eb0e386b8b
  ·exact Zm 0x2bce
  exact Zm 0x2bce
 apply Zu 0x9c0fb8f953ef9<;>intro
 ·apply Y 0x1ea;refine C.cond rfl (fun _=>?_) (fun h=>by cases h);apply Zu 0xed65eb0e386b8b
  ·exact Zm 0x2bce
  exact Zm 0x2bce
 apply Zu 0xdd38453e7d<;>intro
 ·apply Zu 0xed65eb0e386b8b
  ·exact Zm 0x2bce
  exact Zm 0x2bce
 apply Y 0x572f;intro hrow;apply Y 0x72feab1f7f85859;refine L.call (js:=[]) (js':=[0]) (zj _ _ _ _ _ _) rfl rfl rfl ob ⟨((Has.kid 2 rfl oC (sec.toNat) oZ).cast (a7 _)),(Has.r 5 rfl),trivial⟩ rfl ?_;apply Zu 0xeb0f9888<;>intro hc36
 ·apply Zu 0xed65eb0e386b8b
  ·rw [ko oe hc36];exact Zm 0x2
  rw [ko oe hc36];exact Zm 0x2
 replace hc36:(f.data.getD sec.toNat [])≠want:=by simpa using hc36
 apply Y 0xa8ba1c59;intro A9;apply Y 0xaa382feab1f7f858984c;refine lp [1,2,3,6,9,45,46] [_,_,_,_,_,_,_] (fun k:Nat=>[(47,.int .i64 (k:Int))]) (kz [_,_,_,_,_,_]) (kz [_,_]) (fun k=>k≤f.size∧k9 (f.data.getD sec.toNat []) want k=true) (fun k=>f.size-k) 0 ⟨Nat.zero_le _,rfl⟩ (lk [0,1,2,3,4,5] [0,1]) ?_;apply Y 0xb1e;intro k hk hb;apply Zu 0x7930e<;>intro
 ·apply Y 0xb999;refine sp (ae (k:=k) rfl rfl rfl rfl rfl rfl rfl oe ((Src.kid 2 rfl oC (sec.toNat) oZ).cast (a7 _)) oG) ?_;refine sp (Ev.load rfl rfl rfl ((Src.kid 2 rfl oC (sec.toNat) oZ).cast (a7 _)) (bp oe)) ?_;apply Zu 0xdd40e4d1ffc1fc9bc1f4d1ffc1f6dc9ad538<;>intro hc62
  ·have hxe:dW f sec want=⟨1,sec,0,[]⟩:=sx (we (k:=k) oe (fun h=>hc62 (dJ.2 ((ey _ _).2 h))));apply Y 0xc5e63e588a340f1e0f39e984cbab9;refine L.call (js:=[]) (js':=[0,1]) (zF f a hok hh ⟨1,sec,0,[]⟩ none 0 oO) rfl rfl rfl ob ⟨(Has.r 1 rfl),(Has.r 2 rfl),(Has.r 3 rfl),(Has.r 4 rfl),Has.nil,trivial⟩ rfl ?_;apply Zu 0xddc8188<;>intro hc70
   ·apply Zu 0xed65eb0e386b78b
    ·exact Zm 0x2a11f
    exact Zm 0x2a11f
   apply Y 0xfa8d;refine L.call (js:=[]) (js':=[0,1]) (mm none 0 0 (U8 []) (bQ _) rfl oe) rfl rfl rfl ob ⟨Has.nil,trivial⟩ rfl ?_;apply Y 0x19;intro A75 c75;apply Y 0xe8384cc70f489848eb6e;refine qfz 0 [1,2] ?_;apply Y 0x65e;refine ⟨A75,c75,?_,?_,rfl⟩
   ·exact Zm 0x2b11f
   exact Zm 0x2b11f
  have hbb:=(ey _ _).1 (dJ.1 hc62);apply Y 0x20efb7a;refine QE.round (k+1) (by exact ⟨by omega,by rw [mU,hb,hbb];rfl⟩) oe (lk [0,1,2,3,4,5] [0,1])
 obtain rfl:k=f.size:=oe;have hxe:=sA (sec:=sec) hb;apply Y 0xc5e63e58a9;refine al (zF f a hok hh ⟨2,sec,0,want⟩ W wc O8) ?_;apply Zu 0xddc8188<;>intro hc70
 ·apply Zu 0xed65eb0e386b78b
  ·exact Zm 0x2a11f
  exact Zm 0x2a11f
 apply Y 0xfa8d;refine al (mm W want.length wc (U8 want) (bQ _) (aJ _) oe) ?_;apply Y 0x19;intro A75 c75;apply Y 0xe8384cc70f489848eb6e;refine qfz 0 [1,2] ?_;apply Y 0x65e;refine ⟨A75,c75,?_,?_,rfl⟩
 ·exact Zm 0x2b11f
 exact Zm 0x2b11f
theorem AH (n:Nat)(h:n<4294967296):bop .and .u64 (n:Int) 4294967295=(n:Int):=by
 have:=bits_and_u64_nat n 4294967295 oe ob;refine Eq.trans this ?_
 congr 1;have h2:(4294967295:Nat)=2^32-1:=ob;rw [h2,Nat.and_two_pow_sub_one_eq_mod];exact Zm 0x18
theorem G5 (n:Nat)(h:n<4294967296):(n:Int).fdiv (2^min (32:Int).toNat IntKind.u64.bits)=0:=by
 have:(2:Int)^min (32:Int).toNat IntKind.u64.bits=4294967296:=ob;rw [this,Int.fdiv_eq_ediv_of_nonneg _ ob];exact Zm 0x18
theorem so (n:Nat)(h:n<4294967296):IntKind.u64.wrap (n:Int)=(n:Int):=by rw [IntKind.wrap_u64];omega
theorem EF (n:Nat)(h:n<4294967296):IntKind.u64.wrap (1*(n:Int))=(n:Int):=by rw [Int.one_mul];exact so n h
theorem AG (n:Nat):IntKind.u64.wrap (0*(n:Int))=0:=by rw [Int.zero_mul];decide
theorem wt {A:Option Addr}{g n p:Nat}(h:A=some ⟨g,0,none⟩)(hp:p<n):bh A n p 1=some ⟨g,p,none⟩:=by
 subst h
 unfold bh;apply Y 0xd30f
 simp [Addr.add]
 exact fun h=>h.symm
theorem lC {p k:Nat}{x:UInt8}{ys:List UInt8}(h:k≤p):(U8 (List.replicate p x++ys)).take k=U8 (List.replicate k x):=by
 rw [bu,List.take_append_of_le_length qP,List.take_replicate,Nat.min_eq_left h]
theorem sZ {p n:Nat}{x:UInt8}{ys:List UInt8}(_hy:ys.length=n-p)(_hp:p≤n):
    (U8 (List.replicate p x++ys)).take p++U8 (List.replicate (min p (n-p)) x)++(U8 (List.replicate p x++ys)).drop (p+(U8 (List.replicate (min p (n-p)) x)).length)=U8 (List.replicate (p+min p (n-p)) x++ys.drop (min p (n-p))):=by
 rw [lC (Nat.le_refl p),aJ,List.length_replicate];have:(U8 (List.replicate p x++ys)).drop (p+min p (n-p))=U8 (ys.drop (min p (n-p))):=by
  unfold U8;rw [← List.map_drop,List.drop_append,List.drop_of_length_le oO,List.nil_append];exact Zm 0x51e
 rw [this,b8,b8]
 congr 1;rw [List.append_assoc,← List.append_assoc,List.replicate_append_replicate]
theorem FJ (n:Nat)(hn:n<4294967296):
    Ctr X 250 [.int .u64 1,.int .u64 (n:Int)] [] [] (fun v R' H'=>v=.tuple #[.int .u64 0,.int .u64 (n:Int)]∧R'=[]∧H'=[]):=by
 refine co Tryz.func250 ?_;intro β;apply Y 0xb91fa1fb911b1fb9c8;refine sp ((Ev.cast (u:=.int .u64 (n)) (Ev.pure rfl) (congrArg (Value.int .u64) (AH n hn)))) ?_;apply Y 0x1c1153f1c1f43fb91;refine sp ((Ev.cast (u:=.int .u64 (0)) (Ev.pure rfl) (congrArg (Value.int .u64) (AG n)))) ?_;exact Zm 0x33e75ee81153f1c1f00ffa1f7f00f7f00f1c1f00ff00fb8481fa1fb91f00fb91f00ff43f7
theorem Iw (n:Nat)(hn:n<4294967296):
    Ctr X 222 [.int .u64 1,.int .u64 (n:Int)] [] [] (fun v R' H'=>v=.tuple #[.int .u64 0,.int .u64 (n:Int)]∧R'=[]∧H'=[]):=by
 refine co Tryz.func222 ?_;intro β;apply Y 0x5c8;refine C.cond rfl (fun h=>by cases h) (fun _=>?_);apply Y 0x1c59;refine al (FJ n hn) ?_;exact Zm 0x33e75ee8381cd82888
theorem Ic (m i:Nat):UInt8.ofNat (m/256^i)=UInt8.ofNat (m/2^(8*i)):=by rw [Nat.pow_mul]
theorem H9 (D A:Option Addr)(l:List UInt8)(c m w:Nat)(hl:l.length≤1000)(hw:w≤4):
    Ctr X 177 [ag D 0,.int .i64 (m:Int),.int .i64 (w:Int)] [] [Own 269 1 D 1 1 [.slice A l.length c],Own 5 1 A l.length c (U8 l)] (fun v R' H'=>∃ (A':Option Addr) (c':Nat),v=.tuple #[]∧R'=[]∧H'=[Own 269 1 D 1 1 [.slice A' (l++br (c6 m w)).length c'],Own 5 1 A' (l++br (c6 m w)).length c' (U8 (l++br (c6 m w)))]):=by
 refine co Tryz.func177 ?_;intro β;apply Y 0xaa161eb9;refine lp [] [] (fun q:Nat×Option Addr×Nat=>[(0,ag D 0),(1,.int .i64 (m:Int)),(6,.int .i64 ((w:Int)-1-(q.1:Int)))]) nz (fun q=>[Own 269 1 D 1 1 [.slice q.2.1 (l++br ((c6 m w).take (q.1))).length q.2.2],Own 5 1 q.2.1 (l++br ((c6 m w).take (q.1))).length q.2.2 (U8 (l++br ((c6 m w).take (q.1))))]) (fun q=>q.1≤w) (fun q=>w-q.1) (0,A,c) (Nat.zero_le _) (by exact lk [] [0,1] ⟨rfl,rfl,oab,trivial⟩ (hh:=⟨(by simp [br]),(by simp [br]),trivial⟩)) ?_;apply Y 0xf1e;intro k A c hk
 dsimp only at hk ⊢;apply Zu 0x2a58<;>intro
 ·apply Y 0xbf1f;intro hb;have hbl:(l++br ((c6 m w).take (k))).length≤1100:=by rw [List.length_append,cQ,List.length_take,dA];omega
  have hst:(l++br ((c6 m w).take (k+1)))=(l++br ((c6 m w).take (k)))++[UInt8.ofNat (m/2^(8*(w-1-k))),~~~(UInt8.ofNat (m/2^(8*(w-1-k))))]:=by rw [aA _ 0 k oaX,jL,hb,n9,List.append_assoc]
  apply Y 0xe53f1c99;refine sp (Ad rfl rfl oe) ?_;apply Y 0x2894ee95dac13a3f;refine sp (Aj rfl) ?_;apply Y 0x2b;intro A27;refine L.append (j:=1) rfl rfl rfl rfl ob rfl rfl rfl rfl (Src.o 2 rfl) rfl (by intro v hv;simp at hv;rcases hv with rfl|rfl<;>rfl) oe oH rfl (fun A28 cc28=>?_);apply Y 0x81e61eabfb60e49ee95d;refine QE.round (i:=(k,A,c)) ((k+1,A28,cc28)) ot ot (by exact lk [] [0,1] ⟨rfl,rfl,qN,trivial⟩ (hh:=⟨(by exact congrArg some (ay rfl qw)),qg,trivial⟩))
 apply Y 0x560fe5e;obtain rfl:k=w:=oe;refine qrt [] [0,1] [] rfl trivial ?_;rw [show (c6 m k).take k=c6 m k from by rw [List.take_of_length_le oaX]];exact Zm 0x18e
theorem ub (S:Option Addr)(s:List Int)(hs:s.length=9):
    Ctr X 176 [ag S 0] [Rd S (I64 s)] [] (fun v R' H'=>∃ A,v=.slice A 9 9∧R'=[]∧H'=[Own 266 2 A 9 9 (gN S)]):=by
 refine co Tryz.func176 ?_;intro β;apply Y 0x43e650f30e;refine mq 1 rfl (Ev.nilCheck rfl (Src.r 0 rfl) ov) ?_;refine mq 2 rfl (Ev.fieldAddr rfl rfl rfl rfl rfl rfl (Src.r 0 rfl) ov rfl) ?_;refine mq 3 rfl (Ev.build rfl rfl rfl rfl rfl rfl rfl) ?_;apply Y 0xfae;refine mq 5 rfl (Ev.nilCheck rfl (Src.r 0 rfl) ov) ?_;refine mq 6 rfl (Ev.fieldAddr rfl rfl rfl rfl rfl rfl (Src.r 0 rfl) ov rfl) ?_;apply Y 0x37e543f;refine mq 9 rfl (Ev.nilCheck rfl (Src.r 0 rfl) ov) ?_;refine mq 10 rfl (Ev.fieldAddr rfl rfl rfl rfl rfl rfl (Src.r 0 rfl) ov rfl) ?_;apply Y 0xce0f733f;refine mq 13 rfl (Ev.nilCheck rfl (Src.r 0 rfl) ov) ?_;refine mq 14 rfl (Ev.fieldAddr rfl rfl rfl rfl rfl rfl (Src.r 0 rfl) ov rfl) ?_;refine mq 15 rfl (Ev.build rfl rfl rfl rfl rfl rfl rfl) ?_;apply Y 0xee0f;refine mq 17 rfl (Ev.nilCheck rfl (Src.r 0 rfl) ov) ?_;refine mq 18 rfl (Ev.fieldAddr rfl rfl rfl rfl rfl rfl (Src.r 0 rfl) ov rfl) ?_;refine mq 19 rfl (Ev.build rfl rfl rfl rfl rfl rfl rfl) ?_;refine mq 20 rfl (Ev.pure rfl) ?_;refine mq 21 rfl (Ev.nilCheck rfl (Src.r 0 rfl) ov) ?_;refine mq 22 rfl (Ev.fieldAddr rfl rfl rfl rfl rfl rfl (Src.r 0 rfl) ov rfl) ?_;refine mq 23 rfl (Ev.build rfl rfl rfl rfl rfl rfl rfl) ?_;refine mq 24 rfl (Ev.pure rfl) ?_;refine mq 25 rfl (Ev.nilCheck rfl (Src.r 0 rfl) ov) ?_;refine mq 26 rfl (Ev.fieldAddr rfl rfl rfl rfl rfl rfl (Src.r 0 rfl) ov rfl) ?_;refine mq 27 rfl (Ev.build rfl rfl rfl rfl rfl rfl rfl) ?_;refine mq 28 rfl (Ev.pure rfl) ?_;refine mq 29 rfl (Ev.nilCheck rfl (Src.r 0 rfl) ov) ?_;refine mq 30 rfl (Ev.fieldAddr rfl rfl rfl rfl rfl rfl (Src.r 0 rfl) ov rfl) ?_;refine mq 31 rfl (Ev.build rfl rfl rfl rfl rfl rfl rfl) ?_;refine mfo 32 ?_;apply Y 0x37;refine mfo 33 ?_;refine sp (Ev.nilCheck rfl (Src.r 0 rfl) ov) ?_;apply Y 0x3;refine mfo 34 ?_;refine sp (Ev.fieldAddr rfl rfl rfl rfl rfl rfl (Src.r 0 rfl) ov rfl) ?_;apply Y 0x3;refine mfo 35 ?_;apply Y 0x9d0f69ba;refine KU (cs:=gN S) rfl rfl rfl rfl rfl oa rfl rfl rfl rfl rfl (fun A39=>?_);apply Y 0x3;refine fx 37 rfl oa trivial ?_;apply Y 0x91ee88a5c;exact ⟨A39,rfl,rfl,rfl⟩
theorem EU (s:List Int)(hs:s.length=9):
    Ctr X 110 [.agg (List.toArray (st9 s))] [] [] (fun v R' H'=>∃ (A:Option Addr) (c:Nat),v=.slice A (ax s).length c∧A.isSome=aY s∧R'=[]∧H'=[Own 5 1 A (ax s).length c (U8 (ax s))]):=by
 rw [← sJ hs];refine co Tryz.func110 ?_;intro β;apply Y 0x6a;intro A1;apply Y 0x7bbadb49;intro A7;apply Y 0x581;refine al (ub A1 s hs) ?_;apply Y 0x41e;intro A8;apply Y 0xaa382c;refine C.nil_own 5 1 ?_;refine lp [1,3,8,9] [_,_,_,_] (fun q:Nat×Option Addr×Nat=>[(10,.int .i64 (q.1:Int))]) (kz [_]) (fun q=>[Own 266 2 A8 9 9 (gN A1),Own 269 1 A7 1 1 [.slice q.2.1 (br (bM s (q.1))).length q.2.2],Own 5 1 q.2.1 (br (bM s (q.1))).length q.2.2 (U8 (br (bM s (q.1))))]) (fun q=>q.1≤9∧eg s q.1=true) (fun q=>9-q.1) (0,none,0) ⟨Nat.zero_le _,rfl⟩ (lk [0] [0,1,2]) ?_;apply Y 0x4a2f;intro k A c hk hr
 dsimp only at hk hr ⊢;apply Zu 0x7930e<;>intro
 ·apply Y 0x682f;intro hw;have hbl:(br (bM s (k))).length≤30:=by rw [cQ];have:=vC s (k:=k) oe;omega
  apply Y 0x4899;refine sp (cn (k:=k) (m:=k*2) rfl rfl rfl rfl rfl rfl oe (Src.o 0 rfl) oX rfl) ?_;refine sp (ab (k:=k*2) rfl rfl rfl (Src.o 0 rfl) (kK A1 oe) rfl ob) ?_;apply Y 0xa8;intro A5;apply Y 0xad5cb56e;refine sq (faO 3) ?_;refine sq (ldO 3) ?_;apply Y 0xc95fe1b3f;refine LQ.bool 19 rfl (imp of_decide_eq_true ?_) (imp of_decide_eq_false ?_)<;>intro
  ·apply Y 0x40ec4e9b9b;refine C.cond rfl (fun _=>?_) (fun h=>by cases h);apply Y 0xf22fd2e3d93ee9e;intro hno;refine qrt [] [4] [_] rfl rt ?_;exact Zm 0xdb2f
  apply Y 0x6;refine sq (faO 3) ?_;apply Y 0x6;refine sq (ldO 3) ?_;apply Y 0x65fe61b3f6;refine sq (faO 3) ?_;apply Y 0x6;refine sq (ldO 3) ?_;apply Y 0x6;refine sq (Ev.cast (u:=.int .i64 ((8*(wds.getD k 0):Nat):Int)) (Ev.mul rfl rfl oe oe) (congrArg (Value.int .i64) oe)) ?_;apply Y 0x6;refine sq (Ev.cast (u:=.int .i64 ((256^(wds.getD k 0):Nat):Int)) (Ae (m:=1) rfl rfl oe (by rw [Nat.one_mul];exact Nat.lt_of_le_of_lt (Nat.pow_le_pow_right (n:=2) ob (show 8*(wds.getD k 0)≤32 by omega)) ob)) (by rw [Nat.one_mul,Nat.pow_mul])) ?_;apply Zu 0x7932ec96<;>intro
  ·apply Y 0xf22fd2e3d93ee9e;intro hno;refine qrt [] [4] [_] rfl rt ?_;exact Zm 0xdb2f
  have hfit:CG (s.getD k 0) (wds.getD k 0)=true:=by unfold CG;exact decide_eq_true oe
  have hpw:(256^(wds.getD k 0):Nat)≤4294967296:=Nat.le_trans (Nat.pow_le_pow_right ob (show (wds.getD k 0)≤4 by omega)) ob;have hst:(br (bM s (k+1)))=(br (bM s (k)))++br (c6 (s.getD k 0).toNat (wds.getD k 0)):=by rw [gW,jL]
  apply Y 0x59;refine aE [_,_] ⟨Has.r 0 rfl,Has.o 3 rfl,trivial⟩ ?_;apply Y 0x1ceeae43e;refine mq 3 rfl (Ev.nilCheck rfl (Src.r 0 rfl) ov) ?_;refine mq 4 rfl (Ev.cast (u:=.int .i64 (((s.getD k 0).toNat:Nat):Int)) (Ev.load rfl rfl rfl (Src.r 0 rfl) (aG oe)) (congrArg (Value.int .i64) oe)) ?_;apply Y 0x76e69110fe4e314efbe;refine L.call (js:=[1,2]) (js':=[0,3]) (H9 A7 A (br (bM s (k))) c (s.getD k 0).toNat (wds.getD k 0) oe oe) rfl rfl rfl ob trivial rfl ?_;apply Y 0x19;intro A' c';apply Y 0x20efbfc8de;refine QE.round (i:=(k,A,c)) ((k+1,A',c')) (by exact ⟨by dsimp only;omega,by dsimp only;rw [nh,hr,hfit];rfl⟩) ot (by exact lk [0] [2,0,1] (hh:=⟨rfl,(by dsimp only;rw [hst];rfl),(by dsimp only;rw [hst];rfl),trivial⟩))
 apply Y 0xb9a9;refine sp (nkO 1) ?_;apply Y 0xe81fa;obtain rfl:k=9:=oe;refine Dg 2 rfl (fun hsome=>?_);apply Y 0xea1f;exact ⟨A,c,by rw [eL hr];rfl,by rw [show aY s=true from hr];exact hsome (by rw [aJ,cQ,gX];decide),rfl,by rw [eL hr];rfl⟩
end Go.Proofs.YtbpddeiogcgegaaGreat
