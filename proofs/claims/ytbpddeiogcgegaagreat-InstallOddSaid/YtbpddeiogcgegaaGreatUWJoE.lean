/-
  Part of a proof.
-/
import Derived.Test.YtbpddeiogcgegaaGreatUWJoB
set_option maxHeartbeats 0
set_option maxRecDepth 4000
set_option linter.all false
namespace Go.Proofs.YtbpddeiogcgegaaGreat
open Go.Sl
theorem zB (A:Option Addr)(c:Nat)(l:List UInt8)(hl:l.length≤1000):
    Ctr X 101 [.slice A l.length c] [Rd A (U8 l)] [] (fun v R' H'=>∃ (O:Option Addr) (oc:Nat),v=.slice O (br l).length oc∧R'=[]∧H'=[Own 5 1 O (br l).length oc (U8 (br l))]):=by
 refine co Tryz.func101 ?_;intro β;apply Y 0x2b481a;intro A5;apply Y 0xcd49;refine lp [] [] (fun q:Nat×Option Addr×Nat=>[(0,.slice A l.length c),(3,.slice q.2.1 (br (l.take (q.1))).length q.2.2),(4,.int .i64 (q.1:Int))]) (kz [_]) (fun q=>[Own 5 1 q.2.1 (br (l.take (q.1))).length q.2.2 (U8 (br (l.take (q.1))))]) (fun q=>q.1≤l.length) (fun q=>l.length-q.1) (0,A5,0) (Nat.zero_le _) (lk [0] [0]) ?_;apply Y 0xf1e;intro k O oc hk
 dsimp only at hk ⊢;apply Zu 0x2a9d<;>intro
 ·have hbl:(br (l.take (k))).length≤2000:=by rw [cQ,List.length_take];omega
  have hst:(br (l.take (k+1)))=(br (l.take (k)))++[l.getD k 0,~~~(l.getD k 0)]:=by rw [aA _ 0 k oe,jL,n9]
  apply Y 0x9dedae43e650f99;refine mq 3 rfl (ae (k:=k) rfl rfl rfl rfl rfl rfl rfl oe (Src.r 0 rfl) oG) ?_;refine mq 4 rfl (Ev.load rfl rfl rfl (Src.r 0 rfl) (bp oe)) ?_;apply Y 0x96e32be74e38b1ff3e37e4ea6e;refine sp (pB rfl) ?_;apply Y 0x2b27e3;intro A22;apply Y 0x66e69;refine L.append (j:=0) rfl rfl rfl rfl ob rfl rfl rfl rfl (Src.o 1 rfl) rfl (by intro v hv;simp at hv;rcases hv with rfl|rfl<;>rfl) oe oH rfl (fun A23 cc23=>?_);apply Y 0x9a5c68e3;refine QE.round (i:=(k,O,oc)) ((k+1,A23,cc23)) ot ot (by exact lk [0] [0] ⟨rfl,qw,rfl,trivial⟩ (hh:=⟨qg,trivial⟩))
 apply Y 0xe8c8a9;obtain rfl:k=l.length:=oe;exact Zm 0xbb0f91e36e
theorem te (A:Option Addr)(c:Nat)(l:List UInt8)(hl:l.length≤1000):
    Ctr X 208 [.slice A l.length c] [Rd A (U8 l)] [] (fun v R' H'=>∃ (O:Option Addr) (oc:Nat),v=.tuple #[.slice O (bC l).1.length oc,.bool (bC l).2]∧R'=[]∧H'=[Own 5 1 O (bC l).1.length oc (U8 (bC l).1)]):=by
 refine co Tryz.func208 ?_;intro β;apply Y 0x2b48c8;intro A6;apply Y 0xcd49;refine lp [] [] (fun q:Nat×Option Addr×Nat=>[(0,.slice A l.length c),(4,.slice q.2.1 q.1 q.2.2),(5,.int .i64 (2*(q.1:Int)))]) (kz [_]) (fun q=>[Own 5 1 q.2.1 q.1 q.2.2 (U8 (bY l q.1))]) (fun q=>2*q.1≤l.length∧aM l q.1=true) (fun q=>l.length-2*q.1) (0,A6,0) ⟨Nat.zero_le _,rfl⟩ (lk [0] [0]) ?_;apply Y 0x4a2f;intro k O oc hk hkk
 dsimp only at hk hkk ⊢;apply Zu 0x79d8da758<;>intro
 ·apply Y 0xc9ad5599;refine sq (ae (k:=2*k) rfl rfl rfl rfl rfl rfl oe oe (Src.r 0 rfl) oG) ?_;apply Y 0x8cec96ae;refine sq (ae (k:=2*k+1) rfl rfl rfl rfl rfl rfl oe oe (Src.r 0 rfl) oG) ?_;apply Y 0x6ae;refine sq (pB rfl) ?_;apply Zu 0xdd40e<;>intro hc24
  ·have hno:=xU (l:=l) (k:=k) oe (by unfold cZ;rw [beq_eq_false_iff_ne];exact fun h=>hc24 (dJ.2 h));apply Y 0x88ed2e3d93e89c8;exact ⟨none,0,by rw [hno];rfl,rfl,by rw [hno];rfl⟩
  have hk1:aM l (k+1)=true:=by rw [cJ,hkk,Bool.true_and];unfold cZ;rw [beq_iff_eq];exact dJ.1 hc24
  apply Y 0xb87859;refine sp (ae (k:=2*k) rfl rfl rfl rfl rfl rfl oe oe (Src.r 0 rfl) oG) ?_;apply Y 0x2b2be;intro A30;refine L.append (j:=0) rfl rfl rfl rfl ob rfl rfl rfl rfl (Src.o 1 rfl) rfl (by intro v hv;simp at hv;subst hv;rfl) oe oH rfl (fun A31 cc31=>?_);apply Y 0x9a81e;refine QE.round (i:=(k,O,oc)) ((k+1,A31,cc31)) (by exact ⟨by dsimp only;omega,hk1⟩) ot (by exact lk [0] [0] ⟨rfl,rfl,qN,trivial⟩ (hh:=⟨(by dsimp only;rw [kN,← b8];rfl),trivial⟩))
 apply Y 0xe8d848a9;have hyes:=kE (l:=l) (k:=k) oe hkk;apply Y 0x22e;exact ⟨O,oc,by rw [hyes,bO];rfl,rfl,by rw [hyes,bO];rfl⟩
theorem eN (m w:Nat)(hw:w≤4):
    Ctr X 102 [.int .i64 (m:Int),.int .i64 (w:Int)] [] [] (fun v R' H'=>∃ (O:Option Addr) (oc:Nat),v=.slice O w oc∧R'=[]∧H'=[Own 5 1 O w oc (U8 (c6 m w))]):=by
 refine co Tryz.func102 ?_;intro β;apply Y 0x2b481a;intro A7;apply Y 0xaa161e7581;refine lp [] [] (fun q:Nat×Option Addr×Nat=>[(0,.int .i64 (m:Int)),(5,.slice q.2.1 q.1 q.2.2),(6,.int .i64 ((w:Int)-1-(q.1:Int)))]) nz (fun q=>[Own 5 1 q.2.1 q.1 q.2.2 (U8 ((c6 m w).take q.1))]) (fun q=>q.1≤w) (fun q=>w-q.1) (0,A7,0) (Nat.zero_le _) (by exact lk [] [0] ⟨rfl,rfl,oab,trivial⟩) ?_;apply Y 0xf1e;intro k O oc hk
 dsimp only at hk ⊢;apply Zu 0x2a58<;>intro
 ·apply Y 0xbf1f;intro hb;apply Y 0xe53fb87899;refine sp (Ad rfl rfl oe) ?_;apply Y 0x2b3a3f;intro A20;refine L.append (j:=0) rfl rfl rfl rfl ob rfl rfl rfl rfl (Src.o 1 rfl) rfl (by intro v hv;simp at hv;subst hv;rfl) oe oH rfl (fun A21 cc21=>?_);apply Y 0x81e61eabfb81e;refine QE.round (i:=(k,O,oc)) ((k+1,A21,cc21)) ot ot (by exact lk [] [0] ⟨rfl,rfl,qN,trivial⟩ (hh:=⟨(by dsimp only;rw [aA _ 0 k oaX,hb,← b8];rfl),trivial⟩))
 apply Y 0xe8c8a9;obtain rfl:k=w:=oe;rw [List.take_of_length_le oaX];exact Zm 0xbb0f91e
theorem fW (A:Option Addr)(c:Nat)(l:List UInt8)(hl:l.length≤4):
    Ctr X 209 [.slice A l.length c] [Rd A (U8 l)] [] (fun v R' H'=>v=.int .i64 (gR l:Int)∧R'=[]∧H'=[]):=by
 refine co Tryz.func209 ?_;intro β;apply Y 0xcd30e1a;refine lp [] [] (fun k:Nat=>[(0,.slice A l.length c),(3,.int .i64 (gR (l.take k):Int)),(4,.int .i64 (k:Int))]) (kz [_]) nz (fun k=>k≤l.length) (fun k=>l.length-k) 0 (Nat.zero_le _) (lk [0] []) ?_;intro k hk;apply Zu 0x2a9d<;>intro
 ·have hv:=kZ (l.take k);have hp:(256^(l.take k).length:Nat)≤16777216:=Nat.le_trans (Nat.pow_le_pow_right ob (show (l.take k).length≤3 by rw [List.length_take];omega)) ob;have hb:=UInt8.toNat_lt (l.getD k 0);apply Y 0x9adce1be2be8b1f2815eab99;refine QE.round (k+1) oe oe (by exact lk [0] [] ⟨rfl,(by rw [aA _ 0 k oe,mQ];exact congrArg some (congrArg (Value.int .i64) oe)),rfl,trivial⟩)
 apply Y 0xe8c8a9;obtain rfl:k=l.length:=oe;exact Zm 0x33e4b36e
theorem BB (s:List Int):
    Ctr X 55 [.agg (List.toArray (st9 s))] [] [] (fun v R' H'=>v=.bool (aY s)∧R'=[]∧H'=[]):=by
 refine co Tryz.func55 ?_;intro β;apply Y 0x6a;intro A1;apply Y 0xcae49;refine C.join (fun q:Option Addr×Option Addr=>[(1,ag A1 0),(3,ag q.1 0),(4,ag q.2 0)]) (fun q:Option Addr×Option Addr=>[Rd A1 (st9 s)]) (fun q:Option Addr×Option Addr=>[Own 189 5 q.1 1 1 (smV s),Own 104 3 q.2 1 1 (lgV s)]) (fun q:Option Addr×Option Addr=>True) ?_ ?_
 ·apply Y 0x2f0f370f270ff60fd60fdee650f;refine mq 6 rfl (faR 0) ?_;refine mq 7 rfl (ldR 0) ?_;refine mq 8 rfl (faR 0) ?_;refine mq 9 rfl (ldR 0) ?_;refine mq 10 rfl (fU rfl rfl rfl rfl rfl rfl rfl) ?_;refine mq 11 rfl (faR 0) ?_;refine mq 12 rfl (ldR 0) ?_;refine mq 13 rfl (faR 0) ?_;refine mq 14 rfl (ldR 0) ?_;refine mq 15 rfl (faR 0) ?_;refine mq 16 rfl (ldR 0) ?_;refine mq 17 rfl (fU rfl rfl rfl rfl rfl rfl rfl) ?_;refine LM.alt [18,19] oa ob hcx ⟨⟨_,rfl,?_⟩,⟨_,rfl,?_⟩,trivial⟩
  ·apply Y 0xa8;intro A3;apply Y 0xa8c20f3;intro A4;apply Y 0xfc4c7d0f696bd20f3
   exact aX ((A3,A4)) trivial (lk [0] [0,1])
  apply Y 0xa8;intro A4;apply Y 0xa8a60f3;intro A3;apply Y 0xfc6b7d0f694cd20f3
  exact aX ((A3,A4)) trivial (lk [0] [1,0])
 rintro ⟨A3,A4⟩ _;apply Y 0xcd58ad4e;refine lp [1,3,4] [_,_,_] (fun k:Nat=>[(5,.int .i64 (k:Int))]) (kz [_]) (kz [_,_]) (fun k=>k≤5∧small s k) (fun k=>5-k) 0 ⟨by decide,fun j hj=>by omega⟩ (lk [0] [0,1]) ?_;apply Y 0xb1e;intro k hk hs;apply Zu 0x2a58<;>intro
 ·apply Y 0xb73fb999;refine sp (Ev.load rfl rfl rfl (Src.o 0 rfl) (ET s oe)) ?_;apply Zu 0x3a18879e<;>intro hc33
  ·have q:¬(0≤s.getD (smI.getD k 0) 0∧s.getD (smI.getD k 0) 0≤255):=by simp [-List.getD_eq_getElem?_getD] at hc33;omega
   apply Y 0xec4b3da0e
   symm;rw [← Bool.not_eq_true,jg]
   exact fun h=>q (h.1 k oe)
  have q:0≤s.getD (smI.getD k 0) 0∧s.getD (smI.getD k 0) 0≤255:=by simp [-List.getD_eq_getElem?_getD] at hc33;omega
  apply Y 0x9a7a;refine QE.round (k+1) (by exact ⟨by omega,uT hs q⟩) oe (lk [0] [0,1])
 apply Y 0xcd5a9;refine lp [1,4] [_,_] (fun k:Nat=>[(6,.int .i64 (k:Int))]) (kz [_]) (kz [_]) (fun k=>k≤3∧Co s k) (fun k=>3-k) 0 ⟨by decide,fun j hj=>by omega⟩ (lk [0] [1]) ?_;obtain rfl:k=5:=oe;apply Y 0xb1e;intro k hk3 hl;apply Zu 0x2a58<;>intro
 ·apply Y 0xb73fb999;refine sp (Ev.load rfl rfl rfl (Src.o 0 rfl) (FP s oe)) ?_;apply Zu 0x3a18879e<;>intro hc42
  ·have q:¬(0≤s.getD (lgI.getD k 0) 0∧s.getD (lgI.getD k 0) 0≤65535):=by simp [-List.getD_eq_getElem?_getD] at hc42;omega
   apply Y 0xec4b3da0e
   symm;rw [← Bool.not_eq_true,jg]
   exact fun h=>q (h.2.1 k oe)
  have q:0≤s.getD (lgI.getD k 0) 0∧s.getD (lgI.getD k 0) 0≤65535:=by simp [-List.getD_eq_getElem?_getD] at hc42;omega
  apply Y 0x9a7a;refine QE.round (k+1) (by exact ⟨by omega,vh hl q⟩) oe (lk [0] [0])
 apply Y 0xe818879ef848a9;obtain rfl:k=3:=oe;apply Y 0xec4b;rw [Bool.eq_iff_iff,jg,Bool.and_eq_true,decide_eq_true_eq,decide_eq_true_eq];exact ⟨fun h=>⟨hs,hl,h⟩,fun h=>h.2.2⟩
theorem HU (A B:Option Addr)(c d:Nat)(xs ys:List UInt8)(m:Nat)(hm:ys.length=m)(h1:xs.length≤9223372036854775807)(h2:ys.length≤9223372036854775807):
    Ctr X 53 [.slice A xs.length c,.slice B m d] [Rd A (U8 xs),Rd B (U8 ys)] [] (fun v R' H'=>v=.bool (xs==ys)∧R'=[]∧H'=[]):=by
 subst hm
 exact m8 A B c d xs ys h1 h2
theorem wR (s:List Int):
    Ctr X 100 [.agg (List.toArray (st9 s))] [] [] (fun v R' H'=>∃ (O:Option Addr) (oc:Nat),v=.slice O (ax s).length oc∧R'=[]∧H'=[Own 5 1 O (ax s).length oc (U8 (ax s))]):=by
 refine co Tryz.func100 ?_;intro β;apply Y 0x6a;intro A1;apply Zu 0x3a188891f63edb549<;>intro hc6
 ·have hno:aY s=false:=by simpa using hc6
  apply Y 0x2b48;intro A7;apply Y 0x91e891;exact ⟨A7,0,by rw [ga hno];rfl,rfl,by rw [ga hno];rfl⟩
 have hyes:aY s=true:=by simpa using hc6
 have hr:=fun k (hk:k<9)=>bK hyes hk
 apply Y 0xbd;refine C.join (fun q:Option Addr×Nat=>[(1,ag A1 0),(3,.slice q.1 3 q.2)]) (fun q:Option Addr×Nat=>[Rd A1 (st9 s)]) (fun q:Option Addr×Nat=>[Own 5 1 q.1 3 q.2 (U8 ([UInt8.ofInt (s.getD 0 0)]++c6 (s.getD 1 0).toNat 2))]) (fun q:Option Addr×Nat=>True) ?_ ?_
 ·apply Y 0x370fa33fd60fdee650f;refine mq 5 rfl (Ev.cast (u:=.int .i64 (((s.getD 1 0).toNat:Nat):Int)) (ldR 0) (congrArg (Value.int .i64) (Int.toNat_of_nonneg (hr 1 ob).1).symm)) ?_;apply Zu 0x5f2f
  ·apply Y 0x2b;intro A11;apply Y 0x19723fe4e3;intro N nc;apply Y 0xb51f76e69;intro A15 cc15;exact Zm 0x103f5c17e3
  apply Y 0x19723f;intro N nc;apply Y 0x2b89e3;intro A11;apply Y 0xb51f76e69;intro A15 cc15;exact Zm 0x103f5c17e3
 rintro ⟨A15,cc15⟩ _;apply Y 0x2bedef8b98ad4e;intro A20;refine L.append (j:=0) rfl rfl rfl rfl ob rfl rfl rfl rfl (Src.o 1 rfl) rfl (by intro v hv;simp at hv;subst hv;rfl) oe oH rfl (fun A21 cc21=>?_);apply Y 0x21eb91;refine sp (Ev.cast (u:=.int .i64 (((s.getD 3 0).toNat:Nat):Int)) (ldR 0) (congrArg (Value.int .i64) (Int.toNat_of_nonneg (hr 3 ob).1).symm)) ?_;refine al (eN (s.getD 3 0).toNat 4 ob) ?_;apply Y 0x19;intro N nc;apply Y 0xb51f;intro A26 cc26;apply Y 0x2bedef8edef8edef8b91;intro A37;refine L.append (j:=1) rfl rfl rfl rfl ob rfl rfl rfl rfl (Src.o 3 rfl) rfl (by intro v hv;simp at hv;rcases hv with rfl|rfl|rfl<;>rfl) oe oH rfl (fun A38 cc38=>?_);apply Y 0x21eb91;refine sp (Ev.cast (u:=.int .i64 (((s.getD 7 0).toNat:Nat):Int)) (ldR 0) (congrArg (Value.int .i64) (Int.toNat_of_nonneg (hr 7 ob).1).symm)) ?_;refine al (eN (s.getD 7 0).toNat 2 ob) ?_;apply Y 0x19;intro N nc;refine L.append (j:=2) rfl rfl rfl rfl ob rfl rfl rfl rfl (Src.o 0 rfl) Q4 (bQ _) oe oH rfl (fun A43 cc43=>?_);apply Y 0x21eb91;refine sp (Ev.cast (u:=.int .i64 (((s.getD 8 0).toNat:Nat):Int)) (ldR 0) (congrArg (Value.int .i64) (Int.toNat_of_nonneg (hr 8 ob).1).symm)) ?_;refine al (eN (s.getD 8 0).toNat 2 ob) ?_;apply Y 0x19;intro N nc;refine L.append (j:=3) rfl rfl rfl rfl ob rfl rfl rfl rfl (Src.o 0 rfl) Q4 (bQ _) oe oH rfl (fun A48 cc48=>?_);apply Y 0xb91;refine L.call (js:=[]) (js':=[0,1,2,3,4,5]) (zB A48 cc48 (m5 s) (by rw [show (m5 s).length=15 from rfl];decide)) rfl rfl rfl ob ⟨(((Has.o 3 rfl)).cast (by simp [m5,U8])),trivial⟩ rfl ?_;apply Y 0x19;intro O oc;apply Y 0x91ee81;exact ⟨O,oc,by rw [eL hyes,← m4 hyes];rfl,rfl,by rw [eL hyes,← m4 hyes];rfl⟩
theorem Mx (A:Option Addr)(c:Nat)(l:List UInt8)(hl:l.length=30):
    Ctr X 151 [.slice A l.length c] [Rd A (U8 l)] [] (fun v R' H'=>v=.tuple #[.agg (List.toArray (st9 ((b7 l).getD (List.replicate 9 0)))),.bool (b7 l).isSome]∧R'=[]∧H'=[]):=by
 refine co Tryz.func151 ?_;intro β;apply Y 0xa848;intro A2;apply Y 0xb91;refine al (te A c l oe) ?_;apply Y 0x19;intro O oc;apply Y 0xb858d828;refine L.bool 13 rfl ?_ ?_<;>intro hg13
 ·have hno:=rf hl (by simpa using hg13);apply Y 0x1ca;refine C.cond rfl (fun _=>?_) (fun h=>by cases h);apply Y 0x8914c8b;refine qrt [] [] [_,_] rfl ⟨⟨_,_,0,_,rfl,rfl,Src.o 1 rfl,.inl ⟨rfl,by decide,_,rfl,rfl,rfl⟩⟩,rfl,trivial⟩ ?_;rw [hno];exact Zm 0x33e
 obtain ⟨hp,hst⟩:=re hl (by simpa using hg13);have hlen:(bC l).1.length=15:=by rw [hp,bO]
 apply Zu 0xdd387d<;>intro
 ·exact Zm 0x18
 apply Y 0x29ebd;intro hcap;have hcp:15≤oc:=by rw [← hlen];exact hcap
 apply Y 0x7c;refine aE [_,_] (Hq [0,1] rfl) ?_;apply Y 0x43e;refine mq 1 rfl (ae (k:=0) rfl rfl rfl rfl rfl rfl rfl oe (Src.r 0 rfl) oG) ?_;refine mq 2 rfl (Ev.load rfl rfl rfl (Src.r 0 rfl) (bp oe)) ?_;refine mq 3 rfl (cL rfl rfl rfl rfl) ?_;apply Y 0xfae;refine mq 5 rfl (Ev.cast (u:=.slice (bh O oc 1 1) (((bC l).1.drop 1).take 2).length (oc-1)) (bE (l:=1) (h:=3) rfl rfl rfl rfl rfl rfl rfl rfl ob oe) OU) ?_;apply Y 0x4f0f;refine mq 8 rfl (ae (k:=3) rfl rfl rfl rfl rfl rfl rfl oe (Src.r 0 rfl) oG) ?_;refine mq 9 rfl (Ev.load rfl rfl rfl (Src.r 0 rfl) (bp oe)) ?_;refine mq 10 rfl (cL rfl rfl rfl rfl) ?_;apply Y 0x78e;refine mq 12 rfl (Ev.cast (u:=.slice (bh O oc 4 1) (((bC l).1.drop 4).take 4).length (oc-4)) (bE (l:=4) (h:=8) rfl rfl rfl rfl rfl rfl rfl rfl ob oe) OU) ?_;apply Y 0xe20f;refine mq 15 rfl (ae (k:=8) rfl rfl rfl rfl rfl rfl rfl oe (Src.r 0 rfl) oG) ?_;refine mq 16 rfl (Ev.load rfl rfl rfl (Src.r 0 rfl) (bp oe)) ?_;refine mq 17 rfl (cL rfl rfl rfl rfl) ?_;apply Y 0x6a1f;refine mq 19 rfl (ae (k:=9) rfl rfl rfl rfl rfl rfl rfl oe (Src.r 0 rfl) oG) ?_;refine mq 20 rfl (Ev.load rfl rfl rfl (Src.r 0 rfl) (bp oe)) ?_;refine mq 21 rfl (cL rfl rfl rfl rfl) ?_;refine mq 22 rfl (Ev.pure rfl) ?_;refine mq 23 rfl (ae (k:=10) rfl rfl rfl rfl rfl rfl rfl oe (Src.r 0 rfl) oG) ?_;refine mq 24 rfl (Ev.load rfl rfl rfl (Src.r 0 rfl) (bp oe)) ?_;refine mq 25 rfl (cL rfl rfl rfl rfl) ?_;refine mq 26 rfl (Ev.pure rfl) ?_;refine mq 27 rfl (Ev.cast (u:=.slice (bh O oc 11 1) (((bC l).1.drop 11).take 2).length (oc-11)) (bE (l:=11) (h:=13) rfl rfl rfl rfl rfl rfl rfl rfl ob oe) OU) ?_;refine mq 29 rfl (Ev.pure rfl) ?_;refine mq 30 rfl (Ev.cast (u:=.slice (bh O oc 13 1) (((bC l).1.drop 13).take 2).length (oc-13)) (bE (l:=13) (h:=15) rfl rfl rfl rfl rfl rfl rfl rfl ob oe) OU) ?_;apply Y 0xe4e;refine L.call (js:=[]) (js':=[0]) (fW (bh O oc 1 1) (oc-1) (((bC l).1.drop 1).take 2) oN) rfl rfl rfl ob ⟨(((aQ (Has.r 0 rfl) oc 1 hcap).take 2).cast (bu _ _)),trivial⟩ rfl ?_;apply Y 0xb5e388;refine L.call (js:=[]) (js':=[0]) (fW (bh O oc 4 1) (oc-4) (((bC l).1.drop 4).take 4) oN) rfl rfl rfl ob ⟨(((aQ (Has.r 0 rfl) oc 4 hcap).take 4).cast (bu _ _)),trivial⟩ rfl ?_;apply Y 0x388;refine mfo 28 ?_;refine L.call (js:=[]) (js':=[0]) (fW (bh O oc 11 1) (oc-11) (((bC l).1.drop 11).take 2) oN) rfl rfl rfl ob ⟨(((aQ (Has.r 0 rfl) oc 11 hcap).take 2).cast (bu _ _)),trivial⟩ rfl ?_;apply Y 0x388;refine mfo 31 ?_;refine L.call (js:=[]) (js':=[0]) (fW (bh O oc 13 1) (oc-13) (((bC l).1.drop 13).take 2) oN) rfl rfl rfl ob ⟨(((aQ (Has.r 0 rfl) oc 13 hcap).take 2).cast (bu _ _)),trivial⟩ rfl ?_;apply Y 0x6988;refine fx 32 rfl oa trivial ?_;apply Y 0x3ba;refine fx 33 rfl oa trivial ?_;apply Y 0xa9ee88a5c8d0f36b;rw [hst,← show (bC l).1=bY l 15 from by rw [hp]];apply Y 0x84e
 show _=Value.tuple #[.agg (List.toArray (st9 (pK (bC l).1))),.bool true];rw [RE hlen];exact Zm 0x2
theorem yY (f:Fl)(a:Fa)(ok:f.Ok)(_hh:a.hs.length=f.data.length)(y:Ly):
    Ctr X 54 [flV f a,.agg (List.toArray [.int .i64 y.n,.int .i64 y.a,.int .i64 y.b,.int .i64 y.s0,.int .i64 y.s1,.slice y.T y.tn y.tc,.slice y.U y.un y.uc,.slice y.V y.vn y.vc])] (flR f a) [] (fun v R' H'=>v=.bool (du f y.a y.b)∧R'=[]∧H'=[]):=by
 obtain ⟨os1,os2,on1,on2,owl,odl,orows,ol1,ol2,owear⟩:=ok;refine co Tryz.func54 ?_;intro β;apply Y 0x6a;intro A2;apply Y 0x7b;intro A3;apply Zu 0x361f78879e7a4ebb1f21e48161e73bdb7c49<;>intro hg15
 ·have q15:0≤y.a∧y.a≤(f.data.length:Int)-1:=by simp at hg15;omega
  apply Y 0x288879ef9a4e4501f5be4;refine L.bool 22 rfl ?_ ?_<;>intro hg22
  ·have q22:0≤y.b∧y.b≤(f.data.length:Int)-1:=by simp at hg22;omega
   apply Y 0xb84a4e4501f5be4a4e4bb1f5be4;refine L.bool 31 rfl (imp mC ?_) (imp mD ?_)<;>intro
   ·apply Y 0xafeecd9d84a1e480e4
    symm;rw [decide_eq_decide];exact Zm 0x18
   apply Y 0xafeecd938ca
   symm;exact Zm 0xaee
  have q22:¬(0≤y.b∧y.b≤(f.data.length:Int)-1):=by simp at hg22;omega
  apply Y 0xafeecd938ca28ca39
  symm;exact Zm 0xaee
 have q15:¬(0≤y.a∧y.a≤(f.data.length:Int)-1):=by simp at hg15;omega
 apply Y 0xafeecd938ca28ca1dea
 symm;exact Zm 0xaee
theorem xW (f:Fl)(a:Fa)(ok:f.Ok)(_hh:a.hs.length=f.data.length)(h8:38≤f.size):
    Ctr X 150 [flV f a] (flR f a) [] (fun v R' H'=>v=.int .i64 (ej f:Int)∧R'=[]∧H'=[]):=by
 obtain ⟨os1,os2,on1,on2,owl,odl,orows,ol1,ol2,owear⟩:=ok;refine co Tryz.func150 ?_;intro β;apply Y 0x6a;intro A1;exact Zm 0x33ed91363f61ef8db49
theorem C2 (A:Option Addr)(c:Nat)(l:List UInt8)(hl:l.length≤4096):
    Ctr X 152 [.slice A l.length c] [Rd A (U8 l)] [] (fun v R' H'=>v=.bool (cG l)∧R'=[]∧H'=[]):=by
 refine co Tryz.func152 ?_;intro β;apply Y 0xb8481a;refine al (rY l.length oe) ?_;apply Y 0x41e;intro A6;apply Y 0x520f;refine al (HU A A6 c l.length l (List.replicate l.length 255) l.length oO oe O8) ?_;apply Y 0xecd9188;rw [Bool.eq_iff_iff,beq_iff_eq];exact ⟨fun h=>by rw [h];exact xx _,fun h=>zL h⟩
theorem Ee (f:Fl)(a:Fa)(ok:f.Ok)(hh:a.hs.length=f.data.length)(s:Int)(hs:0≤s∧s<(f.data.length:Int))(h8:8≤f.size)(hcap:Caps f a):
    Ctr X 149 [flV f a,.int .i64 s] (flR f a) [] (fun v R' H'=>v=.int .i64 (rN (aV f s))∧R'=[]∧H'=[]):=by
 obtain ⟨os1,os2,on1,on2,owl,odl,orows,ol1,ol2,owear⟩:=ok;have hrow:=orows s.toNat oe;have hcp:=hcap s.toNat oe;have hgn:=va (row:=(f.data.getD s.toNat [])) oe;refine co Tryz.func149 ?_;intro β;apply Y 0x6a;intro A2;apply Y 0x563f2fe673f7f8db49;refine L.call (js:=[]) (js':=[]) (te (a.hs.getD s.toNat (none,0)).1 (a.hs.getD s.toNat (none,0)).2 ((f.data.getD s.toNat []).take 8) oN) rfl rfl rfl ob ⟨(((((Has.kid 2 rfl oC (s.toNat) oZ).cast (a7 _))).take 8).cast (bu _ _)),trivial⟩ rfl ?_;apply Y 0x19;intro O oc;apply Zu 0x3a3858d828<;>intro hc18
 ·apply Y 0x84e6c
  unfold aV;rw [hgn,if_neg (by simpa using hc18)];exact Zm 0x2
 apply Y 0xb959;refine al (fW O oc (bC ((f.data.getD s.toNat []).take 8)).1 (xV qW)) ?_;apply Y 0x84ed9188
 unfold aV;rw [hgn,if_pos (by simpa using hc18)];exact Zm 0x2
theorem Gh (f:Fl)(a:Fa)(ok:f.Ok)(hh:a.hs.length=f.data.length)(y:Ly)(hcap:Caps f a):
    Ctr X 88 [flV f a,.agg (List.toArray [.int .i64 y.n,.int .i64 y.a,.int .i64 y.b,.int .i64 y.s0,.int .i64 y.s1,.slice y.T y.tn y.tc,.slice y.U y.un y.uc,.slice y.V y.vn y.vc])] (flR f a) [] (fun v R' H'=>v=.agg (List.toArray [.int .i64 (aq f y.a y.b).sec,.int .i64 (aq f y.a y.b).oth,.int .i64 (aq f y.a y.b).gen,.int .i64 ((aq f y.a y.b).s.getD 0 0),.int .i64 ((aq f y.a y.b).s.getD 1 0),.int .i64 ((aq f y.a y.b).s.getD 2 0),.int .i64 ((aq f y.a y.b).s.getD 3 0),.int .i64 ((aq f y.a y.b).s.getD 4 0),.int .i64 ((aq f y.a y.b).s.getD 5 0),.int .i64 ((aq f y.a y.b).s.getD 6 0),.int .i64 ((aq f y.a y.b).s.getD 7 0),.int .i64 ((aq f y.a y.b).s.getD 8 0),.int .i64 ((aq f y.a y.b).free:Int),.int .i64 ((aq f y.a y.b).torn:Int),.bool (aq f y.a y.b).found])∧R'=[]∧H'=[]):=by
 apply Y 0xc1e;intro hok;obtain ⟨os1,os2,on1,on2,owl,odl,orows,ol1,ol2,owear⟩:=ok;refine co Tryz.func88 ?_;intro β;apply Y 0x6a;intro A2;apply Y 0x7b;intro A3;apply Y 0xa8;intro A4;apply Y 0x63ef4e787cd1e5cb;refine al (yY f a hok hh y) ?_;apply Zu 0x3a188<;>intro hc13
 ·have hno:du f y.a y.b=false:=by simpa using hc13
  apply Y 0x84e3ce895b8b;rw [show aq f y.a y.b=lg0 from by unfold aq;rw [if_neg oau]];exact Zm 0x2
 have hft0:du f y.a y.b=true:=by simpa using hc13
 have hft:=ft hft0;have hps:=jq hft0;apply Y 0x372f;intro hrow;apply Y 0xf52f;intro hcp;apply Y 0xbd;refine C.join (fun q:Option Addr=>[(2,ag A2 0),(3,ag A3 0),(4,ag A4 0),(5,ag q 0)]) (fun q:Option Addr=>[Rd A3 [.int .i64 y.n,.int .i64 y.a,.int .i64 y.b,.int .i64 y.s0,.int .i64 y.s1,.slice y.T y.tn y.tc,.slice y.U y.un y.uc,.slice y.V y.vn y.vc],Rd A2 (flL f a),Rd a.D (aC a.hs (B8 f.data)),aS a.hs (B8 f.data),Rd a.W (I64 f.wear),Rd a.E (Bs f.dead)]) (fun q:Option Addr=>[Own 171 15 A4 1 1 [.int .i64 0,.int .i64 0,.int .i64 0,.int .i64 0,.int .i64 0,.int .i64 0,.int .i64 0,.int .i64 0,.int .i64 0,.int .i64 0,.int .i64 0,.int .i64 0,.int .i64 0,.int .i64 0,.bool false],Own 171 15 q 1 1 [.int .i64 y.a,.int .i64 y.b,.int .i64 (rN (aV f y.a)),.int .i64 0,.int .i64 0,.int .i64 0,.int .i64 0,.int .i64 0,.int .i64 0,.int .i64 0,.int .i64 0,.int .i64 0,.int .i64 0,.int .i64 0,.bool false]]) (fun q:Option Addr=>True) ?_ ?_
 ·apply Y 0xdee550f;refine mq 1 rfl (av (k:=0) (m:=1) rfl rfl rfl rfl rfl rfl ob (Src.r 0 rfl) oX rfl) ?_;apply Y 0xbdefee;refine mq 4 rfl (av (k:=1) (m:=2) rfl rfl rfl rfl rfl rfl ob (Src.r 0 rfl) oX rfl) ?_;apply Y 0x443f2f0f;refine mq 7 rfl (faR 0) ?_;refine mq 8 rfl (av (k:=0) (m:=1) rfl rfl rfl rfl rfl rfl ob (Src.r 0 rfl) oX rfl) ?_;refine mq 9 rfl (ldR 0) ?_;refine LM.alt [10,12] oa ob hcx ⟨⟨_,rfl,?_⟩,⟨_,rfl,?_⟩,trivial⟩
  ·apply Y 0xa8b3e733f388323f;intro A5;exact Zm 0x403ffc4c2ae69
  apply Y 0xa8;intro A5;exact Zm 0x403ffc4c2ae69ba34e388323f27e3
 rintro A5 _;apply Y 0x8a;refine fE (fun q:Unit=>[(2,ag A2 0),(3,ag A3 0),(4,ag A4 0),(5,ag A5 0)]) (fun q:Unit=>[Rd A3 [.int .i64 y.n,.int .i64 y.a,.int .i64 y.b,.int .i64 y.s0,.int .i64 y.s1,.slice y.T y.tn y.tc,.slice y.U y.un y.uc,.slice y.V y.vn y.vc],Rd A2 (flL f a),Rd a.D (aC a.hs (B8 f.data)),aS a.hs (B8 f.data),Rd a.W (I64 f.wear),Rd a.E (Bs f.dead)]) (fun q:Unit=>[Own 171 15 A4 1 1 [.int .i64 0,.int .i64 0,.int .i64 0,.int .i64 0,.int .i64 0,.int .i64 0,.int .i64 0,.int .i64 0,.int .i64 0,.int .i64 0,.int .i64 0,.int .i64 0,.int .i64 0,.int .i64 0,.bool false],Own 171 15 A5 1 1 [.int .i64 (aj f y.a y.b).sec,.int .i64 (aj f y.a y.b).oth,.int .i64 (aj f y.a y.b).gen,.int .i64 ((aj f y.a y.b).s.getD 0 0),.int .i64 ((aj f y.a y.b).s.getD 1 0),.int .i64 ((aj f y.a y.b).s.getD 2 0),.int .i64 ((aj f y.a y.b).s.getD 3 0),.int .i64 ((aj f y.a y.b).s.getD 4 0),.int .i64 ((aj f y.a y.b).s.getD 5 0),.int .i64 ((aj f y.a y.b).s.getD 6 0),.int .i64 ((aj f y.a y.b).s.getD 7 0),.int .i64 ((aj f y.a y.b).s.getD 8 0),.int .i64 ((aj f y.a y.b).free:Int),.int .i64 ((aj f y.a y.b).torn:Int),.bool (aj f y.a y.b).found]]) (fun q:Unit=>True) ?_ ?_
 ·apply Y 0xeeef91f5c0f5;refine mq 2 rfl (av (k:=1) (m:=2) rfl rfl rfl rfl rfl rfl ob (Src.r 0 rfl) oX rfl) ?_;apply Y 0x270f;refine mq 5 rfl (faR 6) ?_;refine mq 6 rfl (ldR 6) ?_;apply Zu 0x798a5c76e6988423f4ae<;>intro hc34
  ·apply Y 0xdee550f;refine mq 1 rfl (av (k:=1) (m:=2) rfl rfl rfl rfl rfl rfl ob (Src.r 0 rfl) oX rfl) ?_;apply Y 0xbdefee;refine mq 4 rfl (av (k:=0) (m:=1) rfl rfl rfl rfl rfl rfl ob (Src.r 0 rfl) oX rfl) ?_;apply Y 0xfc4c68e3ba66e6988423f27e3a4e96e3501f74e321ef3e443f2f0f;refine QE.join (()) OS (by exact lk [0,1,2,3,4,5] [0,1] (hh:=⟨rfl,(by unfold aj;rw [if_pos hc34];rfl),trivial⟩))
  apply Y 0x7a;refine QE.join (()) OS (by exact lk [0,1,2,3,4,5] [0,1] (hh:=⟨rfl,(by unfold aj;rw [if_neg hc34];rfl),trivial⟩))
 rintro _ _;apply Y 0xcd5;refine lp [2,3,4,5] [_,_,_,_] (fun k:Nat=>[(6,.int .i64 (k:Int))]) (kz [_,_,_,_,_,_]) (fun k=>[Own 171 15 A4 1 1 [.int .i64 0,.int .i64 0,.int .i64 0,.int .i64 0,.int .i64 0,.int .i64 0,.int .i64 0,.int .i64 0,.int .i64 0,.int .i64 0,.int .i64 0,.int .i64 0,.int .i64 0,.int .i64 0,.bool false],Own 171 15 A5 1 1 [.int .i64 (bz (f.data.getD (aj f y.a y.b).sec.toNat []) (aj f y.a y.b) (k)).sec,.int .i64 (bz (f.data.getD (aj f y.a y.b).sec.toNat []) (aj f y.a y.b) (k)).oth,.int .i64 (bz (f.data.getD (aj f y.a y.b).sec.toNat []) (aj f y.a y.b) (k)).gen,.int .i64 ((bz (f.data.getD (aj f y.a y.b).sec.toNat []) (aj f y.a y.b) (k)).s.getD 0 0),.int .i64 ((bz (f.data.getD (aj f y.a y.b).sec.toNat []) (aj f y.a y.b) (k)).s.getD 1 0),.int .i64 ((bz (f.data.getD (aj f y.a y.b).sec.toNat []) (aj f y.a y.b) (k)).s.getD 2 0),.int .i64 ((bz (f.data.getD (aj f y.a y.b).sec.toNat []) (aj f y.a y.b) (k)).s.getD 3 0),.int .i64 ((bz (f.data.getD (aj f y.a y.b).sec.toNat []) (aj f y.a y.b) (k)).s.getD 4 0),.int .i64 ((bz (f.data.getD (aj f y.a y.b).sec.toNat []) (aj f y.a y.b) (k)).s.getD 5 0),.int .i64 ((bz (f.data.getD (aj f y.a y.b).sec.toNat []) (aj f y.a y.b) (k)).s.getD 6 0),.int .i64 ((bz (f.data.getD (aj f y.a y.b).sec.toNat []) (aj f y.a y.b) (k)).s.getD 7 0),.int .i64 ((bz (f.data.getD (aj f y.a y.b).sec.toNat []) (aj f y.a y.b) (k)).s.getD 8 0),.int .i64 ((bz (f.data.getD (aj f y.a y.b).sec.toNat []) (aj f y.a y.b) (k)).free:Int),.int .i64 ((bz (f.data.getD (aj f y.a y.b).sec.toNat []) (aj f y.a y.b) (k)).torn:Int),.bool (bz (f.data.getD (aj f y.a y.b).sec.toNat []) (aj f y.a y.b) (k)).found]]) (fun k=>k≤ej f∧(k=0∨0≤(aj f y.a y.b).gen)) (fun k=>ej f-k) 0 ⟨Nat.zero_le _,.inl rfl⟩ (lk [0,1,2,3,4,5] [0,1]) ?_;apply Y 0xb1e;intro k hk hkg;apply Y 0x2888923ff4e758;refine L.bool 51 rfl (imp of_decide_eq_true ?_) (imp of_decide_eq_false ?_)<;>intro
 ·apply Y 0x141f;intro hkp;apply Y 0xc72f;intro hsl;apply Y 0x102f;intro hkl;apply Y 0xb22f;intro hpl;apply Zu 0x2a41ee43be4<;>intro hc55
  ·apply Y 0x15e7f53f15e7430fe63ffa3b4899;refine sp (Ev.cast (u:=.int .i64 ((38+30*k:Nat):Int)) (Ev.add rfl rfl oe oe) (congrArg (Value.int .i64) oe)) ?_;refine sp (Ev.cast (u:=.slice (bh (a.hs.getD (aj f y.a y.b).sec.toNat (none,0)).1 (a.hs.getD (aj f y.a y.b).sec.toNat (none,0)).2 (8+30*k) 1) (cf (f.data.getD (aj f y.a y.b).sec.toNat []) k).length ((a.hs.getD (aj f y.a y.b).sec.toNat (none,0)).2-(8+30*k))) (bE (l:=8+30*k) (h:=38+30*k) rfl rfl rfl rfl rfl rfl rfl rfl oe oe) (by rw [hsl.1,show 38+30*k-(8+30*k)=30 by omega];rfl)) ?_;apply Y 0xab3c2f49;refine al (Mx (bh (a.hs.getD (aj f y.a y.b).sec.toNat (none,0)).1 (a.hs.getD (aj f y.a y.b).sec.toNat (none,0)).2 (8+30*k) 1) ((a.hs.getD (aj f y.a y.b).sec.toNat (none,0)).2-(8+30*k)) (cf (f.data.getD (aj f y.a y.b).sec.toNat []) k) hsl.1) ?_;apply Y 0xa8b888;intro A8;apply Zu 0x3a1a49a3e<;>intro hc76
   ·obtain ⟨s1,hs1⟩:=Option.isSome_iff_exists.1 hc76;have hnb:cG (cf (f.data.getD (aj f y.a y.b).sec.toNat []) k)=false:=by cases hb:cG (cf (f.data.getD (aj f y.a y.b).sec.toNat []) k) with|false=>rfl|true=>rw [vF oe hb] at hs1;cases hs1
    apply Y 0xb858989c4c3bec70f78;refine L.bool 82 rfl ?_ ?_<;>intro hg82
    ·exact absurd hg82 (by rw [hc76];exact Bool.false_ne_true)
    apply Y 0x1ca;refine C.cond rfl (fun h=>by cases h) (fun _=>?_);apply Zu 0x3a1887e0fb959<;>intro hc93
    ·apply Y 0x9a60e9cdaab;refine QE.round (k+1) QJ oe (by exact lk [1,2,3,4,5,6] [0,1] (hh:=⟨rfl,(by rw [bT,wC hnb hs1,hs1];rfl),trivial⟩))
    rw [hnb] at hc93
    cases hc93
   have hsn:b7 (cf (f.data.getD (aj f y.a y.b).sec.toNat []) k)=none:=Option.not_isSome_iff_eq_none.1 (by rw [hc76];exact Bool.false_ne_true);apply Y 0xb85859;refine L.bool 82 rfl ?_ ?_<;>intro hg82
   ·apply Zu 0x3a384887e0ff9<;>intro hc86
    ·have hnb:cG (cf (f.data.getD (aj f y.a y.b).sec.toNat []) k)=false:=by simpa using hc86
     apply Zu 0x3a1887e0fb9989cdafa78<;>intro hc93
     ·apply Y 0x9a60e9cdaab;refine QE.round (k+1) QJ oe (by exact lk [1,2,3,4,5,6] [0,1] (hh:=⟨rfl,(by rw [bT,wB hnb hsn];rfl),trivial⟩))
     rw [hnb] at hc93
     cases hc93
    have hbl:cG (cf (f.data.getD (aj f y.a y.b).sec.toNat []) k)=true:=by simpa using hc86
    apply Zu 0x3a1887e0fb959<;>intro hc93
    ·rw [hbl] at hc93
     cases hc93
    apply Y 0x9a7a;refine QE.round (k+1) QJ oe (by exact lk [1,2,3,4,5,6] [0,1] (hh:=⟨rfl,(by rw [bT,wE hbl];rfl),trivial⟩))
   exact absurd hg82 (by rw [hc76];exact fun h=>by cases h)
  apply Y 0x3cee85bc5e48a9;obtain rfl:k=0:=by rcases hkg with h|h;exact h;rw [hkp.2.2] at hc55;omega
  have hgn:(aj f y.a y.b).gen<0:=by rw [hkp.2.2] at hc55;omega
  apply Y 0x84e;rw [show aq f y.a y.b=(aj f y.a y.b) from by unfold aq;rw [if_pos hft0,if_pos hgn]];exact Zm 0x2
 apply Y 0x141f;intro hkp;apply Y 0x1ca;refine C.cond rfl (fun h=>by cases h) (fun _=>?_);apply Y 0x3cee85bc5e48a9;obtain rfl:k=ej f:=oe;have hp1:0<ej f:=B3 hft.2.2.2.2.2;have hgn:¬(aj f y.a y.b).gen<0:=oe;apply Y 0x84e;rw [show aq f y.a y.b=(bz (f.data.getD (aj f y.a y.b).sec.toNat []) (aj f y.a y.b) (ej f)) from by unfold aq aV;rw [if_pos hft0,if_neg hgn]];exact Zm 0x2
theorem Fj (f:Fl)(a:Fa)(ok:f.Ok)(hh:a.hs.length=f.data.length)(y:Ly)(hcap:Caps f a):
    Ctr X 25 [flV f a,.agg (List.toArray [.int .i64 y.n,.int .i64 y.a,.int .i64 y.b,.int .i64 y.s0,.int .i64 y.s1,.slice y.T y.tn y.tc,.slice y.U y.un y.uc,.slice y.V y.vn y.vc])] (flR f a) [] (fun v R' H'=>v=.tuple #[.agg (List.toArray (st9 (bj f y.a y.b).1)),.int .i64 ((bj f y.a y.b).2.1:Int),.int .i64 (bj f y.a y.b).2.2]∧R'=[]∧H'=[]):=by
 apply Y 0xc1e;intro hok;obtain ⟨os1,os2,on1,on2,owl,odl,orows,ol1,ol2,owear⟩:=ok;refine co Tryz.func25 ?_;intro β;apply Y 0x6a;intro A2;apply Y 0x7b;intro A3;apply Y 0xa8;intro A4;apply Y 0xa8b888123f63ef4e787cd1e538;intro A7;apply Zu 0x3a385814c<;>intro hc16
 ·have hno:(aq f y.a y.b).found=false:=obc;apply Y 0x84ee43f89386b8b;rw [s6 hno];exact Zm 0x2
 have hyes:(aq f y.a y.b).found=true:=obc;apply Y 0x5c0fbd;refine mq 0 rfl (faR 6) ?_;refine mq 1 rfl (ab rfl rfl rfl (Src.r 6 rfl) rfl rfl ob) ?_;refine mq 2 rfl (faR 6) ?_;refine mq 3 rfl (ldR 6) ?_;apply Y 0x84ee43fe88a5c5de37bbe696b4ae;rw [ns hyes,← cM hyes];exact Zm 0x2
theorem Fi (f:Fl)(a:Fa)(ok:f.Ok)(hh:a.hs.length=f.data.length)(y:Ly)(hcap:Caps f a):
    Ctr X 42 [flV f a,.agg (List.toArray [.int .i64 y.n,.int .i64 y.a,.int .i64 y.b,.int .i64 y.s0,.int .i64 y.s1,.slice y.T y.tn y.tc,.slice y.U y.un y.uc,.slice y.V y.vn y.vc])] (flR f a) [] (fun v R' H'=>v=.agg (List.toArray [.int .i64 ((bj f y.a y.b).1.getD 0 0),.int .i64 ((bj f y.a y.b).1.getD 1 0),.int .i64 ((bj f y.a y.b).1.getD 2 0),.int .i64 ((bj f y.a y.b).1.getD 3 0),.int .i64 ((bj f y.a y.b).1.getD 4 0),.int .i64 ((bj f y.a y.b).1.getD 5 0),.int .i64 ((bj f y.a y.b).1.getD 6 0),.int .i64 ((bj f y.a y.b).1.getD 7 0),.int .i64 ((bj f y.a y.b).1.getD 8 0),.int .i64 ((bj f y.a y.b).2.1:Int),.int .i64 (bj f y.a y.b).2.2])∧R'=[]∧H'=[]):=by
 apply Y 0xc1e;intro hok;obtain ⟨os1,os2,on1,on2,owl,odl,orows,ol1,ol2,owear⟩:=ok;refine co Tryz.func42 ?_;intro β;apply Y 0x6a;intro A2;apply Y 0x7b;intro A3;apply Y 0xa8;intro A4;apply Y 0xa888223f63ef4e787cd1ecb;intro A5;apply Zu 0x3a1fa58984c<;>intro hc11
 ·have hno:(aq f y.a y.b).found=false:=by simpa using hc11
  apply Y 0x84e3ce895b8b;rw [s6 hno];exact Zm 0x2
 have hyes:(aq f y.a y.b).found=true:=by simpa using hc11
 apply Y 0x84e3cee85bbafac5e3be8d;rw [ns hyes];exact Zm 0x2
end Go.Proofs.YtbpddeiogcgegaaGreat
