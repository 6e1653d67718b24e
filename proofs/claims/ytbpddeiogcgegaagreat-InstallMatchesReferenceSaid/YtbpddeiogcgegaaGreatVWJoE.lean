/-
  Part of a proof.
-/
import Derived.Test.YtbpddeiogcgegaaGreatVWJoB
set_option maxHeartbeats 0
set_option maxRecDepth 4000
set_option linter.all false
namespace Go.Proofs.YtbpddeiogcgegaaGreat
open Go.Sl
theorem AC (A:Option Addr)(c:Nat)(l:List UInt8)(hl:l.length≤1000):
    Ctr X 101 [.slice A l.length c] [Rd A (U8 l)] [] (fun v R' H'=>∃ (O:Option Addr) (oc:Nat),v=.slice O (bt l).length oc∧R'=[]∧H'=[Own 5 1 O (bt l).length oc (U8 (bt l))]):=by
 refine co Tryz.func101 ?_;intro β;apply Y 0x3b7c9;intro A5;apply Y 0xad49;refine lp [] [] (fun q:Nat×Option Addr×Nat=>[(0,.slice A l.length c),(3,.slice q.2.1 (bt (l.take (q.1))).length q.2.2),(4,.int .i64 (q.1:Int))]) (kz [_]) (fun q=>[Own 5 1 q.2.1 (bt (l.take (q.1))).length q.2.2 (U8 (bt (l.take (q.1))))]) (fun q=>q.1≤l.length) (fun q=>l.length-q.1) (0,A5,0) (Nat.zero_le _) (lk [0] [0]) ?_;apply Y 0x72e;intro k O oc hk
 dsimp only at hk ⊢;apply Zu 0xe9bd<;>intro
 ·have hbl:(bt (l.take (k))).length≤2000:=by rw [cQ,List.length_take];omega
  have hst:(bt (l.take (k+1)))=(bt (l.take (k)))++[l.getD k 0,~~~(l.getD k 0)]:=by rw [aB _ 0 k oe,kb,pN]
  apply Y 0xdde3beb3e760f89;refine mq 3 rfl (ae (k:=k) rfl rfl rfl rfl rfl rfl rfl oe (Src.r 0 rfl) oI) ?_;refine mq 4 rfl (Ev.load rfl rfl rfl (Src.r 0 rfl) (bn oe)) ?_;apply Y 0xf6e35be54e36d1f34e3645e36e;refine sp (rh rfl) ?_;apply Y 0x3b57e3;intro A22;apply Y 0x86e69;refine L.append (j:=0) rfl rfl rfl rfl ob rfl rfl rfl rfl (Src.o 1 rfl) rfl (by intro v hv;simp at hv;rcases hv with rfl|rfl<;>rfl) oe oJ rfl (fun A23 cc23=>?_);apply Y 0x8a6c48e3;refine QE.round (i:=(k,O,oc)) ((k+1,A23,cc23)) ou ou (by exact lk [0] [0] ⟨rfl,qB,rfl,trivial⟩ (hh:=⟨qj,trivial⟩))
 apply Y 0xd8c8a9;obtain rfl:k=l.length:=oe;exact Zm 0xfc0f11eb6e
theorem ug (A:Option Addr)(c:Nat)(l:List UInt8)(hl:l.length≤1000):
    Ctr X 208 [.slice A l.length c] [Rd A (U8 l)] [] (fun v R' H'=>∃ (O:Option Addr) (oc:Nat),v=.tuple #[.slice O (bD l).1.length oc,.bool (bD l).2]∧R'=[]∧H'=[Own 5 1 O (bD l).1.length oc (U8 (bD l).1)]):=by
 refine co Tryz.func208 ?_;intro β;apply Y 0x3b7c8;intro A6;apply Y 0xad49;refine lp [] [] (fun q:Nat×Option Addr×Nat=>[(0,.slice A l.length c),(4,.slice q.2.1 q.1 q.2.2),(5,.int .i64 (2*(q.1:Int)))]) (kz [_]) (fun q=>[Own 5 1 q.2.1 q.1 q.2.2 (U8 (b6 l q.1))]) (fun q=>2*q.1≤l.length∧aO l q.1=true) (fun q=>l.length-2*q.1) (0,A6,0) ⟨Nat.zero_le _,rfl⟩ (lk [0] [0]) ?_;apply Y 0xbc2f;intro k O oc hk hkk
 dsimp only at hk hkk ⊢;apply Zu 0x79e8ca658<;>intro
 ·apply Y 0x2a6d5589;refine sq (ae (k:=2*k) rfl rfl rfl rfl rfl rfl oe oe (Src.r 0 rfl) oI) ?_;apply Y 0xdce2aaae;refine sq (ae (k:=2*k+1) rfl rfl rfl rfl rfl rfl oe oe (Src.r 0 rfl) oI) ?_;apply Y 0xaae;refine sq (rh rfl) ?_;apply Zu 0x5d80e<;>intro hc24
  ·have hno:=yL (l:=l) (k:=k) oe (by unfold c6;rw [beq_eq_false_iff_ne];exact fun h=>hc24 (dN.2 h));apply Y 0xe8e63edc12e59c8;exact ⟨none,0,by rw [hno];rfl,rfl,by rw [hno];rfl⟩
  have hk1:aO l (k+1)=true:=by rw [cK,hkk,Bool.true_and];unfold c6;rw [beq_iff_eq];exact dN.1 hc24
  apply Y 0xb86899;refine sp (ae (k:=2*k) rfl rfl rfl rfl rfl rfl oe oe (Src.r 0 rfl) oI) ?_;apply Y 0x3b5be;intro A30;refine L.append (j:=0) rfl rfl rfl rfl ob rfl rfl rfl rfl (Src.o 1 rfl) rfl (by intro v hv;simp at hv;subst hv;rfl) oe oJ rfl (fun A31 cc31=>?_);apply Y 0x8ad1e;refine QE.round (i:=(k,O,oc)) ((k+1,A31,cc31)) (by exact ⟨by dsimp only;omega,hk1⟩) ou (by exact lk [0] [0] ⟨rfl,rfl,qS,trivial⟩ (hh:=⟨(by dsimp only;rw [lz,← b9];rfl),trivial⟩))
 apply Y 0xd8e87a9;have hyes:=ld (l:=l) (k:=k) oe hkk;apply Y 0xa2e;exact ⟨O,oc,by rw [hyes,bT];rfl,rfl,by rw [hyes,bT];rfl⟩
theorem eY (m w:Nat)(hw:w≤4):
    Ctr X 102 [.int .i64 (m:Int),.int .i64 (w:Int)] [] [] (fun v R' H'=>∃ (O:Option Addr) (oc:Nat),v=.slice O w oc∧R'=[]∧H'=[Own 5 1 O w oc (U8 (dd m w))]):=by
 refine co Tryz.func102 ?_;intro β;apply Y 0x3b7c9;intro A7;apply Y 0xba1c1e6581;refine lp [] [] (fun q:Nat×Option Addr×Nat=>[(0,.int .i64 (m:Int)),(5,.slice q.2.1 q.1 q.2.2),(6,.int .i64 ((w:Int)-1-(q.1:Int)))]) nz (fun q=>[Own 5 1 q.2.1 q.1 q.2.2 (U8 ((dd m w).take q.1))]) (fun q=>q.1≤w) (fun q=>w-q.1) (0,A7,0) (Nat.zero_le _) (by exact lk [] [0] ⟨rfl,rfl,oag,trivial⟩) ?_;apply Y 0x72e;intro k O oc hk
 dsimp only at hk ⊢;apply Zu 0xe958<;>intro
 ·apply Y 0xd12f;intro hb;apply Y 0x6c3fb86889;refine sp (Bk rfl rfl oe) ?_;apply Y 0x3bb14f;intro A20;refine L.append (j:=0) rfl rfl rfl rfl ob rfl rfl rfl rfl (Src.o 1 rfl) rfl (by intro v hv;simp at hv;subst hv;rfl) oe oJ rfl (fun A21 cc21=>?_);apply Y 0xd1ec1e2c74ed1e;refine QE.round (i:=(k,O,oc)) ((k+1,A21,cc21)) ou ou (by exact lk [] [0] ⟨rfl,rfl,qS,trivial⟩ (hh:=⟨(by dsimp only;rw [aB _ 0 k oa6,hb,← b9];rfl),trivial⟩))
 apply Y 0xd8c8a9;obtain rfl:k=w:=oe;rw [List.take_of_length_le oa6];exact Zm 0xfc0f11e
theorem gd (A:Option Addr)(c:Nat)(l:List UInt8)(hl:l.length≤4):
    Ctr X 209 [.slice A l.length c] [Rd A (U8 l)] [] (fun v R' H'=>v=.int .i64 (ia l:Int)∧R'=[]∧H'=[]):=by
 refine co Tryz.func209 ?_;intro β;apply Y 0xad20ec9;refine lp [] [] (fun k:Nat=>[(0,.slice A l.length c),(3,.int .i64 (ia (l.take k):Int)),(4,.int .i64 (k:Int))]) (kz [_]) nz (fun k=>k≤l.length) (fun k=>l.length-k) 0 (Nat.zero_le _) (lk [0] []) ?_;intro k hk;apply Zu 0xe9bd<;>intro
 ·have hv:=jh (l.take k);have hp:(256^(l.take k).length:Nat)≤16777216:=Nat.le_trans (Nat.pow_le_pow_right ob (show (l.take k).length≤3 by rw [List.length_take];omega)) ob;have hb:=UInt8.toNat_lt (l.getD k 0);apply Y 0x8a4de9fe5be6d1f4855e2c89;refine QE.round (k+1) oe oe (by exact lk [0] [] ⟨rfl,(by rw [aB _ 0 k oe,nr];exact congrArg some (congrArg (Value.int .i64) oe)),rfl,trivial⟩)
 apply Y 0xd8c8a9;obtain rfl:k=l.length:=oe;exact Zm 0x53e8bb6e
theorem Cw (s:List Int):
    Ctr X 55 [.agg (List.toArray (st9 s))] [] [] (fun v R' H'=>v=.bool (aI s)∧R'=[]∧H'=[]):=by
 refine co Tryz.func55 ?_;intro β;apply Y 0x4a;intro A1;apply Y 0x7ae49;refine C.join (fun q:Option Addr×Option Addr=>[(1,ag A1 0),(3,ag q.1 0),(4,ag q.2 0)]) (fun q:Option Addr×Option Addr=>[Rd A1 (st9 s)]) (fun q:Option Addr×Option Addr=>[Own 189 5 q.1 1 1 (smV s),Own 104 3 q.2 1 1 (lgV s)]) (fun q:Option Addr×Option Addr=>True) ?_ ?_
 ·apply Y 0x601f180ff70fd70fa70f6fe760f;refine mq 6 rfl (faR 0) ?_;refine mq 7 rfl (ldR 0) ?_;refine mq 8 rfl (faR 0) ?_;refine mq 9 rfl (ldR 0) ?_;refine mq 10 rfl (ga rfl rfl rfl rfl rfl rfl rfl) ?_;refine mq 11 rfl (faR 0) ?_;refine mq 12 rfl (ldR 0) ?_;refine mq 13 rfl (faR 0) ?_;refine mq 14 rfl (ldR 0) ?_;refine mq 15 rfl (faR 0) ?_;refine mq 16 rfl (ldR 0) ?_;refine mq 17 rfl (ga rfl rfl rfl rfl rfl rfl rfl) ?_;refine LM.alt [18,19] oa ob hcx ⟨⟨_,rfl,?_⟩,⟨_,rfl,?_⟩,trivial⟩
  ·apply Y 0x98;intro A3;apply Y 0x98f30f3;intro A4;apply Y 0xcc6b591f695b140f3
   exact aR ((A3,A4)) trivial (lk [0] [0,1])
  apply Y 0x98;intro A4;apply Y 0x98770f3;intro A3;apply Y 0xcc5b591f696b140f3
  exact aR ((A3,A4)) trivial (lk [0] [1,0])
 rintro ⟨A3,A4⟩ _;apply Y 0xad56a84e;refine lp [1,3,4] [_,_,_] (fun k:Nat=>[(5,.int .i64 (k:Int))]) (kz [_]) (kz [_,_]) (fun k=>k≤5∧small s k) (fun k=>5-k) 0 ⟨by decide,fun j hj=>by omega⟩ (lk [0] [0,1]) ?_;apply Y 0xa1e;intro k hk hs;apply Zu 0xe958<;>intro
 ·apply Y 0xae3ff989;refine sp (Ev.load rfl rfl rfl (Src.o 0 rfl) (FQ s oe)) ?_;apply Zu 0x1a1a8a9e<;>intro hc33
  ·have q:¬(0≤s.getD (smI.getD k 0) 0∧s.getD (smI.getD k 0) 0≤255):=by simp [-List.getD_eq_getElem?_getD] at hc33;omega
   apply Y 0x4d8bdc70e
   symm;rw [← Bool.not_eq_true,jA]
   exact fun h=>q (h.1 k oe)
  have q:0≤s.getD (smI.getD k 0) 0∧s.getD (smI.getD k 0) 0≤255:=by simp [-List.getD_eq_getElem?_getD] at hc33;omega
  apply Y 0x8a5a;refine QE.round (k+1) (by exact ⟨by omega,vL hs q⟩) oe (lk [0] [0,1])
 apply Y 0xad5a9;refine lp [1,4] [_,_] (fun k:Nat=>[(6,.int .i64 (k:Int))]) (kz [_]) (kz [_]) (fun k=>k≤3∧Df s k) (fun k=>3-k) 0 ⟨by decide,fun j hj=>by omega⟩ (lk [0] [1]) ?_;obtain rfl:k=5:=oe;apply Y 0xa1e;intro k hk3 hl;apply Zu 0xe958<;>intro
 ·apply Y 0xae3ff989;refine sp (Ev.load rfl rfl rfl (Src.o 0 rfl) (GJ s oe)) ?_;apply Zu 0x1a1a8a9e<;>intro hc42
  ·have q:¬(0≤s.getD (lgI.getD k 0) 0∧s.getD (lgI.getD k 0) 0≤65535):=by simp [-List.getD_eq_getElem?_getD] at hc42;omega
   apply Y 0x4d8bdc70e
   symm;rw [← Bool.not_eq_true,jA]
   exact fun h=>q (h.2.1 k oe)
  have q:0≤s.getD (lgI.getD k 0) 0∧s.getD (lgI.getD k 0) 0≤65535:=by simp [-List.getD_eq_getElem?_getD] at hc42;omega
  apply Y 0x8a5a;refine QE.round (k+1) (by exact ⟨by omega,wa hl q⟩) oe (lk [0] [0])
 apply Y 0xd81a8a9ef87a9;obtain rfl:k=3:=oe;apply Y 0x4d8b;rw [Bool.eq_iff_iff,jA,Bool.and_eq_true,decide_eq_true_eq,decide_eq_true_eq];exact ⟨fun h=>⟨hs,hl,h⟩,fun h=>h.2.2⟩
theorem Ir (A B:Option Addr)(c d:Nat)(xs ys:List UInt8)(m:Nat)(hm:ys.length=m)(h1:xs.length≤9223372036854775807)(h2:ys.length≤9223372036854775807):
    Ctr X 53 [.slice A xs.length c,.slice B m d] [Rd A (U8 xs),Rd B (U8 ys)] [] (fun v R' H'=>v=.bool (xs==ys)∧R'=[]∧H'=[]):=by
 subst hm
 exact kY A B c d xs ys h1 h2
theorem xM (s:List Int):
    Ctr X 100 [.agg (List.toArray (st9 s))] [] [] (fun v R' H'=>∃ (O:Option Addr) (oc:Nat),v=.slice O (aw s).length oc∧R'=[]∧H'=[Own 5 1 O (aw s).length oc (U8 (aw s))]):=by
 refine co Tryz.func100 ?_;intro β;apply Y 0x4a;intro A1;apply Zu 0x1a1a82b1fc3e7c549<;>intro hc6
 ·have hno:aI s=false:=by simpa using hc6
  apply Y 0x3b7;intro A7;apply Y 0x11e591;exact ⟨A7,0,by rw [gk hno];rfl,rfl,by rw [gk hno];rfl⟩
 have hyes:aI s=true:=by simpa using hc6
 have hr:=fun k (hk:k<9)=>bL hyes hk
 apply Y 0x9d;refine C.join (fun q:Option Addr×Nat=>[(1,ag A1 0),(3,.slice q.1 3 q.2)]) (fun q:Option Addr×Nat=>[Rd A1 (st9 s)]) (fun q:Option Addr×Nat=>[Own 5 1 q.1 3 q.2 (U8 ([UInt8.ofInt (s.getD 0 0)]++dd (s.getD 1 0).toNat 2))]) (fun q:Option Addr×Nat=>True) ?_ ?_
 ·apply Y 0x180fe93fa70f6fe760f;refine mq 5 rfl (Ev.cast (u:=.int .i64 (((s.getD 1 0).toNat:Nat):Int)) (ldR 0) (congrArg (Value.int .i64) (Int.toNat_of_nonneg (hr 1 ob).1).symm)) ?_;apply Zu 0x923f
  ·apply Y 0x3b;intro A11;apply Y 0x19c83f45e3;intro N nc;apply Y 0x171fd6e69;intro A15 cc15;exact Zm 0x263f6ce6e3
  apply Y 0x19c83f;intro N nc;apply Y 0x3bc9e3;intro A11;apply Y 0x171fd6e69;intro A15 cc15;exact Zm 0x263f6ce6e3
 rintro ⟨A15,cc15⟩ _;apply Y 0x3b4eef8f96a84e;intro A20;refine L.append (j:=0) rfl rfl rfl rfl ob rfl rfl rfl rfl (Src.o 1 rfl) rfl (by intro v hv;simp at hv;subst hv;rfl) oe oJ rfl (fun A21 cc21=>?_);apply Y 0xc0ef91;refine sp (Ev.cast (u:=.int .i64 (((s.getD 3 0).toNat:Nat):Int)) (ldR 0) (congrArg (Value.int .i64) (Int.toNat_of_nonneg (hr 3 ob).1).symm)) ?_;refine al (eY (s.getD 3 0).toNat 4 ob) ?_;apply Y 0x19;intro N nc;apply Y 0x171f;intro A26 cc26;apply Y 0x3b4eef84eef84eef8f91;intro A37;refine L.append (j:=1) rfl rfl rfl rfl ob rfl rfl rfl rfl (Src.o 3 rfl) rfl (by intro v hv;simp at hv;rcases hv with rfl|rfl|rfl<;>rfl) oe oJ rfl (fun A38 cc38=>?_);apply Y 0xc0ef91;refine sp (Ev.cast (u:=.int .i64 (((s.getD 7 0).toNat:Nat):Int)) (ldR 0) (congrArg (Value.int .i64) (Int.toNat_of_nonneg (hr 7 ob).1).symm)) ?_;refine al (eY (s.getD 7 0).toNat 2 ob) ?_;apply Y 0x19;intro N nc;refine L.append (j:=2) rfl rfl rfl rfl ob rfl rfl rfl rfl (Src.o 0 rfl) Q8 (bN _) oe oJ rfl (fun A43 cc43=>?_);apply Y 0xc0ef91;refine sp (Ev.cast (u:=.int .i64 (((s.getD 8 0).toNat:Nat):Int)) (ldR 0) (congrArg (Value.int .i64) (Int.toNat_of_nonneg (hr 8 ob).1).symm)) ?_;refine al (eY (s.getD 8 0).toNat 2 ob) ?_;apply Y 0x19;intro N nc;refine L.append (j:=3) rfl rfl rfl rfl ob rfl rfl rfl rfl (Src.o 0 rfl) Q8 (bN _) oe oJ rfl (fun A48 cc48=>?_);apply Y 0xf91;refine L.call (js:=[]) (js':=[0,1,2,3,4,5]) (AC A48 cc48 (nG s) (by rw [show (nG s).length=15 from rfl];decide)) rfl rfl rfl ob ⟨(((Has.o 3 rfl)).cast (by simp [nG,U8])),trivial⟩ rfl ?_;apply Y 0x19;intro O oc;apply Y 0x11ed81;exact ⟨O,oc,by rw [eW hyes,← nF hyes];rfl,rfl,by rw [eW hyes,← nF hyes];rfl⟩
theorem MV (A:Option Addr)(c:Nat)(l:List UInt8)(hl:l.length=30):
    Ctr X 151 [.slice A l.length c] [Rd A (U8 l)] [] (fun v R' H'=>v=.tuple #[.agg (List.toArray (st9 ((bX l).getD (List.replicate 9 0)))),.bool (bX l).isSome]∧R'=[]∧H'=[]):=by
 refine co Tryz.func151 ?_;intro β;apply Y 0x987;intro A2;apply Y 0xf91;refine al (ug A c l oe) ?_;apply Y 0x19;intro O oc;apply Y 0xb858e848;refine L.bool 13 rfl ?_ ?_<;>intro hg13
 ·have hno:=rU hl (by simpa using hg13);apply Y 0x19a;refine C.cond rfl (fun _=>?_) (fun h=>by cases h);apply Y 0x5916bcb;refine qrt [] [] [_,_] rfl ⟨⟨_,_,0,_,rfl,rfl,Src.o 1 rfl,.inl ⟨rfl,by decide,_,rfl,rfl,rfl⟩⟩,rfl,trivial⟩ ?_;rw [hno];exact Zm 0x53e
 obtain ⟨hp,hst⟩:=rT hl (by simpa using hg13);have hlen:(bD l).1.length=15:=by rw [hp,bT]
 apply Zu 0x5d38ed<;>intro
 ·exact Zm 0x18
 apply Y 0x69e9d;intro hcap;have hcp:15≤oc:=by rw [← hlen];exact hcap
 apply Y 0xdb;refine av [_,_] (Hq [0,1] rfl) ?_;apply Y 0xb3e;refine mq 1 rfl (ae (k:=0) rfl rfl rfl rfl rfl rfl rfl oe (Src.r 0 rfl) oI) ?_;refine mq 2 rfl (Ev.load rfl rfl rfl (Src.r 0 rfl) (bn oe)) ?_;refine mq 3 rfl (cL rfl rfl rfl rfl) ?_;apply Y 0x9ae;refine mq 5 rfl (Ev.cast (u:=.slice (bj O oc 1 1) (((bD l).1.drop 1).take 2).length (oc-1)) (bH (l:=1) (h:=3) rfl rfl rfl rfl rfl rfl rfl rfl ob oe) OX) ?_;apply Y 0x380f;refine mq 8 rfl (ae (k:=3) rfl rfl rfl rfl rfl rfl rfl oe (Src.r 0 rfl) oI) ?_;refine mq 9 rfl (Ev.load rfl rfl rfl (Src.r 0 rfl) (bn oe)) ?_;refine mq 10 rfl (cL rfl rfl rfl rfl) ?_;apply Y 0x58e;refine mq 12 rfl (Ev.cast (u:=.slice (bj O oc 4 1) (((bD l).1.drop 4).take 4).length (oc-4)) (bH (l:=4) (h:=8) rfl rfl rfl rfl rfl rfl rfl rfl ob oe) OX) ?_;apply Y 0xc70f;refine mq 15 rfl (ae (k:=8) rfl rfl rfl rfl rfl rfl rfl oe (Src.r 0 rfl) oI) ?_;refine mq 16 rfl (Ev.load rfl rfl rfl (Src.r 0 rfl) (bn oe)) ?_;refine mq 17 rfl (cL rfl rfl rfl rfl) ?_;apply Y 0x2c1f;refine mq 19 rfl (ae (k:=9) rfl rfl rfl rfl rfl rfl rfl oe (Src.r 0 rfl) oI) ?_;refine mq 20 rfl (Ev.load rfl rfl rfl (Src.r 0 rfl) (bn oe)) ?_;refine mq 21 rfl (cL rfl rfl rfl rfl) ?_;refine mq 22 rfl (Ev.pure rfl) ?_;refine mq 23 rfl (ae (k:=10) rfl rfl rfl rfl rfl rfl rfl oe (Src.r 0 rfl) oI) ?_;refine mq 24 rfl (Ev.load rfl rfl rfl (Src.r 0 rfl) (bn oe)) ?_;refine mq 25 rfl (cL rfl rfl rfl rfl) ?_;refine mq 26 rfl (Ev.pure rfl) ?_;refine mq 27 rfl (Ev.cast (u:=.slice (bj O oc 11 1) (((bD l).1.drop 11).take 2).length (oc-11)) (bH (l:=11) (h:=13) rfl rfl rfl rfl rfl rfl rfl rfl ob oe) OX) ?_;refine mq 29 rfl (Ev.pure rfl) ?_;refine mq 30 rfl (Ev.cast (u:=.slice (bj O oc 13 1) (((bD l).1.drop 13).take 2).length (oc-13)) (bH (l:=13) (h:=15) rfl rfl rfl rfl rfl rfl rfl rfl ob oe) OX) ?_;apply Y 0x45e;refine L.call (js:=[]) (js':=[0]) (gd (bj O oc 1 1) (oc-1) (((bD l).1.drop 1).take 2) oP) rfl rfl rfl ob ⟨(((aT (Has.r 0 rfl) oc 1 hcap).take 2).cast (bz _ _)),trivial⟩ rfl ?_;apply Y 0xa5e3a8;refine L.call (js:=[]) (js':=[0]) (gd (bj O oc 4 1) (oc-4) (((bD l).1.drop 4).take 4) oP) rfl rfl rfl ob ⟨(((aT (Has.r 0 rfl) oc 4 hcap).take 4).cast (bz _ _)),trivial⟩ rfl ?_;apply Y 0x3a8;refine mfo 28 ?_;refine L.call (js:=[]) (js':=[0]) (gd (bj O oc 11 1) (oc-11) (((bD l).1.drop 11).take 2) oP) rfl rfl rfl ob ⟨(((aT (Has.r 0 rfl) oc 11 hcap).take 2).cast (bz _ _)),trivial⟩ rfl ?_;apply Y 0x3a8;refine mfo 31 ?_;refine L.call (js:=[]) (js':=[0]) (gd (bj O oc 13 1) (oc-13) (((bD l).1.drop 13).take 2) oP) rfl rfl rfl ob ⟨(((aT (Has.r 0 rfl) oc 13 hcap).take 2).cast (bz _ _)),trivial⟩ rfl ?_;apply Y 0x69a8;refine LM.f 32 rfl oa trivial ?_;apply Y 0xf9ed86a6c830f35b691f3fa;rw [hst,← show (bD l).1=b6 l 15 from by rw [hp]];apply Y 0x44e
 show _=Value.tuple #[.agg (List.toArray (st9 (pH (bD l).1))),.bool true];rw [Rw hlen];exact Zm 0x2
theorem zZ (f:Fl)(a:Fa)(ok:f.Ok)(_hh:a.hs.length=f.data.length)(y:Ly):
    Ctr X 54 [flV f a,.agg (List.toArray [.int .i64 y.n,.int .i64 y.a,.int .i64 y.b,.int .i64 y.s0,.int .i64 y.s1,.slice y.T y.tn y.tc,.slice y.U y.un y.uc,.slice y.V y.vn y.vc])] (flR f a) [] (fun v R' H'=>v=.bool (cY f y.a y.b)∧R'=[]∧H'=[]):=by
 obtain ⟨os1,os2,on1,on2,owl,odl,orows,ol1,ol2,owear⟩:=ok;refine co Tryz.func54 ?_;intro β;apply Y 0x4a;intro A2;apply Y 0x2b;intro A3;apply Zu 0x971f6a8a9e6c4e9d1fc0e71c1e61b7cdb49<;>intro hg15
 ·have q15:0≤y.a∧y.a≤(f.data.length:Int)-1:=by simp at hg15;omega
  apply Y 0x48a8a9eb9c4e4811f7be4;refine L.bool 22 rfl ?_ ?_<;>intro hg22
  ·have q22:0≤y.b∧y.b≤(f.data.length:Int)-1:=by simp at hg22;omega
   apply Zu 0xb03fb84c4e4811f7be4c4e49d1f7be4<;>intro
   ·apply Y 0x300f4dd9e8461e440e4
    symm;rw [decide_eq_decide];exact Zm 0x18
   apply Y 0x300f4dd9389a
   symm;exact Zm 0x2fe
  have q22:¬(0≤y.b∧y.b≤(f.data.length:Int)-1):=by simp at hg22;omega
  apply Y 0x300f4dd9389a489a39
  symm;exact Zm 0x2fe
 have q15:¬(0≤y.a∧y.a≤(f.data.length:Int)-1):=by simp at hg15;omega
 apply Y 0x300f4dd9389a489aea1d
 symm;exact Zm 0x2fe
theorem yN (f:Fl)(a:Fa)(ok:f.Ok)(_hh:a.hs.length=f.data.length)(h8:38≤f.size):
    Ctr X 150 [flV f a] (flR f a) [] (fun v R' H'=>v=.int .i64 (ef f:Int)∧R'=[]∧H'=[]):=by
 obtain ⟨os1,os2,on1,on2,owl,odl,orows,ol1,ol2,owear⟩:=ok;refine co Tryz.func150 ?_;intro β;apply Y 0x4a;intro A1;exact Zm 0x53ed91ac3fc1ef87c49
theorem DX (A:Option Addr)(c:Nat)(l:List UInt8)(hl:l.length≤4096):
    Ctr X 152 [.slice A l.length c] [Rd A (U8 l)] [] (fun v R' H'=>v=.bool (cH l)∧R'=[]∧H'=[]):=by
 refine co Tryz.func152 ?_;intro β;apply Y 0xb87c9;refine al (sT l.length oe) ?_;apply Y 0x71e;intro A6;apply Y 0x430f;refine al (Ir A A6 c l.length l (List.replicate l.length 255) l.length oS oe qb) ?_;apply Y 0x4dd91a8;rw [Bool.eq_iff_iff,beq_iff_eq];exact ⟨fun h=>by rw [h];exact yi _,fun h=>AM h⟩
theorem Fc (f:Fl)(a:Fa)(ok:f.Ok)(hh:a.hs.length=f.data.length)(s:Int)(hs:0≤s∧s<(f.data.length:Int))(h8:8≤f.size)(hcap:Caps f a):
    Ctr X 149 [flV f a,.int .i64 s] (flR f a) [] (fun v R' H'=>v=.int .i64 (sE (aX f s))∧R'=[]∧H'=[]):=by
 obtain ⟨os1,os2,on1,on2,owl,odl,orows,ol1,ol2,owear⟩:=ok;have hrow:=orows s.toNat oe;have hcp:=hcap s.toNat oe;have hgn:=vW (row:=(f.data.getD s.toNat [])) oe;refine co Tryz.func149 ?_;intro β;apply Y 0x4a;intro A2;apply Y 0xdc3fbfefd3f6f87c49;refine L.call (js:=[]) (js':=[]) (ug (a.hs.getD s.toNat (none,0)).1 (a.hs.getD s.toNat (none,0)).2 ((f.data.getD s.toNat []).take 8) oP) rfl rfl rfl ob ⟨(((((Has.kid 2 rfl oC (s.toNat) oZ).cast (aW _))).take 8).cast (bz _ _)),trivial⟩ rfl ?_;apply Y 0x19;intro O oc;apply Zu 0x1a3858e848<;>intro hc18
 ·apply Y 0x44e4c
  unfold aX;rw [hgn,if_neg (by simpa using hc18)];exact Zm 0x2
 apply Y 0xf999;refine al (gd O oc (bD ((f.data.getD s.toNat []).take 8)).1 (yM QL)) ?_;apply Y 0x44ed91a8
 unfold aX;rw [hgn,if_pos (by simpa using hc18)];exact Zm 0x2
theorem G5 (f:Fl)(a:Fa)(ok:f.Ok)(hh:a.hs.length=f.data.length)(y:Ly)(hcap:Caps f a):
    Ctr X 88 [flV f a,.agg (List.toArray [.int .i64 y.n,.int .i64 y.a,.int .i64 y.b,.int .i64 y.s0,.int .i64 y.s1,.slice y.T y.tn y.tc,.slice y.U y.un y.uc,.slice y.V y.vn y.vc])] (flR f a) [] (fun v R' H'=>v=.agg (List.toArray [.int .i64 (an f y.a y.b).sec,.int .i64 (an f y.a y.b).oth,.int .i64 (an f y.a y.b).gen,.int .i64 ((an f y.a y.b).s.getD 0 0),.int .i64 ((an f y.a y.b).s.getD 1 0),.int .i64 ((an f y.a y.b).s.getD 2 0),.int .i64 ((an f y.a y.b).s.getD 3 0),.int .i64 ((an f y.a y.b).s.getD 4 0),.int .i64 ((an f y.a y.b).s.getD 5 0),.int .i64 ((an f y.a y.b).s.getD 6 0),.int .i64 ((an f y.a y.b).s.getD 7 0),.int .i64 ((an f y.a y.b).s.getD 8 0),.int .i64 ((an f y.a y.b).free:Int),.int .i64 ((an f y.a y.b).torn:Int),.bool (an f y.a y.b).found])∧R'=[]∧H'=[]):=by
 apply Y 0xe1e;intro hok;obtain ⟨os1,os2,on1,on2,owl,odl,orows,ol1,ol2,owear⟩:=ok;refine co Tryz.func88 ?_;intro β;apply Y 0x4a;intro A2;apply Y 0x2b;intro A3;apply Y 0x98;intro A4;apply Y 0xc3e15e68dbb1e57b;refine al (zZ f a hok hh y) ?_;apply Zu 0x1a1a8<;>intro hc13
 ·have hno:cY f y.a y.b=false:=by simpa using hc13
  apply Y 0x44e8ce599bcb;rw [show an f y.a y.b=lg0 from by unfold an;rw [if_neg oaA]];exact Zm 0x2
 have hft0:cY f y.a y.b=true:=by simpa using hc13
 have hft:=eD hft0;have hps:=gr hft0;apply Y 0x892f;intro hrow;apply Y 0x582f;intro hcp;apply Y 0x9d;refine C.join (fun q:Option Addr=>[(2,ag A2 0),(3,ag A3 0),(4,ag A4 0),(5,ag q 0)]) (fun q:Option Addr=>[Rd A3 [.int .i64 y.n,.int .i64 y.a,.int .i64 y.b,.int .i64 y.s0,.int .i64 y.s1,.slice y.T y.tn y.tc,.slice y.U y.un y.uc,.slice y.V y.vn y.vc],Rd A2 (flL f a),Rd a.D (ay a.hs (B8 f.data)),KidsR a.hs (B8 f.data),Rd a.W (I64 f.wear),Rd a.E (Bs f.dead)]) (fun q:Option Addr=>[Own 171 15 A4 1 1 [.int .i64 0,.int .i64 0,.int .i64 0,.int .i64 0,.int .i64 0,.int .i64 0,.int .i64 0,.int .i64 0,.int .i64 0,.int .i64 0,.int .i64 0,.int .i64 0,.int .i64 0,.int .i64 0,.bool false],Own 171 15 q 1 1 [.int .i64 y.a,.int .i64 y.b,.int .i64 (sE (aX f y.a)),.int .i64 0,.int .i64 0,.int .i64 0,.int .i64 0,.int .i64 0,.int .i64 0,.int .i64 0,.int .i64 0,.int .i64 0,.int .i64 0,.int .i64 0,.bool false]]) (fun q:Option Addr=>True) ?_ ?_
 ·apply Y 0x6fe660f;refine mq 1 rfl (aC (k:=0) (m:=1) rfl rfl rfl rfl rfl rfl ob (Src.r 0 rfl) Oc rfl) ?_;apply Y 0xfde8fe;refine mq 4 rfl (aC (k:=1) (m:=2) rfl rfl rfl rfl rfl rfl ob (Src.r 0 rfl) Oc rfl) ?_;apply Y 0x8a3f601f;refine mq 7 rfl (faR 0) ?_;refine mq 8 rfl (aC (k:=0) (m:=1) rfl rfl rfl rfl rfl rfl ob (Src.r 0 rfl) Oc rfl) ?_;refine mq 9 rfl (ldR 0) ?_;refine LM.alt [10,12] oa ob hcx ⟨⟨_,rfl,?_⟩,⟨_,rfl,?_⟩,trivial⟩
  ·apply Y 0x98e3eb93f3a8883f;intro A5;exact Zm 0x663fcc6bc8e69
  apply Y 0x98;intro A5;exact Zm 0x663fcc6bc8e69fab4e3a8883f57e3
 rintro A5 _;apply Y 0x6a;refine eK (fun q:Unit=>[(2,ag A2 0),(3,ag A3 0),(4,ag A4 0),(5,ag A5 0)]) (fun q:Unit=>[Rd A3 [.int .i64 y.n,.int .i64 y.a,.int .i64 y.b,.int .i64 y.s0,.int .i64 y.s1,.slice y.T y.tn y.tc,.slice y.U y.un y.uc,.slice y.V y.vn y.vc],Rd A2 (flL f a),Rd a.D (ay a.hs (B8 f.data)),KidsR a.hs (B8 f.data),Rd a.W (I64 f.wear),Rd a.E (Bs f.dead)]) (fun q:Unit=>[Own 171 15 A4 1 1 [.int .i64 0,.int .i64 0,.int .i64 0,.int .i64 0,.int .i64 0,.int .i64 0,.int .i64 0,.int .i64 0,.int .i64 0,.int .i64 0,.int .i64 0,.int .i64 0,.int .i64 0,.int .i64 0,.bool false],Own 171 15 A5 1 1 [.int .i64 (aj f y.a y.b).sec,.int .i64 (aj f y.a y.b).oth,.int .i64 (aj f y.a y.b).gen,.int .i64 ((aj f y.a y.b).s.getD 0 0),.int .i64 ((aj f y.a y.b).s.getD 1 0),.int .i64 ((aj f y.a y.b).s.getD 2 0),.int .i64 ((aj f y.a y.b).s.getD 3 0),.int .i64 ((aj f y.a y.b).s.getD 4 0),.int .i64 ((aj f y.a y.b).s.getD 5 0),.int .i64 ((aj f y.a y.b).s.getD 6 0),.int .i64 ((aj f y.a y.b).s.getD 7 0),.int .i64 ((aj f y.a y.b).s.getD 8 0),.int .i64 ((aj f y.a y.b).free:Int),.int .i64 ((aj f y.a y.b).torn:Int),.bool (aj f y.a y.b).found]]) (fun q:Unit=>True) ?_ ?_
 ·apply Y 0x7feab1f9d0f5;refine mq 2 rfl (aC (k:=1) (m:=2) rfl rfl rfl rfl rfl rfl ob (Src.r 0 rfl) Oc rfl) ?_;apply Y 0xf70f;refine mq 5 rfl (faR 6) ?_;refine mq 6 rfl (ldR 6) ?_;apply Zu 0x796a6cd6e69a8983fd9e<;>intro hc34
  ·apply Y 0x6fe660f;refine mq 1 rfl (aC (k:=1) (m:=2) rfl rfl rfl rfl rfl rfl ob (Src.r 0 rfl) Oc rfl) ?_;apply Y 0xfde8fe;refine mq 4 rfl (aC (k:=0) (m:=1) rfl rfl rfl rfl rfl rfl ob (Src.r 0 rfl) Oc rfl) ?_;apply Y 0xcc6b48e3fa86e69a8983f57e3c4ef6e3811f54e3c0e34e8a3f601f;refine QE.join (()) Oz (by exact lk [0,1,2,3,4,5] [0,1] (hh:=⟨rfl,(by unfold aj;rw [if_pos hc34];rfl),trivial⟩))
  apply Y 0x5a;refine QE.join (()) Oz (by exact lk [0,1,2,3,4,5] [0,1] (hh:=⟨rfl,(by unfold aj;rw [if_neg hc34];rfl),trivial⟩))
 rintro _ _;apply Y 0xad5;refine lp [2,3,4,5] [_,_,_,_] (fun k:Nat=>[(6,.int .i64 (k:Int))]) (kz [_,_,_,_,_,_]) (fun k=>[Own 171 15 A4 1 1 [.int .i64 0,.int .i64 0,.int .i64 0,.int .i64 0,.int .i64 0,.int .i64 0,.int .i64 0,.int .i64 0,.int .i64 0,.int .i64 0,.int .i64 0,.int .i64 0,.int .i64 0,.int .i64 0,.bool false],Own 171 15 A5 1 1 [.int .i64 (bA (f.data.getD (aj f y.a y.b).sec.toNat []) (aj f y.a y.b) (k)).sec,.int .i64 (bA (f.data.getD (aj f y.a y.b).sec.toNat []) (aj f y.a y.b) (k)).oth,.int .i64 (bA (f.data.getD (aj f y.a y.b).sec.toNat []) (aj f y.a y.b) (k)).gen,.int .i64 ((bA (f.data.getD (aj f y.a y.b).sec.toNat []) (aj f y.a y.b) (k)).s.getD 0 0),.int .i64 ((bA (f.data.getD (aj f y.a y.b).sec.toNat []) (aj f y.a y.b) (k)).s.getD 1 0),.int .i64 ((bA (f.data.getD (aj f y.a y.b).sec.toNat []) (aj f y.a y.b) (k)).s.getD 2 0),.int .i64 ((bA (f.data.getD (aj f y.a y.b).sec.toNat []) (aj f y.a y.b) (k)).s.getD 3 0),.int .i64 ((bA (f.data.getD (aj f y.a y.b).sec.toNat []) (aj f y.a y.b) (k)).s.getD 4 0),.int .i64 ((bA (f.data.getD (aj f y.a y.b).sec.toNat []) (aj f y.a y.b) (k)).s.getD 5 0),.int .i64 ((bA (f.data.getD (aj f y.a y.b).sec.toNat []) (aj f y.a y.b) (k)).s.getD 6 0),.int .i64 ((bA (f.data.getD (aj f y.a y.b).sec.toNat []) (aj f y.a y.b) (k)).s.getD 7 0),.int .i64 ((bA (f.data.getD (aj f y.a y.b).sec.toNat []) (aj f y.a y.b) (k)).s.getD 8 0),.int .i64 ((bA (f.data.getD (aj f y.a y.b).sec.toNat []) (aj f y.a y.b) (k)).free:Int),.int .i64 ((bA (f.data.getD (aj f y.a y.b).sec.toNat []) (aj f y.a y.b) (k)).torn:Int),.bool (bA (f.data.getD (aj f y.a y.b).sec.toNat []) (aj f y.a y.b) (k)).found]]) (fun k=>k≤ef f∧(k=0∨0≤(aj f y.a y.b).gen)) (fun k=>ef f-k) 0 ⟨Nat.zero_le _,.inl rfl⟩ (lk [0,1,2,3,4,5] [0,1]) ?_;apply Y 0xa1e;intro k hk hkg;apply Y 0x48a8e83f15e658;refine L.bool 51 rfl (imp of_decide_eq_true ?_) (imp of_decide_eq_false ?_)<;>intro
 ·apply Y 0x451f;intro hkp;apply Y 0x2a2f;intro hsl;apply Y 0x322f;intro hkl;apply Y 0xe42f;intro hpl;apply Zu 0xe946ee491e4<;>intro hc55
  ·apply Y 0x55e67c3f55e6610f7d3fda1b789;refine sp (Ev.cast (u:=.int .i64 ((38+30*k:Nat):Int)) (Ev.add rfl rfl oe oe) (congrArg (Value.int .i64) oe)) ?_;refine sp (Ev.cast (u:=.slice (bj (a.hs.getD (aj f y.a y.b).sec.toNat (none,0)).1 (a.hs.getD (aj f y.a y.b).sec.toNat (none,0)).2 (8+30*k) 1) (ck (f.data.getD (aj f y.a y.b).sec.toNat []) k).length ((a.hs.getD (aj f y.a y.b).sec.toNat (none,0)).2-(8+30*k))) (bH (l:=8+30*k) (h:=38+30*k) rfl rfl rfl rfl rfl rfl rfl rfl oe oe) (by rw [hsl.1,show 38+30*k-(8+30*k)=30 by omega];rfl)) ?_;apply Y 0x2cfe2f49;refine al (MV (bj (a.hs.getD (aj f y.a y.b).sec.toNat (none,0)).1 (a.hs.getD (aj f y.a y.b).sec.toNat (none,0)).2 (8+30*k) 1) ((a.hs.getD (aj f y.a y.b).sec.toNat (none,0)).2-(8+30*k)) (ck (f.data.getD (aj f y.a y.b).sec.toNat []) k) hsl.1) ?_;apply Y 0x98b8a8;intro A8;apply Zu 0x1ac94932e<;>intro hc76
   ·obtain ⟨s1,hs1⟩:=Option.isSome_iff_exists.1 hc76;have hnb:cH (ck (f.data.getD (aj f y.a y.b).sec.toNat []) k)=false:=by cases hb:cH (ck (f.data.getD (aj f y.a y.b).sec.toNat []) k) with|false=>rfl|true=>rw [wJ oe hb] at hs1;cases hs1
    apply Y 0xb85888bb6b91ec80f68;refine L.bool 82 rfl ?_ ?_<;>intro hg82
    ·exact absurd hg82 (by rw [hc76];exact Bool.false_ne_true)
    apply Y 0x19a;refine C.cond rfl (fun h=>by cases h) (fun _=>?_);apply Zu 0x1a1a8cf0ff999<;>intro hc93
    ·apply Y 0x8afdbbca2c;refine QE.round (k+1) QN oe (by exact lk [1,2,3,4,5,6] [0,1] (hh:=⟨rfl,(by rw [bK,xx hnb hs1,hs1];rfl),trivial⟩))
    rw [hnb] at hc93
    cases hc93
   have hsn:bX (ck (f.data.getD (aj f y.a y.b).sec.toNat []) k)=none:=Option.not_isSome_iff_eq_none.1 (by rw [hc76];exact Bool.false_ne_true);apply Y 0xb85899;refine L.bool 82 rfl ?_ ?_<;>intro hg82
   ·apply Zu 0x1a384a8cf0fb9<;>intro hc86
    ·have hnb:cH (ck (f.data.getD (aj f y.a y.b).sec.toNat []) k)=false:=by simpa using hc86
     apply Zu 0x1a1a8cf0ff988bbcada68<;>intro hc93
     ·apply Y 0x8afdbbca2c;refine QE.round (k+1) QN oe (by exact lk [1,2,3,4,5,6] [0,1] (hh:=⟨rfl,(by rw [bK,xw hnb hsn];rfl),trivial⟩))
     rw [hnb] at hc93
     cases hc93
    have hbl:cH (ck (f.data.getD (aj f y.a y.b).sec.toNat []) k)=true:=by simpa using hc86
    apply Zu 0x1a1a8cf0ff999<;>intro hc93
    ·rw [hbl] at hc93
     cases hc93
    apply Y 0x8a5a;refine QE.round (k+1) QN oe (by exact lk [1,2,3,4,5,6] [0,1] (hh:=⟨rfl,(by rw [bK,xz hbl];rfl),trivial⟩))
   exact absurd hg82 (by rw [hc76];exact fun h=>by cases h)
  apply Y 0x8ced89bf4e7a9;obtain rfl:k=0:=by rcases hkg with h|h;exact h;rw [hkp.2.2] at hc55;omega
  have hgn:(aj f y.a y.b).gen<0:=by rw [hkp.2.2] at hc55;omega
  apply Y 0x44e;rw [show an f y.a y.b=(aj f y.a y.b) from by unfold an;rw [if_pos hft0,if_pos hgn]];exact Zm 0x2
 apply Y 0x451f;intro hkp;apply Y 0x19a;refine C.cond rfl (fun h=>by cases h) (fun _=>?_);apply Y 0x8ced89bf4e7a9;obtain rfl:k=ef f:=oe;have hp1:0<ef f:=CZ hft.2.2.2.2.2;have hgn:¬(aj f y.a y.b).gen<0:=oe;apply Y 0x44e;rw [show an f y.a y.b=(bA (f.data.getD (aj f y.a y.b).sec.toNat []) (aj f y.a y.b) (ef f)) from by unfold an aX;rw [if_pos hft0,if_neg hgn]];exact Zm 0x2
theorem Ge (f:Fl)(a:Fa)(ok:f.Ok)(hh:a.hs.length=f.data.length)(y:Ly)(hcap:Caps f a):
    Ctr X 25 [flV f a,.agg (List.toArray [.int .i64 y.n,.int .i64 y.a,.int .i64 y.b,.int .i64 y.s0,.int .i64 y.s1,.slice y.T y.tn y.tc,.slice y.U y.un y.uc,.slice y.V y.vn y.vc])] (flR f a) [] (fun v R' H'=>v=.tuple #[.agg (List.toArray (st9 (a8 f y.a y.b).1)),.int .i64 ((a8 f y.a y.b).2.1:Int),.int .i64 (a8 f y.a y.b).2.2]∧R'=[]∧H'=[]):=by
 apply Y 0xe1e;intro hok;obtain ⟨os1,os2,on1,on2,owl,odl,orows,ol1,ol2,owear⟩:=ok;refine co Tryz.func25 ?_;intro β;apply Y 0x4a;intro A2;apply Y 0x2b;intro A3;apply Y 0x98;intro A4;apply Y 0x98b8a8683fc3e15e68dbb1e538;intro A7;apply Zu 0x1a385816b<;>intro hc16
 ·have hno:(an f y.a y.b).found=false:=obm;apply Y 0x44e6b3f59385bcb;rw [tW hno];exact Zm 0x2
 have hyes:(an f y.a y.b).found=true:=obm;apply Y 0x9d0f9d;refine mq 0 rfl (faR 6) ?_;refine mq 1 rfl (aa rfl rfl rfl (Src.r 6 rfl) rfl rfl ob) ?_;refine mq 2 rfl (faR 6) ?_;refine mq 3 rfl (ldR 6) ?_;apply Y 0x44e6b3fd86a6cfae36fbe695bd9e;rw [nV hyes,← cM hyes];exact Zm 0x2
theorem yu (f:Fl)(a:Fa)(ok:f.Ok)(hh:a.hs.length=f.data.length)(y:Ly)(hcap:Caps f a):
    Ctr X 42 [flV f a,.agg (List.toArray [.int .i64 y.n,.int .i64 y.a,.int .i64 y.b,.int .i64 y.s0,.int .i64 y.s1,.slice y.T y.tn y.tc,.slice y.U y.un y.uc,.slice y.V y.vn y.vc])] (flR f a) [] (fun v R' H'=>v=.agg (List.toArray [.int .i64 ((a8 f y.a y.b).1.getD 0 0),.int .i64 ((a8 f y.a y.b).1.getD 1 0),.int .i64 ((a8 f y.a y.b).1.getD 2 0),.int .i64 ((a8 f y.a y.b).1.getD 3 0),.int .i64 ((a8 f y.a y.b).1.getD 4 0),.int .i64 ((a8 f y.a y.b).1.getD 5 0),.int .i64 ((a8 f y.a y.b).1.getD 6 0),.int .i64 ((a8 f y.a y.b).1.getD 7 0),.int .i64 ((a8 f y.a y.b).1.getD 8 0),.int .i64 ((a8 f y.a y.b).2.1:Int),.int .i64 (a8 f y.a y.b).2.2])∧R'=[]∧H'=[]):=by
 apply Y 0xe1e;intro hok;obtain ⟨os1,os2,on1,on2,owl,odl,orows,ol1,ol2,owear⟩:=ok;refine co Tryz.func42 ?_;intro β;apply Y 0x4a;intro A2;apply Y 0x2b;intro A3;apply Y 0x98;intro A4;apply Y 0x98a8783fc3e15e68dbb1e7b;intro A5;apply Zu 0x1a1da58886b<;>intro hc11
 ·have hno:(an f y.a y.b).found=false:=by simpa using hc11
  apply Y 0x44e8ce599bcb;rw [tW hno];exact Zm 0x2
 have hyes:(an f y.a y.b).found=true:=by simpa using hc11
 apply Y 0x44e8ced89bfadaf4e91e3c;rw [nV hyes];exact Zm 0x2
end Go.Proofs.YtbpddeiogcgegaaGreat
