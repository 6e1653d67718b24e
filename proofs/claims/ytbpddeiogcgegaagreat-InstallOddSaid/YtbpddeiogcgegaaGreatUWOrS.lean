/-
  Part of a proof.
-/
import Derived.Test.YtbpddeiogcgegaaGreatUWOrE
set_option maxHeartbeats 0
set_option maxRecDepth 4000
set_option linter.all false
namespace Go.Proofs.YtbpddeiogcgegaaGreat
open Go.Sl
theorem BP (lf:Bool)(inn out:Int)(ops:List Po)(OA:Option Addr)(oc:Nat)(hops:ops.length≤9223372036854775807)(size:Int):
    Ctr X 241 [.agg (List.toArray [.bool lf,.int .i64 inn,.int .i64 out,.slice OA ops.length oc]),.int .i64 size] [Rd OA (ck ops)] [] (fun v R' H'=>∃ (A:Option Addr) (c:Nat) (hs:List Hd),v=.tuple #[.slice A (rdM lf inn out size ops).length c,.int .i64 (rdE lf inn out size ops)]∧R'=[Rd A (aC hs (J8 (rdM lf inn out size ops))),aS hs (J8 (rdM lf inn out size ops))]∧H'=[]∧hs.length=(rdM lf inn out size ops).length):=by
 refine co Tryz.func241 ?_;intro β;apply Y 0x6a;intro A2;apply Y 0x19991f63edb538;intro A22 c22;apply Zu 0xddd8db5aa5d828<;>intro hc25
 ·apply Y 0x2cecbeebe2dd848;have hE:rdE lf inn out size ops=_:=H7 hc25;refine ⟨none,0,[],?_,?_,rfl,?_⟩
  ·rw [bD (by rw [hE];first|decide|exact hc25),hE];exact Zm 0x2
  ·rw [bD (by rw [hE];first|decide|exact hc25)];exact Zm 0x2
  rw [bD (by rw [hE];first|decide|exact hc25)];exact Zm 0x2
 obtain ⟨k1,k2,k3,k4,k5,k6⟩:=fM hc25;rw [show syS inn out ops=ah ops from if_pos hc25];apply Y 0x331f;intro htot;apply Zu 0x3a13b48<;>intro hc29
 ·apply Y 0x2cecbeebe2dc8;have hE:rdE lf inn out size ops=_:=H6 hc25 hc29;refine ⟨none,0,[],?_,?_,rfl,?_⟩
  ·rw [bD (by rw [hE];first|decide|exact hc25),hE];exact Zm 0x2
  ·rw [bD (by rw [hE];first|decide|exact hc25)];exact Zm 0x2
  rw [bD (by rw [hE];first|decide|exact hc25)];exact Zm 0x2
 apply Zu 0xa50fb848<;>intro
 ·apply Y 0x38fd;refine C.cond rfl (fun _=>?_) (fun h=>by cases h);apply Y 0xe22f2cecbeebe2dc8;intro hE;refine ⟨none,0,[],?_,?_,rfl,?_⟩
  ·rw [bD (by rw [hE];first|decide|exact hc25),hE];exact Zm 0x2
  ·rw [bD (by rw [hE];first|decide|exact hc25)];exact Zm 0x2
  rw [bD (by rw [hE];first|decide|exact hc25)];exact Zm 0x2
 apply Zu 0x79d8f9<;>intro
 ·apply Y 0xe22f2cecbeebe2dc8;intro hE;refine ⟨none,0,[],?_,?_,rfl,?_⟩
  ·rw [bD (by rw [hE];first|decide|exact hc25),hE];exact Zm 0x2
  ·rw [bD (by rw [hE];first|decide|exact hc25)];exact Zm 0x2
  rw [bD (by rw [hE];first|decide|exact hc25)];exact Zm 0x2
 apply Y 0x5fb7a;obtain ⟨S,rfl⟩:∃ S:Nat,size=(S:Int):=⟨size.toNat,by omega⟩;apply Y 0x761eda7ef0f3b3b78;refine sp (Ev.cast (u:=.int .i64 (((rdN inn out S):Nat):Int)) (Ev.quo rfl rfl oe oe oe) (congrArg (Value.int .i64) (DU k1 k3 oe))) ?_;apply Zu 0x2a581<;>intro
 ·apply Y 0x2cecbeebe89c8;have hE:rdE lf inn out (S:Int) ops=_:=H4 hc25 obv oe oe (by simp only [Int.toNat_natCast];omega);refine ⟨none,0,[],?_,?_,rfl,?_⟩
  ·rw [bD (by rw [hE];first|decide|exact hc25),hE];exact Zm 0x2
  ·rw [bD (by rw [hE];first|decide|exact hc25)];exact Zm 0x2
  rw [bD (by rw [hE];first|decide|exact hc25)];exact Zm 0x2
 apply Y 0xb959;refine kU (m:=(rdN inn out S)) rfl rfl rfl rfl rfl rfl rfl rfl rfl oaR oe rfl (fun A52=>?_);apply Y 0xaad8581;refine C.loop (fun k:Nat=>[(1,.int .i64 (S:Int)),(2,ag A2 0),(6,.slice A22 (ah ops).length c22),(8,.int .i64 ((rdN inn out S):Int)),(9,.slice A52 (rdN inn out S) (rdN inn out S)),(53,.slice A22 (ah ops).length c22),(54,.int .i64 ((ah ops).length:Int)),(55,.int .i64 (k:Int))]) (fun k:Nat=>[Rd A2 [.bool lf,.int .i64 inn,.int .i64 out,.slice OA ops.length oc],Rd OA (ck ops),Rd A22 (cT (ah ops))]) (fun k:Nat=>[Own 4 1 A52 (rdN inn out S) (rdN inn out S) (Bs (chL (ah ops) S (rdN inn out S) k))]) (fun k:Nat=>k≤(ah ops).length) (fun k:Nat=>(ah ops).length-k) 0 (Nat.zero_le _) (by exact lk [1,2,0] [0] (hh:=⟨(congrArg some (ay rfl (by rw [CX,← K3];rfl))),trivial⟩)) ?_;intro k hk;apply Zu 0x7930e<;>intro
 ·apply Y 0xc31f599;intro hlt;apply Y 0xab;refine sp (cn (k:=k) (m:=k*3) rfl rfl rfl rfl rfl rfl oe (Src.r 2 rfl) (dx (k:=k) oe) rfl) ?_;refine sp (ab (vs:=Sy.cells ((ah ops).getD k Sy.zero)) rfl rfl rfl (Src.r 2 rfl) (eb (ah ops) k oe) rfl ob) ?_;apply Y 0xa8;intro A11;apply Y 0x48984c7;refine sp (ab (vs:=Sy.cells ((ah ops).getD k Sy.zero)) rfl rfl rfl (Src.o 1 rfl) rfl rfl ob) ?_;apply Y 0xba7;refine sp (mK (a:=((ah ops).getD k Sy.zero)) (b:=⟨true,(k:Int),0⟩) rfl rfl) ?_;apply Zu 0x3a98<;>intro hc63
  ·have hx:chX (ah ops) k=true:=by rw [Em oe];exact hc63
   apply Y 0x20efb60e1f2fb63f163fb878;refine QE.round (k+1) oe oe (by exact lk [0,1,2] [0] (hh:=⟨(congrArg some (ay rfl (by rw [EC,zJ hx]))),trivial⟩))
  have hx:chX (ah ops) k=false:=by rw [Em oe];exact hc63
  apply Y 0x20efb7a;refine QE.round (k+1) oe oe (by exact lk [0,1,2] [0] (hh:=⟨(congrArg some (by rw [I4 hx])),trivial⟩))
 apply Y 0xaa1f858a9;obtain rfl:k=(ah ops).length:=oe;refine C.loop (fun k:Nat=>[(1,.int .i64 (S:Int)),(2,ag A2 0),(6,.slice A22 (ah ops).length c22),(8,.int .i64 ((rdN inn out S):Int)),(9,.slice A52 (rdN inn out S) (rdN inn out S)),(12,.int .i64 (k:Int))]) (fun k:Nat=>[Rd A2 [.bool lf,.int .i64 inn,.int .i64 out,.slice OA ops.length oc],Rd OA (ck ops),Rd A22 (cT (ah ops))]) (fun k:Nat=>[Own 4 1 A52 (rdN inn out S) (rdN inn out S) (Bs (chL (ah ops) S (rdN inn out S) k))]) (fun k:Nat=>(ah ops).length≤k∧k≤(max inn out).toNat) (fun k:Nat=>(max inn out).toNat-k) (ah ops).length ⟨Nat.le_refl _,by omega⟩ (by exact lk [0,1,2] [0] ⟨rfl,rfl,rfl,rfl,rfl,(congrArg some (congrArg (Value.int .i64) htot.symm)),trivial⟩) ?_;apply Y 0xb1e;intro k hk hk2;apply Zu 0x791f8758<;>intro
 ·apply Y 0xc31f99;intro hlt;apply Y 0x9a60e1f2fb63f163fb878;refine QE.round (k+1) (by exact ⟨by omega,by omega⟩) oe (by exact lk [0,1,2] [0] (hh:=⟨(congrArg some (ay rfl (by rw [EC,zJ (I3 hk)]))),trivial⟩))
 apply Y 0x5a9;obtain rfl:k=(max inn out).toNat:=oe;apply Y 0xabcae;refine kU (m:=(rdN inn out S)) rfl rfl rfl rfl rfl rfl rfl rfl rfl obs oe rfl (fun A84=>?_);apply Y 0xaad8581;refine GV 3 (rdN inn out S) ?_;refine C.loop (fun q:Nat×List Hd=>[(1,.int .i64 (S:Int)),(2,ag A2 0),(6,.slice A22 (ah ops).length c22),(8,.int .i64 ((rdN inn out S):Int)),(9,.slice A52 (rdN inn out S) (rdN inn out S)),(85,.slice A22 (ah ops).length c22),(86,.int .i64 ((ah ops).length:Int)),(13,.slice A84 (rdN inn out S) (rdN inn out S)),(87,.int .i64 (q.1:Int))]) (fun q:Nat×List Hd=>[Rd A52 (Bs (rdC inn out S (ah ops))),Rd A2 [.bool lf,.int .i64 inn,.int .i64 out,.slice OA ops.length oc],Rd OA (ck ops),Rd A22 (cT (ah ops))]) (fun q:Nat×List Hd=>[Own 31 1 A84 (rdN inn out S) (rdN inn out S) (aC q.2 (J8 (rwM (rdC inn out S (ah ops)) S (rdN inn out S) (ah ops) q.1))),aw 3 q.2 (J8 (rwM (rdC inn out S (ah ops)) S (rdN inn out S) (ah ops) q.1))]) (fun q:Nat×List Hd=>q.1≤(ah ops).length∧q.2.length=(rdN inn out S)) (fun q:Nat×List Hd=>(ah ops).length-q.1) (0,List.replicate (rdN inn out S) (none,0)) ⟨Nat.zero_le _,List.length_replicate⟩ (by exact lk [0,1,2,3] [0,1] (hh:=⟨(congrArg some (ay rfl (by dsimp only;rw [sT];exact HW _))),(congrArg some (by dsimp only;rw [sT];simp [J8,I64])),trivial⟩)) ?_;apply Y 0xc40f;intro k hs hk hhs
 dsimp only at hk hhs ⊢;apply Zu 0x7930e<;>intro
 ·apply Y 0xc31f599;intro hlt;have hat:=sG k6 (k:=k) oe;have hat2:((ah ops).getD k Sy.zero).at_≤65536:=by
   cases ho:((ah ops).getD k Sy.zero).old with
   |true=>have:=hat.2.1 ho;omega
   |false=>have:=hat.2.2 ho;omega
  apply Y 0xab;refine sp (cn (k:=k) (m:=k*3) rfl rfl rfl rfl rfl rfl oe (Src.r 3 rfl) (dx (k:=k) oe) rfl) ?_;refine sp (ab (vs:=Sy.cells ((ah ops).getD k Sy.zero)) rfl rfl rfl (Src.r 3 rfl) (eb (ah ops) k oe) rfl ob) ?_;apply Y 0xa8;intro A15;apply Y 0xc9adcba3e7;refine sq (Ev.cast (u:=.int .i64 ((k/S:Nat):Int)) (Ev.quo rfl rfl oe oe oe) (congrArg (Value.int .i64) (Int.natCast_ediv k S).symm)) ?_;refine sq (faO 2) ?_;refine sq (ldO 2) ?_;apply Y 0x6d;refine sq (Ev.cast (u:=.int .i64 (((rdT ((ah ops).getD k Sy.zero) S):Nat):Int)) (Ev.quo rfl rfl oe oe oe) (congrArg (Value.int .i64) (DS hat.1))) ?_;apply Y 0x282eeb6e5832ec9;refine L.bool 102 rfl ?_ ?_<;>intro hg102
  ·have hsk:dK (rdC inn out S (ah ops)) S k ((ah ops).getD k Sy.zero)=true:=HR (by simpa using hg102);apply Y 0x1ea28ea28ca;refine C.cond rfl (fun _=>?_) (fun h=>by cases h);apply Y 0xe80f20e8aece39e;intro he;exact Zm 0x660f
  have hold:((ah ops).getD k Sy.zero).old=true:=by simpa using hg102
  have htl:=H3 (inn:=inn) (out:=out) (S:=S) oe hat.1 (hat.2.1 hold);apply Y 0xb87d;refine L.bool 107 rfl (imp fA ?_) (imp fz ?_)<;>intro
  ·have hsk:dK (rdC inn out S (ah ops)) S k ((ah ops).getD k Sy.zero)=true:=HQ oe;apply Y 0x1ea28ea;refine C.cond rfl (fun _=>?_) (fun h=>by cases h);apply Y 0xe80f20e8aece39e;intro he;exact Zm 0x660f
  apply Y 0x7d;refine sp (ae (k:=(k/S)) rfl rfl rfl rfl rfl rfl rfl oe (Src.r 0 rfl) (by rw [pH,rdC,dP];omega)) ?_;apply Y 0xb84383f4;refine L.bool 114 rfl ?_ ?_<;>intro hg114
  ·have hsk:dK (rdC inn out S (ah ops)) S k ((ah ops).getD k Sy.zero)=true:=HP (by simpa using hg114);apply Y 0x1ea;refine C.cond rfl (fun _=>?_) (fun h=>by cases h);apply Y 0xe80f20e8aece39e;intro he;exact Zm 0x660f
  apply Y 0x7d;refine sp (ae (k:=(rdT ((ah ops).getD k Sy.zero) S)) rfl rfl rfl rfl rfl rfl rfl oe (Src.r 0 rfl) (by rw [pH,rdC,dP];omega)) ?_;apply Zu 0x3a384383f4<;>intro hc120
  ·have hsk:dK (rdC inn out S (ah ops)) S k ((ah ops).getD k Sy.zero)=true:=HO (by simpa using hc120);apply Y 0xe80f20e8aece39e;intro he;exact Zm 0x660f
  have hnk:dK (rdC inn out S (ah ops)) S k ((ah ops).getD k Sy.zero)=false:=EV hold oe (by simpa using hg114) (by simpa using hc120);apply Y 0xbd;have hrk:=E1 (rdC inn out S (ah ops)) S (rdN inn out S) (ah ops) k (k/S);apply Y 0xac;refine sp (ae (k:=(k/S)) rfl rfl rfl rfl rfl rfl rfl oe (Src.o 0 rfl) qE) ?_;refine sp (Ev.load rfl rfl rfl (Src.o 0 rfl) (cv obl oa2)) ?_;apply Y 0x7;refine L.call (js:=[]) (js':=[0,1,2]) (zK (hs.getD (k/S) (none,0)).1 ((rwM (rdC inn out S (ah ops)) S (rdN inn out S) (ah ops) k).getD (k/S) []) (hs.getD (k/S) (none,0)).2 ((rdT ((ah ops).getD k Sy.zero) S):Int) oe (E0 _ _ _ _ _ _)) rfl rfl rfl ob ⟨((Has.okid 1 rfl Q8 (k/S) (by rw [bS,cu];omega)).cast (dq _)),trivial⟩ rfl ?_;rintro _ _ _ ⟨kk,rfl,rfl,rfl,hk1,hk2,hk3⟩;apply Zu 0x3ac8d828<;>intro hc131
  ·have hnf:((rwM (rdC inn out S (ah ops)) S (rdN inn out S) (ah ops) k).getD (k/S) []).contains ((rdT ((ah ops).getD k Sy.zero) S):Int)=false:=by simpa using hc131
   refine vO 1 (k/S) rfl oa2 [0,2] ob ?_;apply Y 0xc63f28ac;refine sp (Ev.load rfl rfl rfl (Src.o 2 rfl) (cv obl oa2)) ?_;apply Y 0x2b28;intro A140;refine L.call (js:=[0,4]) (js':=[1,2,3]) (Cq (hs.getD (k/S) (none,0)).1 ((rwM (rdC inn out S (ah ops)) S (rdN inn out S) (ah ops) k).getD (k/S) []) (hs.getD (k/S) (none,0)).2 kk ((rdT ((ah ops).getD k Sy.zero) S):Int) A140 1 oe hk1) rfl rfl rfl ob trivial rfl ?_;apply Y 0x19;intro A141 c141;apply Y 0xc63f;refine L.store (j:=2) rfl rfl rfl rfl rfl rfl rfl (by exact cv obl oa2) ?_;refine L.putKid 1 0 (k/S) rfl rfl (by rw [bS,List.length_set,cu];omega) [2,3] ob ?_;apply Y 0x20efb60e;have he:(rwM (rdC inn out S (ah ops)) S (rdN inn out S) (ah ops) (k+1))=(rwM (rdC inn out S (ah ops)) S (rdN inn out S) (ah ops) k).set (k/S) (((rwM (rdC inn out S (ah ops)) S (rdN inn out S) (ah ops) k).getD (k/S) []).take kk++[((rdT ((ah ops).getD k Sy.zero) S):Int)]++((rwM (rdC inn out S (ah ops)) S (rdN inn out S) (ah ops) k).getD (k/S) []).drop kk):=E3 hlt htl hnk hnf hk1 hk2 hk3;refine QE.round (i:=(k,hs)) ((k+1,hs.set (k/S) (A141,c141))) (by exact ⟨by dsimp only;omega,by dsimp only;rw [List.length_set];exact hhs⟩) ot (by exact lk [0,1,2,3] [1,0] (hh:=⟨(congrArg some (ay rfl (by dsimp only;rw [he,← xk,FV]))),(congrArg some (by dsimp only;rw [he];exact yC)),trivial⟩))
  have hyf:((rwM (rdC inn out S (ah ops)) S (rdN inn out S) (ah ops) k).getD (k/S) []).contains ((rdT ((ah ops).getD k Sy.zero) S):Int)=true:=by simpa using hc131
  apply Y 0x20efb7a;have he:(rwM (rdC inn out S (ah ops)) S (rdN inn out S) (ah ops) (k+1))=(rwM (rdC inn out S (ah ops)) S (rdN inn out S) (ah ops) k):=E2 hlt htl hyf;exact Zm 0x660f
 apply Y 0x130fe50fe8d848a9;refine qrt [0,1] [] [_,_] rfl rt ?_;obtain rfl:k=(ah ops).length:=oe;have hE:rdE lf inn out (S:Int) ops=0:=Fq hc25 obv oe oe qR;have hR:rdM lf inn out (S:Int) ops=rwM (rdC inn out S (ah ops)) S (rdN inn out S) (ah ops) (ah ops).length:=by rw [xJ hE,Int.toNat_natCast]
 have hl:=cu (rdC inn out S (ah ops)) S (rdN inn out S) (ah ops) (ah ops).length;rw [hR,hE,hl];exact ⟨A84,_,hs,rfl,rfl,rfl,hhs⟩
theorem IR (a lo hi:Int):
    Ctr X 146 [.int .i64 a,.int .i64 lo,.int .i64 hi] [] [] (fun v R' H'=>v=.bool (decide (lo≤a∧a≤hi))∧R'=[]∧H'=[]):=by
 refine co Tryz.func146 ?_;intro β;apply Zu 0x8c0f281c1a<;>intro
 ·apply Y 0xd3eecd9d87d
  simp;exact Zm 0x18
 apply Y 0xd3eecd938ca
 simp;exact Zm 0x18
theorem xo (x:Po)(size:Int)(hs:0≤size∧size≤65536):
    Ctr X 202 [.agg (List.toArray x.cells),.int .i64 size] [] [] (fun v R' H'=>v=.bool (decide (1≤x.ln∧x.ln≤65536)&&bI x size)∧R'=[]∧H'=[]):=by
 refine co Tryz.func202 ?_;intro β;apply Y 0x6a;intro A2;apply Zu 0x3a1888e0ff8db549<;>intro hc9
 ·apply Y 0xd8ed3eec6c
  simp_all
  try omega
 have hln:1≤x.ln∧x.ln≤65536:=oa6;apply Zu 0x4dc8aa98f8581888e0f61ef87f88d<;>intro
 ·apply Y 0x1c;refine L.bool 22 rfl ?_ ?_<;>intro
  ·apply Y 0xb84eb;refine L.bool 27 rfl (imp fA ?_) (imp fz ?_)<;>intro
   ·apply Y 0xd8ed3eec4b2dd8f9eb
    simp_all
    try omega
   apply Y 0xd8ed3eec4b2d3839
   simp_all
   try omega
  apply Y 0xd8ed3eec4b2d381dca
  simp_all
  try omega
 apply Zu 0x4dc8<;>intro
 ·apply Y 0x1c;refine L.bool 36 rfl ?_ ?_<;>intro
  ·apply Zu 0x4e2fb84eb<;>intro
   ·apply Y 0xd8ed3eec4b2dd8453ef9eb
    simp_all
    try omega
   apply Y 0xd8ed3eec4b2d38fd39
   simp_all
   try omega
  apply Y 0xd8ed3eec4b2d38fd1dca
  simp_all
  try omega
 apply Zu 0x4dc8<;>intro
 ·apply Y 0x28f848;refine L.bool 54 rfl (imp fA ?_) (imp fz ?_)<;>intro
  ·apply Y 0xd8ed3eec4b2dd8f9eb
   simp_all
   try omega
  apply Y 0xd8ed3eec4b2d3839
  simp_all
  try omega
 apply Zu 0x4dc8<;>intro
 ·apply Y 0x28f848;refine L.bool 65 rfl (imp fA ?_) (imp fz ?_)<;>intro
  ·apply Y 0xb84eb;refine L.bool 70 rfl (imp fA ?_) (imp fz ?_)<;>intro
   ·apply Y 0xd8ed3eec4b2dd8453ef9eb
    simp_all
    try omega
   apply Y 0xd8ed3eec4b2d38fd39
   simp_all
   try omega
  apply Y 0xd8ed3eec4b2d38fd1dca
  simp_all
  try omega
 apply Y 0xd8ed3eecd91afb7a
 simp_all
 try omega
theorem zG (lf:Bool)(inn out:Int)(ops:List Po)(OA:Option Addr)(oc:Nat)(hops:ops.length≤9223372036854775807):
    Ctr X 127 [.agg (List.toArray [.bool lf,.int .i64 inn,.int .i64 out,.slice OA ops.length oc])] [Rd OA (ck ops)] [] (fun v R' H'=>∃ q:Int,v=.tuple #[.int .i64 q,.int .i64 (cF inn out ops)]∧R'=[]∧H'=[]):=by
 refine co Tryz.func127 ?_;intro β;apply Y 0x6a;intro A1;apply Y 0x28888e0ff8db5538;refine L.bool 10 rfl ?_ ?_<;>intro hg10
 ·have h10:¬(0≤inn∧inn≤65536):=by
   simp at hg10;exact Zm 0x18
  apply Y 0x11d39;refine C.cond rfl (fun _=>?_) (fun h=>by cases h);apply Y 0x610f75e89c8;intro hE;exact Zm 0xe7e
 ·have h10:0≤inn∧inn≤65536:=by simpa using hg10
  apply Y 0xb84888e0f4eb;refine L.bool 16 rfl ?_ ?_<;>intro hg16
  ·have h16:¬(0≤out∧out≤65536):=by
    simp at hg16;exact Zm 0x18
   apply Y 0x139;refine C.cond rfl (fun _=>?_) (fun h=>by cases h);apply Y 0x610f75e89c8;intro hE;exact Zm 0xe7e
  ·have h16:0≤out∧out≤65536:=by simpa using hg16
   apply Zu 0x2af9eb<;>intro
   ·apply Y 0x610f75e89c8;intro hE;exact Zm 0xe7e
   ·apply Y 0xcd30e59;refine lp [1] [_] (fun q:Nat×Int=>[(4,.int .i64 q.2),(5,.int .i64 (q.1:Int))]) (kz [_,_]) nz (fun q=>q.1≤ops.length∧0≤q.2∧q.2≤out∧eF inn out ops=eF inn (out-q.2) (ops.drop q.1)) (fun q=>ops.length-q.1) (0,0) ⟨Nat.zero_le _,Int.le_refl _,by dsimp only;omega,by dsimp only;rw [Int.sub_zero];rfl⟩ (lk [0,1] []) ?_;apply Y 0x641f;intro i sum hi hl0 hl1 hinv
    dsimp only at hi hl0 hl1 hinv ⊢;apply Zu 0x2af8758<;>intro
    ·apply Y 0x7a3f6d90e31ead5599;refine sq (ab (vs:=Po.cells (ops.getD i Po.zero)) rfl rfl rfl (Src.r 1 rfl) (lQ ops i oe) rfl ob) ?_;apply Y 0x90e31e;refine LQ.call (.bool (decide (1≤(ops.getD i Po.zero).ln∧(ops.getD i Po.zero).ln≤65536)&&bI (ops.getD i Po.zero) inn)) (xo (ops.getD i Po.zero) inn ⟨by omega,by omega⟩) (fun _ _ _ h=>h.1) rfl trivial rfl ?_;apply Y 0xc9;refine LQ.bool 38 rfl ?_ ?_<;>intro hg38
     ·have hr:(decide (1≤(ops.getD i Po.zero).ln∧(ops.getD i Po.zero).ln≤65536)&&bI (ops.getD i Po.zero) inn)=false:=by
       rw [Bool.not_eq_true'] at hg38
       exact hg38
      have hno:eF inn (out-sum) (ops.drop i)=false:=jN oe (by
       rw [Bool.and_eq_false_iff,decide_eq_false_iff_not] at hr
       rcases hr with h|h
       ·omega
       ·exact .inr (.inr h))
      apply Y 0x40ec4ed9e9b9b;refine C.cond rfl (fun _=>?_) (fun h=>by cases h);apply Y 0xdfe75e3d93e89d848;intro hE;exact Zm 0xe7e
     have hr:(decide (1≤(ops.getD i Po.zero).ln∧(ops.getD i Po.zero).ln≤65536)&&bI (ops.getD i Po.zero) inn)=true:=by simpa using hg38
     rw [Bool.and_eq_true,decide_eq_true_eq] at hr;apply Y 0x67a3f6dc90e631e6dc;refine sq (Ev.fieldAddr rfl rfl rfl rfl rfl rfl (Src.r 1 rfl) (lP (k:=i) oe) rfl) ?_;apply Y 0x6;refine sq (Ev.load rfl rfl rfl (Src.r 1 rfl) ((tq (i:=i) (j:=2) oe ob).trans rfl)) ?_;apply Zu 0x7932ec9690e631e68ce6<;>intro
     ·have hno:eF inn (out-sum) (ops.drop i)=false:=jN oe (.inr (.inl oe));apply Y 0xdfe75e3d93e89d848;intro hE;exact Zm 0xe7e
     apply Y 0x9adce883f863fa70f7f8ab59;refine QE.round (i:=(i,sum)) ((i+1,sum+(ops.getD i Po.zero).ln)) (by exact ⟨by dsimp only;omega,by dsimp only;omega,by dsimp only;omega,by dsimp only;rw [hinv,pg oe oe oe hr.2,Int.sub_sub]⟩) ot (lk [0,1] [])
    apply Zu 0xdd1f8758a9<;>intro
    ·have hno:eF inn (out-sum) (ops.drop i)=false:=by rw [iL oe];exact decide_eq_false oe
     apply Y 0xdfe75e89d8f848;intro hE;exact Zm 0xe7e
    apply Y 0x75ee8d8f88d;have hE:cF inn out ops=0:=by
     unfold cF;exact Zm 0x21c3f
    exact Zm 0xe7e
theorem xp (lf:Bool)(inn out:Int)(ops:List Po)(OA:Option Addr)(oc:Nat)(hops:ops.length≤9223372036854775807):
    Ctr X 74 [.agg (List.toArray [.bool lf,.int .i64 inn,.int .i64 out,.slice OA ops.length oc])] [Rd OA (ck ops)] [] (fun v R' H'=>v=.bool (cF inn out ops==0)∧R'=[]∧H'=[]):=by
 refine co Tryz.func74 ?_;intro β;apply Y 0x6a;intro A1;apply Y 0x63edb49;refine al (zG lf inn out ops OA oc hops) ?_;apply Y 0x41e;intro q;exact Zm 0x33ed9d848d828
theorem uO (x:Po)(i:Nat)(h1:0≤x.fr)(h2:x.fr+(i:Int)≤1000000)(hk:x.k=1∨x.k=3):
    Ctr X 136 [.agg (List.toArray x.cells),.int .i64 (i:Int)] [] [] (fun v R' H'=>v=.agg (List.toArray (Sy.cells (mV x i)))∧R'=[]∧H'=[]):=by
 refine co Tryz.func136 ?_;intro β;apply Y 0x6a;intro A2;apply Y 0xa8;intro A4;apply Zu 0x4dc8aa98f8787c5cb<;>intro hc7
 ·apply Y 0x3ce2d5bbada7f848;exact ⟨by unfold mV;rw [if_pos hc7];rfl,rfl,rfl⟩
 apply Zu 0x4dc8<;>intro
 ·exact Zm 0x18
 apply Zu 0x4dc8<;>intro
 ·apply Y 0x3ce2d5bbaf848;exact ⟨by unfold mV;rw [if_neg hc7];rfl,rfl,rfl⟩
 exact Zm 0x18
end Go.Proofs.YtbpddeiogcgegaaGreat
namespace Go.Sl
section
variable {X:Cx}{β:Base}{n:Nat}{ds:List Deferred}{ops:Array Oper}{Q:Exit→Act→World→Prop}{rest:List Oper}{Γ:Env}{R H:List Pr}
theorem GP {d t e ty:Nat}{pos:String}{af:Array Edge}{i ei:Ti}(ht:au t X.tab=some i)(hdesc:i.desc=.slice e)(he:au e X.tab=some ei)(hd:Nat.blt d n=true)
    (k:∀ A,L X β n ds ops Q rest ((d,.slice A 0 0)::Γ) R (H++[Own e ei.size A 0 0 []])):L X β n ds ops Q (⟨some d,.buildSlice t 0 #[],ty,pos,af,none⟩::rest) Γ R H:=by
 refine L.mk hd e ei.size 0 [] Qa oO (fun A=>.slice A 0 0) ?_ k;intro ρ w hρ hs o ho;obtain ⟨e1,_⟩:=X.ok _ _ ht;rw [hdesc] at e1;apply Y 0xe8e;intro hS;exact Zm 0xf11f304f
end
end Go.Sl
namespace Go.Proofs.YtbpddeiogcgegaaGreat
open Go.Sl
theorem uY {x:Po}{size:Int}(hr:bI x size=true)(h1:1≤x.ln)(hs:size≤65536):(x.k=1∨x.k=3)∧0≤x.fr∧x.fr+x.ln≤65536+x.ln:=by
 unfold bI yK at hr
 by_cases k1:x.k=1
 ·rw [if_pos k1] at hr
  simp at hr;exact Zm 0x18
 rw [if_neg k1] at hr
 by_cases k2:x.k=2
 ·rw [if_pos k2] at hr
  simp at hr;exact Zm 0x18
 rw [if_neg k2] at hr
 by_cases k3:x.k=3
 ·rw [if_pos k3] at hr
  simp at hr;exact Zm 0x18
 rw [if_neg k3] at hr
 by_cases k4:x.k=4
 ·rw [if_pos k4] at hr
  simp at hr;exact Zm 0x18
 rw [if_neg k4] at hr
 cases hr
theorem iT (lf:Bool)(inn out:Int)(ops:List Po)(OA:Option Addr)(oc:Nat)(hops:ops.length≤9223372036854775807):
    Ctr X 82 [.agg (List.toArray [.bool lf,.int .i64 inn,.int .i64 out,.slice OA ops.length oc])] [Rd OA (ck ops)] [] (fun v R' H'=>∃ (A:Option Addr) (c:Nat),v=.tuple #[.slice A (syS inn out ops).length c,.int .i64 (cF inn out ops)]∧R'=[]∧H'=[Own 225 3 A (syS inn out ops).length c (cT (syS inn out ops))]):=by
 refine co Tryz.func82 ?_;intro β;apply Y 0x6a;intro A1;apply Zu 0x3a188791f63edb5538<;>intro hc9
 ·have hE:cF inn out ops≠0:=oa6;apply Y 0x89c8;refine QE.nil_own 225 3 ?_;apply Y 0x22e;have hs:syS inn out ops=[]:=by unfold syS;rw [if_neg hE]
  have h60:cF inn out ops=60:=by
   unfold cF at hE ⊢
   split
   ·exact Zm 0x2
   rename_i h1;rw [if_neg h1] at hE
   split
   ·rename_i h2;rw [if_pos h2] at hE
    exact absurd rfl hE
   exact Zm 0x2
  rw [hs,h60];exact Zm 0x54e
 have hE:cF inn out ops=0:=oa6;apply Y 0x100f;intro k1 k2 k3 k4 k5 k6;apply Y 0xb50f8d;intro A10;apply Y 0xcd49;refine lp [] [] (fun q:Nat×Option Addr×Nat=>[(1,ag A1 0),(4,.slice q.2.1 (ah (ops.take q.1)).length q.2.2),(5,.int .i64 (q.1:Int))]) (kz [_,_]) (fun q=>[Own 225 3 q.2.1 (ah (ops.take q.1)).length q.2.2 (cT (ah (ops.take q.1)))]) (fun q=>q.1≤ops.length) (fun q=>ops.length-q.1) (0,A10,0) (Nat.zero_le _) (lk [0,1] [0]) ?_;apply Y 0xf1e;intro i A c hi
 dsimp only at hi ⊢;apply Zu 0x2af8758<;>intro
 ·apply Y 0x652f;intro hop;obtain ⟨hkk,hfr,hfl⟩:=uY hop.2.2 hop.1 oe;apply Y 0x292fcd99;intro A0 hA0;apply Y 0x392f;intro c0 hc0;refine lp [] [] (fun q:Nat×Option Addr×Nat=>[(1,ag A1 0),(5,.int .i64 (i:Int)),(4,.slice q.2.1 (ah (ops.take i)++ke (ops.getD i Po.zero) q.1).length q.2.2),(6,.int .i64 (q.1:Int))]) (kz [_,_]) (fun q=>[Own 225 3 q.2.1 (ah (ops.take i)++ke (ops.getD i Po.zero) q.1).length q.2.2 (cT (ah (ops.take i)++ke (ops.getD i Po.zero) q.1))]) (fun q=>(q.1:Int)≤(ops.getD i Po.zero).ln) (fun q=>(ops.getD i Po.zero).ln.toNat-q.1) (0,A,c) ot (by exact lk [0,1] [0] ⟨rfl,rfl,QX,rfl,trivial⟩ (hh:=⟨(congrArg some Q9),trivial⟩)) ?_;apply Y 0xf1e;intro j A c hj
  dsimp only at hj ⊢;apply Zu 0x791883f863fa70f7f8758<;>intro
  ·apply Y 0xf72f99;intro hpre;apply Y 0x752f;intro htot;apply Y 0x202f;intro e1;apply Y 0x72c1fa70f7f8ab;refine al (uO (ops.getD i Po.zero) j oe oe hkk) ?_;apply Y 0xce2f88;intro A36;apply Y 0xfc2f;intro A37 cc37;apply Y 0x9a81e;refine QE.round (i:=(j,A,c)) ((j+1,A37,cc37)) ot ot (by exact lk [0,1] [0] ⟨rfl,rfl,qG,rfl,trivial⟩ (hh:=⟨(congrArg some (ay qG oaC)),trivial⟩))
  apply Y 0x9ae5e;obtain rfl:j=(ops.getD i Po.zero).ln.toNat:=oe;apply Y 0x182f;intro he;refine QE.round (i:=(i,A0,c0)) ((i+1,A,c)) ot ot (by exact lk [0,1] [0] ⟨rfl,Qm,rfl,trivial⟩ (hh:=⟨(congrArg some OT),trivial⟩))
 apply Y 0x22ee8d848a9;obtain rfl:i=ops.length:=oe;apply Y 0x710f;intro hs;rw [hs,hE];exact Zm 0x18e36e
theorem fO (SA:Option Addr)(l:List Sy)(sc:Nat)(inn:Int)(S:Nat)(hS:1≤S)(t:Nat)(hb:(t+1)*S≤1000000)(hl:l.length≤1000000)(ht:t≤1000000):
    Ctr X 128 [.agg (List.toArray [.slice SA l.length sc,.int .i64 inn,.int .i64 (S:Int)]),.int .i64 (t:Int)] [Rd SA (cT l)] [] (fun v R' H'=>v=.bool (ij l inn S t)∧R'=[]∧H'=[]):=by
 refine co Tryz.func128 ?_;intro β;apply Y 0xf80f;intro hb2;apply Y 0x190f;intro m1;apply Y 0x221f;intro m2;apply Y 0x6a;intro A2;apply Y 0xaa1df0ff8abcae549;refine lp [1,2] [_,_] (fun j:Nat=>[(5,.int .i64 (((t*S+j):Nat):Int))]) (kz [_,_]) nz (fun j=>j≤S∧∀ a,a<j→chY l inn (t*S+a)=false) (fun j=>S-j) 0 ⟨Nat.zero_le _,bq⟩ (lk [0,1] []) ?_;apply Y 0xb1e;intro j hj hno;apply Zu 0x7913b1ff84b1f9d<;>intro
 ·apply Zu 0xac0fb8f8b999<;>intro
  ·apply Y 0xf9eb;refine sp (cn (k:=(t*S+j)) (m:=(t*S+j)*3) rfl rfl rfl rfl rfl rfl oe (Src.r 1 rfl) (dx (k:=(t*S+j)) oe) rfl) ?_;apply Y 0x4;refine sp (ab (vs:=Sy.cells (l.getD (t*S+j) Sy.zero)) rfl rfl rfl (Src.r 1 rfl) (eb l (t*S+j) oe) rfl ob) ?_;apply Y 0x4baf9;refine sp (mK (a:=(l.getD (t*S+j) Sy.zero)) (b:=⟨true,(((t*S+j):Nat):Int),0⟩) rfl rfl) ?_;apply Y 0x28;refine L.bool 34 rfl ?_ ?_<;>intro hg34
   ·have hx:chY l inn (t*S+j)=true:=by unfold chY;rw [if_pos oe];exact hg34
    apply Y 0x1ca3939;refine C.cond rfl (fun _=>?_) (fun h=>by cases h);exact Zm 0xf41f4b3da0e
   have hx:chY l inn (t*S+j)=false:=by unfold chY;rw [if_pos oe];exact hg34
   apply Zu 0x2e2fbcbcbc53ef9<;>intro
   ·apply Zu 0x2af953ef9<;>intro
    ·apply Y 0x812f;intro hx;exact Zm 0xf41f4b3da0e
    apply Y 0x712f;intro hx;exact Zm 0xb20f9a7a
   have hx:chY l inn (t*S+j)=false:=by
    first
     |exact hx
     |omega
   apply Y 0x38439;refine C.cond rfl (fun h=>by cases h) (fun _=>?_);exact Zm 0xb20f9a7a
  apply Zu 0x2e2fbcbcbc53ef9283939<;>intro
  ·apply Zu 0x2af953ef9<;>intro
   ·apply Y 0x812f;intro hx;exact Zm 0xf41f4b3da0e
   apply Y 0x712f;intro hx;exact Zm 0xb20f9a7a
  have hx:chY l inn (t*S+j)=false:=by
   first
    |exact hx
    |omega
  apply Y 0x38439;refine C.cond rfl (fun h=>by cases h) (fun _=>?_);exact Zm 0xb20f9a7a
 apply Y 0xd91aa9;exact ⟨congrArg Value.bool ((pt (p:=fun a=>chY l inn (t*S+a)) (fun a ha=>hno a oe)).symm),rfl,rfl⟩
end Go.Proofs.YtbpddeiogcgegaaGreat
