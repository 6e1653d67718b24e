/-
  Part of a proof.
-/
import Derived.Test.YtbpddeiogcgegaaGreatVWOrE
set_option maxHeartbeats 0
set_option maxRecDepth 4000
set_option linter.all false
namespace Go.Proofs.YtbpddeiogcgegaaGreat
open Go.Sl
theorem CM (lf:Bool)(inn out:Int)(ops:List Po)(OA:Option Addr)(oc:Nat)(hops:ops.length≤9223372036854775807)(size:Int):
    Ctr X 241 [.agg (List.toArray [.bool lf,.int .i64 inn,.int .i64 out,.slice OA ops.length oc]),.int .i64 size] [Rd OA (bZ ops)] [] (fun v R' H'=>∃ (A:Option Addr) (c:Nat) (hs:List Hd),v=.tuple #[.slice A (rdM lf inn out size ops).length c,.int .i64 (rdE lf inn out size ops)]∧R'=[Rd A (ay hs (J8 (rdM lf inn out size ops))),KidsR hs (J8 (rdM lf inn out size ops))]∧H'=[]∧hs.length=(rdM lf inn out size ops).length):=by
 refine co Tryz.func241 ?_;intro β;apply Y 0x4a;intro A2;apply Y 0x193b1fc3e7c538;intro A22 c22;apply Zu 0x5de87c5ba5e848<;>intro hc25
 ·apply Y 0x7ce1ce3ce7de87;have hE:rdE lf inn out size ops=_:=ID hc25;refine ⟨none,0,[],?_,?_,rfl,?_⟩
  ·rw [bE (by rw [hE];first|decide|exact hc25),hE];exact Zm 0x2
  ·rw [bE (by rw [hE];first|decide|exact hc25)];exact Zm 0x2
  rw [bE (by rw [hE];first|decide|exact hc25)];exact Zm 0x2
 obtain ⟨k1,k2,k3,k4,k5,k6⟩:=fT hc25;rw [show syS inn out ops=ah ops from if_pos hc25];apply Y 0x641f;intro htot;apply Zu 0x1a11b7<;>intro hc29
 ·apply Y 0x7ce1ce3ce7dc8;have hE:rdE lf inn out size ops=_:=IC hc25 hc29;refine ⟨none,0,[],?_,?_,rfl,?_⟩
  ·rw [bE (by rw [hE];first|decide|exact hc25),hE];exact Zm 0x2
  ·rw [bE (by rw [hE];first|decide|exact hc25)];exact Zm 0x2
  rw [bE (by rw [hE];first|decide|exact hc25)];exact Zm 0x2
 apply Zu 0xb60fb87<;>intro
 ·apply Y 0x38dd;refine C.cond rfl (fun _=>?_) (fun h=>by cases h);apply Y 0x252f7ce1ce3ce7dc8;intro hE;refine ⟨none,0,[],?_,?_,rfl,?_⟩
  ·rw [bE (by rw [hE];first|decide|exact hc25),hE];exact Zm 0x2
  ·rw [bE (by rw [hE];first|decide|exact hc25)];exact Zm 0x2
  rw [bE (by rw [hE];first|decide|exact hc25)];exact Zm 0x2
 apply Zu 0x79e8b9<;>intro
 ·apply Y 0x252f7ce1ce3ce7dc8;intro hE;refine ⟨none,0,[],?_,?_,rfl,?_⟩
  ·rw [bE (by rw [hE];first|decide|exact hc25),hE];exact Zm 0x2
  ·rw [bE (by rw [hE];first|decide|exact hc25)];exact Zm 0x2
  rw [bE (by rw [hE];first|decide|exact hc25)];exact Zm 0x2
 apply Y 0x574e5a;obtain ⟨S,rfl⟩:∃ S:Nat,size=(S:Int):=⟨size.toNat,by omega⟩;apply Y 0x6c1eca6111f1b1b68;refine sp (Ev.cast (u:=.int .i64 (((rdN inn out S):Nat):Int)) (Ev.quo rfl rfl oe oe oe) (congrArg (Value.int .i64) (EP k1 k3 oe))) ?_;apply Zu 0xe9581<;>intro
 ·apply Y 0x7ce1ce3ce59c8;have hE:rdE lf inn out (S:Int) ops=_:=Iz hc25 obI oe oe (by simp only [Int.toNat_natCast];omega);refine ⟨none,0,[],?_,?_,rfl,?_⟩
  ·rw [bE (by rw [hE];first|decide|exact hc25),hE];exact Zm 0x2
  ·rw [bE (by rw [hE];first|decide|exact hc25)];exact Zm 0x2
  rw [bE (by rw [hE];first|decide|exact hc25)];exact Zm 0x2
 apply Y 0xf999;refine lF (m:=(rdN inn out S)) rfl rfl rfl rfl rfl rfl rfl rfl rfl oab oe rfl (fun A52=>?_);apply Y 0xbae8581;refine C.loop (fun k:Nat=>[(1,.int .i64 (S:Int)),(2,ag A2 0),(6,.slice A22 (ah ops).length c22),(8,.int .i64 ((rdN inn out S):Int)),(9,.slice A52 (rdN inn out S) (rdN inn out S)),(53,.slice A22 (ah ops).length c22),(54,.int .i64 ((ah ops).length:Int)),(55,.int .i64 (k:Int))]) (fun k:Nat=>[Rd A2 [.bool lf,.int .i64 inn,.int .i64 out,.slice OA ops.length oc],Rd OA (bZ ops),Rd A22 (cU (ah ops))]) (fun k:Nat=>[Own 4 1 A52 (rdN inn out S) (rdN inn out S) (Bs (chL (ah ops) S (rdN inn out S) k))]) (fun k:Nat=>k≤(ah ops).length) (fun k:Nat=>(ah ops).length-k) 0 (Nat.zero_le _) (by exact lk [1,2,0] [0] (hh:=⟨(congrArg some (ax rfl (by rw [DR,← LJ];rfl))),trivial⟩)) ?_;intro k hk;apply Zu 0x7920e<;>intro
 ·apply Y 0xf41f589;intro hlt;apply Y 0x2c;refine sp (cf (k:=k) (m:=k*3) rfl rfl rfl rfl rfl rfl oe (Src.r 2 rfl) (dA (k:=k) oe) rfl) ?_;refine sp (aa (vs:=Sy.cells ((ah ops).getD k Sy.zero)) rfl rfl rfl (Src.r 2 rfl) (ek (ah ops) k oe) rfl ob) ?_;apply Y 0x98;intro A11;apply Y 0x7886b6;refine sp (aa (vs:=Sy.cells ((ah ops).getD k Sy.zero)) rfl rfl rfl (Src.o 1 rfl) rfl rfl ob) ?_;apply Y 0xfa6;refine sp (nh (a:=((ah ops).getD k Sy.zero)) (b:=⟨true,(k:Int),0⟩) rfl rfl) ?_;apply Zu 0x1a88<;>intro hc63
  ·have hx:chX (ah ops) k=true:=by rw [Fm oe];exact hc63
   apply Y 0xd0efd523f4d3f8c3fb868;refine QE.round (k+1) oe oe (by exact lk [0,1,2] [0] (hh:=⟨(congrArg some (ax rfl (by rw [FC,AJ hx]))),trivial⟩))
  have hx:chX (ah ops) k=false:=by rw [Fm oe];exact hc63
  apply Y 0xd0e5a;refine QE.round (k+1) oe oe (by exact lk [0,1,2] [0] (hh:=⟨(congrArg some (by rw [Jt hx])),trivial⟩))
 apply Y 0xba1f858a9;obtain rfl:k=(ah ops).length:=oe;refine C.loop (fun k:Nat=>[(1,.int .i64 (S:Int)),(2,ag A2 0),(6,.slice A22 (ah ops).length c22),(8,.int .i64 ((rdN inn out S):Int)),(9,.slice A52 (rdN inn out S) (rdN inn out S)),(12,.int .i64 (k:Int))]) (fun k:Nat=>[Rd A2 [.bool lf,.int .i64 inn,.int .i64 out,.slice OA ops.length oc],Rd OA (bZ ops),Rd A22 (cU (ah ops))]) (fun k:Nat=>[Own 4 1 A52 (rdN inn out S) (rdN inn out S) (Bs (chL (ah ops) S (rdN inn out S) k))]) (fun k:Nat=>(ah ops).length≤k∧k≤(max inn out).toNat) (fun k:Nat=>(max inn out).toNat-k) (ah ops).length ⟨Nat.le_refl _,by omega⟩ (by exact lk [0,1,2] [0] ⟨rfl,rfl,rfl,rfl,rfl,(congrArg some (congrArg (Value.int .i64) htot.symm)),trivial⟩) ?_;apply Y 0xa1e;intro k hk hk2;apply Zu 0x791f8658<;>intro
 ·apply Y 0xf41f89;intro hlt;apply Y 0x8afd523f4d3f8c3fb868;refine QE.round (k+1) (by exact ⟨by omega,by omega⟩) oe (by exact lk [0,1,2] [0] (hh:=⟨(congrArg some (ax rfl (by rw [FC,AJ (Js hk)]))),trivial⟩))
 apply Y 0x5a9;obtain rfl:k=(max inn out).toNat:=oe;apply Y 0x2c7ae;refine lF (m:=(rdN inn out S)) rfl rfl rfl rfl rfl rfl rfl rfl rfl obF oe rfl (fun A84=>?_);apply Y 0xbae8581;refine HP 3 (rdN inn out S) ?_;refine C.loop (fun q:Nat×List Hd=>[(1,.int .i64 (S:Int)),(2,ag A2 0),(6,.slice A22 (ah ops).length c22),(8,.int .i64 ((rdN inn out S):Int)),(9,.slice A52 (rdN inn out S) (rdN inn out S)),(85,.slice A22 (ah ops).length c22),(86,.int .i64 ((ah ops).length:Int)),(13,.slice A84 (rdN inn out S) (rdN inn out S)),(87,.int .i64 (q.1:Int))]) (fun q:Nat×List Hd=>[Rd A52 (Bs (rdC inn out S (ah ops))),Rd A2 [.bool lf,.int .i64 inn,.int .i64 out,.slice OA ops.length oc],Rd OA (bZ ops),Rd A22 (cU (ah ops))]) (fun q:Nat×List Hd=>[Own 31 1 A84 (rdN inn out S) (rdN inn out S) (ay q.2 (J8 (rwM (rdC inn out S (ah ops)) S (rdN inn out S) (ah ops) q.1))),au 3 q.2 (J8 (rwM (rdC inn out S (ah ops)) S (rdN inn out S) (ah ops) q.1))]) (fun q:Nat×List Hd=>q.1≤(ah ops).length∧q.2.length=(rdN inn out S)) (fun q:Nat×List Hd=>(ah ops).length-q.1) (0,List.replicate (rdN inn out S) (none,0)) ⟨Nat.zero_le _,List.length_replicate⟩ (by exact lk [0,1,2,3] [0,1] (hh:=⟨(congrArg some (ax rfl (by dsimp only;rw [tJ];exact Iu _))),(congrArg some (by dsimp only;rw [tJ];simp [J8,I64])),trivial⟩)) ?_;apply Y 0xa20f;intro k hs hk hhs
 dsimp only at hk hhs ⊢;apply Zu 0x7920e<;>intro
 ·apply Y 0xf41f589;intro hlt;have hat:=tv k6 (k:=k) oe;have hat2:((ah ops).getD k Sy.zero).at_≤65536:=by
   cases ho:((ah ops).getD k Sy.zero).old with
   |true=>have:=hat.2.1 ho;omega
   |false=>have:=hat.2.2 ho;omega
  apply Y 0x2c;refine sp (cf (k:=k) (m:=k*3) rfl rfl rfl rfl rfl rfl oe (Src.r 3 rfl) (dA (k:=k) oe) rfl) ?_;refine sp (aa (vs:=Sy.cells ((ah ops).getD k Sy.zero)) rfl rfl rfl (Src.r 3 rfl) (ek (ah ops) k oe) rfl ob) ?_;apply Y 0x98;intro A15;apply Y 0x2a6d7b32e6;refine sq (Ev.cast (u:=.int .i64 ((k/S:Nat):Int)) (Ev.quo rfl rfl oe oe oe) (congrArg (Value.int .i64) (Int.natCast_ediv k S).symm)) ?_;refine sq (faO 2) ?_;refine sq (ldO 2) ?_;apply Y 0xfc;refine sq (Ev.cast (u:=.int .i64 (((rdT ((ah ops).getD k Sy.zero) S):Nat):Int)) (Ev.quo rfl rfl oe oe oe) (congrArg (Value.int .i64) (EN hat.1))) ?_;apply Y 0x487ee46e5852e2a;refine L.bool 102 rfl ?_ ?_<;>intro hg102
  ·have hsk:dO (rdC inn out S (ah ops)) S k ((ah ops).getD k Sy.zero)=true:=Io (by simpa using hg102);apply Y 0x1cdeacdea9a;refine C.cond rfl (fun _=>?_) (fun h=>by cases h);apply Y 0xf90fe10f6a5de79e;intro he;exact Zm 0x370f
  have hold:((ah ops).getD k Sy.zero).old=true:=by simpa using hg102
  have htl:=Iy (inn:=inn) (out:=out) (S:=S) oe hat.1 (hat.2.1 hold);apply Y 0xb8ed;refine L.bool 107 rfl (imp fA ?_) (imp fz ?_)<;>intro
  ·have hsk:dO (rdC inn out S (ah ops)) S k ((ah ops).getD k Sy.zero)=true:=Il oe;apply Y 0x1cdea1d;refine C.cond rfl (fun _=>?_) (fun h=>by cases h);apply Y 0xf90fe10f6a5de79e;intro he;exact Zm 0x370f
  apply Y 0xed;refine sp (ae (k:=(k/S)) rfl rfl rfl rfl rfl rfl rfl oe (Src.r 0 rfl) (by rw [lJ,rdC,dT];omega)) ?_;apply Y 0xb842f3f4;refine L.bool 114 rfl ?_ ?_<;>intro hg114
  ·have hsk:dO (rdC inn out S (ah ops)) S k ((ah ops).getD k Sy.zero)=true:=Ik (by simpa using hg114);apply Y 0x11d;refine C.cond rfl (fun _=>?_) (fun h=>by cases h);apply Y 0xf90fe10f6a5de79e;intro he;exact Zm 0x370f
  apply Y 0xed;refine sp (ae (k:=(rdT ((ah ops).getD k Sy.zero) S)) rfl rfl rfl rfl rfl rfl rfl oe (Src.r 0 rfl) (by rw [lJ,rdC,dT];omega)) ?_;apply Zu 0x1a3842f3f4<;>intro hc120
  ·have hsk:dO (rdC inn out S (ah ops)) S k ((ah ops).getD k Sy.zero)=true:=Ij (by simpa using hc120);apply Y 0xf90fe10f6a5de79e;intro he;exact Zm 0x370f
  have hnk:dO (rdC inn out S (ah ops)) S k ((ah ops).getD k Sy.zero)=false:=FS hold oe (by simpa using hg114) (by simpa using hc120);apply Y 0x9d;have hrk:=FZ (rdC inn out S (ah ops)) S (rdN inn out S) (ah ops) k (k/S);apply Y 0x9c;refine sp (ae (k:=(k/S)) rfl rfl rfl rfl rfl rfl rfl oe (Src.o 0 rfl) qJ) ?_;refine sp (Ev.load rfl rfl rfl (Src.o 0 rfl) (cv obx obb)) ?_;apply Y 0x6;refine L.call (js:=[]) (js':=[0,1,2]) (AK (hs.getD (k/S) (none,0)).1 ((rwM (rdC inn out S (ah ops)) S (rdN inn out S) (ah ops) k).getD (k/S) []) (hs.getD (k/S) (none,0)).2 ((rdT ((ah ops).getD k Sy.zero) S):Int) oe (FY _ _ _ _ _ _)) rfl rfl rfl ob ⟨((Has.okid 1 rfl oad (k/S) (by rw [bU,cu];omega)).cast (dt _)),trivial⟩ rfl ?_;rintro _ _ _ ⟨kk,rfl,rfl,rfl,hk1,hk2,hk3⟩;apply Zu 0x1ac8e848<;>intro hc131
  ·have hnf:((rwM (rdC inn out S (ah ops)) S (rdN inn out S) (ah ops) k).getD (k/S) []).contains ((rdT ((ah ops).getD k Sy.zero) S):Int)=false:=by simpa using hc131
   refine wT 1 (k/S) rfl obb [0,2] ob ?_;apply Y 0x5d3f489c;refine sp (Ev.load rfl rfl rfl (Src.o 2 rfl) (cv obx obb)) ?_;apply Y 0x3b48;intro A140;refine L.call (js:=[0,4]) (js':=[1,2,3]) (Dh (hs.getD (k/S) (none,0)).1 ((rwM (rdC inn out S (ah ops)) S (rdN inn out S) (ah ops) k).getD (k/S) []) (hs.getD (k/S) (none,0)).2 kk ((rdT ((ah ops).getD k Sy.zero) S):Int) A140 1 oe hk1) rfl rfl rfl ob trivial rfl ?_;apply Y 0x19;intro A141 c141;apply Y 0x5d3f;refine L.store (j:=2) rfl rfl rfl rfl rfl rfl rfl (by exact cv obx obb) ?_;refine L.putKid 1 0 (k/S) rfl rfl (by rw [bU,List.length_set,cu];omega) [2,3] ob ?_;apply Y 0xd0efd;have he:(rwM (rdC inn out S (ah ops)) S (rdN inn out S) (ah ops) (k+1))=(rwM (rdC inn out S (ah ops)) S (rdN inn out S) (ah ops) k).set (k/S) (((rwM (rdC inn out S (ah ops)) S (rdN inn out S) (ah ops) k).getD (k/S) []).take kk++[((rdT ((ah ops).getD k Sy.zero) S):Int)]++((rwM (rdC inn out S (ah ops)) S (rdN inn out S) (ah ops) k).getD (k/S) []).drop kk):=F1 hlt htl hnk hnf hk1 hk2 hk3;refine QE.round (i:=(k,hs)) ((k+1,hs.set (k/S) (A141,c141))) (by exact ⟨by dsimp only;omega,by dsimp only;rw [List.length_set];exact hhs⟩) ou (by exact lk [0,1,2,3] [1,0] (hh:=⟨(congrArg some (ax rfl (by dsimp only;rw [he,← x6,GP]))),(congrArg some (by dsimp only;rw [he];exact zF)),trivial⟩))
  have hyf:((rwM (rdC inn out S (ah ops)) S (rdN inn out S) (ah ops) k).getD (k/S) []).contains ((rdT ((ah ops).getD k Sy.zero) S):Int)=true:=by simpa using hc131
  apply Y 0xd0e5a;have he:(rwM (rdC inn out S (ah ops)) S (rdN inn out S) (ah ops) (k+1))=(rwM (rdC inn out S (ah ops)) S (rdN inn out S) (ah ops) k):=F0 hlt htl hyf;exact Zm 0x370f
 apply Y 0x340fe60fd8e87a9;refine qrt [0,1] [] [_,_] rfl rt ?_;obtain rfl:k=(ah ops).length:=oe;have hE:rdE lf inn out (S:Int) ops=0:=Gi hc25 obI oe oe qU;have hR:rdM lf inn out (S:Int) ops=rwM (rdC inn out S (ah ops)) S (rdN inn out S) (ah ops) (ah ops).length:=by rw [yy hE,Int.toNat_natCast]
 have hl:=cu (rdC inn out S (ah ops)) S (rdN inn out S) (ah ops) (ah ops).length;rw [hR,hE,hl];exact ⟨A84,_,hs,rfl,rfl,rfl,hhs⟩
theorem Jh (a lo hi:Int):
    Ctr X 146 [.int .i64 a,.int .i64 lo,.int .i64 hi] [] [] (fun v R' H'=>v=.bool (decide (lo≤a∧a≤hi))∧R'=[]∧H'=[]):=by
 refine co Tryz.func146 ?_;intro β;apply Zu 0xcd0f482dc9<;>intro
 ·apply Y 0xf3e4dd9e8ed
  simp;exact Zm 0x18
 apply Y 0xf3e4dd9389a
 simp;exact Zm 0x18
theorem ya (x:Po)(size:Int)(hs:0≤size∧size≤65536):
    Ctr X 202 [.agg (List.toArray x.cells),.int .i64 size] [] [] (fun v R' H'=>v=.bool (decide (1≤x.ln∧x.ln≤65536)&&bJ x size)∧R'=[]∧H'=[]):=by
 refine co Tryz.func202 ?_;intro β;apply Y 0x4a;intro A2;apply Zu 0x1a1a8df0ff87c549<;>intro hc9
 ·apply Y 0x29ef3e4d4c
  simp_all
  try omega
 have hln:1≤x.ln∧x.ln≤65536:=obf;apply Zu 0xecc8ba88f8581a8df0fc1ef86f83c<;>intro
 ·apply Y 0x2d;refine L.bool 22 rfl ?_ ?_<;>intro
  ·apply Y 0xb841c;refine L.bool 27 rfl (imp fA ?_) (imp fz ?_)<;>intro
   ·apply Y 0x29ef3e4d8b7de8b91c
    simp_all
    try omega
   apply Y 0x29ef3e4d8b7d3839
   simp_all
   try omega
  apply Y 0x29ef3e4d8b7d38ea9a
  simp_all
  try omega
 apply Zu 0xecc8<;>intro
 ·apply Y 0x2d;refine L.bool 36 rfl ?_ ?_<;>intro
  ·apply Zu 0x213fb841c<;>intro
   ·apply Y 0x29ef3e4d8b7de84b2eb91c
    simp_all
    try omega
   apply Y 0x29ef3e4d8b7d38dd39
   simp_all
   try omega
  apply Y 0x29ef3e4d8b7d38ddea9a
  simp_all
  try omega
 apply Zu 0xecc8<;>intro
 ·apply Y 0x48f87;refine L.bool 54 rfl (imp fA ?_) (imp fz ?_)<;>intro
  ·apply Y 0x29ef3e4d8b7de8b91c
   simp_all
   try omega
  apply Y 0x29ef3e4d8b7d3839
  simp_all
  try omega
 apply Zu 0xecc8<;>intro
 ·apply Y 0x48f87;refine L.bool 65 rfl (imp fA ?_) (imp fz ?_)<;>intro
  ·apply Y 0xb841c;refine L.bool 70 rfl (imp fA ?_) (imp fz ?_)<;>intro
   ·apply Y 0x29ef3e4d8b7de84b2eb91c
    simp_all
    try omega
   apply Y 0x29ef3e4d8b7d38dd39
   simp_all
   try omega
  apply Y 0x29ef3e4d8b7d38ddea9a
  simp_all
  try omega
 apply Y 0x29ef3e4dd9c974e5a
 simp_all
 try omega
theorem AG (lf:Bool)(inn out:Int)(ops:List Po)(OA:Option Addr)(oc:Nat)(hops:ops.length≤9223372036854775807):
    Ctr X 127 [.agg (List.toArray [.bool lf,.int .i64 inn,.int .i64 out,.slice OA ops.length oc])] [Rd OA (bZ ops)] [] (fun v R' H'=>∃ q:Int,v=.tuple #[.int .i64 q,.int .i64 (cG inn out ops)]∧R'=[]∧H'=[]):=by
 refine co Tryz.func127 ?_;intro β;apply Y 0x4a;intro A1;apply Y 0x48a8df0ff87c5538;refine L.bool 10 rfl ?_ ?_<;>intro hg10
 ·have h10:¬(0≤inn∧inn≤65536):=by
   simp at hg10;exact Zm 0x18
  apply Y 0x1ea39;refine C.cond rfl (fun _=>?_) (fun h=>by cases h);apply Y 0x120fd5e59c8;intro hE;exact Zm 0x38e
 ·have h10:0≤inn∧inn≤65536:=by simpa using hg10
  apply Y 0xb84a8df0f41c;refine L.bool 16 rfl ?_ ?_<;>intro hg16
  ·have h16:¬(0≤out∧out≤65536):=by
    simp at hg16;exact Zm 0x18
   apply Y 0x139;refine C.cond rfl (fun _=>?_) (fun h=>by cases h);apply Y 0x120fd5e59c8;intro hE;exact Zm 0x38e
  ·have h16:0≤out∧out≤65536:=by simpa using hg16
   apply Zu 0xe9b91c<;>intro
   ·apply Y 0x120fd5e59c8;intro hE;exact Zm 0x38e
   ·apply Y 0xad20e99;refine lp [1] [_] (fun q:Nat×Int=>[(4,.int .i64 q.2),(5,.int .i64 (q.1:Int))]) (kz [_,_]) nz (fun q=>q.1≤ops.length∧0≤q.2∧q.2≤out∧eO inn out ops=eO inn (out-q.2) (ops.drop q.1)) (fun q=>ops.length-q.1) (0,0) ⟨Nat.zero_le _,Int.le_refl _,by dsimp only;omega,by dsimp only;rw [Int.sub_zero];rfl⟩ (lk [0,1] []) ?_;apply Y 0x2c0f;intro i sum hi hl0 hl1 hinv
    dsimp only at hi hl0 hl1 hinv ⊢;apply Zu 0xe9f8658<;>intro
    ·apply Y 0xf14ffc50ea0e6d5589;refine sq (aa (vs:=Po.cells (ops.getD i Po.zero)) rfl rfl rfl (Src.r 1 rfl) (ml ops i oe) rfl ob) ?_;apply Y 0x50ea0e;refine LQ.call (.bool (decide (1≤(ops.getD i Po.zero).ln∧(ops.getD i Po.zero).ln≤65536)&&bJ (ops.getD i Po.zero) inn)) (ya (ops.getD i Po.zero) inn ⟨by omega,by omega⟩) (fun _ _ _ h=>h.1) rfl trivial rfl ?_;apply Y 0x2a;refine LQ.bool 38 rfl ?_ ?_<;>intro hg38
     ·have hr:(decide (1≤(ops.getD i Po.zero).ln∧(ops.getD i Po.zero).ln≤65536)&&bJ (ops.getD i Po.zero) inn)=false:=by
       rw [Bool.not_eq_true'] at hg38
       exact hg38
      have hno:eO inn (out-sum) (ops.drop i)=false:=kf oe (by
       rw [Bool.and_eq_false_iff,decide_eq_false_iff_not] at hr
       rcases hr with h|h
       ·omega
       ·exact .inr (.inr h))
      apply Y 0x80ee4e3aefbfb;refine C.cond rfl (fun _=>?_) (fun h=>by cases h);apply Y 0x500fd5edc12e59e87;intro hE;exact Zm 0x38e
     have hr:(decide (1≤(ops.getD i Po.zero).ln∧(ops.getD i Po.zero).ln≤65536)&&bJ (ops.getD i Po.zero) inn)=true:=by simpa using hg38
     rw [Bool.and_eq_true,decide_eq_true_eq] at hr;apply Y 0x28f14f283d50e28a0e283d;refine sq (Ev.fieldAddr rfl rfl rfl rfl rfl rfl (Src.r 1 rfl) (mj (k:=i) oe) rfl) ?_;apply Y 0x28;refine sq (Ev.load rfl rfl rfl (Src.r 1 rfl) ((uu (i:=i) (j:=2) oe ob).trans rfl)) ?_;apply Zu 0x7952e2a2850e28a0e28dce28<;>intro
     ·have hno:eO inn (out-sum) (ops.drop i)=false:=kf oe (.inr (.inl oe));apply Y 0x500fd5edc12e59e87;intro hE;exact Zm 0x38e
     apply Y 0x8a4de7f3f1d3fa80f6f82c99;refine QE.round (i:=(i,sum)) ((i+1,sum+(ops.getD i Po.zero).ln)) (by exact ⟨by dsimp only;omega,by dsimp only;omega,by dsimp only;omega,by dsimp only;rw [hinv,pS oe oe oe hr.2,Int.sub_sub]⟩) ou (lk [0,1] [])
    apply Zu 0x5d1f8658a9<;>intro
    ·have hno:eO inn (out-sum) (ops.drop i)=false:=by rw [iY oe];exact decide_eq_false oe
     apply Y 0x500fd5e59e8f87;intro hE;exact Zm 0x38e
    apply Y 0xd5ed8e8f83c;have hE:cG inn out ops=0:=by
     unfold cG;exact Zm 0x2b34f
    exact Zm 0x38e
theorem yb (lf:Bool)(inn out:Int)(ops:List Po)(OA:Option Addr)(oc:Nat)(hops:ops.length≤9223372036854775807):
    Ctr X 74 [.agg (List.toArray [.bool lf,.int .i64 inn,.int .i64 out,.slice OA ops.length oc])] [Rd OA (bZ ops)] [] (fun v R' H'=>v=.bool (cG inn out ops==0)∧R'=[]∧H'=[]):=by
 refine co Tryz.func74 ?_;intro β;apply Y 0x4a;intro A1;apply Y 0xc3e7c49;refine al (AG lf inn out ops OA oc hops) ?_;apply Y 0x71e;intro q;exact Zm 0x53ed9e87e848
theorem vG (x:Po)(i:Nat)(h1:0≤x.fr)(h2:x.fr+(i:Int)≤1000000)(hk:x.k=1∨x.k=3):
    Ctr X 136 [.agg (List.toArray x.cells),.int .i64 (i:Int)] [] [] (fun v R' H'=>v=.agg (List.toArray (Sy.cells (nw x i)))∧R'=[]∧H'=[]):=by
 refine co Tryz.func136 ?_;intro β;apply Y 0x4a;intro A2;apply Y 0x98;intro A4;apply Zu 0xecc8ba88f868db57b<;>intro hc7
 ·apply Y 0x8ce7d9bfaca6f87;exact ⟨by unfold nw;rw [if_pos hc7];rfl,rfl,rfl⟩
 apply Zu 0xecc8<;>intro
 ·exact Zm 0x18
 apply Zu 0xecc8<;>intro
 ·apply Y 0x8ce7d9bfaf87;exact ⟨by unfold nw;rw [if_neg hc7];rfl,rfl,rfl⟩
 exact Zm 0x18
end Go.Proofs.YtbpddeiogcgegaaGreat
namespace Go.Sl
section
variable {X:Cx}{β:Base}{n:Nat}{ds:List Deferred}{ops:Array Oper}{Q:Exit→Act→World→Prop}{rest:List Oper}{Γ:Env}{R H:List Pr}
theorem HI {d t e ty:Nat}{pos:String}{af:Array Edge}{i ei:Ti}(ht:ar t X.tab=some i)(hdesc:i.desc=.slice e)(he:ar e X.tab=some ei)(hd:Nat.blt d n=true)
    (k:∀ A,L X β n ds ops Q rest ((d,.slice A 0 0)::Γ) R (H++[Own e ei.size A 0 0 []])):L X β n ds ops Q (⟨some d,.buildSlice t 0 #[],ty,pos,af,none⟩::rest) Γ R H:=by
 refine L.mk hd e ei.size 0 [] Qb oS (fun A=>.slice A 0 0) ?_ k;intro ρ w hρ hs o ho;obtain ⟨e1,_⟩:=X.ok _ _ ht;rw [hdesc] at e1;apply Y 0x39e;intro hS;exact Zm 0x231fd74f
end
end Go.Sl
namespace Go.Proofs.YtbpddeiogcgegaaGreat
open Go.Sl
theorem vQ {x:Po}{size:Int}(hr:bJ x size=true)(h1:1≤x.ln)(hs:size≤65536):(x.k=1∨x.k=3)∧0≤x.fr∧x.fr+x.ln≤65536+x.ln:=by
 unfold bJ zL at hr
 by_cases k1:x.k=1
 ·rw [if_pos k1] at hr
  simp at hr;exact Zm 0x18
 rw [if_neg k1] at hr
 by_cases k2:x.k=2
 ·rw [if_pos k2] at hr
  simp at hr;exact Zm 0x18
 rw [if_neg k2] at hr
 by_cases k3:x.k=3
 ·rw [if_pos k3] at hr
  simp at hr;exact Zm 0x18
 rw [if_neg k3] at hr
 by_cases k4:x.k=4
 ·rw [if_pos k4] at hr
  simp at hr;exact Zm 0x18
 rw [if_neg k4] at hr
 cases hr
theorem jm (lf:Bool)(inn out:Int)(ops:List Po)(OA:Option Addr)(oc:Nat)(hops:ops.length≤9223372036854775807):
    Ctr X 82 [.agg (List.toArray [.bool lf,.int .i64 inn,.int .i64 out,.slice OA ops.length oc])] [Rd OA (bZ ops)] [] (fun v R' H'=>∃ (A:Option Addr) (c:Nat),v=.tuple #[.slice A (syS inn out ops).length c,.int .i64 (cG inn out ops)]∧R'=[]∧H'=[Own 225 3 A (syS inn out ops).length c (cU (syS inn out ops))]):=by
 refine co Tryz.func82 ?_;intro β;apply Y 0x4a;intro A1;apply Zu 0x1a1a81b1fc3e7c5538<;>intro hc9
 ·have hE:cG inn out ops≠0:=obf;apply Y 0x59c8;refine QE.nil_own 225 3 ?_;apply Y 0xa2e;have hs:syS inn out ops=[]:=by unfold syS;rw [if_neg hE]
  have h60:cG inn out ops=60:=by
   unfold cG at hE ⊢
   split
   ·exact Zm 0x2
   rename_i h1;rw [if_neg h1] at hE
   split
   ·rename_i h2;rw [if_pos h2] at hE
    exact absurd rfl hE
   exact Zm 0x2
  rw [hs,h60];exact Zm 0x24e
 have hE:cG inn out ops=0:=obf;apply Y 0x800f;intro k1 k2 k3 k4 k5 k6;apply Y 0xc60f3c;intro A10;apply Y 0xad49;refine lp [] [] (fun q:Nat×Option Addr×Nat=>[(1,ag A1 0),(4,.slice q.2.1 (ah (ops.take q.1)).length q.2.2),(5,.int .i64 (q.1:Int))]) (kz [_,_]) (fun q=>[Own 225 3 q.2.1 (ah (ops.take q.1)).length q.2.2 (cU (ah (ops.take q.1)))]) (fun q=>q.1≤ops.length) (fun q=>ops.length-q.1) (0,A10,0) (Nat.zero_le _) (lk [0,1] [0]) ?_;apply Y 0x72e;intro i A c hi
 dsimp only at hi ⊢;apply Zu 0xe9f8658<;>intro
 ·apply Y 0xb72f;intro hop;obtain ⟨hkk,hfr,hfl⟩:=vQ hop.2.2 hop.1 oe;apply Y 0x8b2fad89;intro A0 hA0;apply Y 0x9b2f;intro c0 hc0;refine lp [] [] (fun q:Nat×Option Addr×Nat=>[(1,ag A1 0),(5,.int .i64 (i:Int)),(4,.slice q.2.1 (ah (ops.take i)++kO (ops.getD i Po.zero) q.1).length q.2.2),(6,.int .i64 (q.1:Int))]) (kz [_,_]) (fun q=>[Own 225 3 q.2.1 (ah (ops.take i)++kO (ops.getD i Po.zero) q.1).length q.2.2 (cU (ah (ops.take i)++kO (ops.getD i Po.zero) q.1))]) (fun q=>(q.1:Int)≤(ops.getD i Po.zero).ln) (fun q=>(ops.getD i Po.zero).ln.toNat-q.1) (0,A,c) ou (by exact lk [0,1] [0] ⟨rfl,rfl,Q2,rfl,trivial⟩ (hh:=⟨(congrArg some oae),trivial⟩)) ?_;apply Y 0x72e;intro j A c hj
  dsimp only at hj ⊢;apply Zu 0x7917f3f1d3fa80f6f8658<;>intro
  ·apply Y 0x5a2f89;intro hpre;apply Y 0xc72f;intro htot;apply Y 0x422f;intro e1;apply Y 0x6fd1fa80f6f82c;refine al (vG (ops.getD i Po.zero) j oe oe hkk) ?_;apply Y 0x123fa8;intro A36;apply Y 0xcf2f;intro A37 cc37;apply Y 0x8ad1e;refine QE.round (i:=(j,A,c)) ((j+1,A37,cc37)) ou ou (by exact lk [0,1] [0] ⟨rfl,rfl,qL,rfl,trivial⟩ (hh:=⟨(congrArg some (ax qL oaJ)),trivial⟩))
  apply Y 0x8a66e;obtain rfl:j=(ops.getD i Po.zero).ln.toNat:=oe;apply Y 0x6a2f;intro he;refine QE.round (i:=(i,A0,c0)) ((i+1,A,c)) ou ou (by exact lk [0,1] [0] ⟨rfl,Qq,rfl,trivial⟩ (hh:=⟨(congrArg some OW),trivial⟩))
 apply Y 0xa2ed8e87a9;obtain rfl:i=ops.length:=oe;apply Y 0x220f;intro hs;rw [hs,hE];exact Zm 0x78eb6e
theorem fV (SA:Option Addr)(l:List Sy)(sc:Nat)(inn:Int)(S:Nat)(hS:1≤S)(t:Nat)(hb:(t+1)*S≤1000000)(hl:l.length≤1000000)(ht:t≤1000000):
    Ctr X 128 [.agg (List.toArray [.slice SA l.length sc,.int .i64 inn,.int .i64 (S:Int)]),.int .i64 (t:Int)] [Rd SA (cU l)] [] (fun v R' H'=>v=.bool (iC l inn S t)∧R'=[]∧H'=[]):=by
 refine co Tryz.func128 ?_;intro β;apply Y 0x1a0f;intro hb2;apply Y 0x2a0f;intro m1;apply Y 0x531f;intro m2;apply Y 0x4a;intro A2;apply Y 0xba1f01ff82c7ae549;refine lp [1,2] [_,_] (fun j:Nat=>[(5,.int .i64 (((t*S+j):Nat):Int))]) (kz [_,_]) nz (fun j=>j≤S∧∀ a,a<j→chY l inn (t*S+a)=false) (fun j=>S-j) 0 ⟨Nat.zero_le _,br⟩ (lk [0,1] []) ?_;apply Y 0xa1e;intro j hj hno;apply Zu 0x7911d1ff82d1fbd<;>intro
 ·apply Zu 0xed0fb8f8f989<;>intro
  ·apply Y 0xb91c;refine sp (cf (k:=(t*S+j)) (m:=(t*S+j)*3) rfl rfl rfl rfl rfl rfl oe (Src.r 1 rfl) (dA (k:=(t*S+j)) oe) rfl) ?_;apply Y 0x4;refine sp (aa (vs:=Sy.cells (l.getD (t*S+j) Sy.zero)) rfl rfl rfl (Src.r 1 rfl) (ek l (t*S+j) oe) rfl ob) ?_;apply Y 0x4fab9;refine sp (nh (a:=(l.getD (t*S+j) Sy.zero)) (b:=⟨true,(((t*S+j):Nat):Int),0⟩) rfl rfl) ?_;apply Y 0x48;refine L.bool 34 rfl ?_ ?_<;>intro hg34
   ·have hx:chY l inn (t*S+j)=true:=by unfold chY;rw [if_pos oe];exact hg34
    apply Y 0x19a3939;refine C.cond rfl (fun _=>?_) (fun h=>by cases h);exact Zm 0x661f8bdc70e
   have hx:chY l inn (t*S+j)=false:=by unfold chY;rw [if_pos oe];exact hg34
   apply Zu 0xf03facacacb2eb9<;>intro
   ·apply Zu 0xe9b9b2eb9<;>intro
    ·apply Y 0xa32f;intro hx;exact Zm 0x661f8bdc70e
    apply Y 0x932f;intro hx;exact Zm 0xe30f8a5a
   have hx:chY l inn (t*S+j)=false:=by
    first
     |exact hx
     |omega
   apply Y 0x38439;refine C.cond rfl (fun h=>by cases h) (fun _=>?_);exact Zm 0xe30f8a5a
  apply Zu 0xf03facacacb2eb9483939<;>intro
  ·apply Zu 0xe9b9b2eb9<;>intro
   ·apply Y 0xa32f;intro hx;exact Zm 0x661f8bdc70e
   apply Y 0x932f;intro hx;exact Zm 0xe30f8a5a
  have hx:chY l inn (t*S+j)=false:=by
   first
    |exact hx
    |omega
  apply Y 0x38439;refine C.cond rfl (fun h=>by cases h) (fun _=>?_);exact Zm 0xe30f8a5a
 apply Y 0xd9c9a9;exact ⟨congrArg Value.bool ((p9 (p:=fun a=>chY l inn (t*S+a)) (fun a ha=>hno a oe)).symm),rfl,rfl⟩
end Go.Proofs.YtbpddeiogcgegaaGreat
