/-
  Part of a proof.
-/
import Derived.Test.YtbpddeiogcgegaaGreatYWOrE
set_option maxHeartbeats 0
set_option maxRecDepth 4000
set_option linter.all false
namespace Go.Proofs.YtbpddeiogcgegaaGreat
open Go.Sl
theorem D5 (lf:Bool)(inn out:Int)(ops:List Po)(OA:Option Addr)(oc:Nat)(hops:ops.length≤9223372036854775807)(size:Int):
    Ctr X 241 [.agg (List.toArray [.bool lf,.int .i64 inn,.int .i64 out,.slice OA ops.length oc]),.int .i64 size] [Rd OA (cv ops)] [] (fun v R' H'=>∃ (A:Option Addr) (c:Nat) (hs:List Hd),v=.tuple #[.slice A (rdM lf inn out size ops).length c,.int .i64 (rdE lf inn out size ops)]∧R'=[Rd A (aB hs (J8 (rdM lf inn out size ops))),KidsR hs (J8 (rdM lf inn out size ops))]∧H'=[]∧hs.length=(rdM lf inn out size ops).length):=by
 refine co Tryz.func241 ?_;intro β;apply Y 0x2a;intro A2;apply Y 0x89921fe2efb283;intro A22 c22;apply Zu 0x5d13b15e453e2855<;>intro hc25
 ·apply Y 0x79e29e49e10e5a58;have hE:rdE lf inn out size ops=_:=JN hc25;refine ⟨none,0,[],?_,?_,rfl,?_⟩
  ·rw [bH (by rw [hE];first|decide|exact hc25),hE]
   rfl
  ·rw [bH (by rw [hE];first|decide|exact hc25)]
   rfl
  rw [bH (by rw [hE];first|decide|exact hc25)]
  rfl
 obtain ⟨k1,k2,k3,k4,k5,k6⟩:=fD hc25;rw [show syS inn out ops=ah ops from if_pos hc25];apply Y 0xac0f;intro htot;apply Zu 0xe916b2<;>intro hc29
 ·apply Y 0x79e29e49e10e7c;have hE:rdE lf inn out size ops=_:=JM hc25 hc29;refine ⟨none,0,[],?_,?_,rfl,?_⟩
  ·rw [bH (by rw [hE];first|decide|exact hc25),hE]
   rfl
  ·rw [bH (by rw [hE];first|decide|exact hc25)]
   rfl
  rw [bH (by rw [hE];first|decide|exact hc25)]
  rfl
 apply Zu 0x820f6c<;>intro
 ·apply Y 0x13bc;refine C.cond rfl (fun _=>?_) (fun h=>by cases h);apply Y 0x591f79e29e49e10e7c;intro hE;refine ⟨none,0,[],?_,?_,rfl,?_⟩
  ·rw [bH (by rw [hE];first|decide|exact hc25),hE]
   rfl
  ·rw [bH (by rw [hE];first|decide|exact hc25)]
   rfl
  rw [bH (by rw [hE];first|decide|exact hc25)]
  rfl
 apply Zu 0x785b8<;>intro
 ·apply Y 0x591f79e29e49e10e7c;intro hE;refine ⟨none,0,[],?_,?_,rfl,?_⟩
  ·rw [bH (by rw [hE];first|decide|exact hc25),hE]
   rfl
  ·rw [bH (by rw [hE];first|decide|exact hc25)]
   rfl
  rw [bH (by rw [hE];first|decide|exact hc25)]
  rfl
 apply Y 0x473ed9;obtain ⟨S,rfl⟩:∃ S:Nat,size=(S:Int):=⟨size.toNat,by omega⟩;apply Y 0x3c0e9b3b90f6b6b68;refine sp (Ev.cast (u:=.int .i64 (((rdN inn out S):Nat):Int)) (Ev.quo rfl rfl oe oe oe) (congrArg (Value.int .i64) (F7 k1 k3 oe))) ?_;apply Zu 0x784828<;>intro
 ·apply Y 0x79e29e49e4a48;have hE:rdE lf inn out (S:Int) ops=_:=JK hc25 obD oe oe (by simp only [Int.toNat_natCast];omega);refine ⟨none,0,[],?_,?_,rfl,?_⟩
  ·rw [bH (by rw [hE];first|decide|exact hc25),hE]
   rfl
  ·rw [bH (by rw [hE];first|decide|exact hc25)]
   rfl
  rw [bH (by rw [hE];first|decide|exact hc25)]
  rfl
 apply Y 0x48e8;refine mU (m:=(rdN inn out S)) rfl rfl rfl rfl rfl rfl rfl rfl rfl QX oe rfl (fun A52=>?_);apply Y 0x195828;refine C.loop (fun k:Nat=>[(1,.int .i64 (S:Int)),(2,ag A2 0),(6,.slice A22 (ah ops).length c22),(8,.int .i64 ((rdN inn out S):Int)),(9,.slice A52 (rdN inn out S) (rdN inn out S)),(53,.slice A22 (ah ops).length c22),(54,.int .i64 ((ah ops).length:Int)),(55,.int .i64 (k:Int))]) (fun k:Nat=>[Rd A2 [.bool lf,.int .i64 inn,.int .i64 out,.slice OA ops.length oc],Rd OA (cv ops),Rd A22 (dh (ah ops))]) (fun k:Nat=>[Own 4 1 A52 (rdN inn out S) (rdN inn out S) (Bs (chL (ah ops) S (rdN inn out S) k))]) (fun k:Nat=>k≤(ah ops).length) (fun k:Nat=>(ah ops).length-k) 0 (Nat.zero_le _) (by exact lk [1,2,0] [0] (hh:=⟨(congrArg some (ay rfl (by rw [Fb,← Mt];rfl))),trivial⟩)) ?_;intro k hk;apply Zu 0x1cda<;>intro
 ·apply Y 0x6d0f449;intro hlt;apply Y 0x8a;refine sp (cT (k:=k) (m:=k*3) rfl rfl rfl rfl rfl rfl oe (Src.r 2 rfl) (dW (k:=k) oe) rfl) ?_;refine sp (ab (vs:=Sy.cells ((ah ops).getD k Sy.zero)) rfl rfl rfl (Src.r 2 rfl) (eG (ah ops) k oe) rfl ob) ?_;apply Y 0x88;intro A11;apply Y 0x2f8eb3;refine sp (ab (vs:=Sy.cells ((ah ops).getD k Sy.zero)) rfl rfl rfl (Src.o 1 rfl) rfl rfl ob) ?_;apply Y 0xca3;refine sp (pG (a:=((ah ops).getD k Sy.zero)) (b:=⟨true,(k:Int),0⟩) rfl rfl) ?_;apply Zu 0xe9f8<;>intro hc63
  ·have hx:chX (ah ops) k=true:=by rw [GF oe];exact hc63
   apply Y 0x6d50e602fe42f742fc868;refine QE.round (k+1) oe oe (by exact lk [0,1,2] [0] (hh:=⟨(congrArg some (ay rfl (by rw [GP,Cj hx]))),trivial⟩))
  have hx:chX (ah ops) k=false:=by rw [GF oe];exact hc63
  apply Y 0x6dd9;refine QE.round (k+1) oe oe (by exact lk [0,1,2] [0] (hh:=⟨(congrArg some (by rw [KE hx])),trivial⟩))
 apply Y 0x19d82469;obtain rfl:k=(ah ops).length:=oe;refine C.loop (fun k:Nat=>[(1,.int .i64 (S:Int)),(2,ag A2 0),(6,.slice A22 (ah ops).length c22),(8,.int .i64 ((rdN inn out S):Int)),(9,.slice A52 (rdN inn out S) (rdN inn out S)),(12,.int .i64 (k:Int))]) (fun k:Nat=>[Rd A2 [.bool lf,.int .i64 inn,.int .i64 out,.slice OA ops.length oc],Rd OA (cv ops),Rd A22 (dh (ah ops))]) (fun k:Nat=>[Own 4 1 A52 (rdN inn out S) (rdN inn out S) (Bs (chL (ah ops) S (rdN inn out S) k))]) (fun k:Nat=>(ah ops).length≤k∧k≤(max inn out).toNat) (fun k:Nat=>(max inn out).toNat-k) (ah ops).length ⟨Nat.le_refl _,by omega⟩ (by exact lk [0,1,2] [0] ⟨rfl,rfl,rfl,rfl,rfl,(congrArg some (congrArg (Value.int .i64) htot.symm)),trivial⟩) ?_;apply Y 0xf0e;intro k hk hk2;apply Zu 0x78d8484<;>intro
 ·apply Y 0x6d0f49;intro hlt;apply Y 0x3a50e602fe42f742fc868;refine QE.round (k+1) (by exact ⟨by omega,by omega⟩) oe (by exact lk [0,1,2] [0] (hh:=⟨(congrArg some (ay rfl (by rw [GP,Cj (KD hk)]))),trivial⟩))
 apply Y 0x469;obtain rfl:k=(max inn out).toNat:=oe;apply Y 0x8a15e;refine mU (m:=(rdN inn out S)) rfl rfl rfl rfl rfl rfl rfl rfl rfl obz oe rfl (fun A84=>?_);apply Y 0x195828;refine I8 3 (rdN inn out S) ?_;refine C.loop (fun q:Nat×List Hd=>[(1,.int .i64 (S:Int)),(2,ag A2 0),(6,.slice A22 (ah ops).length c22),(8,.int .i64 ((rdN inn out S):Int)),(9,.slice A52 (rdN inn out S) (rdN inn out S)),(85,.slice A22 (ah ops).length c22),(86,.int .i64 ((ah ops).length:Int)),(13,.slice A84 (rdN inn out S) (rdN inn out S)),(87,.int .i64 (q.1:Int))]) (fun q:Nat×List Hd=>[Rd A52 (Bs (rdC inn out S (ah ops))),Rd A2 [.bool lf,.int .i64 inn,.int .i64 out,.slice OA ops.length oc],Rd OA (cv ops),Rd A22 (dh (ah ops))]) (fun q:Nat×List Hd=>[Own 31 1 A84 (rdN inn out S) (rdN inn out S) (aB q.2 (J8 (rwM (rdC inn out S (ah ops)) S (rdN inn out S) (ah ops) q.1))),aw 3 q.2 (J8 (rwM (rdC inn out S (ah ops)) S (rdN inn out S) (ah ops) q.1))]) (fun q:Nat×List Hd=>q.1≤(ah ops).length∧q.2.length=(rdN inn out S)) (fun q:Nat×List Hd=>(ah ops).length-q.1) (0,List.replicate (rdN inn out S) (none,0)) ⟨Nat.zero_le _,List.length_replicate⟩ (by exact lk [0,1,2,3] [0,1] (hh:=⟨(congrArg some (ay rfl (by dsimp only;rw [vr];exact JF _))),(congrArg some (by dsimp only;rw [vr];simp [J8,I64])),trivial⟩)) ?_;apply Y 0xcce;intro k hs hk hhs
 dsimp only at hk hhs ⊢;apply Zu 0x1cda<;>intro
 ·apply Y 0x6d0f449;intro hlt;have hat:=ve k6 (k:=k) oe;have hat2:((ah ops).getD k Sy.zero).at_≤65536:=by
   cases ho:((ah ops).getD k Sy.zero).old with
   |true=>have:=hat.2.1 ho;omega
   |false=>have:=hat.2.2 ho;omega
  apply Y 0x8a;refine sp (cT (k:=k) (m:=k*3) rfl rfl rfl rfl rfl rfl oe (Src.r 3 rfl) (dW (k:=k) oe) rfl) ?_;refine sp (ab (vs:=Sy.cells ((ah ops).getD k Sy.zero)) rfl rfl rfl (Src.r 3 rfl) (eG (ah ops) k oe) rfl ob) ?_;apply Y 0x88;intro A15;apply Y 0xb93d7b72e3;refine sq (Ev.cast (u:=.int .i64 ((k/S:Nat):Int)) (Ev.quo rfl rfl oe oe oe) (congrArg (Value.int .i64) (Int.natCast_ediv k S).symm)) ?_;refine sq (faO 2) ?_;refine sq (ldO 2) ?_;apply Y 0xa9;refine sq (Ev.cast (u:=.int .i64 (((rdT ((ah ops).getD k Sy.zero) S):Nat):Int)) (Ev.quo rfl rfl oe oe oe) (congrArg (Value.int .i64) (F5 hat.1))) ?_;apply Y 0x5eae26e249ab9;refine L.bool 102 rfl ?_ ?_<;>intro hg102
  ·have hsk:eb (rdC inn out S (ah ops)) S k ((ah ops).getD k Sy.zero)=true:=JA (by simpa using hg102);apply Y 0x1fa5fa52b;refine C.cond rfl (fun _=>?_) (fun h=>by cases h);apply Y 0xa40fdde1bb9e66e;intro he;exact Zm 0xe20f
  have hold:((ah ops).getD k Sy.zero).old=true:=by simpa using hg102
  have htl:=JJ (inn:=inn) (out:=out) (S:=S) oe hat.1 (hat.2.1 hold);apply Y 0xc8b86a;refine L.bool 107 rfl (imp ey ?_) (imp ew ?_)<;>intro
  ·have hsk:eb (rdC inn out S (ah ops)) S k ((ah ops).getD k Sy.zero)=true:=Jz oe;apply Y 0x1fa5fa;refine C.cond rfl (fun _=>?_) (fun h=>by cases h);apply Y 0xa40fdde1bb9e66e;intro he;exact Zm 0xe20f
  apply Y 0xb86a;refine sp (ae (k:=(k/S)) rfl rfl rfl rfl rfl rfl rfl oe (Src.r 0 rfl) (by rw [mZ,rdC,eg];omega)) ?_;apply Y 0xc87662f7;refine L.bool 114 rfl ?_ ?_<;>intro hg114
  ·have hsk:eb (rdC inn out S (ah ops)) S k ((ah ops).getD k Sy.zero)=true:=Jy (by simpa using hg114);apply Y 0x1fa;refine C.cond rfl (fun _=>?_) (fun h=>by cases h);apply Y 0xa40fdde1bb9e66e;intro he;exact Zm 0xe20f
  apply Y 0xb86a;refine sp (ae (k:=(rdT ((ah ops).getD k Sy.zero) S)) rfl rfl rfl rfl rfl rfl rfl oe (Src.r 0 rfl) (by rw [mZ,rdC,eg];omega)) ?_;apply Zu 0xe916a662f7<;>intro hc120
  ·have hsk:eb (rdC inn out S (ah ops)) S k ((ah ops).getD k Sy.zero)=true:=Jx (by simpa using hc120);apply Y 0xa40fdde1bb9e66e;intro he;exact Zm 0xe20f
  have hnk:eb (rdC inn out S (ah ops)) S k ((ah ops).getD k Sy.zero)=false:=G7 hold oe (by simpa using hg114) (by simpa using hc120);apply Y 0xaa;have hrk:=Hi (rdC inn out S (ah ops)) S (rdN inn out S) (ah ops) k (k/S);apply Y 0x3b;refine sp (ae (k:=(k/S)) rfl rfl rfl rfl rfl rfl rfl oe (Src.o 0 rfl) qu) ?_;refine sp (Ev.load rfl rfl rfl (Src.o 0 rfl) (cG obq oa8)) ?_;apply Y 0x3;refine L.call (js:=[]) (js':=[0,1,2]) (Cm (hs.getD (k/S) (none,0)).1 ((rwM (rdC inn out S (ah ops)) S (rdN inn out S) (ah ops) k).getD (k/S) []) (hs.getD (k/S) (none,0)).2 ((rdT ((ah ops).getD k Sy.zero) S):Int) oe (Hg _ _ _ _ _ _)) rfl rfl rfl ob ⟨((Has.okid 1 rfl QZ (k/S) (by rw [bW,cF];omega)).cast (dT _)),trivial⟩ rfl ?_;rintro _ _ _ ⟨kk,rfl,rfl,rfl,hk1,hk2,hk3⟩;apply Zu 0xe92d155<;>intro hc131
  ·have hnf:((rwM (rdC inn out S (ah ops)) S (rdN inn out S) (ah ops) k).getD (k/S) []).contains ((rdT ((ah ops).getD k Sy.zero) S):Int)=false:=by simpa using hc131
   refine yj 1 (k/S) rfl oa8 [0,2] ob ?_;apply Y 0xf42f53b;refine sp (Ev.load rfl rfl rfl (Src.o 2 rfl) (cG obq oa8)) ?_;apply Y 0x7a5;intro A140;refine L.call (js:=[0,4]) (js':=[1,2,3]) (EE (hs.getD (k/S) (none,0)).1 ((rwM (rdC inn out S (ah ops)) S (rdN inn out S) (ah ops) k).getD (k/S) []) (hs.getD (k/S) (none,0)).2 kk ((rdT ((ah ops).getD k Sy.zero) S):Int) A140 1 oe hk1) rfl rfl rfl ob trivial rfl ?_;apply Y 0x89;intro A141 c141;apply Y 0xf42f;refine L.store (j:=2) rfl rfl rfl rfl rfl rfl rfl (by exact cG obq oa8) ?_;refine L.putKid 1 0 (k/S) rfl rfl (by rw [bW,List.length_set,cF];omega) [2,3] ob ?_;apply Y 0x6d50e;have he:(rwM (rdC inn out S (ah ops)) S (rdN inn out S) (ah ops) (k+1))=(rwM (rdC inn out S (ah ops)) S (rdN inn out S) (ah ops) k).set (k/S) (((rwM (rdC inn out S (ah ops)) S (rdN inn out S) (ah ops) k).getD (k/S) []).take kk++[((rdT ((ah ops).getD k Sy.zero) S):Int)]++((rwM (rdC inn out S (ah ops)) S (rdN inn out S) (ah ops) k).getD (k/S) []).drop kk):=Hk hlt htl hnk hnf hk1 hk2 hk3;refine QE.round (i:=(k,hs)) ((k+1,hs.set (k/S) (A141,c141))) (by exact ⟨by dsimp only;omega,by dsimp only;rw [List.length_set];exact hhs⟩) ou (by exact lk [0,1,2,3] [1,0] (hh:=⟨(congrArg some (ay rfl (by dsimp only;rw [he,← zG,Ic]))),(congrArg some (by dsimp only;rw [he];exact Bd)),trivial⟩))
  have hyf:((rwM (rdC inn out S (ah ops)) S (rdN inn out S) (ah ops) k).getD (k/S) []).contains ((rdT ((ah ops).getD k Sy.zero) S):Int)=true:=by simpa using hc131
  apply Y 0x6dd9;have he:(rwM (rdC inn out S (ah ops)) S (rdN inn out S) (ah ops) (k+1))=(rwM (rdC inn out S (ah ops)) S (rdN inn out S) (ah ops) k):=Hj hlt htl hyf;exact Zm 0xe20f
 apply Y 0xb20f5a5869;refine qfz 0 [] ?_;refine qrt [0,1] [] [_,_] rfl rt ?_;obtain rfl:k=(ah ops).length:=oe;have hE:rdE lf inn out (S:Int) ops=0:=HC hc25 obD oe oe qI;have hR:rdM lf inn out (S:Int) ops=rwM (rdC inn out S (ah ops)) S (rdN inn out S) (ah ops) (ah ops).length:=by rw [Af hE,Int.toNat_natCast]
 have hl:=cF (rdC inn out S (ah ops)) S (rdN inn out S) (ah ops) (ah ops).length;rw [hR,hE,hl];exact ⟨A84,_,hs,rfl,rfl,rfl,hhs⟩
theorem Kn (a lo hi:Int):
    Ctr X 146 [.int .i64 a,.int .i64 lo,.int .i64 hi] [] [] (fun v R' H'=>v=.bool (decide (lo≤a∧a≤hi))∧R'=[]∧H'=[]):=by
 refine co Tryz.func146 ?_;intro β;apply Zu 0x4f1f55812<;>intro
 ·apply Y 0xb2efc395a5b86a
  simp
  omega
 apply Y 0xb2efc39bb2b
 simp
 omega
theorem zM (x:Po)(size:Int)(hs:0≤size∧size≤65536):
    Ctr X 202 [.agg (List.toArray x.cells),.int .i64 size] [] [] (fun v R' H'=>v=.bool (decide (1≤x.ln∧x.ln≤65536)&&bM x size)∧R'=[]∧H'=[]):=by
 refine co Tryz.func202 ?_;intro β;apply Y 0x2a;intro A2;apply Zu 0xe9129190fd8fb428<;>intro hc9
 ·apply Y 0xa6eb2efc5c
  simp_all
  try omega
 have hln:1≤x.ln∧x.ln≤65536:=obc;apply Zu 0x40e2d53ef8d822829190fc0ed83d82e8<;>intro
 ·apply Y 0x58;refine L.bool 22 rfl ?_ ?_<;>intro
  ·apply Y 0xc87cb;refine L.bool 27 rfl (imp ey ?_) (imp ew ?_)<;>intro
   ·apply Y 0xa6eb2efc4b5a5b8cb
    simp_all
    try omega
   apply Y 0xa6eb2efc4bbba8
   simp_all
   try omega
  apply Y 0xa6eb2efc4bbb9d2b
  simp_all
  try omega
 apply Zu 0x40e2d<;>intro
 ·apply Y 0x58;refine L.bool 36 rfl ?_ ?_<;>intro
  ·apply Y 0xc87cb;refine L.bool 41 rfl (imp ey ?_) (imp ew ?_)<;>intro
   ·apply Y 0xa6eb2efc4b5a5742eb8cb
    simp_all
    try omega
   apply Y 0xa6eb2efc4bbbbca8
   simp_all
   try omega
  apply Y 0xa6eb2efc4bbbbc9d2b
  simp_all
  try omega
 apply Zu 0x40e2d<;>intro
 ·apply Y 0x5d82;refine L.bool 54 rfl (imp ey ?_) (imp ew ?_)<;>intro
  ·apply Y 0xa6eb2efc4b5a5b8cb
   simp_all
   try omega
  apply Y 0xa6eb2efc4bbba8
  simp_all
  try omega
 apply Zu 0x40e2d<;>intro
 ·apply Y 0x5d82;refine L.bool 65 rfl (imp ey ?_) (imp ew ?_)<;>intro
  ·apply Y 0xc87cb;refine L.bool 70 rfl (imp ey ?_) (imp ew ?_)<;>intro
   ·apply Y 0xa6eb2efc4b5a5742eb8cb
    simp_all
    try omega
   apply Y 0xa6eb2efc4bbbbca8
   simp_all
   try omega
  apply Y 0xa6eb2efc4bbbbc9d2b
  simp_all
  try omega
 apply Y 0xa6eb2efc39f973ed9
 simp_all
 try omega
theorem Cg (lf:Bool)(inn out:Int)(ops:List Po)(OA:Option Addr)(oc:Nat)(hops:ops.length≤9223372036854775807):
    Ctr X 127 [.agg (List.toArray [.bool lf,.int .i64 inn,.int .i64 out,.slice OA ops.length oc])] [Rd OA (cv ops)] [] (fun v R' H'=>∃ q:Int,v=.tuple #[.int .i64 q,.int .i64 (cU inn out ops)]∧R'=[]∧H'=[]):=by
 refine co Tryz.func127 ?_;intro β;apply Y 0x2a;intro A1;apply Y 0x529190fd8fb4283;refine L.bool 10 rfl ?_ ?_<;>intro hg10
 ·have h10:¬(0≤inn∧inn≤65536):=by
   simp at hg10
   omega
  apply Y 0x19da8;refine C.cond rfl (fun _=>?_) (fun h=>by cases h);apply Y 0xfde44e4a48;intro hE;exact Zm 0xa5e
 ·have h10:0≤inn∧inn≤65536:=by simpa using hg10
  apply Y 0xc8729190f7cb;refine L.bool 16 rfl ?_ ?_<;>intro hg16
  ·have h16:¬(0≤out∧out≤65536):=by
    simp at hg16
    omega
   apply Y 0x1a8;refine C.cond rfl (fun _=>?_) (fun h=>by cases h);apply Y 0xfde44e4a48;intro hE;exact Zm 0xa5e
  ·have h16:0≤out∧out≤65536:=by simpa using hg16
   apply Zu 0x782ccb<;>intro
   ·apply Y 0xfde44e4a48;intro hE;exact Zm 0xa5e
   ·apply Y 0x192dae8;refine lp [1] [_] (fun q:Nat×Int=>[(4,.int .i64 q.2),(5,.int .i64 (q.1:Int))]) (kz [_,_]) nz (fun q=>q.1≤ops.length∧0≤q.2∧q.2≤out∧fh inn out ops=fh inn (out-q.2) (ops.drop q.1)) (fun q=>ops.length-q.1) (0,0) ⟨Nat.zero_le _,Int.le_refl _,by dsimp only;omega,by dsimp only;rw [Int.sub_zero];rfl⟩ (lk [0,1] []) ?_;apply Y 0x4e0f;intro i sum hi hl0 hl1 hinv
    dsimp only at hi hl0 hl1 hinv ⊢;apply Zu 0x783d8484<;>intro
    ·apply Y 0x482fa930e60e3d4449;refine sq (ab (vs:=Po.cells (ops.getD i Po.zero)) rfl rfl rfl (Src.r 1 rfl) (nN ops i oe) rfl ob) ?_;apply Y 0x30e60e;refine LQ.call (.bool (decide (1≤(ops.getD i Po.zero).ln∧(ops.getD i Po.zero).ln≤65536)&&bM (ops.getD i Po.zero) inn)) (zM (ops.getD i Po.zero) inn ⟨by omega,by omega⟩) (fun _ _ _ h=>h.1) rfl trivial rfl ?_;apply Y 0xb9;refine LQ.bool 38 rfl ?_ ?_<;>intro hg38
     ·have hr:(decide (1≤(ops.getD i Po.zero).ln∧(ops.getD i Po.zero).ln≤65536)&&bM (ops.getD i Po.zero) inn)=false:=by
       rw [Bool.not_eq_true'] at hg38
       exact hg38
      have hno:fh inn (out-sum) (ops.drop i)=false:=lB oe (by
       rw [Bool.and_eq_false_iff,decide_eq_false_iff_not] at hr
       rcases hr with h|h
       ·omega
       ·exact .inr (.inr h))
      apply Y 0x9aa9f3e38e8b8b;refine C.cond rfl (fun _=>?_) (fun h=>by cases h);apply Y 0x5ce44e10eab4a58;intro hE;exact Zm 0xa5e
     have hr:(decide (1≤(ops.getD i Po.zero).ln∧(ops.getD i Po.zero).ln≤65536)&&bM (ops.getD i Po.zero) inn)=true:=by simpa using hg38
     rw [Bool.and_eq_true,decide_eq_true_eq] at hr;apply Y 0x18482f181d30e1860e181d;refine sq (Ev.fieldAddr rfl rfl rfl rfl rfl rfl (Src.r 1 rfl) (nM (k:=i) oe) rfl) ?_;apply Y 0x18;refine sq (Ev.load rfl rfl rfl (Src.r 1 rfl) ((vP (i:=i) (j:=2) oe ob).trans rfl)) ?_;apply Zu 0x1c9ab91830e1860e188de18<;>intro
     ·have hno:fh inn (out-sum) (ops.drop i)=false:=lB oe (.inr (.inl oe));apply Y 0x5ce44e10eab4a58;intro hE;exact Zm 0xa5e
     apply Y 0x3a4cea62fc42f140f3d88ae8;refine QE.round (i:=(i,sum)) ((i+1,sum+(ops.getD i Po.zero).ln)) (by exact ⟨by dsimp only;omega,by dsimp only;omega,by dsimp only;omega,by dsimp only;rw [hinv,s3 oe oe oe hr.2,Int.sub_sub]⟩) ou (lk [0,1] [])
    apply Zu 0x5d1d848469<;>intro
    ·have hno:fh inn (out-sum) (ops.drop i)=false:=by rw [iu oe];exact decide_eq_false oe
     apply Y 0x5ce44e4a5d82;intro hE;exact Zm 0xa5e
    apply Y 0x44e5a5d82e8;have hE:cU inn out ops=0:=by
     unfold cU;rw [if_neg oe,hinv,iu oe,decide_eq_true oe]
     rfl
    exact Zm 0xa5e
theorem zN (lf:Bool)(inn out:Int)(ops:List Po)(OA:Option Addr)(oc:Nat)(hops:ops.length≤9223372036854775807):
    Ctr X 74 [.agg (List.toArray [.bool lf,.int .i64 inn,.int .i64 out,.slice OA ops.length oc])] [Rd OA (cv ops)] [] (fun v R' H'=>v=.bool (cU inn out ops==0)∧R'=[]∧H'=[]):=by
 refine co Tryz.func74 ?_;intro β;apply Y 0x2a;intro A1;apply Y 0xe2efb28;refine an (Cg lf inn out ops OA oc hops) ?_;apply Y 0x21e;intro q;exact Zm 0xd1e395a58155
theorem xv (x:Po)(i:Nat)(h1:0≤x.fr)(h2:x.fr+(i:Int)≤1000000)(hk:x.k=1∨x.k=3):
    Ctr X 136 [.agg (List.toArray x.cells),.int .i64 (i:Int)] [] [] (fun v R' H'=>v=.agg (List.toArray (Sy.cells (pS x i)))∧R'=[]∧H'=[]):=by
 refine co Tryz.func136 ?_;intro β;apply Y 0x2a;intro A2;apply Y 0x88;intro A4;apply Zu 0x40e2d53ef8d8688d47b<;>intro hc7
 ·apply Y 0x790f10ebd59ca9b3d82;exact ⟨by unfold pS;rw [if_pos hc7];rfl,rfl,rfl⟩
 apply Zu 0x40e2d<;>intro
 ·omega
 apply Zu 0x40e2d<;>intro
 ·apply Y 0x790f10ebd59cad82;exact ⟨by unfold pS;rw [if_neg hc7];rfl,rfl,rfl⟩
 omega
end Go.Proofs.YtbpddeiogcgegaaGreat
namespace Go.Sl
section
variable {X:Cx}{β:Base}{n:Nat}{ds:List Deferred}{ops:Array Oper}{Q:Exit→Act→World→Prop}{rest:List Oper}{Γ:Env}{R H:List Pr}
theorem IZ {d t e ty:Nat}{pos:String}{af:Array Edge}{i ei:Ti}(ht:au t X.tab=some i)(hdesc:i.desc=.slice e)(he:au e X.tab=some ei)(hd:Nat.blt d n=true)
    (k:∀ A,L X β n ds ops Q rest ((d,.slice A 0 0)::Γ) R (H++[Own e ei.size A 0 0 []])):L X β n ds ops Q (⟨some d,.buildSlice t 0 #[],ty,pos,af,none⟩::rest) Γ R H:=by
 refine L.mk hd e ei.size 0 [] qX Ob (fun A=>.slice A 0 0) ?_ k;intro ρ w hρ hs o ho;obtain ⟨e1,_⟩:=X.ok _ _ ht;rw [hdesc] at e1;apply Y 0xb6e;intro hS;exact Zm 0x6b0fca2f
end
end Go.Sl
namespace Go.Proofs.YtbpddeiogcgegaaGreat
open Go.Sl
theorem xF {x:Po}{size:Int}(hr:bM x size=true)(h1:1≤x.ln)(hs:size≤65536):(x.k=1∨x.k=3)∧0≤x.fr∧x.fr+x.ln≤65536+x.ln:=by
 unfold bM Bk at hr
 by_cases k1:x.k=1
 ·rw [if_pos k1] at hr
  simp at hr
  omega
 rw [if_neg k1] at hr
 by_cases k2:x.k=2
 ·rw [if_pos k2] at hr
  simp at hr
  omega
 rw [if_neg k2] at hr
 by_cases k3:x.k=3
 ·rw [if_pos k3] at hr
  simp at hr
  omega
 rw [if_neg k3] at hr
 by_cases k4:x.k=4
 ·rw [if_pos k4] at hr
  simp at hr
  omega
 rw [if_neg k4] at hr
 cases hr
theorem gu (lf:Bool)(inn out:Int)(ops:List Po)(OA:Option Addr)(oc:Nat)(hops:ops.length≤9223372036854775807):
    Ctr X 82 [.agg (List.toArray [.bool lf,.int .i64 inn,.int .i64 out,.slice OA ops.length oc])] [Rd OA (cv ops)] [] (fun v R' H'=>∃ (A:Option Addr) (c:Nat),v=.tuple #[.slice A (syS inn out ops).length c,.int .i64 (cU inn out ops)]∧R'=[]∧H'=[Own 225 3 A (syS inn out ops).length c (dh (syS inn out ops))]):=by
 refine co Tryz.func82 ?_;intro β;apply Y 0x2a;intro A1;apply Zu 0xe9129821fe2efb4283<;>intro hc9
 ·have hE:cU inn out ops≠0:=obc;apply Y 0x4a48;refine QE.nil_own 225 3 ?_;apply Y 0x34e;have hs:syS inn out ops=[]:=by unfold syS;rw [if_neg hE]
  have h60:cU inn out ops=60:=by
   unfold cU at hE ⊢
   split
   ·rfl
   rename_i h1;rw [if_neg h1] at hE
   split
   ·rename_i h2;rw [if_pos h2] at hE
    exact absurd rfl hE
   rfl
  rw [hs,h60];exact Zm 0x43e
 have hE:cU inn out ops=0:=obc;apply Y 0xbce;intro k1 k2 k3 k4 k5 k6;apply Y 0x870f2e8;intro A10;apply Y 0x19228;refine lp [] [] (fun q:Nat×Option Addr×Nat=>[(1,ag A1 0),(4,.slice q.2.1 (ah (ops.take q.1)).length q.2.2),(5,.int .i64 (q.1:Int))]) (kz [_,_]) (fun q=>[Own 225 3 q.2.1 (ah (ops.take q.1)).length q.2.2 (dh (ah (ops.take q.1)))]) (fun q=>q.1≤ops.length) (fun q=>ops.length-q.1) (0,A10,0) (Nat.zero_le _) (lk [0,1] [0]) ?_;apply Y 0xb1e;intro i A c hi
 dsimp only at hi ⊢;apply Zu 0x783d8484<;>intro
 ·have hop:=j3 ops out k6 i oe;obtain ⟨hkk,hfr,hfl⟩:=xF hop.2.2 hop.1 oe;apply Y 0x6c1f19249;intro A0 hA0;apply Y 0x7c1f;intro c0 hc0;refine lp [] [] (fun q:Nat×Option Addr×Nat=>[(1,ag A1 0),(5,.int .i64 (i:Int)),(4,.slice q.2.1 (ah (ops.take i)++l5 (ops.getD i Po.zero) q.1).length q.2.2),(6,.int .i64 (q.1:Int))]) (kz [_,_]) (fun q=>[Own 225 3 q.2.1 (ah (ops.take i)++l5 (ops.getD i Po.zero) q.1).length q.2.2 (dh (ah (ops.take i)++l5 (ops.getD i Po.zero) q.1))]) (fun q=>(q.1:Int)≤(ops.getD i Po.zero).ln) (fun q=>(ops.getD i Po.zero).ln.toNat-q.1) (0,A,c) ou (by exact lk [0,1] [0] ⟨rfl,rfl,QP,rfl,trivial⟩ (hh:=⟨(congrArg some Q1),trivial⟩)) ?_;apply Y 0xb1e;intro j A c hj
  dsimp only at hj ⊢;apply Zu 0x78a62fc42f140f3d8484<;>intro
  ·apply Y 0x49;have hpre:=vd ops i j oe oe;have htot:=pb ops out k3 k6;apply Y 0xa71f;intro e1;apply Y 0x3e31f140f3d88a;refine an (xv (ops.getD i Po.zero) j oe oe hkk) ?_;apply Y 0x202f29;intro A36;apply Y 0xfe1f;intro A37 cc37;apply Y 0x3a90e;refine QE.round (i:=(j,A,c)) ((j+1,A37,cc37)) ou ou (by exact lk [0,1] [0] ⟨rfl,rfl,qw,rfl,trivial⟩ (hh:=⟨(congrArg some (ay qw oaC)),trivial⟩))
  apply Y 0x3a64e;obtain rfl:j=(ops.getD i Po.zero).ln.toNat:=oe;have he:=kh ops i oe;refine QE.round (i:=(i,A0,c0)) ((i+1,A,c)) ou ou (by exact lk [0,1] [0] ⟨rfl,Qe,rfl,trivial⟩ (hh:=⟨(congrArg some OR),trivial⟩))
 apply Y 0x34e5a5869;obtain rfl:i=ops.length:=oe;apply Y 0x1ee;intro hs;rw [hs,hE];exact Zm 0xd6ee4e
theorem gG (SA:Option Addr)(l:List Sy)(sc:Nat)(inn:Int)(S:Nat)(hS:1≤S)(t:Nat)(hb:(t+1)*S≤1000000)(hl:l.length≤1000000)(ht:t≤1000000):
    Ctr X 128 [.agg (List.toArray [.slice SA l.length sc,.int .i64 inn,.int .i64 (S:Int)]),.int .i64 (t:Int)] [Rd SA (dh l)] [] (fun v R' H'=>v=.bool (gE l inn S t)∧R'=[]∧H'=[]):=by
 refine co Tryz.func128 ?_;intro β;apply Y 0xb40f;intro hb2;apply Y 0xc40f;intro m1;apply Y 0x9b0f;intro m2;apply Y 0x2a;intro A2;apply Y 0x19a90fd88a15e428;refine lp [1,2] [_,_] (fun j:Nat=>[(5,.int .i64 (((t*S+j):Nat):Int))]) (kz [_,_]) nz (fun j=>j≤S∧∀ a,a<j→chY l inn (t*S+a)=false) (fun j=>S-j) 0 ⟨Nat.zero_le _,bA⟩ (lk [0,1] []) ?_;apply Y 0xf0e;intro j hj hno;apply Zu 0x78631fd8731f584<;>intro
 ·apply Zu 0x570fc8d84849<;>intro
  ·apply Y 0xb8cb;refine sp (cT (k:=(t*S+j)) (m:=(t*S+j)*3) rfl rfl rfl rfl rfl rfl oe (Src.r 1 rfl) (dW (k:=(t*S+j)) oe) rfl) ?_;apply Y 0x7;refine sp (ab (vs:=Sy.cells (l.getD (t*S+j) Sy.zero)) rfl rfl rfl (Src.r 1 rfl) (eG l (t*S+j) oe) rfl ob) ?_;apply Y 0x7cab8;refine sp (pG (a:=(l.getD (t*S+j) Sy.zero)) (b:=⟨true,(((t*S+j):Nat):Int),0⟩) rfl rfl) ?_;apply Y 0x5;refine L.bool 34 rfl ?_ ?_<;>intro hg34
   ·have hx:chY l inn (t*S+j)=true:=by unfold chY;rw [if_pos oe];exact hg34
    apply Y 0x12ba8a8;refine C.cond rfl (fun _=>?_) (fun h=>by cases h);exact Zm 0xae0f4babf9
   have hx:chY l inn (t*S+j)=false:=by unfold chY;rw [if_pos oe];exact hg34
   apply Zu 0xcf1f6a2c42eb8<;>intro
   ·apply Zu 0x782c42eb8<;>intro
    ·apply Y 0x581f;intro hx;exact Zm 0xae0f4babf9
    apply Y 0x481f;intro hx;exact Zm 0xafe3ad9
   have hx:chY l inn (t*S+j)=false:=by
    first
     |exact hx
     |omega
   apply Y 0x16aa8;refine C.cond rfl (fun h=>by cases h) (fun _=>?_);exact Zm 0xafe3ad9
  apply Zu 0xcf1f6a2c42eb85a8a8<;>intro
  ·apply Zu 0x782c42eb8<;>intro
   ·apply Y 0x581f;intro hx;exact Zm 0xae0f4babf9
   apply Y 0x481f;intro hx;exact Zm 0xafe3ad9
  have hx:chY l inn (t*S+j)=false:=by
   first
    |exact hx
    |omega
  apply Y 0x16aa8;refine C.cond rfl (fun h=>by cases h) (fun _=>?_);exact Zm 0xafe3ad9
 apply Y 0x39f969;exact ⟨congrArg Value.bool ((ti (p:=fun a=>chY l inn (t*S+a)) (fun a ha=>hno a oe)).symm),rfl,rfl⟩
end Go.Proofs.YtbpddeiogcgegaaGreat
