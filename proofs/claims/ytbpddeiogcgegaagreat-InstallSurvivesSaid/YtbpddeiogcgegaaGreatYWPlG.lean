/-
  Part of a proof.
-/
import Derived.Test.YtbpddeiogcgegaaGreatYJb
set_option maxHeartbeats 0
set_option maxRecDepth 4000
set_option linter.all false
namespace Go.Proofs.YtbpddeiogcgegaaGreat
open Go.Sl
theorem rangesV_at:∀ (l:List (Nat×Nat)) (k:Nat),k<l.length→((bD l).drop (k*2)).take 2=[.int .i64 ((l.getD k (0,0)).1:Int),.int .i64 ((l.getD k (0,0)).2:Int)]
  |[],_,h=>absurd h (Nat.not_lt_zero _)
  |_::_,0,_=>rfl
  |_::l,k+1,h=>by
    rw [show (k+1)*2=k*2+2 from by omega]
    exact rangesV_at l k qi
theorem HQ (BA:Option Addr)(old:List UInt8)(bc:Nat)(sz n:Int)(lf:Bool)(inn out:Int)(ops:List Po)(seq st:List Int)(OA QA HA:Option Addr)(oc qc hc:Nat)(hops:ops.length≤9223372036854775807)(hql:seq.length≤1000000)(hhl:st.length≤1000000)(hol:old.length≤9223372036854775807)(hbc:old.length≤bc):
    Ctr X 183 [.slice BA old.length bc,.agg (List.toArray [.int .i64 sz,.int .i64 n,.bool lf,.int .i64 inn,.int .i64 out,.slice OA ops.length oc,.slice QA seq.length qc,.slice HA st.length hc])] [Rd BA (U8 old),Rd OA (cv ops),Rd QA (I64 seq),Rd HA (I64 st)] [] (fun v R' H'=>v=.tuple #[.agg (List.toArray [.int .i64 (fu lf sz n inn out ops seq st old).s,.int .i64 (fu lf sz n inn out ops seq st old).u,.int .i64 (fu lf sz n inn out ops seq st old).r,.int .i64 (fu lf sz n inn out ops seq st old).e,.int .i64 (fu lf sz n inn out ops seq st old).o]),.int .i64 (dV lf sz n inn out ops seq st old)]∧R'=[]∧H'=[]):=by
 refine co Tryz.func183 ?_;intro β;apply Y 0x2a;intro A3;apply Y 0x88;intro A4;apply Zu 0xe9133c29622f89e68a0e8d453e28<;>intro hc19
 ·have hvl:fM lf sz n inn out ops seq st=false:=QV;apply Y 0xd81ff7e10e5a598c;intro hE;apply Y 0xc50f;intro hV;rw [hE,hV];exact Zm 0xd1e
 apply Zu 0x5d13d8dc58<;>intro hc24
 ·have hne:(old.length:Int)≠inn:=hc24;apply Y 0xb91f;intro hvl;apply Y 0xe81ff7e10e5a598c;intro hE;apply Y 0xc50f;intro hV;rw [hE,hV];exact Zm 0xd1e
 have hin:(old.length:Int)=inn:=hc24;apply Y 0xb91f;intro hvl;apply Y 0xcd0f;intro hE0 hlf0 hszb0;have hseq:=m3 hvl;apply Y 0x5ee;intro hszb;subst hlf0;obtain ⟨S,rfl⟩:∃ q:Nat,sz=(q:Int):=⟨sz.toNat,by omega⟩;obtain ⟨n,rfl⟩:∃ q:Nat,n=(q:Int):=⟨n.toNat,by omega⟩;rw [Int.toNat_natCast,Int.toNat_natCast] at hseq;apply Y 0x7ee;intro hS1 hS2 hn1 hn2 hi1 hi2;apply Y 0x6ce;intro hcl;apply Y 0x4c0f;intro hk64;apply Y 0xdd0f;intro k1 k2 k3 k4 k5 k6;apply Y 0x1be;intro hsl;apply Y 0x971f;intro hnl;have hol2:old.length≤65536:=oe;apply Y 0x5c0f;intro hsy;apply Y 0xf5edc4873ed9;refine an (Cw BA old bc false inn out ops OA oc hops rfl hE0 hin.symm) ?_;rw [hsy];apply Y 0x89;intro NA nc;apply Y 0xc8e2855db;intro hnc;apply Y 0x1936b2288aa0e8d;refine lp [] [] (fun i:Nat=>[(0,.slice BA old.length bc),(3,ag A3 0),(4,ag A4 0),(6,.slice NA (a7 old (ah ops)).length nc),(40,.slice QA seq.length qc),(41,.int .i64 (seq.length:Int)),(42,.int .i64 (i:Int)),(8,.int .i64 (((ndT old (a7 old (ah ops)) S (seq.take i)):Nat):Int)),(9,.int .i64 (((ndG old (a7 old (ah ops)) S (seq.take i)):Nat):Int))]) (kz [_,_,_,_,_,_]) (kz [_]) (fun i=>i≤seq.length) (fun i=>seq.length-i) 0 (Nat.zero_le _) (lk [0,1,2,3,4,5] [0]) ?_;intro i hi;apply Zu 0x1cda<;>intro
 ·apply Y 0xfb1f449;intro t hst htn htc;apply Y 0x6c0f;intro htS;apply Y 0x752f68;refine sp (Ev.cast (u:=.int .i64 (t:Int)) (Ev.load rfl rfl rfl (Src.r 4 rfl) (aJ oe)) (congrArg (Value.int .i64) hst)) ?_;apply Y 0xbaed2e6f0f4da1;refine mq 2 rfl (faR 1) ?_;refine mq 3 rfl (ldR 1) ?_;apply Y 0x98ec4e;refine mq 7 rfl (faR 1) ?_;refine mq 8 rfl (ldR 1) ?_;apply Y 0x78ebfe;refine an (iX BA old bc t S oe oe oe hS1 hS2 hbc) ?_;apply Y 0x21e;intro A50;apply Y 0xc7e6db;refine an (iX NA (a7 old (ah ops)) nc t S oe oe oe hS1 hS2 hnc) ?_;apply Y 0x21e;intro A55;apply Y 0x69e6b0e;refine an (Ci A50 A55 (ctF old t S) (ctF (a7 old (ah ops)) t S) S S S S (bU _ _ _) (bU _ _ _) (by rw [bU,bU]) (by rw [bU];omega)) ?_;apply Y 0x89;intro O oc2;apply Y 0x6384e6aae;refine LM.nil oa hcx ?_;apply Y 0xb7e59e53e1b;refine lp [] [] (fun k:Nat=>[(0,.slice BA old.length bc),(3,ag A3 0),(4,ag A4 0),(6,.slice NA (a7 old (ah ops)).length nc),(40,.slice QA seq.length qc),(41,.int .i64 (seq.length:Int)),(42,.int .i64 (i:Int)),(8,.int .i64 (((ndT old (a7 old (ah ops)) S (seq.take i)):Nat):Int)),(9,.int .i64 (((ndG old (a7 old (ah ops)) S (seq.take i)):Nat):Int)),(56,.slice O (aA (ctF old t S) (ctF (a7 old (ah ops)) t S) (ctF old t S).length).length oc2),(57,.int .i64 ((aA (ctF old t S) (ctF (a7 old (ah ops)) t S) (ctF old t S).length).length:Int)),(58,.int .i64 (k:Int)),(12,.int .i64 ((5+ndS ((aA (ctF old t S) (ctF (a7 old (ah ops)) t S) (ctF old t S).length).take k):Nat):Int))]) (kz [_,_,_,_,_,_,_]) (kz [_]) (fun k=>k≤(aA (ctF old t S) (ctF (a7 old (ah ops)) t S) (ctF old t S).length).length) (fun k=>(aA (ctF old t S) (ctF (a7 old (ah ops)) t S) (ctF old t S).length).length-k) 0 (Nat.zero_le _) (lk [0,1,2,3,4,5,6] [2]) ?_;intro k hk;apply Zu 0x1cda<;>intro
  ·apply Y 0x449;have hcl9:=fE (ctF old t S) (ctF (a7 old (ah ops)) t S) (ctF old t S).length;apply Y 0xa50f;intro hcfl;apply Y 0x68;refine sp (cT (k:=k) (m:=k*2) rfl rfl rfl rfl rfl oe oe (Src.r 0 rfl) (dz (k:=k) oe) rfl) ?_;refine sp (ab (vs:=[.int .i64 (((aA (ctF old t S) (ctF (a7 old (ah ops)) t S) (ctF old t S).length).getD k (0,0)).1:Int),.int .i64 (((aA (ctF old t S) (ctF (a7 old (ah ops)) t S) (ctF old t S).length).getD k (0,0)).2:Int)]) rfl rfl rfl (Src.r 0 rfl) (rangesV_at (aA (ctF old t S) (ctF (a7 old (ah ops)) t S) (ctF old t S).length) k oe) rfl ob) ?_;apply Y 0x88;intro A14;apply Y 0xf8eb;have hr:=iv (a:=(ctF old t S)) (b:=(ctF (a7 old (ah ops)) t S)) (k:=(ctF old t S).length) (i:=k) oe;have hsu:=vY (aA (ctF old t S) (ctF (a7 old (ah ops)) t S) (ctF old t S).length) (k:=k) oe;apply Y 0x4b1f;intro htk;apply Y 0x3b1f;intro htt;apply Y 0xa50f;intro hcfl;apply Y 0x6d4cec0eba9bba8a;refine QE.round (k+1) oe oe (by exact lk [0,1,2,3,4,5,6] [0] ⟨rfl,rfl,rfl,rfl,rfl,rfl,rfl,rfl,rfl,rfl,rfl,rfl,(congrArg some (congrArg (Value.int .i64) (by show (_:Int)+((4+(((aA (ctF old t S) (ctF (a7 old (ah ops)) t S) (ctF old t S).length).getD k (0,0)).2:Int))-(((aA (ctF old t S) (ctF (a7 old (ah ops)) t S) (ctF old t S).length).getD k (0,0)).1:Int))=_;omega))),trivial⟩)
  apply Y 0x4b1f69;intro htk;apply Y 0x3b1f;intro htt;apply Y 0xa50f;intro hcfl;apply Y 0x5b1f;intro hTi;apply Y 0xea1f;intro hGi;apply Y 0x59b3b;refine sp (Ev.cast (u:=.int .i64 (max (((ndG old (a7 old (ah ops)) S (seq.take i)):Nat):Int) ((5+ndS ((aA (ctF old t S) (ctF (a7 old (ah ops)) t S) (ctF old t S).length).take k):Nat):Int))) (Ev.pure rfl) (congrArg (Value.int .i64) O0)) ?_;apply Y 0x6d50e5;obtain rfl:k=(aA (ctF old t S) (ctF (a7 old (ah ops)) t S) (ctF old t S).length).length:=oe;apply Y 0x7b1f;intro hsT;apply Y 0x1b1f;intro hsG;have hsR:ndR old (a7 old (ah ops)) S (seq.getD i 0)=5+ndS ((aA (ctF old t S) (ctF (a7 old (ah ops)) t S) (ctF old t S).length).take (aA (ctF old t S) (ctF (a7 old (ah ops)) t S) (ctF old t S).length).length):=by rw [hst,List.take_length];rfl
  refine QE.round (i+1) oe oe (by exact lk [1,2,3,4,5,6] [0] ⟨rfl,rfl,rfl,rfl,rfl,rfl,rfl,(congrArg some (congrArg (Value.int .i64) oe)),(congrArg some (congrArg (Value.int .i64) oe)),trivial⟩)
 apply Y 0x4469;obtain rfl:i=seq.length:=oe;apply Zu 0x788ae4e<;>intro
 ·apply Y 0xc81ff7e4a598c;intro hE;apply Y 0x8b1f;intro hV;rw [hE,hV];exact Zm 0xd1e
 apply Y 0x6b1faa;intro hT;rw [List.take_length] at hT;apply Y 0xfa1f;intro hG;rw [List.take_length] at hG;apply Y 0x671f;intro hU;apply Y 0x6f0f;refine mq 0 rfl (faR 1) ?_;refine mq 1 rfl (ldR 1) ?_;apply Y 0xdfe4de;refine mq 4 rfl (faR 1) ?_;refine mq 5 rfl (ldR 1) ?_;refine mq 6 rfl (Ev.add rfl rfl oe oe) ?_;refine mq 7 rfl (Ev.sub rfl rfl oe oe) ?_;refine mq 8 rfl (faR 1) ?_;refine mq 9 rfl (ldR 1) ?_;refine mq 10 rfl (Ev.cast (u:=.int .i64 (((ndU (ndT old (a7 old (ah ops)) S seq) S):Nat):Int)) (Ev.quo rfl rfl oe oe oe) (congrArg (Value.int .i64) ON)) ?_;refine mq 11 rfl (faR 1) ?_;refine mq 12 rfl (ldR 1) ?_;refine mq 13 rfl (Ev.mul rfl rfl oe oe) ?_;apply Y 0x290f;refine mq 15 rfl (Ev.cast (u:=.int .i64 (((2*S+(ndG old (a7 old (ah ops)) S seq)):Nat):Int)) (Ev.add rfl rfl oe oe) (congrArg (Value.int .i64) oe)) ?_;refine mq 16 rfl (Ev.build rfl rfl rfl rfl rfl rfl rfl) ?_;refine mfo 17 ?_;apply Y 0x88;intro A15;apply Y 0xc9;refine LM.f 18 rfl oa trivial ?_;apply Y 0x571f28242f9bd4e39bbaba2136b21b70eeb;intro hNN;have hW1:1≤ndW S:=obu;apply Y 0x2b1f;intro hCq;apply Y 0x471f28f32f442f542fd72fc0e6b8a;intro hCC;apply Y 0xb81ff7e5a59400f2f8accc342fd4e39b39b9bd4e39bd4ebad4eba2f8accc142f39b9bd4e39bbaba68;intro hE;have hV:=jR hE;rw [Int.toNat_natCast] at hV;rw [hE,hV];exact Zm 0xd1e
theorem Er (BA:Option Addr)(old:List UInt8)(bc:Nat)(sz n:Int)(lf:Bool)(inn out:Int)(ops:List Po)(seq st:List Int)(OA QA HA:Option Addr)(oc qc hc:Nat)(hops:ops.length≤9223372036854775807)(hql:seq.length≤1000000)(hhl:st.length≤1000000)(hol:old.length≤9223372036854775807)(_hbc:old.length≤bc):
    Ctr X 39 [.slice BA old.length bc,.agg (List.toArray [.int .i64 sz,.int .i64 n,.bool lf,.int .i64 inn,.int .i64 out,.slice OA ops.length oc,.slice QA seq.length qc,.slice HA st.length hc])] [Rd BA (U8 old),Rd OA (cv ops),Rd QA (I64 seq),Rd HA (I64 st)] [] (fun v R' H'=>v=.tuple #[.agg (List.toArray [.int .i64 (fu lf sz n inn out ops seq st old).s,.int .i64 (fu lf sz n inn out ops seq st old).u,.int .i64 (fu lf sz n inn out ops seq st old).r,.int .i64 (fu lf sz n inn out ops seq st old).e,.int .i64 (fu lf sz n inn out ops seq st old).o]),.int .i64 (dV lf sz n inn out ops seq st old)]∧R'=[]∧H'=[]):=by
 refine co Tryz.func39 ?_;intro β;apply Y 0x2a;intro A3;apply Y 0x88;intro A4;apply Y 0x89e68a0e8d28;refine an (Da sz n lf inn out ops seq st OA QA HA oc qc hc hops hql hhl) ?_;apply Zu 0xe92d283c29<;>intro hc22
 ·have hvl:fM lf sz n inn out ops seq st=false:=oa0;apply Y 0xd81ff7e4a598c;intro hE;apply Y 0xc50f;intro hV;rw [hE,hV];exact Zm 0xd1e
 apply Zu 0x5d1d8dc58aa<;>intro hc29
 ·have hne:(old.length:Int)≠inn:=hc29;apply Y 0xc91f;intro hvl;apply Y 0xe81ff7e4a598c;intro hE;apply Y 0xc50f;intro hV;rw [hE,hV];exact Zm 0xd1e
 have hin:(old.length:Int)=inn:=hc29;apply Y 0xc91f;intro hvl;apply Y 0xcd0f;intro hE0 hlf0 hszb0;have hseq:=m3 hvl;apply Y 0x5ee;intro hszb;subst hlf0;obtain ⟨S,rfl⟩:∃ q:Nat,sz=(q:Int):=⟨sz.toNat,by omega⟩;obtain ⟨n,rfl⟩:∃ q:Nat,n=(q:Int):=⟨n.toNat,by omega⟩;rw [Int.toNat_natCast,Int.toNat_natCast] at hseq;apply Y 0x7ee;intro hS1 hS2 hn1 hn2 hi1 hi2;apply Y 0x6ce;intro hcl;apply Y 0x4c0f;intro hk64;apply Y 0xdd0f;intro k1 k2 k3 k4 k5 k6;apply Y 0x1be;intro hsl;apply Y 0x971f;intro hnl;have hol2:old.length≤65536:=oe;apply Y 0x5c0f;intro hsy;apply Y 0xf5edc48e8;refine an (xd BA old bc false inn out ops OA oc hops oe rfl hE0 hin.symm) ?_;rw [hsy];apply Y 0x89;intro NA nc;apply Y 0x192da168a0e8d2855db;refine lp [] [] (fun i:Nat=>[(0,.slice BA old.length bc),(3,ag A3 0),(4,ag A4 0),(7,.slice NA (a7 old (ah ops)).length nc),(11,.int .i64 (i:Int)),(9,.int .i64 (((ndT old (a7 old (ah ops)) S (seq.take i)):Nat):Int)),(10,.int .i64 (((ndG old (a7 old (ah ops)) S (seq.take i)):Nat):Int))]) (kz [_,_,_,_,_,_]) (kz [_]) (fun i=>i≤seq.length) (fun i=>seq.length-i) 0 (Nat.zero_le _) (lk [0,1,2,3,4,5] [0]) ?_;intro i hi;apply Zu 0x7836b484<;>intro
 ·apply Y 0xfb1f449;intro t hst htn htc;apply Y 0x6c0f;intro htS;apply Y 0xdfecfe2ded2e6f0f;refine mq 4 rfl (ae (k:=i) rfl rfl rfl rfl rfl rfl rfl oe (Src.r 4 rfl) ow) ?_;refine mq 5 rfl (Ev.cast (u:=.int .i64 (t:Int)) (Ev.load rfl rfl rfl (Src.r 4 rfl) (aJ oe)) (congrArg (Value.int .i64) hst)) ?_;refine mq 6 rfl (faR 1) ?_;refine mq 7 rfl (ldR 1) ?_;apply Y 0x75e;refine mq 10 rfl (faR 1) ?_;refine mq 11 rfl (ldR 1) ?_;apply Y 0xbfe;refine mq 13 rfl (ae (k:=i) rfl rfl rfl rfl rfl rfl rfl oe (Src.r 4 rfl) ow) ?_;refine mq 14 rfl (Ev.cast (u:=.int .i64 (t:Int)) (Ev.load rfl rfl rfl (Src.r 4 rfl) (aJ oe)) (congrArg (Value.int .i64) hst)) ?_;refine mq 15 rfl (faR 1) ?_;refine mq 16 rfl (ldR 1) ?_;apply Y 0xb4e;refine an (eU BA old bc t S oe oe oe hS1 hS2) ?_;apply Y 0x89;intro A53 c53;apply Y 0xc9db;refine LM.f 17 rfl oa trivial ?_;refine an (eU NA (a7 old (ah ops)) nc t S oe oe oe hS1 hS2) ?_;apply Y 0x89;intro A62 c62;apply Y 0x6b0e;refine LM.f 18 rfl oa trivial ?_;refine an (zY A53 A62 (ctF old t S) (ctF (a7 old (ah ops)) t S) c53 c62 S S (bU _ _ _) (bU _ _ _) (by rw [bU,bU]) (by rw [bU];omega)) ?_;apply Y 0x6b0e29;refine LM.f 19 rfl oa trivial ?_;apply Y 0x41b9c;have hrl:=zZ (ctF old t S) (ctF (a7 old (ah ops)) t S);apply Y 0xa50f;intro hcfl;apply Y 0x5b1f;intro hTi;apply Y 0xea1f;intro hGi;apply Y 0x3b19b3b;refine sp (Ev.cast (u:=.int .i64 (max (((ndG old (a7 old (ah ops)) S (seq.take i)):Nat):Int) ((Hw (ctF old t S) (ctF (a7 old (ah ops)) t S):Nat):Int))) (Ev.pure rfl) (congrArg (Value.int .i64) O0)) ?_;apply Y 0x7b1f3a90e;intro hsT;apply Y 0x1b1f;intro hsG;have hsR:ndR old (a7 old (ah ops)) S (seq.getD i 0)=Hw (ctF old t S) (ctF (a7 old (ah ops)) t S):=by rw [hst];rfl
  refine QE.round (i+1) oe oe (by exact lk [0,1,2,3,4,5] [2] ⟨rfl,rfl,rfl,rfl,rfl,(congrArg some (congrArg (Value.int .i64) oe)),(congrArg some (congrArg (Value.int .i64) oe)),trivial⟩)
 apply Y 0x4469;obtain rfl:i=seq.length:=oe;apply Zu 0x788ae4e<;>intro
 ·apply Y 0xc81ff7e4a598c;intro hE;apply Y 0x8b1f;intro hV;rw [hE,hV];exact Zm 0xd1e
 apply Y 0x6b1faa;intro hT;rw [List.take_length] at hT;apply Y 0xfa1f;intro hG;rw [List.take_length] at hG;apply Y 0x671f;intro hU;apply Y 0x6bc0e9b6b8a;refine sp (Ev.cast (u:=.int .i64 (((ndU (ndT old (a7 old (ah ops)) S seq) S):Nat):Int)) (Ev.quo rfl rfl oe oe oe) (congrArg (Value.int .i64) ON)) ?_;apply Y 0x571f28242f9bd4e39b58136b2136b21;intro hNN;have hW1:1≤ndW S:=obu;apply Y 0x2b1f;intro hCq;apply Y 0x471f28f32f442f581542fd72fc0e6b68;intro hCC;apply Y 0x3d4e6b3b;refine sp (Ev.cast (u:=.int .i64 (((2*S+(ndG old (a7 old (ah ops)) S seq)):Nat):Int)) (Ev.add rfl rfl oe oe) (congrArg (Value.int .i64) oe)) ?_;apply Y 0xb81ff7e5a59ca342fd4e39b39b9bd4e39bd4e3d4e3142f39b9bd4e39b5;intro hE;have hV:=jR hE;rw [Int.toNat_natCast] at hV;rw [hE,hV];exact Zm 0xd1e
end Go.Proofs.YtbpddeiogcgegaaGreat
namespace Go.Sl
theorem kB {P:Program}(w:World)(t tn ty e:TypeId)(i:TypeInfo)(z:Value)(k kn:IntKind)(ht:P.underlying t=some (.slice e))(htn:P.underlying tn=some (.int kn))(hi:P.info? e=some i)(hz:i.zero=some z)
    (q:Nat) (h0:0<q) (hs:0<i.size) (h63:((q:Nat):Int)≤9223372036854775807) (h48:q*i.bytes≤281474976710656) (hfit:Builtin.nextslicecap q 0*i.bytes≤281474976710656):
    (Builtin.append_ #[t,tn] ty #[.slice none 0 0,.int k q]).run P w=
      .ok (.slice (some ⟨w.heap.size,0,none⟩) q (grownCap w q 0 e))
        (w.drew.alloc (.cells (Builtin.zeroCells z.cells q++Builtin.zeroCells z.cells (grownCap w q 0 e-q)) e)):=by
 have hn:¬ (q≤0):=oe;have hw:IntKind.i64.wrap (q:Int)=q:=oac;have h63':¬ (9223372036854775807<(q:Int)):=oe;have h48':¬ (281474976710656<Builtin.nextslicecap q 0*i.bytes):=oe;have h48i:¬ (281474976710656<(q:Int)*(i.bytes:Int)):=by
  rw [← Int.natCast_mul]
  omega
 have hneg:¬ ((q:Int)<0):=oe;apply Y 0xf91f;intro hns;have hq0:¬ q=0:=oe
 simp [Builtin.append_,run_underlying ht,run_underlying htn,sizeOf,typeInfo,zeroValue,hi,hz,asInt,asIntOf,hw,hneg,hns,h63',h48',h48i,Question.forced,run_firstCells_none,newRow,grownCap,hq0]
section
variable {X:Cx}{β:Base}{n:Nat}{ds:List Deferred}{ops:Array Oper}{Q:Exit→Act→World→Prop}{rest:List Oper}{Γ:Env}{R H:List Pr}
theorem GM {d t tn e ty q:Nat}{pos:String}{af:Array Edge}{x y:Operand}{i ei it:Ti}{kn kq:IntKind}{z:Value}(ht:au t X.tab=some i)(hdesc:i.desc=.slice e)(he:au e X.tab=some ei)(hsz:ei.size=1)(hz:ei.zero=z)(hzc:z.cells=#[z])
    (htn:au tn X.tab=some it) (hit:it.desc=.int kn) (hx:ev Γ x=some (.slice none 0 0)) (hy:ev Γ y=some (.int kq (q:Int))) (hq:0<q)
    (hml:q≤9223372036854775807) (hb:q*ei.bytes≤140737488355328) (hd:Nat.blt d n=true)
    (k:∀ A' c',L X β n ds ops Q rest ((d,.slice A' q c')::Γ) R (H++[Own e 1 A' q c' (List.replicate q z)])):
    L X β n ds ops Q (⟨some d,.call ⟨.builtin .append,#[x,y],#[t,tn]⟩,ty,pos,af,none⟩::rest) Γ R H:=by
 intro a w hf hsat;refine wpList_plain rfl fun K hK=>?_
 obtain ⟨e1,_⟩:=X.ok _ _ ht;rw [hdesc] at e1;obtain ⟨e2,_⟩:=X.ok _ _ htn;rw [hit] at e2;obtain ⟨_,jf,hjf,g1,g2,g3⟩:=X.ok _ _ he;have hfit:Builtin.nextslicecap q 0*jf.bytes≤281474976710656:=by
  have h1:=nextslicecap_le (need:=q) (old:=0) oe;have h2:=Nat.mul_le_mul_right jf.bytes h1;rw [g2] at h2 ⊢;have h3:2*q*ei.bytes=2*(q*ei.bytes):=Nat.mul_assoc _ _ _
  omega
 have hqb:q*jf.bytes≤281474976710656:=by rw [g2];omega
 have hrun:=kB (P:=X.P) w t tn ty e jf ei.zero kq kn e1 e2 hjf g3 q hq (by rw [g1,hsz];decide) oe hqb hfit;have hrun':(execOp a.eval ⟨some d,.call ⟨.builtin .append,#[x,y],#[t,tn]⟩,ty,pos,af,none⟩).run X.P w=.ok (.value (.slice (some ⟨w.heap.size,0,none⟩) q (grownCap w q 0 e))) (w.drew.alloc (.cells (Builtin.zeroCells ei.zero.cells q++Builtin.zeroCells ei.zero.cells (grownCap w q 0 e-q)) e)):=by
  exact Zm 0xd00f
 apply Y 0x62e;rw [hrun'];have hge:=grownCap_ge w q 0 e;have hle:=grownCap_le_maxLen w q 0 e qX;apply Y 0x8a1f;intro hz1;refine hK _ _ (k (some ⟨w.heap.size,0,none⟩) _ _ _ (hf.put oP _) (hsat.snoc ((Stp.drew w _).trans (Stp.alloc _ _ _)) (fun _ h _=>h) _ ?_ ?_))
 ·refine ⟨by rw [List.length_replicate,Nat.mul_one],.inr ⟨w.heap.size,_,_,rfl,Nat.zero_le _,heap_alloc_new w.drew _,hge,hle,?_,?_⟩⟩
  ·rw [Array.size_append,hz1,hz1]
   omega
  rw [Array.toList_append,hz,gf hzc];have h1:(List.replicate q z).length=q*1:=by rw [List.length_replicate,Nat.mul_one]
  rw [← h1,List.take_left]
 intro k hk;have:=mw hk;subst this;exact Zm 0xdee
theorem Own.empty {w:World}{e m c:Nat}{A:Option Addr}{xs:List Value}(h:(Own e 1 A m c xs).p w):(Own e 1 A 0 c []).p w:=by
 refine ⟨rfl,?_⟩
 rcases h.2 with ⟨hv,h0⟩|⟨g,cap,cur,hv,hb,hh,h3,h4,h5,h6⟩
 ·injection hv with h7 h8 h9
  subst h7 h9
  exact .inl ⟨rfl,rfl⟩
 injection hv with h7 h8 h9
 subst h7 h9
 exact .inr ⟨g,c,cur,rfl,hb,hh,Nat.zero_le _,h4,h5,by simp⟩
theorem L.empty {e m c:Nat}{A:Option Addr}{xs:List Value}{H':List Pr}(h:L X β n ds ops Q rest Γ R (Own e 1 A 0 c []::H')):L X β n ds ops Q rest Γ R (Own e 1 A m c xs::H'):=
  fun a w hf hs=>h a w hf (hs.repl (fun h=>Own.empty h) (fun _ hk=>hk))
theorem CM {A B:Option Addr}{xs ys:List Value}(c d:Nat)(h1:Has R H (Rd A xs))(h2:Has R H (Rd B ys)):Has R H (KidsR [(A,c),(B,d)] [xs,ys]):=by
 have key:∀ (i:Nat) (h:Hd) (v:List Value),[(A,c),(B,d)][i]?=some h→[xs,ys][i]?=some v→Has R H (Rd h.1 v):=by
  intro i h v hh hv
  match i,hh,hv with
  |0,hh,hv=>
   obtain rfl:(A,c)=h:=obn;obtain rfl:xs=v:=obo
   exact h1
  |1,hh,hv=>
   obtain rfl:(B,d)=h:=obn;obtain rfl:ys=v:=obo
   exact h2
  |i+2,hh,hv=>simp at hh
 exact ⟨fun β w hs i h v hh hv=>(key i h v hh hv).1 β w hs,fun k ⟨i,h,v,hh,hv,hk⟩=>(key i h v hh hv).2 k hk⟩
theorem lW {t e m k:Nat}{x:Operand}{i ei:Ti}{A:Option Addr}{xs:List Value}(ht:au t X.tab=some i)(hd:i.desc=.array m e)(he:au e X.tab=some ei)(hx:ev Γ x=some (ag A k))(hs:Src R H A xs)(h0:k<xs.length):
    Ev X β Γ R H (.slice t x none none none) (.slice (A.map (·.add k)) m m):=by
 intro ρ w hρ hw o ho;apply Y 0x35e;intro e1;rw [hd] at e1;apply Y 0xb6e;intro hS;obtain ⟨a,rfl,_⟩:=hs β w hw k xs[k] (by simp [h0]);have hz:(a.add k).add 0=a.add k:=by simp [Addr.add]
 simp [execOp,ho,hρ _ _ hx,ag,Instr.sliceAt,Instr.sureAddr,Instr.sliceBounds,run_underlying e1,hS,hz]
theorem Has.at {A:Option Addr}{xs:List Value}(h:Has R H (Rd A xs))(k m:Nat):Has R H (Rd (A.map (·.add k)) ((xs.drop k).take m)):=by
 have h1:=h.sub (xs.length+k+1) k 1 m oe
 unfold bF at h1;rw [if_neg oe,Nat.mul_one] at h1
 exact h1
end
end Go.Sl
namespace Go.Proofs.YtbpddeiogcgegaaGreat
open Go.Sl
theorem sI (ls:List (List Int)){i:Nat}(h:i<ls.length):(ls.take (i+1)).flatten=(ls.take i).flatten++ls.getD i []:=by
 rw [aC ls [] i h,List.flatten_append]
 simp
theorem BF (ls:List (List Int))(i:Nat):(ls.take i).flatten.length≤ls.flatten.length:=by
 have:=congrArg List.length (congrArg List.flatten (List.take_append_drop i ls));rw [List.flatten_append,List.length_append] at this
 omega
theorem EI {st:List Int}{t:Int}(h:0≤fe st t):fe st t<(st.length:Int):=by
 have hm:t∈st:=Classical.byContradiction fun g=>by
  have:=ia.2 g
  omega
 obtain ⟨k,h1,h2,_⟩:=ib hm
 omega
theorem JD {data:List (List UInt8)}{fs:Int}{n t:Nat}{st lst:List Int}(_hsl:st.length≤lst.length)(hs1:∀ t,t<n→gx data fs (t:Int)=true)(hs2:∀ i,i<st.length→gx data fs (lst.getD i 0)=true)(ht:t<n):gx data fs (C1 st lst st.length t)=true:=by
 rw [vm]
 split
 ·rename_i h;have:=EI h
  exact hs2 _ oe
 exact hs1 t ht
theorem Il (m:Nat)(hm:m≤1000000):
    Ctr X 103 [.slice none 0 0,.int .i64 (m:Int)] [] [] (fun v R' H'=>∃ (A:Option Addr) (c:Nat),v=.slice A 0 c∧R'=[]∧H'=[Own 3 1 A 0 c []]):=by
 refine co Tryz.func103 ?_;intro β;apply Zu 0x7848da<;>intro
 ·omega
 apply Zu 0x78481842fc0e5d30f58aa<;>intro
 ·apply Y 0x3e72fd30f3b;refine GM rfl rfl rfl rfl rfl rfl rfl rfl rfl rfl oe oe oV rfl (fun A22 c22=>?_);apply Y 0xf72f5;refine L.empty ?_;apply Y 0x20e7c1;exact ⟨A22,c22,rfl,rfl,rfl⟩
 apply Y 0x7ce8;refine QE.nil_own 3 1 ?_;exact Zm 0x43e20e
theorem wP (LA:Option Addr)(ls:List (List Int))(lc:Nat)(hs:List Hd)(hh:hs.length=ls.length)(hll:ls.length≤9223372036854775807)(_hlr:∀ i,(ls.getD i []).length≤9223372036854775807)(hsum:ls.flatten.length≤1000000):
    Ctr X 59 [.slice LA ls.length lc] [Rd LA (aB hs (J8 ls)),KidsR hs (J8 ls)] [] (fun v R' H'=>∃ (A:Option Addr) (c:Nat),v=.slice A ls.flatten.length c∧R'=[]∧H'=[Own 3 1 A ls.flatten.length c (I64 ls.flatten)]):=by
 refine co Tryz.func59 ?_;intro β;apply Y 0x1958da12;refine lp [] [] (fun i:Nat=>[(0,.slice LA ls.length lc),(9,.slice LA ls.length lc),(10,.int .i64 (ls.length:Int)),(11,.int .i64 (i:Int)),(3,.int .i64 (((ls.take i).flatten.length:Nat):Int))]) (kz [_,_]) nz (fun i=>i≤ls.length) (fun i=>ls.length-i) 0 (Nat.zero_le _) (lk [0,1] []) ?_;intro i hi;apply Zu 0x1cda<;>intro
 ·apply Y 0x28100f452f249;have hf1:=sI ls (i:=i) oe;apply Y 0x950f;intro hf2;rw [List.length_append] at hf2;have hf3:=BF ls (i+1);apply Zu 0x784819bc868<;>intro
  ·omega
  exact Zm 0xe12f6dd9
 apply Y 0x469;obtain rfl:i=ls.length:=oe;apply Y 0x8ae4e;refine an (Il ls.flatten.length hsum) ?_;apply Y 0x89;intro GA gc;apply Y 0x1958283c;refine lp [] [] (fun q:Nat×Option Addr×Nat=>[(25,.slice LA ls.length lc),(26,.int .i64 (ls.length:Int)),(27,.int .i64 (q.1:Int)),(6,.slice q.2.1 (ls.take q.1).flatten.length q.2.2)]) (kz [_,_]) (fun q=>[Own 3 1 q.2.1 (ls.take q.1).flatten.length q.2.2 (I64 (ls.take q.1).flatten)]) (fun q=>q.1≤ls.length) (fun q=>ls.length-q.1) (0,GA,gc) (Nat.zero_le _) (lk [0,1] [0]) ?_;apply Y 0xb1e;intro i A c hi
 dsimp only at hi ⊢;apply Zu 0x1cda<;>intro
 ·apply Y 0x1100f452f249;have hf1:=sI ls (i:=i) oe;apply Y 0x950f;intro hf2;rw [List.length_append] at hf2;have hf3:=BF ls (i+1);apply Y 0x3b;refine L.append (j:=0) rfl rfl rfl rfl ob rfl rfl rfl rfl (Src.cast (Src.kid 1 rfl qg i qM) (dT _)) ((bq _).trans (Nat.mul_one _).symm) (dk _) oe oV rfl (fun A33 cc33=>?_);apply Y 0x6d90e;refine QE.round (i:=(i,A,c)) ((i+1,A33,cc33)) ou ou (by exact lk [0,1] [0] ⟨rfl,rfl,rfl,(by dsimp only;rw [hf2];rfl),trivial⟩ (hh:=⟨(congrArg some (ay hf2.symm (by dsimp only;rw [hf1,← cS]))),trivial⟩))
 apply Y 0x20e7c69;obtain rfl:i=ls.length:=oe;exact Zm 0xd6ee4e
theorem Jm {a b:List Int}{m:Nat}(ha:a.length≤m)(hb:b.length≤m):∀ i,([a,b].getD i []).length≤m
  |0=>ha
  |1=>hb
  |_+2=>Nat.zero_le _
theorem Dd {A B:Option Addr}{a b:List Int}{n m c d:Nat}(ha:a.length=n)(hb:b.length=m):[Value.slice A n c,.slice B m d]=aB [(A,c),(B,d)] (J8 [a,b]):=by
 subst ha hb
 simp [aB,J8,bq]
theorem rZ {n m:Nat}{lst:List Int}:[NI (List.range n),lst.take m].flatten=eu n lst m:=by simp [eu]
theorem Do {chg:List Nat}{st:List Int}{n:Nat}(hn:st.Nodup)(hm:∀ i,i<st.length→∃ t:Nat,st.getD i 0=(t:Int)∧t∈chg)(hc:chg.length≤n):st.length≤n:=by
 refine Nat.le_trans (Nat.le_of_not_lt fun h=>?_) hc;have hsub:∀ x∈st,x∈NI chg:=fun x hx=>by
  obtain ⟨i,hi,rfl⟩:=List.getElem_of_mem hx;obtain ⟨t,h1,h2⟩:=hm i hi;rw [List.getD_eq_getElem?_getD,List.getElem?_eq_getElem hi] at h1
  exact List.mem_map.2 ⟨t,h2,by simpa using h1.symm⟩
 have hp:=nI hn hsub obW;have:=hp.length_eq;rw [bb] at this
 omega
theorem HW {data:List (List UInt8)}{S n i:Nat}{st lst:List Int}(h:(S:Int)=(S:Int)∧(n:Int)=(n:Int)∧st.length≤lst.length∧(∀ t,t<n→gx data (S:Int) (t:Int)=true)∧∀ i,i<st.length→gx data (S:Int) (lst.getD i 0)=true)(hx:gx data (S:Int) ((eu n lst st.length).getD i 0)=false)(hi:i<n+st.length):False:=by
 rcases Nat.lt_or_ge i n with g|g
 ·rw [AR g,h.2.2.2.1 i g] at hx
  cases hx
 have:=AS (n:=n) (m:=st.length) (i:=i-n) (lst:=lst) oe;rw [show n+(i-n)=i by omega] at this;rw [this,h.2.2.2.2 _ oe] at hx
 cases hx
theorem IN (B:Option Addr)(old:List UInt8)(bc ol:Nat)(hol:old.length=ol)(lf:Bool)(inn out:Int)(ops:List Po)(OA:Option Addr)(oc:Nat)(hops:ops.length≤9223372036854775807)(hlf:lf=false)(hE:cU inn out ops=0)(hin:inn=(old.length:Int)):
    Ctr X 225 [.slice B ol bc,.agg (List.toArray [.bool lf,.int .i64 inn,.int .i64 out,.slice OA ops.length oc])] [Rd B (U8 old),Rd OA (cv ops)] [] (fun v R' H'=>∃ (A:Option Addr) (c:Nat),v=.tuple #[.slice A (a7 old (syS inn out ops)).length c,.int .i64 0]∧R'=[]∧H'=[Own 5 1 A (a7 old (syS inn out ops)).length c (U8 (a7 old (syS inn out ops)))]):=by
 subst hol
 exact Cw B old bc lf inn out ops OA oc hops hlf hE hin
theorem B0 (fs:Int)(data:List (List UInt8))(dhs:List Hd)(hdh:dhs.length=data.length)(DA:Option Addr)(dc:Nat)(wv lv ev:Value)(ls:Int)(lst:List Int)(LA:Option Addr)(lc:Nat)(j0 j1 s0 s1 gv uv:Value)(sz n:Int)(lf:Bool)(inn out:Int)(ops:List Po)(seq st:List Int)(OA QA HA:Option Addr)(oc qc hc:Nat)(hops:ops.length≤9223372036854775807)(hql:seq.length≤1000000)(hhl:st.length≤1000000)(k:Int)(hll:lst.length≤9223372036854775807)(hdl:data.length≤9223372036854775807)(_hdr:∀ i,(data.getD i []).length≤9223372036854775807)(hlc:lst.length≤lc):
    Ctr X 187 [.agg (List.toArray [.int .i64 fs,.slice DA data.length dc,wv,lv,ev]),.agg (List.toArray [.int .i64 ls,j0,j1,s0,s1,gv,uv,.slice LA lst.length lc]),.agg (List.toArray [.int .i64 sz,.int .i64 n,.bool lf,.int .i64 inn,.int .i64 out,.slice OA ops.length oc,.slice QA seq.length qc,.slice HA st.length hc]),.int .i64 k] [Rd DA (aB dhs (B8 data)),KidsR dhs (B8 data),Rd LA (I64 lst),Rd OA (cv ops),Rd QA (I64 seq),Rd HA (I64 st)] [] (fun v R' H'=>∃ (A:Option Addr) (c:Nat),v=.tuple #[.slice A (cntV lf sz n inn out ops seq st data fs ls lst k).length c,.int .i64 (cntE lf sz n inn out ops seq st data fs ls lst k)]∧R'=[]∧H'=[Own 5 1 A (cntV lf sz n inn out ops seq st data fs ls lst k).length c (U8 (cntV lf sz n inn out ops seq st data fs ls lst k))]):=by
 refine co Tryz.func187 ?_;intro β;apply Y 0x2a;intro A4;apply Y 0xdd;intro A5;apply Y 0xdd;intro A6;apply Zu 0xe91329622f89efba0e8d32ec3e453e283<;>intro hc21
 ·have hvl:fM lf sz n inn out ops seq st=false:=oaf;apply Y 0x34eb3e10e7c;have hE:cntE lf sz n inn out ops seq st data fs ls lst k=_:=GC hvl;apply Y 0xdc0f;intro hV;rw [hE,hV];exact Zm 0x43e
 apply Zu 0x401f6c<;>intro
 ·apply Y 0x13fa;refine C.cond rfl (fun _=>?_) (fun h=>by cases h);apply Y 0x34eb3e10e7c;have hE:cntE lf sz n inn out ops seq st data fs ls lst k=_:=GB oaf (.inl oe);apply Y 0xdc0f;intro hV;rw [hE,hV];exact Zm 0x43e
 apply Zu 0x785b842eb8<;>intro
 ·apply Y 0x34eb3e10e7c;have hE:cntE lf sz n inn out ops seq st data fs ls lst k=_:=GB oaf (.inr oe);apply Y 0xdc0f;intro hV;rw [hE,hV];exact Zm 0x43e
 have hvl:fM lf sz n inn out ops seq st=true:=oaf;obtain ⟨kk,rfl⟩:∃ q:Nat,k=(q:Int):=⟨k.toNat,by omega⟩;apply Y 0xcd0f;intro hE0 hlf0 hszb0;have hseq:=m3 hvl;apply Y 0x5ee;intro hszb;subst hlf0;obtain ⟨S,rfl⟩:∃ q:Nat,sz=(q:Int):=⟨sz.toNat,by omega⟩;obtain ⟨n,rfl⟩:∃ q:Nat,n=(q:Int):=⟨n.toNat,by omega⟩;rw [Int.toNat_natCast,Int.toNat_natCast] at hseq;apply Y 0x7ee;intro hS1 hS2 hn1 hn2 hi1 hi2;apply Y 0x6ce;intro hcl;apply Y 0x4c0f;intro hk64;apply Y 0xdd0f;intro k1 k2 k3 k4 k5 k6;apply Y 0x1be;intro hsl;apply Y 0x5c0f;intro hsy;obtain ⟨m,rfl⟩:∃ q:Nat,inn=(q:Int):=⟨inn.toNat,by omega⟩;obtain ⟨-,-,-,hsrt,hstb,-⟩:=fm.1 hvl;rw [Int.toNat_natCast,Int.toNat_natCast] at hsrt hstb;obtain ⟨hstn,hstm⟩:=yZ hstb;rw [← Int.natCast_mul,Nat.mul_comm] at hi1;apply Y 0x5d8a9e36e2;refine L.bool 41 rfl (imp tf ?_) (imp tg ?_)<;>intro hg41
 ·apply Y 0x132b9dfa;refine C.cond rfl (fun _=>?_) (fun h=>by cases h);apply Y 0x34eb3e10e7c;have hE:cntE false (S:Int) (n:Int) (m:Int) out ops seq st data fs ls lst (kk:Int)=_:=wQ hvl oe (by rw [Int.toNat_natCast];exact wF (fun h=>hg41 h.1));apply Y 0xcc0f;intro hV;rw [hE,hV];exact Zm 0x43e
 apply Y 0xc87cb12e7d0e7;refine L.bool 48 rfl (imp tf ?_) (imp tg ?_)<;>intro hg48
 ·apply Y 0x132ba8;refine C.cond rfl (fun _=>?_) (fun h=>by cases h);apply Y 0x34eb3e10e7c;have hE:cntE false (S:Int) (n:Int) (m:Int) out ops seq st data fs ls lst (kk:Int)=_:=wQ hvl oe (by rw [Int.toNat_natCast];exact wF (fun h=>hg48 h.2.1));apply Y 0xcc0f;intro hV;rw [hE,hV];exact Zm 0x43e
 apply Zu 0x785b842eb812e7d0e7<;>intro
 ·apply Y 0x34eb3e10e7c;have hE:cntE false (S:Int) (n:Int) (m:Int) out ops seq st data fs ls lst (kk:Int)=_:=wQ hvl oe (by rw [Int.toNat_natCast];exact wF (fun h=>by omega));apply Y 0xcc0f;intro hV;rw [hE,hV];exact Zm 0x43e
 have hfs0:fs=(S:Int):=hg41;have hls0:ls=(n:Int):=hg48;subst hfs0 hls0;obtain ⟨t,hst,htn,htc⟩:=hseq.2 kk oe;apply Y 0x6c0f;intro htS;have hnl2:(a7 (inL data st lst S m) (ah ops)).length=(ah ops).length:=dX _ _;have hml:=v7 (n:=n) (m:=st.length) (lst:=lst) oe;apply Y 0x310f;intro hnS;have hst64:=Do hstn hstm (fX (ah ops) (m:Int) S n);apply Y 0xd8273ed9;refine mU (m:=n) rfl rfl rfl rfl rfl rfl rfl rfl rfl (by show 8*_≤_;omega) oe rfl (fun A59=>?_);apply Y 0x195828;refine lp [] [] (fun i:Nat=>[(3,.int .i64 (kk:Int)),(4,ag A4 0),(5,ag A5 0),(6,ag A6 0),(10,.slice A59 n n),(61,.int .i64 (n:Int)),(62,.int .i64 (i:Int))]) (kz [_,_,_,_,_,_,_,_,_]) (fun i=>[Own 3 1 A59 n n (I64 (ym n i))]) (fun i=>i≤n) (fun i=>n-i) 0 (Nat.zero_le _) (by exact lk [0,1,2,3,4,5,6,7,8] [0] (hh:=⟨(congrArg some (ay rfl (by rw [zK];show List.replicate n (Value.int .i64 0)=_;simp [I64]))),trivial⟩)) ?_;intro i hi;apply Zu 0x1cda<;>intro
 ·apply Y 0xc8682d49;refine sp (ae (k:=i) rfl rfl rfl rfl rfl rfl rfl oe (Src.o 0 rfl) (by rw [bq,eJ];omega)) ?_;refine L.store (j:=0) rfl rfl rfl rfl rfl rfl rfl (by exact aJ (by rw [eJ];omega)) ?_;apply Y 0x6d50e;refine QE.round (i+1) oe oe (by exact lk [0,1,2,3,4,5,6,7,8] [0] (hh:=⟨(congrArg some (ay rfl (by rw [jh,DT oe]))),trivial⟩))
 apply Y 0x4469;obtain rfl:n=i:=oe;rw [DU];apply Y 0x3d86b8a;refine sp (br (h:=st.length) rfl rfl rfl rfl rfl rfl oe) ?_;apply Y 0x7a;intro A77;refine L.call (js:=[]) (js':=[0,1]) (wP A77 [NI (List.range n),lst.take st.length] 2 [(A59,n),(LA,lc)] rfl (show 2≤_ by omega) (Jm (by rw [bb,List.length_range];omega) Oq) (by rw [rZ,v7 oe];omega)) rfl rfl rfl ob ⟨((Has.o 1 rfl).cast (Dd Q3 Oq)),(CM n lc (Has.o 0 rfl) ((Has.take (Has.r 5 rfl) st.length).cast (pE _ _))),trivial⟩ rfl ?_;rw [rZ];apply Y 0x89;intro CA cc;apply Y 0x32ec3e193b0e;refine lp [] [] (fun i:Nat=>[(3,.int .i64 (kk:Int)),(4,ag A4 0),(5,ag A5 0),(6,ag A6 0),(10,.slice A59 n n),(78,.slice CA (eu n lst st.length).length cc),(79,.int .i64 ((eu n lst st.length).length:Int)),(80,.int .i64 (i:Int))]) (kz [_,_,_,_,_,_,_,_,_,_]) (kz [_]) (fun i=>i≤(eu n lst st.length).length∧∀ k:Nat,k<i→gx data (S:Int) ((eu n lst st.length).getD k 0)=true) (fun i=>(eu n lst st.length).length-i) 0 ⟨Nat.zero_le _,bA⟩ (lk [0,1,2,3,4,5,6,7,8,9] [0]) ?_;apply Y 0xf0e;intro i hi hall;apply Zu 0x1cda<;>intro
 ·apply Y 0xa9b93d28ffe831f249;refine LQ.bool 86 rfl (imp of_decide_eq_true ?_) (imp of_decide_eq_false ?_)<;>intro
  ·have hx:gx data (S:Int) ((eu n lst st.length).getD i 0)=false:=DF oe;apply Y 0x9aa9f3e8b8bb9f3e8b;refine C.cond rfl (fun _=>?_) (fun h=>by cases h);apply Y 0xeb0fb30fb3e10eab7c;intro hE;apply Y 0xbc0f;intro hV;rw [hE,hV];exact Zm 0x43e
  apply Zu 0xd02fa9b9181dade189de181d<;>intro
  ·have hx:gx data (S:Int) ((eu n lst st.length).getD i 0)=false:=DE oe;apply Y 0x9aa9f3e8b8b;refine C.cond rfl (fun _=>?_) (fun h=>by cases h);apply Y 0xeb0fb30fb3e10eab7c;intro hE;apply Y 0xbc0f;intro hV;rw [hE,hV];exact Zm 0x43e
  apply Y 0x181dade189de18;refine sq (ae (k:=((eu n lst st.length).getD i 0).toNat) rfl rfl rfl rfl rfl rfl oe oe (Src.r 4 rfl) oab) ?_;apply Y 0x18;refine sq (Ev.load rfl rfl rfl (Src.r 4 rfl) (bm hdh oe)) ?_;apply Zu 0x5d9ab918ade189de181d<;>intro hc103
  ·have hx:gx data (S:Int) ((eu n lst st.length).getD i 0)=false:=DD hc103;apply Y 0xeb0fb30fb3e10eab7c;intro hE;apply Y 0xbc0f;intro hV;rw [hE,hV];exact Zm 0x43e
  have hx:gx data (S:Int) ((eu n lst st.length).getD i 0)=true:=np oe oe hc103;apply Y 0x6dd9;refine QE.round (i+1) (by exact ⟨by omega,bK (p:=fun k=>gx data (S:Int) ((eu n lst st.length).getD k 0)=true) hall hx⟩) oe (lk [0,1,2,3,4,5,6,7,8,9] [0])
 apply Y 0x4469;have hs1:∀ t,t<n→gx data (S:Int) (t:Int)=true:=fun t ht=>by
  have:=hall t oe
  rwa [AR ht] at this
 have hs2:∀ i,i<st.length→gx data (S:Int) (lst.getD i 0)=true:=fun q hq=>by
  have:=hall (n+q) oe
  rwa [AS hq] at this
 have hfit:ER data (S:Int) (n:Int) (S:Int) n st lst=true:=uy.2 ⟨rfl,rfl,by omega,hs1,hs2⟩;rw [← zw (st:=st) (lst:=lst)];apply Y 0x1936b68;refine lp [] [] (fun i:Nat=>[(3,.int .i64 (kk:Int)),(4,ag A4 0),(5,ag A5 0),(6,ag A6 0),(10,.slice A59 n n),(106,.slice HA st.length hc),(107,.int .i64 (st.length:Int)),(108,.int .i64 (i:Int))]) (kz [_,_,_,_,_,_,_,_,_]) (fun i=>[Own 3 1 A59 n n (I64 (l6 st lst n i))]) (fun i=>i≤st.length) (fun i=>st.length-i) 0 (Nat.zero_le _) (lk [1,2,3,4,5,6,7,8,9] [0]) ?_;intro i hi;apply Zu 0x1cda<;>intro
 ·apply Y 0x449;obtain ⟨u,hsu,hum⟩:=hstm i oe;have hun:=(cL.1 hum).1;apply Y 0x8a;refine sp (ae (k:=i) rfl rfl rfl rfl rfl rfl rfl oe (Src.r 8 rfl) ow) ?_;refine sp (Ev.cast (u:=.int .i64 (u:Int)) (Ev.load rfl rfl rfl (Src.r 8 rfl) (aJ oe)) (congrArg (Value.int .i64) hsu)) ?_;apply Y 0x36b3b13;refine sp (ae (k:=i) rfl rfl rfl rfl rfl rfl rfl oe (Src.r 5 rfl) ow) ?_;refine sp (Ev.load rfl rfl rfl (Src.r 5 rfl) (aJ oe)) ?_;refine sp (ae (k:=u) rfl rfl rfl rfl rfl rfl rfl oe (Src.o 0 rfl) (by rw [bq,cC];omega)) ?_;refine L.store (j:=0) rfl rfl rfl rfl rfl rfl rfl (by exact aJ oa2) ?_;apply Y 0x6d50e;refine QE.round (i+1) oe oe (by exact lk [0,1,2,3,4,5,6,7,8] [0] (hh:=⟨(congrArg some (ay rfl (by rw [jh,zx hstn oe hsu]))),trivial⟩))
 apply Y 0x469;obtain rfl:i=st.length:=oe;have hsok:∀ q,q<n→gx data (S:Int) ((l6 st lst n st.length).getD q 0)=true:=fun q hq=>by
  rw [fN hq]
  exact JD oe hs1 hs2 hq
 have hlen:∀ q,q<(l6 st lst n st.length).length→(data.getD ((l6 st lst n st.length).getD q 0).toNat []).length=S:=fun q hq=>by
  rw [cC] at hq;have:=vo.1 (hsok q hq)
  omega
 apply Y 0x19582868;refine jt 5 1 ?_;refine lp [] [] (fun q:Nat×Option Addr×Nat=>[(3,.int .i64 (kk:Int)),(4,ag A4 0),(5,ag A5 0),(6,ag A6 0),(10,.slice A59 n n),(122,.slice A59 n n),(123,.int .i64 (n:Int)),(124,.int .i64 (q.1:Int)),(16,.slice q.2.1 (yp data (l6 st lst n st.length) q.1).length q.2.2)]) (kz [_,_,_,_,_,_,_,_,_]) (fun q=>[Own 3 1 A59 n n (I64 (l6 st lst n st.length)),Own 5 1 q.2.1 (yp data (l6 st lst n st.length) q.1).length q.2.2 (U8 (yp data (l6 st lst n st.length) q.1))]) (fun q=>q.1≤n) (fun q=>n-q.1) (0,none,0) (Nat.zero_le _) (lk [0,1,2,3,4,5,6,7,8] [0,1]) ?_;apply Y 0xb1e;intro i A c hi
 dsimp only at hi ⊢;apply Zu 0x1cda<;>intro
 ·apply Y 0x249;refine sp (ae (k:=i) rfl rfl rfl rfl rfl rfl rfl oe (Src.o 0 rfl) (by rw [bq,cC];omega)) ?_;refine sp (Ev.load rfl rfl rfl (Src.o 0 rfl) (aJ oa2)) ?_;apply Y 0x1;have hso:=vo.1 (hsok i oe);have hci:=lC (data:=data) (secs:=(l6 st lst n st.length)) (k:=i) oa2;have hcj:=congrArg List.length hci;rw [List.length_append] at hcj;have hck:=fY hlen i oa2;have hiS:i*S≤n*S:=Nat.mul_le_mul_right S oe;apply Y 0x3a9e36e8a;refine sp (ae (k:=((l6 st lst n st.length).getD i 0).toNat) rfl rfl rfl rfl rfl rfl oe oe (Src.r 3 rfl) oab) ?_;refine sp (Ev.load rfl rfl rfl (Src.r 3 rfl) (bm hdh oe)) ?_;refine L.append (j:=1) rfl rfl rfl rfl ob rfl rfl rfl rfl (Src.cast (Src.kid 4 rfl obB ((l6 st lst n st.length).getD i 0).toNat OG) (bB _)) ((aH _).trans (Nat.mul_one _).symm) (b4 _) oe oM rfl (fun A134 cc134=>?_);apply Y 0x6d90e;refine QE.round (i:=(i,A,c)) ((i+1,A134,cc134)) ou ou (by exact lk [0,1,2,3,4,5,6,7,8] [0,1] ⟨rfl,rfl,rfl,rfl,rfl,rfl,rfl,rfl,(by dsimp only;rw [hcj];rfl),trivial⟩ (hh:=⟨rfl,(congrArg some (ay hcj.symm (by dsimp only;rw [hci,← cy]))),trivial⟩))
 apply Y 0x469;obtain rfl:n=i:=oe;refine C.cap 1 rfl (fun hcp=>?_);have hcl2:=fY hlen n oao;have hcat:=Km (data:=data) (st:=st) (lst:=lst) (n:=n) (S:=S) (m:=m) hS1 (fun q hq=>by have:=hlen q (by rw [cC];exact hq);rwa [fN hq] at this) oe;apply Y 0x530f330fd2e270f;refine mq 3 rfl (ldR 0) ?_;refine mq 4 rfl (br (h:=m) rfl rfl rfl rfl rfl rfl oe) ?_;refine mq 5 rfl (faR 0) ?_;refine mq 6 rfl (ab (vs:=[.bool false,.int .i64 (m:Int),.int .i64 out,.slice OA ops.length oc]) rfl rfl rfl (Src.r 0 rfl) rfl rfl ob) ?_;apply Y 0xd3e;refine L.call (js:=[]) (js':=[0,1]) (IN A (inL data st lst S m) c m (uj _ _ _ _ _) false (m:Int) out ops OA oc hops rfl hE0 (by rw [uj])) rfl rfl rfl ob ⟨((Has.take (Has.o 1 rfl) m).cast (by rw [cj,hcat])),(Has.r 6 rfl),trivial⟩ rfl ?_;rw [hsy];apply Y 0x89;intro NA nc;apply Y 0xc9b0e;refine LM.q 8 rfl oa (Ev.pure rfl) rfl trivial ?_;refine LM.q 9 rfl oa (Ev.pure rfl) rfl trivial ?_;refine LM.q 10 rfl oa (Ev.pure rfl) rfl trivial ?_;apply Y 0xc8e41b9c27e6317e;intro hnc;apply Y 0x330fd2e270f;refine mq 2 rfl (ldR 0) ?_;apply Y 0xdfe;refine mq 4 rfl (ae (k:=kk) rfl rfl rfl rfl rfl rfl rfl oe (Src.r 7 rfl) ow) ?_;refine mq 5 rfl (Ev.cast (u:=.int .i64 (t:Int)) (Ev.load rfl rfl rfl (Src.r 7 rfl) (aJ oe)) (congrArg (Value.int .i64) hst)) ?_;refine mfo 6 ?_;apply Y 0x19ec9a3ed3e6dc;refine an (iX NA (a7 (inL data st lst S m) (ah ops)) nc t S oe oe oe hS1 hS2 hnc) ?_;apply Y 0x21e;intro YA;apply Y 0x34e23e1b9c48e637be6aae;have hE:cntE false (S:Int) (n:Int) (m:Int) out ops seq st data (S:Int) (n:Int) lst (kk:Int)=0:=GD hvl oe (by rw [Int.toNat_natCast];exact hfit);have hV:=n7 hE;have hL:Gz (S:Int) (m:Int) ops seq st data lst (kk:Int)=ctF (a7 (inL data st lst S m) (ah ops)) t S:=by unfold Gz;rw [Int.toNat_natCast,Int.toNat_natCast,Int.toNat_natCast,hst];rfl
 have hLl:=bU (a7 (inL data st lst S m) (ah ops)) t S;rw [hE,hV,hL,hLl];exact ⟨YA,S,rfl,rfl,rfl⟩
theorem kf (f:Fl)(a:Fa)(ok:f.Ok)(hh:a.hs.length=f.data.length)(sec:Int)(want:List UInt8)(W:Option Addr)(m wc:Nat)(hm:want.length=m)(hwl:m≤1000000):
    Ctr X 115 [flV f a,.int .i64 sec,.slice W m wc] (flR f a++[Rd W (U8 want)]) [] (fun v R' H'=>∃ A c,v=.tuple #[.agg (List.toArray [.int .i64 (aM f sec want).x.kind,.int .i64 (aM f sec want).x.sec,.int .i64 (aM f sec want).x.at_,.slice A (aM f sec want).x.data.length c]),.bool (aM f sec want).done,.int .i64 (aM f sec want).e]∧R'=[Rd A (U8 (aM f sec want).x.data)]∧H'=[]):=by
 subst hm
 exact Jn f a ok hh sec want W wc hwl
theorem Dg (f:Fl)(a:Fa)(ok:f.Ok)(hh:a.hs.length=f.data.length)(sec:Int)(want:List UInt8)(W:Option Addr)(m wc:Nat)(hm:want.length=m)(hwl:m≤1000000):
    Ctr X 95 [flV f a,.int .i64 sec,.slice W m wc] (flR f a++[Rd W (U8 want)]) [] (fun v R' H'=>∃ A c,v=.agg (List.toArray [.int .i64 (aM f sec want).x.kind,.int .i64 (aM f sec want).x.sec,.int .i64 (aM f sec want).x.at_,.slice A (aM f sec want).x.data.length c,.bool (aM f sec want).done,.int .i64 (aM f sec want).e])∧R'=[Rd A (U8 (aM f sec want).x.data)]∧H'=[]):=by
 subst hm
 exact GU f a ok hh sec want W wc hwl
theorem HO (f:Fl)(a:Fa)(ok:f.Ok)(hh:a.hs.length=f.data.length)(y:Ly)(hcap:Caps f a)(s:List Int)(hs:s.length=9):
    Ctr X 66 [flV f a,.agg (List.toArray [.int .i64 y.n,.int .i64 y.a,.int .i64 y.b,.int .i64 y.s0,.int .i64 y.s1,.slice y.T y.tn y.tc,.slice y.U y.un y.uc,.slice y.V y.vn y.vc]),.agg (List.toArray (st9 s))] (flR f a) [] (fun v R' H'=>∃ O oc,v=.tuple #[.agg (List.toArray [.int .i64 (aO f y.a y.b s).x.kind,.int .i64 (aO f y.a y.b s).x.sec,.int .i64 (aO f y.a y.b s).x.at_,.slice O (aO f y.a y.b s).x.data.length oc]),.bool (aO f y.a y.b s).done,.int .i64 (aO f y.a y.b s).e]∧R'=[Rd O (U8 (aO f y.a y.b s).x.data)]∧H'=[]):=by
 apply Y 0xc2e;intro hok;obtain ⟨os1,os2,on1,on2,owl,odl,orows,ol1,ol2,owear⟩:=ok;refine co Tryz.func66 ?_;intro β;apply Y 0x2a;intro A3;apply Y 0xdd;intro A4;apply Y 0xdd;intro A5;apply Y 0x88;intro A6;apply Y 0x16e5a0f68a0e8d32ec3eb7e59e283;refine an (BL f a hok hh y hcap) ?_;apply Y 0x88c83c29;intro A9;apply Y 0x16e68a0e14e28eb;refine an (G6 s hs) ?_;rintro _ _ _ ⟨SO,sc,rfl,hsome,rfl,rfl⟩;apply Y 0x6c53e28db;refine L.bool 25 rfl ?_ ?_<;>intro hg25
 ·have hno:(aY f y.a y.b).found=false:=obi;apply Y 0x13bc;refine C.cond rfl (fun _=>?_) (fun h=>by cases h);apply Zu 0x13e131f80e10ebbeb8c
  ·rw [nR (.inl hno)]
   rfl
  rw [nR (.inl hno)]
  rfl
 have hyes:(aY f y.a y.b).found=true:=obi;have hfd:=BN hyes;rw [← c7 hyes] at hfd;have hg:=hfd.gen;have hft:=fT hfd.fits;have hso:=hfd.oth;have hfr:=hfd.free;have hpl:=An hok;have hlp:=Ke hyes;have hrow:=orows (aL f y.a y.b).oth.toNat oe;have hcp:=hcap (aL f y.a y.b).oth.toNat oe;apply Zu 0xe913e30fb8<;>intro hc22
 ·have hno:aN s=false:=by rw [← hsome];cases SO with|none=>rfl|some _=>cases hc22
  apply Zu 0x13e131f80e10ebbeb8c
  ·rw [nR (.inr hno)]
   rfl
  rw [nR (.inr hno)]
  rfl
 have hright:aN s=true:=by rw [← hsome];cases SO with|none=>cases hc22|some _=>rfl
 apply Y 0xd71f;intro hfit;have hwl:(al f.size ((aL f y.a y.b).gen+1) (ak s)).length=f.size:=cf hfit;have hw0:(al f.size 0 (ak s)).length=f.size:=cf hfit;apply Y 0x16ee2edc2;refine sp (I6 (xs:=(aL f y.a y.b).s) rfl rfl oa oa rfl rfl rfl rfl (BK ..) hs) ?_;apply Zu 0xfe0f1<;>intro hc30
 ·apply Zu 0x13e131f80e10ebbeb8c
  ·apply Y 0xe82f
   rfl
  apply Y 0xe82f
  rfl
 have hne:=ne_of_beq_false hc30;apply Zu 0x783d8d82<;>intro
 ·have hlt:(aL f y.a y.b).free<bC f:=oe;apply Y 0x68a0e8d4;refine sp (ab rfl rfl rfl (Src.r 4 rfl) rfl rfl ob) ?_;apply Y 0x39bd4e6b6b;refine a8 (Aj f a hok hh (aL f y.a y.b).sec (8+30*((aL f y.a y.b).free:Int)) (ak s) SO sc hfd.sec) ?_;apply Y 0x89;intro PO pc;apply Zu 0x7a0f24e10ebb59c83c
  ·apply Y 0xf82f
   rfl
  apply Y 0xf82f
  rfl
 have hlt:¬(aL f y.a y.b).free<bC f:=oe;apply Y 0x6bfbedbe68a0e8d473ed9;refine sp (Ev.cast (u:=.int .i64 ((((aL f y.a y.b).gen+1).toNat:Nat):Int)) (Ev.add rfl rfl oe oe) (congrArg (Value.int .i64) oe)) ?_;apply Y 0x3;refine an (uF f.size ((aL f y.a y.b).gen+1).toNat SO sc (ak s) os2 hfit) ?_;apply Y 0x89;intro WO wc;rw [show ((((aL f y.a y.b).gen+1).toNat:Nat):Int)=(aL f y.a y.b).gen+1 from by omega];apply Y 0x68a0e8d28db;refine sp (faR 5) ?_;refine sp (ldR 5) ?_;apply Y 0xa9e36e;refine sp (ae (k:=(aL f y.a y.b).oth.toNat) rfl rfl rfl rfl rfl rfl oe oe (Src.r 6 rfl) oy) ?_;apply Y 0xd2efee428c62f;refine mq 1 rfl (Ev.cast (u:=.slice (bF (a.hs.getD (aL f y.a y.b).oth.toNat (none,0)).1 (a.hs.getD (aL f y.a y.b).oth.toNat (none,0)).2 8 1) ((f.data.getD (aL f y.a y.b).oth.toNat []).drop 8).length ((a.hs.getD (aL f y.a y.b).oth.toNat (none,0)).2-8)) (bx (l:=8) rfl rfl rfl rfl rfl rfl oe) oak) ?_;apply Y 0x4de;refine mq 3 rfl (Ev.cast (u:=.slice (bF WO f.size 8 1) ((al f.size ((aL f y.a y.b).gen+1) (ak s)).drop 8).length (f.size-8)) (bx (l:=8) rfl rfl rfl rfl rfl rfl oe) (by rw [List.length_drop,hwl];rfl)) ?_;apply Y 0x78e;refine L.call (js:=[]) (js':=[0]) (BS (bF (a.hs.getD (aL f y.a y.b).oth.toNat (none,0)).1 (a.hs.getD (aL f y.a y.b).oth.toNat (none,0)).2 8 1) (bF WO f.size 8 1) ((a.hs.getD (aL f y.a y.b).oth.toNat (none,0)).2-8) (f.size-8) ((f.data.getD (aL f y.a y.b).oth.toNat []).drop 8) ((al f.size ((aL f y.a y.b).gen+1) (ak s)).drop 8)) rfl rfl rfl ob ⟨(bw (((Has.kid 7 rfl oH ((aL f y.a y.b).oth.toNat) OG).cast (bB _))) (a.hs.getD (aL f y.a y.b).oth.toNat (none,0)).2 8 oe),(bw (Has.r 0 rfl) f.size 8 oe),trivial⟩ rfl ?_;apply Y 0xc4e63c29;refine LM.bool 72 rfl ?_ ?_<;>intro hg72
 ·have heq:((f.data.getD (aL f y.a y.b).oth.toNat []).drop 8==(al f.size ((aL f y.a y.b).gen+1) (ak s)).drop 8)=true:=hg72;refine my 6 rfl (Ev.pure rfl) ?_;apply Y 0x7b4e66ad3e;refine sp (Ev.cast (u:=.slice WO ((al f.size ((aL f y.a y.b).gen+1) (ak s)).take 8).length f.size) (br (h:=8) rfl rfl rfl rfl rfl rfl oe) oah) ?_;apply Y 0x77bec9;refine L.call (js:=[]) (js':=[0]) (IR (a.hs.getD (aL f y.a y.b).oth.toNat (none,0)).1 WO (a.hs.getD (aL f y.a y.b).oth.toNat (none,0)).2 f.size (f.data.getD (aL f y.a y.b).oth.toNat []) ((al f.size ((aL f y.a y.b).gen+1) (ak s)).take 8) Oq Oq) rfl rfl rfl ob ⟨((Has.kid 7 rfl oH ((aL f y.a y.b).oth.toNat) OG).cast (bB _)),((Has.take (Has.r 0 rfl) 8).cast (cj _ _)),trivial⟩ rfl ?_;apply Zu 0xe91b9c48e63c29<;>intro hc77
  ·have hrd:dm (av f (aL f y.a y.b).oth) (al f.size ((aL f y.a y.b).gen+1) (ak s))=true:=by unfold dm av;rw [hg72,Bool.true_and,← hc77,List.length_take,hwl,Nat.min_eq_left oe]
   apply Y 0xe21ffee4;refine mq 1 rfl (faR 2) ?_;refine mq 2 rfl (ldR 2) ?_;apply Y 0xdfe;refine mq 4 rfl (Ev.cast (u:=.slice WO ((al f.size ((aL f y.a y.b).gen+1) (ak s)).take 8).length f.size) (br (h:=8) rfl rfl rfl rfl rfl rfl oe) oah) ?_;refine mfo 5 ?_;refine dj (js:=[]) (js':=[0]) (Aj f a hok hh (aL f y.a y.b).oth 0 ((al f.size ((aL f y.a y.b).gen+1) (ak s)).take 8) WO f.size hfd.oth) rfl rfl rfl ob ⟨(Has.r 6 rfl),(Has.r 7 rfl),(Has.r 8 rfl),(Has.r 9 rfl),((Has.take (Has.r 0 rfl) 8).cast (cj _ _)),trivial⟩ rfl ?_;apply Y 0x89;intro PO pc;apply Y 0x98e63c;refine mq 7 rfl (Ev.pure rfl) ?_;apply Zu 0x7a0f24e22e23e1b9c17e6348e6597bec93b4e
   ·apply Y 0x192f
    rfl
   apply Y 0x192f
   rfl
  have hrd:dm (av f (aL f y.a y.b).oth) (al f.size ((aL f y.a y.b).gen+1) (ak s))=false:=by unfold dm av;rw [hg72,Bool.true_and,← hc77,List.length_take,hwl,Nat.min_eq_left oe]
  apply Y 0xe21ffeeaa;refine mq 1 rfl (faR 2) ?_;refine mq 2 rfl (ldR 2) ?_;refine mq 3 rfl (faR 5) ?_;refine mq 4 rfl (ldR 5) ?_;apply Y 0xc4e;refine mfo 6 ?_;refine an (uF f.size 0 SO sc (ak s) os2 hfit) ?_;apply Y 0x89;intro QO qc;apply Y 0x89a22f3c770fd3e6db;intro PO pc;apply Zu 0x7a0f24e23e1b9c6be6327e65917ec9369e75ed5e63c
  ·apply Y 0xca0f
   rfl
  apply Y 0xca0f
  rfl
 have hrd:dm (av f (aL f y.a y.b).oth) (al f.size ((aL f y.a y.b).gen+1) (ak s))=false:=by unfold dm av;rw [hg72,Bool.false_and]
 refine mno 6 ?_;apply Y 0x1b9c48e6a2e7bec9a2eb4e6a2ed3e;refine C.cond rfl (fun h=>by cases h) (fun _=>?_);apply Y 0xe21ffeeaa;refine mq 1 rfl (faR 2) ?_;refine mq 2 rfl (ldR 2) ?_;refine mq 3 rfl (faR 5) ?_;refine mq 4 rfl (ldR 5) ?_;apply Y 0xc4e;refine mfo 6 ?_;refine an (uF f.size 0 SO sc (ak s) os2 hfit) ?_;apply Y 0x89;intro QO qc;apply Y 0x89a22f3c770fd3e6db;intro PO pc;apply Zu 0x7a0f24e23e1b9c6be6327e65917ec9369e75ed5e63c
 ·apply Y 0xca0f
  rfl
 apply Y 0xca0f
 rfl
end Go.Proofs.YtbpddeiogcgegaaGreat
