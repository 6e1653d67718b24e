/-
  Part of a proof.
-/
import Derived.Test.YtbpddeiogcgegaaGreatYWJoJ
set_option maxHeartbeats 0
set_option maxRecDepth 4000
set_option linter.all false
namespace Go.Proofs.YtbpddeiogcgegaaGreat
open Go.Sl
theorem KS (f:Fl)(a:Fa)(ok:f.Ok)(hh:a.hs.length=f.data.length){ln la lb l0 l1:Int}{GA VA:Option Addr}{gl gc vl vc:Nat}(us:List Int)(U:Option Addr)(uc:Nat)(hu:UOk f us):
    Ctr X 154 [flV f a,.agg (List.toArray [.int .i64 ln,.int .i64 la,.int .i64 lb,.int .i64 l0,.int .i64 l1,.slice GA gl gc,.slice U us.length uc,.slice VA vl vc])] (flR f a++[Rd U (I64 us)]) [] (fun v R' H'=>∃ (A:Option Addr) (c:Nat),v=.slice A (aR f us).length c∧R'=[]∧H'=[Own 5 1 A (aR f us).length c (U8 (aR f us))]):=by
 apply Y 0xc2e;intro hok;obtain ⟨os1,os2,on1,on2,owl,odl,orows,ol1,ol2,owear⟩:=ok;apply Y 0xb50f;intro hul;refine co Tryz.func154 ?_;intro β;apply Y 0x2a;intro A2;apply Y 0xdd;intro A3;apply Y 0x7afb8d28;intro A7;apply Y 0x19228;refine lp [] [] (fun q:Nat×Option Addr×Nat=>[(2,ag A2 0),(3,ag A3 0),(5,.slice q.2.1 (aR f (us.take q.1)).length q.2.2),(6,.int .i64 (q.1:Int))]) (kz [_,_,_,_,_,_,_]) (fun q=>[Own 5 1 q.2.1 (aR f (us.take q.1)).length q.2.2 (U8 (aR f (us.take q.1)))]) (fun q=>q.1≤us.length) (fun q=>us.length-q.1) (0,A7,0) (Nat.zero_le _) (lk [0,1,2,3,4,5,6] [0]) ?_;apply Y 0xb1e;intro k A c hk
 dsimp only at hk ⊢;apply Zu 0x783d8484<;>intro
 ·have hk2:k<us.length:=oe;have hur:=hu.r k hk2;have hrow:=orows (us.getD k 0).toNat oe;have hal:=eW hok hu k oe;apply Y 0x1c0f;intro hkz;apply Y 0x281f;intro e1;apply Y 0xcfe2ded2e4f0f49;refine mq 3 rfl (faR 0) ?_;refine mq 4 rfl (ldR 0) ?_;refine mfo 5 ?_;apply Y 0x63;refine mfo 6 ?_;apply Y 0xd3e6a52f;refine sp (Ev.load rfl rfl rfl (Src.r 6 rfl) (aJ oe)) ?_;apply Y 0xce1f48ec9200fc7e6252fb4e6;intro A25 cc25;apply Y 0x3a9c17e6;refine QE.round (i:=(k,A,c)) ((k+1,A25,cc25)) ou ou (by exact lk [0,1,2,3,4,5,6] [0] ⟨rfl,rfl,QQ,rfl,trivial⟩ (hh:=⟨(congrArg some (ay Q6 oaM)),trivial⟩))
 apply Y 0x20e7c69;obtain rfl:k=us.length:=oe;exact Zm 0xd6ee4e
theorem MI (f:Fl)(a:Fa)(ok:f.Ok)(hh:a.hs.length=f.data.length){ln la lb l0 l1:Int}{GA VA:Option Addr}{gl gc vl vc:Nat}(us:List Int)(U:Option Addr)(uc:Nat)(hu:UOk f us)(at_:Int)(b:List UInt8)(W:Option Addr)(wc:Nat)(hbl:b.length≤1000000)(hwc:b.length≤wc):
    Ctr X 98 [flV f a,.agg (List.toArray [.int .i64 ln,.int .i64 la,.int .i64 lb,.int .i64 l0,.int .i64 l1,.slice GA gl gc,.slice U us.length uc,.slice VA vl vc]),.agg (List.toArray [.int .i64 at_,.slice W b.length wc])] (flR f a++[Rd U (I64 us),Rd W (U8 b)]) [] (fun v R' H'=>∃ A c,v=.agg (List.toArray [.int .i64 (towS f us at_ b).x.kind,.int .i64 (towS f us at_ b).x.sec,.int .i64 (towS f us at_ b).x.at_,.slice A (towS f us at_ b).x.data.length c,.bool (towS f us at_ b).done,.int .i64 (towS f us at_ b).e])∧R'=[Rd A (U8 (towS f us at_ b).x.data)]∧H'=[]):=by
 apply Y 0xc2e;intro hok;obtain ⟨os1,os2,on1,on2,owl,odl,orows,ol1,ol2,owear⟩:=ok;apply Y 0xb50f;intro hul;refine co Tryz.func98 ?_;intro β;apply Y 0x2a;intro A3;apply Y 0xdd;intro A4;apply Y 0xdd;intro A5;apply Y 0x88;intro A6;apply Y 0x16e5a0f688dc3e59e7b;refine an (KS f a hok hh us U uc hu) ?_;apply Y 0x89;intro A14 c14;apply Y 0xc8e428;intro h14;have hal:=j5 hok hu;apply Y 0x7c0f;intro hlz;apply Zu 0x101f5d868<;>intro
 ·apply Y 0x1fa9dfa;refine C.cond rfl (fun _=>?_) (fun h=>by cases h);apply Y 0xede80e22ebdeb8c;intro hB;apply Zu 0x13e231f
  ·apply Y 0x28e
   rfl
  apply Y 0x28e
  rfl
 apply Y 0xc8b86acb;refine L.bool 25 rfl (imp of_decide_eq_true ?_) (imp of_decide_eq_false ?_)<;>intro
 ·apply Y 0x1faa8;refine C.cond rfl (fun _=>?_) (fun h=>by cases h);apply Y 0xede80e22ebdeb8c;intro hB;apply Zu 0x13e231f
  ·apply Y 0x28e
   rfl
  apply Y 0x28e
  rfl
 apply Zu 0x786ac0e742eb82ccb<;>intro
 ·apply Y 0xede80e22ebdeb8c;intro hB;apply Zu 0x13e231f
  ·apply Y 0x28e
   rfl
  apply Y 0x28e
  rfl
 apply Y 0x8d4aa;have hB:¬cQ f us at_ b:=Qm;apply Y 0x1968;refine lp [3,4,5,6,7] [_,_,_,_,_] (fun k:Nat=>[(8,.int .i64 (k:Int))]) (kz [_,_,_,_,_,_,_,_,_,_]) (kz [_]) (fun k=>k≤b.length∧okN (aR f us) b at_.toNat k=true) (fun k=>b.length-k) 0 ⟨Nat.zero_le _,rfl⟩ (lk [0,1,2,3,4,5,6,7,8,9] [0]) ?_;apply Y 0xf0e;intro k hk hkk;apply Zu 0x7836b484<;>intro
 ·apply Y 0x8dea952e92ea93d449;refine sq (ae (k:=(at_.toNat+k)) rfl rfl rfl rfl rfl rfl oe oe (Src.r 0 rfl) oO) ?_;apply Y 0x982fa952e92e900f;refine sq (Ev.load rfl rfl rfl (Src.r 9 rfl) (bE oe)) ?_;refine sq (uX rfl rfl) ?_;apply Y 0x982fa952e92e;refine sq (Ev.load rfl rfl rfl (Src.r 9 rfl) (bE oe)) ?_;apply Zu 0x5d9aa9<;>intro hc62
  ·have hok2:=Gh (A:=aR f us) (b:=b) (p:=at_.toNat) (k:=k) (n:=b.length) oe (fun e=>hc62 (e9.2 e));apply Zu 0x13ee5e80e10eabbd598c
   ·rw [va hB hok2]
    rfl
   rw [va hB hok2]
   rfl
  apply Y 0x3ad9;refine QE.round (k+1) (by exact ⟨by omega,by rw [vR,hkk,e9.1 hc62];simp⟩) oe (lk [0,1,2,3,4,5,6,7,8,9] [0])
 apply Y 0x4469;obtain rfl:k=b.length:=oe;apply Y 0x1968;refine lp [3,4,5,6,7] [_,_,_,_,_] (fun s:Nat=>[(9,.int .i64 (s:Int))]) (kz [_,_,_,_,_,_,_,_,_,_]) (kz [_]) (fun s=>(List.range s).find? (cZ (aR f us) b at_.toNat f.size)=none∧s≤us.length) (fun s=>us.length-s) 0 ⟨rfl,Nat.zero_le _⟩ (lk [0,1,2,3,4,5,6,7,8,9] [0]) ?_;apply Y 0xf0e;intro s hfi hs;apply Zu 0x783a9e36e484<;>intro
 ·apply Y 0x449;have hzs:s*f.size≤64*4096:=Nat.mul_le_mul oe oe;have hss:(s+1)*f.size=s*f.size+f.size:=Nat.succ_mul ..;apply Y 0xade9dea952e92e3d;refine sq (Ev.cast (u:=.int .i64 ((s*f.size:Nat):Int)) (Ev.mul rfl rfl oe oe) (congrArg (Value.int .i64) oa3)) ?_;refine sq (Ev.cast (u:=.int .i64 ((frm at_.toNat f.size s:Nat):Int)) (Ev.pure rfl) (congrArg (Value.int .i64) (by show (if _<_ then _ else _)=_;unfold frm;split<;>omega))) ?_;apply Y 0xa98dea952e92e52e92e;refine sq (Ev.cast (u:=.int .i64 ((s+1:Nat):Int)) (Ev.add rfl rfl oe oe) (congrArg (Value.int .i64) oe)) ?_;apply Y 0xade9de;refine sq (Ev.cast (u:=.int .i64 (((s+1)*f.size:Nat):Int)) (Ev.mul rfl rfl Q8 Q8) (congrArg (Value.int .i64) oa3)) ?_;refine sq (Ev.cast (u:=.int .i64 ((too at_.toNat f.size b.length s:Nat):Int)) (Ev.pure rfl) (congrArg (Value.int .i64) (by show (if _<_ then _ else _)=_;unfold too;split<;>omega))) ?_;apply Y 0x449ab9;have hf1:frm at_.toNat f.size s=max at_.toNat (s*f.size):=rfl;have ht1:too at_.toNat f.size b.length s=min (at_.toNat+b.length) ((s+1)*f.size):=rfl;apply Zu 0xd02fb9b93d<;>intro
  ·apply Y 0x9aa98b8b8b8b;refine C.cond rfl (fun _=>?_) (fun h=>by cases h);apply Y 0xcde1bb9e66e;refine QE.round (s+1) (by exact ⟨n4 hfi (dM oe),by omega⟩) oe (lk [0,1,2,3,4,5,6,7,8,9] [0])
  have hlt:frm at_.toNat f.size s<too at_.toNat f.size b.length s:=oe;apply Y 0xba1f;intro hcl;apply Y 0x181d1d1d;refine sq (Ev.cast (u:=.slice (bF A14 c14 (frm at_.toNat f.size s) 1) (((aR f us).drop (frm at_.toNat f.size s)).take (too at_.toNat f.size b.length s-frm at_.toNat f.size s)).length (c14-frm at_.toNat f.size s)) (dB (l:=frm at_.toNat f.size s) (h:=too at_.toNat f.size b.length s) rfl rfl rfl rfl rfl rfl rfl rfl oe oe) (by rw [List.length_take,List.length_drop,Nat.min_eq_left oe];rfl)) ?_;apply Y 0x1852e1892e181d52e1892e18;refine sq (Ev.cast (u:=.int .i64 ((frm at_.toNat f.size s-at_.toNat:Nat):Int)) (Ev.sub rfl rfl oe oe) (congrArg (Value.int .i64) oe)) ?_;apply Y 0x1852e1892e181d;refine sq (Ev.cast (u:=.int .i64 ((too at_.toNat f.size b.length s-at_.toNat:Nat):Int)) (Ev.sub rfl rfl oe oe) (congrArg (Value.int .i64) oe)) ?_;apply Y 0x18;refine sq (Ev.cast (u:=.slice (bF W wc (frm at_.toNat f.size s-at_.toNat) 1) (bJ b at_.toNat f.size s).length (wc-(frm at_.toNat f.size s-at_.toNat))) (dB (l:=frm at_.toNat f.size s-at_.toNat) (h:=too at_.toNat f.size b.length s-at_.toNat) rfl rfl rfl rfl rfl rfl rfl rfl oe oe) OU) ?_;apply Y 0x18;refine LQ.call (.bool (((aR f us).drop (frm at_.toNat f.size s)).take (too at_.toNat f.size b.length s-frm at_.toNat f.size s)==bJ b at_.toNat f.size s)) (FZ _ _ _ _ (((aR f us).drop (frm at_.toNat f.size s)).take (too at_.toNat f.size b.length s-frm at_.toNat f.size s)) (bJ b at_.toNat f.size s) Oq oe) (fun _ _ _ h=>h.1) rfl ⟨((Has.sub (Has.r 0 rfl) c14 (frm at_.toNat f.size s) 1 (too at_.toNat f.size b.length s-frm at_.toNat f.size s) oO).cast oar),(((bw (Has.r 9 rfl) wc (frm at_.toNat f.size s-at_.toNat) hwc).take (too at_.toNat f.size b.length s-frm at_.toNat f.size s)).cast (cj _ _)),trivial⟩ rfl ?_;apply Zu 0xe99aa9<;>intro hc110
  ·have hcc:=eq_of_beq hc110;apply Y 0xcde1bb9e66e;refine QE.round (s+1) (by exact ⟨n4 hfi (ll hcc),by omega⟩) oe (lk [0,1,2,3,4,5,6,7,8,9] [0])
  have hcc:=ne_of_beq_false hc110;have hfy:=wG hfi (lh hlt hcc);have hfm:=k7 hfy (show s+1≤us.length by omega);apply Y 0x4aa;have hur:=hu.r s oe;apply Y 0xade9de3d;refine sq (faR 2) ?_;refine sq (ldR 2) ?_;apply Y 0xa9;refine sq (ae (k:=s) rfl rfl rfl rfl rfl rfl rfl oe (Src.r 8 rfl) ow) ?_;refine sq (Ev.load rfl rfl rfl (Src.r 8 rfl) (aJ oe)) ?_;refine sq (ae (k:=(us.getD s 0).toNat) rfl rfl rfl rfl rfl rfl oe oe (Src.r 7 rfl) qN) ?_;refine sq (Ev.load rfl rfl rfl (Src.r 7 rfl) (m0 oe)) ?_;apply Zu 0xe99a<;>intro hc119
  ·apply Zu 0x13ee5e80e10eab22ebd598c
   ·rw [u7 hB hkk hfm hc119]
    rfl
   rw [u7 hB hkk hfm hc119]
   rfl
  apply Y 0xfeeaa;refine mq 0 rfl (faR 2) ?_;refine mq 1 rfl (ldR 2) ?_;apply Y 0x4de;refine mq 3 rfl (ae (k:=s) rfl rfl rfl rfl rfl rfl rfl oe (Src.r 8 rfl) ow) ?_;refine mq 4 rfl (Ev.load rfl rfl rfl (Src.r 8 rfl) (aJ oe)) ?_;apply Y 0x98ec4e;refine mq 7 rfl (faR 3) ?_;refine mq 8 rfl (ldR 3) ?_;refine mq 9 rfl (Ev.cast (u:=.int .i64 ((s*f.size:Nat):Int)) (Ev.mul rfl rfl oe oe) (congrArg (Value.int .i64) oa3)) ?_;refine mq 10 rfl (Ev.cast (u:=.int .i64 ((frm at_.toNat f.size s-s*f.size:Nat):Int)) (Ev.sub rfl rfl oe oe) (congrArg (Value.int .i64) oe)) ?_;refine mq 11 rfl (faR 1) ?_;refine mq 12 rfl (ldR 1) ?_;refine mq 13 rfl (Ev.pure rfl) ?_;refine mq 14 rfl (faR 1) ?_;refine mq 15 rfl (ldR 1) ?_;refine mq 16 rfl (Ev.cast (u:=.int .i64 ((frm at_.toNat f.size s-at_.toNat:Nat):Int)) (Ev.sub rfl rfl oe oe) (congrArg (Value.int .i64) oe)) ?_;apply Y 0x3de;refine mfo 18 ?_;apply Y 0x6d0e;refine mfo 19 ?_;apply Y 0x612e;refine mfo 20 ?_;refine sp (Ev.cast (u:=.int .i64 ((too at_.toNat f.size b.length s-at_.toNat:Nat):Int)) (Ev.sub rfl rfl oe oe) (congrArg (Value.int .i64) oe)) ?_;apply Y 0x6;refine mfo 21 ?_;refine sp (Ev.cast (u:=.slice (bF W wc (frm at_.toNat f.size s-at_.toNat) 1) (bJ b at_.toNat f.size s).length (wc-(frm at_.toNat f.size s-at_.toNat))) (dB (l:=frm at_.toNat f.size s-at_.toNat) (h:=too at_.toNat f.size b.length s-at_.toNat) rfl rfl rfl rfl rfl rfl rfl rfl oe oe) OU) ?_;apply Y 0xc9;refine LM.f 22 rfl oa trivial ?_;apply Y 0x6ca;refine LM.f 23 rfl oa trivial ?_;apply Y 0x6ca;refine LM.f 24 rfl oa trivial ?_;apply Y 0x10eab23e1b70e59;refine QE.more (r:=Rd (bF W wc (frm at_.toNat f.size s-at_.toNat) 1) (U8 (bJ b at_.toNat f.size s))) (((bw (Has.r 9 rfl) wc (frm at_.toNat f.size s-at_.toNat) hwc).take (too at_.toNat f.size b.length s-frm at_.toNat f.size s)).cast (cj _ _)) ?_;apply Y 0xe5e;refine ⟨bF W wc (frm at_.toNat f.size s-at_.toNat) 1,wc-(frm at_.toNat f.size s-at_.toNat),?_,?_,rfl⟩
  ·rw [pO hB hkk hfm hc119]
   rfl
  rw [pO hB hkk hfm hc119]
  rfl
 apply Y 0x80ebd598c69;obtain rfl:s=us.length:=oe;apply Zu 0x13ee5e
 ·rw [pP hB hkk hfi]
  rfl
 rw [pP hB hkk hfi]
 rfl
theorem GT (f:Fl)(a:Fa)(ok:f.Ok)(hh:a.hs.length=f.data.length){ln la lb l0 l1:Int}{GA VA:Option Addr}{gl gc vl vc:Nat}(us:List Int)(U:Option Addr)(uc:Nat)(hu:UOk f us)(at_:Int)(b:List UInt8)(W:Option Addr)(wc:Nat)(hbl:b.length≤1000000)(hwc:b.length≤wc)(hcap:Caps f a):
    Ctr X 190 [flV f a,.agg (List.toArray [.int .i64 ln,.int .i64 la,.int .i64 lb,.int .i64 l0,.int .i64 l1,.slice GA gl gc,.slice U us.length uc,.slice VA vl vc]),.int .i64 at_,.slice W b.length wc] (flR f a++[Rd U (I64 us),Rd W (U8 b)]) [] (fun v R' H'=>∃ A c,v=.tuple #[.agg (List.toArray [.int .i64 (towS f us at_ b).x.kind,.int .i64 (towS f us at_ b).x.sec,.int .i64 (towS f us at_ b).x.at_,.slice A (towS f us at_ b).x.data.length c]),.bool (towS f us at_ b).done,.int .i64 (towS f us at_ b).e]∧R'=[Rd A (U8 (towS f us at_ b).x.data)]∧H'=[]):=by
 apply Y 0xc2e;intro hok;obtain ⟨os1,os2,on1,on2,owl,odl,orows,ol1,ol2,owear⟩:=ok;apply Y 0xb50f;intro hul;apply Y 0x7c0f;intro hlz;have hz:0<f.size:=oe;refine co Tryz.func190 ?_;intro β;apply Y 0x2a;intro A4;apply Y 0xdd;intro A5;apply Y 0x88;intro A8;apply Y 0x6b3d8688dc3e283;refine sp (Ev.cast (u:=.int .i64 ((us.length*f.size:Nat):Int)) (Ev.mul rfl rfl Q8 Q8) (congrArg (Value.int .i64) oa3)) ?_;apply Zu 0x401f6c28<;>intro
 ·apply Y 0x1bc9d2b;refine C.cond rfl (fun _=>?_) (fun h=>by cases h);apply Y 0xede80e4a3598c;intro hB;apply Zu 0x13e24e
  ·apply Y 0x28e
   rfl
  apply Y 0x28e
  rfl
 apply Zu 0xaf1fc8b86a<;>intro
 ·apply Y 0x1bca8;refine C.cond rfl (fun _=>?_) (fun h=>by cases h);apply Y 0xede80e4a3598c;intro hB;apply Zu 0x13e24e
  ·apply Y 0x28e
   rfl
  apply Y 0x28e
  rfl
 apply Zu 0x786ac0eb86a2c<;>intro
 ·apply Y 0xede80e4a3598c;intro hB;apply Zu 0x13e24e
  ·apply Y 0x28e
   rfl
  apply Y 0x28e
  rfl
 apply Y 0xaa;have hB:¬cQ f us at_ b:=Qm;apply Y 0x42868;refine jt 60 4 ?_;apply Y 0x198a;refine lp [] [] (fun q:Nat×Option Addr×Nat×List Value=>[(2,.int .i64 at_),(3,.slice W b.length wc),(4,ag A4 0),(5,ag A5 0),(8,ag A8 0),(12,ag q.2.1 0),(13,.int .i64 ((ffr at_.toNat b.length f.size q.1:Nat):Int))]) (kz [_,_,_,_,_,_,_,_]) (fun q=>[Own 60 4 A8 1 1 [.int .i64 0,.int .i64 0,.int .i64 0,.slice none 0 0],Own 60 4 q.2.1 q.2.2.1 q.2.2.1 q.2.2.2]) (fun q=>q.1≤us.length∧at_.toNat<q.1*f.size+f.size∧okN (aR f us) b at_.toNat (ffr at_.toNat b.length f.size q.1-at_.toNat)=true∧jq (aR f us) us b at_.toNat f.size W wc q.1 q.2.1 q.2.2.1 q.2.2.2) (fun q=>us.length-q.1) (at_.toNat/f.size,none,0,[]) ⟨Nat.div_le_of_le_mul (by rw [Nat.mul_comm];omega),(ld at_.toNat b.length f.size hz).2,by rw [(ld at_.toNat b.length f.size hz).1,Nat.sub_self];rfl,.inl ⟨xQ _ _ _ _,rfl,rfl,rfl⟩⟩ (by exact lk [0,1,2,3,4,5,6,7] [0,1] ⟨rfl,rfl,rfl,rfl,rfl,rfl,(by dsimp only;rw [(ld at_.toNat b.length f.size hz).1];exact congrArg some (congrArg (Value.int .i64) oe)),trivial⟩) ?_;rintro ⟨s,N,n,cs⟩ ⟨hsz,hps,hjj,hnx⟩
 dsimp only at hsz hps hjj hnx ⊢;apply Zu 0x789b5584<;>intro
 ·have hto:too at_.toNat f.size b.length s=min (at_.toNat+b.length) (s*f.size+f.size):=by unfold too;rw [Nat.succ_mul]
  have hlt:ffr at_.toNat b.length f.size s<at_.toNat+b.length:=oe;obtain ⟨w1,w2,w3,w4,w5,w6,w7⟩:=BP hz hps hlt;obtain ⟨d1,d2⟩:=Iw hz hps hlt;have hsl:s<us.length:=Kw hz hps hlt oe;have hur:=hu.r s hsl;have hrow:=orows (us.getD s 0).toNat oe;have hcp:=hcap (us.getD s 0).toNat oe;apply Y 0xba1f;intro hcl;have hq1:((ffr at_.toNat b.length f.size s:Nat):Int)/(f.size:Int)=(s:Int):=by rw [← Int.natCast_ediv,d1]
  have hq2:((ffr at_.toNat b.length f.size s:Nat):Int)%(f.size:Int)=((frm at_.toNat f.size s-s*f.size:Nat):Int):=by rw [← Int.natCast_emod,d2,w1]
  have hrp:=DR (b:=b) (p:=at_.toNat) hok hu hsl oe oe w5;apply Y 0x52e92ea93d453ee8;refine sq (Ev.cast (u:=.int .i64 (s:Int)) (Ev.quo rfl rfl oe oe oe) (congrArg (Value.int .i64) hq1)) ?_;apply Y 0x52e92ea9;refine sq (Ev.cast (u:=.int .i64 (((frm at_.toNat f.size s-s*f.size):Nat):Int)) (Ev.rem rfl rfl oe oe) (congrArg (Value.int .i64) hq2)) ?_;apply Y 0x6c9ab9;refine sp (Ev.cast (u:=.int .i64 (((frm at_.toNat f.size s-at_.toNat):Nat):Int)) (Ev.sub rfl rfl oe oe) (congrArg (Value.int .i64) oe)) ?_;refine sp (bx (l:=(frm at_.toNat f.size s-at_.toNat)) rfl rfl rfl rfl rfl rfl oe) ?_;apply Y 0xc0e36b6c1;refine sp (Ev.cast (u:=.int .i64 (((bJ b at_.toNat f.size s).length:Nat):Int)) (Ev.pure rfl) (congrArg (Value.int .i64) (by show (if _<_ then _ else _)=_;rw [hcl];split<;>omega))) ?_;refine sp (br (h:=(bJ b at_.toNat f.size s).length) rfl rfl rfl rfl rfl rfl oe) ?_;apply Y 0xa930e60e52e92e3d28;refine sq (ae (k:=s) rfl rfl rfl rfl rfl rfl rfl oe (Src.r 6 rfl) ow) ?_;refine sq (Ev.load rfl rfl rfl (Src.r 6 rfl) (aJ oe)) ?_;refine sq (ae (k:=(us.getD s 0).toNat) rfl rfl rfl rfl rfl rfl oe oe (Src.r 2 rfl) oy) ?_;refine sq (Ev.load rfl rfl rfl (Src.r 2 rfl) (bm hh oe)) ?_;apply Y 0xa9;refine sq (bx (l:=(frm at_.toNat f.size s-s*f.size)) rfl rfl rfl rfl rfl rfl oe) ?_;apply Y 0x449aa9;refine C.more (r:=Rd (bF W wc (frm at_.toNat f.size s-at_.toNat) 1) (U8 (bJ b at_.toNat f.size s))) (((bw (Has.r 7 rfl) wc (frm at_.toNat f.size s-at_.toNat) hwc).take (too at_.toNat f.size b.length s-frm at_.toNat f.size s)).cast (cj _ _)) ?_;refine C.more (r:=Rd (bF (a.hs.getD (us.getD s 0).toNat (none,0)).1 (a.hs.getD (us.getD s 0).toNat (none,0)).2 (frm at_.toNat f.size s-s*f.size) 1) (U8 ((f.data.getD (us.getD s 0).toNat []).drop (frm at_.toNat f.size s-s*f.size)))) (bw ((Has.kid 4 rfl oH ((us.getD s 0).toNat) OG).cast (bB _)) (a.hs.getD (us.getD s 0).toNat (none,0)).2 (frm at_.toNat f.size s-s*f.size) oe) ?_;apply Y 0x193b;refine lp [] [] (fun j:Nat=>[(2,.int .i64 at_),(3,.slice W b.length wc),(4,ag A4 0),(5,ag A5 0),(8,ag A8 0),(12,ag N 0),(13,.int .i64 ((ffr at_.toNat b.length f.size s:Nat):Int)),(14,.int .i64 (s:Int)),(15,.int .i64 (((frm at_.toNat f.size s-s*f.size):Nat):Int)),(16,.slice (bF W wc (frm at_.toNat f.size s-at_.toNat) 1) (bJ b at_.toNat f.size s).length (wc-(frm at_.toNat f.size s-at_.toNat))),(17,.slice (bF (a.hs.getD (us.getD s 0).toNat (none,0)).1 (a.hs.getD (us.getD s 0).toNat (none,0)).2 (frm at_.toNat f.size s-s*f.size) 1) ((f.data.getD (us.getD s 0).toNat []).length-(frm at_.toNat f.size s-s*f.size)) ((a.hs.getD (us.getD s 0).toNat (none,0)).2-(frm at_.toNat f.size s-s*f.size))),(82,.slice (bF W wc (frm at_.toNat f.size s-at_.toNat) 1) (bJ b at_.toNat f.size s).length (wc-(frm at_.toNat f.size s-at_.toNat))),(83,.int .i64 (((bJ b at_.toNat f.size s).length:Nat):Int)),(84,.int .i64 (j:Int))]) (kz [_,_,_,_,_,_,_,_,_,_]) (kz [_,_]) (fun j=>j≤(bJ b at_.toNat f.size s).length∧okN (aR f us) b at_.toNat ((frm at_.toNat f.size s-at_.toNat)+j)=true) (fun j=>(bJ b at_.toNat f.size s).length-j) 0 ⟨Nat.zero_le _,by rw [Nat.add_zero,← w1];exact hjj⟩ (lk [0,1,2,3,4,5,6,7,8,9] [0,1]) ?_
  clear hjj;apply Y 0xf0e;intro j hj hjj;apply Zu 0x1cda<;>intro
  ·have hj2:j<(bJ b at_.toNat f.size s).length:=oe;have g1:=iq hj2;have g2:=Ho (j:=j) (p:=at_.toNat) hok hu hsl oe oe oe;apply Y 0x4849;refine sp (ae (k:=j) rfl rfl rfl rfl rfl rfl rfl oe (Src.r 1 rfl) oO) ?_;apply Y 0x58131a0f;refine sp (ae (k:=j) rfl rfl rfl rfl rfl rfl rfl oe (Src.r 0 rfl) qY) ?_;refine sp (Ev.load rfl rfl rfl (Src.r 0 rfl) (bE ot)) ?_;apply Zu 0x5d13efe3<;>intro hc96
   ·have hno:okN (aR f us) b at_.toNat b.length=false:=Gh (k:=(frm at_.toNat f.size s-at_.toNat)+j) oe (by rw [← g1,← g2];exact fun e=>hc96 (e9.2 e));apply Zu 0x13e24e80e10e10e10eabbb598c
    ·rw [va hB hno]
     rfl
    rw [va hB hno]
    rfl
   have hyes:(aR f us).getD (at_.toNat+((frm at_.toNat f.size s-at_.toNat)+j)) 0&&&b.getD ((frm at_.toNat f.size s-at_.toNat)+j) 0=b.getD ((frm at_.toNat f.size s-at_.toNat)+j) 0:=by rw [← g1,← g2];exact e9.1 hc96
   apply Y 0x6dd9;refine QE.round (j+1) (by exact ⟨by omega,by rw [← Nat.add_assoc,vR,hjj,hyes];simp⟩) oe (lk [0,1,2,3,4,5,6,7,8,9] [0,1])
  apply Y 0x4469;obtain rfl:j=(bJ b at_.toNat f.size s).length:=oe;apply Y 0x8a;refine sp (tq rfl rfl rfl rfl) ?_;apply Y 0x3;refine L.bool 101 rfl ?_ ?_<;>intro hg101
  ·have hnf:=hnx.none hg101;obtain ⟨hn1,rfl,rfl,rfl⟩:=hnf;apply Y 0xb82c;refine sp (Ev.cast (u:=.slice (bF (a.hs.getD (us.getD s 0).toNat (none,0)).1 (a.hs.getD (us.getD s 0).toNat (none,0)).2 (frm at_.toNat f.size s-s*f.size) 1) (((f.data.getD (us.getD s 0).toNat []).drop (frm at_.toNat f.size s-s*f.size)).take (bJ b at_.toNat f.size s).length).length ((a.hs.getD (us.getD s 0).toNat (none,0)).2-(frm at_.toNat f.size s-s*f.size))) (br (h:=(bJ b at_.toNat f.size s).length) rfl rfl rfl rfl rfl rfl oe) (by rw [List.length_take,List.length_drop,Nat.min_eq_left oe])) ?_;apply Y 0xb8;refine L.call (js:=[]) (js':=[0,1]) (Ps _ _ _ _ (((f.data.getD (us.getD s 0).toNat []).drop (frm at_.toNat f.size s-s*f.size)).take (bJ b at_.toNat f.size s).length) (bJ b at_.toNat f.size s) Oq) rfl rfl rfl ob ⟨(((Has.r 0 rfl)).take (bJ b at_.toNat f.size s).length|>.cast (cj _ _)),(Has.r 1 rfl),trivial⟩ rfl ?_;apply Zu 0xe916a29<;>intro hc109
   ·have hdf:(aR f us).drop (frm at_.toNat f.size s)|>.take (too at_.toNat f.size b.length s-frm at_.toNat f.size s)|>(· ≠bJ b at_.toNat f.size s):=by show _≠_;rw [hrp];simpa using hc109
    apply Y 0x3a9e36e68;refine sp (ae (k:=s) rfl rfl rfl rfl rfl rfl rfl oe (Src.r 8 rfl) ow) ?_;refine sp (Ev.load rfl rfl rfl (Src.r 8 rfl) (aJ oe)) ?_;apply Y 0xddca5;intro A118;apply Y 0x68e4cec8681;refine FB 2 rfl (Nat.zero_lt_succ _) (fun h118=>?_);refine QE.round (i:=(s,none,0,[])) ((s+1,A118,1,[.int .i64 2,.int .i64 (us.getD s 0),.int .i64 (((frm at_.toNat f.size s-s*f.size):Nat):Int),.slice (bF W wc (frm at_.toNat f.size s-at_.toNat) 1) (bJ b at_.toNat f.size s).length (wc-(frm at_.toNat f.size s-at_.toNat))])) (by exact ⟨by dsimp only;omega,(eT (n:=b.length) hps).2,by rw [(eT (n:=b.length) hps).1,show too at_.toNat f.size b.length s-at_.toNat=(frm at_.toNat f.size s-at_.toNat)+(bJ b at_.toNat f.size s).length from by omega];exact hjj,.inr ⟨s,wG hn1 (lh w5 hdf),h118,rfl,rfl⟩⟩) ou (by exact lk [2,3,4,5,6,7,8,9] [0,2] ⟨rfl,rfl,rfl,rfl,rfl,rfl,OY,trivial⟩)
   have hdf:(aR f us).drop (frm at_.toNat f.size s)|>.take (too at_.toNat f.size b.length s-frm at_.toNat f.size s)|>(· =bJ b at_.toNat f.size s):=by show _=_;rw [hrp];simpa using hc109
   apply Y 0x68e4cec868e8;refine QE.round (i:=(s,none,0,[])) ((s+1,none,0,[])) (by exact ⟨by dsimp only;omega,(eT (n:=b.length) hps).2,by rw [(eT (n:=b.length) hps).1,show too at_.toNat f.size b.length s-at_.toNat=(frm at_.toNat f.size s-at_.toNat)+(bJ b at_.toNat f.size s).length from by omega];exact hjj,.inl ⟨n4 hn1 (ll hdf),rfl,rfl,rfl⟩⟩) ou (by exact lk [2,3,4,5,6,7,8,9] [0,1] ⟨rfl,rfl,rfl,rfl,rfl,rfl,OY,trivial⟩)
  apply Y 0x12ba8;refine C.cond rfl (fun h=>by cases h) (fun _=>?_);apply Y 0x68e4cec868e8;refine QE.round (i:=(s,N,n,cs)) ((s+1,N,n,cs)) (by exact ⟨by dsimp only;omega,(eT (n:=b.length) hps).2,by rw [(eT (n:=b.length) hps).1,show too at_.toNat f.size b.length s-at_.toNat=(frm at_.toNat f.size s-at_.toNat)+(bJ b at_.toNat f.size s).length from by omega];exact hjj,hnx.keep hg101⟩) ou (by exact lk [2,3,4,5,6,7,8,9] [0,1] ⟨rfl,rfl,rfl,rfl,rfl,rfl,OY,trivial⟩)
 have hnl:¬ffr at_.toNat b.length f.size s<at_.toNat+b.length:=oe;have hjf:okN (aR f us) b at_.toNat b.length=true:=by rw [show ffr at_.toNat b.length f.size s-at_.toNat=b.length from by unfold ffr at*;omega] at hjj;exact hjj
 apply Y 0x4853e469;refine sp (tq rfl rfl rfl rfl) ?_;apply Zu 0xe91<;>intro hc123
 ·have hnf:=(hnx.none hc123).1;have hfr:=BI hnf hsz (fun t ht=>BQ hnl ht);apply Zu 0x13e24e80e10ebb598c
  ·rw [pP hB hjf hfr]
   rfl
  rw [pP hB hjf hfr]
  rfl
 obtain ⟨t,ht,rfl,rfl⟩:=hnx.some hc123;have htl:=eS ht;have hur:=hu.r t oe;have hfm:=k7 ht hsz;apply Y 0xa952e92e3d4;refine sq (nkO 1) ?_;refine sq (faO 1) ?_;refine sq (ldO 1) ?_;refine sq (ae (k:=(us.getD t 0).toNat) rfl rfl rfl rfl rfl rfl oe oe (Src.r 5 rfl) qN) ?_;refine sq (Ev.load rfl rfl rfl (Src.r 5 rfl) (m0 oe)) ?_;apply Zu 0xe99aa9<;>intro hc127
 ·apply Zu 0x13e24e80e10ebb598c
  ·rw [u7 hB hjf hfm hc127]
   rfl
  rw [u7 hB hjf hfm hc127]
  rfl
 apply Y 0x4873ed9;refine sp (nkO 1) ?_;apply Y 0xbb5985e;refine QE.more (r:=Rd (bF W wc (frm at_.toNat f.size t-at_.toNat) 1) (U8 (bJ b at_.toNat f.size t))) (((bw (Has.r 7 rfl) wc (frm at_.toNat f.size t-at_.toNat) hwc).take (too at_.toNat f.size b.length t-frm at_.toNat f.size t)).cast (cj _ _)) ?_;apply Y 0x24e;refine ⟨bF W wc (frm at_.toNat f.size t-at_.toNat) 1,wc-(frm at_.toNat f.size t-at_.toNat),?_,?_,rfl⟩
 ·rw [pO hB hjf hfm hc127]
  rfl
 rw [pO hB hjf hfm hc127]
 rfl
end Go.Proofs.YtbpddeiogcgegaaGreat
