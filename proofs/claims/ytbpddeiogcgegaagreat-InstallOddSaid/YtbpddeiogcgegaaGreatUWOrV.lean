/-
  Part of a proof.
-/
import Derived.Test.YtbpddeiogcgegaaGreatUWOrS
set_option maxHeartbeats 0
set_option maxRecDepth 4000
set_option linter.all false
namespace Go.Proofs.YtbpddeiogcgegaaGreat
open Go.Sl
theorem wY (inn out:Int)(S:Nat)(h0:0≤inn∧inn≤65536)(h1:0≤out∧out≤65536)(hS:1≤S)(hS2:S≤4096):
    Ctr X 204 [.int .i64 (max inn out),.int .i64 (S:Int)] [] [] (fun v R' H'=>v=.int .i64 ((rdN inn out S:Nat):Int)∧R'=[]∧H'=[]):=by
 refine co Tryz.func204 ?_;intro β;apply Y 0x761eda1c1a;refine sp (Ev.cast (u:=.int .i64 (((rdN inn out S):Nat):Int)) (Ev.quo rfl rfl oe oe oe) (congrArg (Value.int .i64) (DU h0.1 h1.1 hS))) ?_;exact Zm 0x33ed91
theorem xE (SA:Option Addr)(l:List Sy)(sc:Nat)(inn:Int)(S:Nat)(hS:1≤S)(u t:Nat)(hbu:(u+1)*S≤1000000)(hbt:(t+1)*S≤1000000)(hl:l.length≤1000000)(hu:u≤1000000)(ht:t≤1000000)(hat:∀ i,i<l.length→0≤(l.getD i Sy.zero).at_∧(l.getD i Sy.zero).at_≤65536):
    Ctr X 205 [.agg (List.toArray [.slice SA l.length sc,.int .i64 inn,.int .i64 (S:Int)]),.int .i64 (u:Int),.int .i64 (t:Int)] [Rd SA (cT l)] [] (fun v R' H'=>v=.bool (gS l inn S u t)∧R'=[]∧H'=[]):=by
 refine co Tryz.func205 ?_;intro β;have hb2:(u+1)*S=u*S+S:=Nat.succ_mul u S;have m1:(u:Int)*(S:Int)=((u*S:Nat):Int):=(Int.natCast_mul u S).symm;have m2:((u+1:Nat):Int)*(S:Int)=(((u+1)*S:Nat):Int):=(Int.natCast_mul (u+1) S).symm;apply Y 0x6a;intro A3;apply Y 0x2828db549;refine L.bool 11 rfl (imp fA ?_) (imp fz ?_)<;>intro
 ·apply Y 0x11d39;refine C.cond rfl (fun _=>?_) (fun h=>by cases h);apply Y 0x6c;exact ⟨congrArg Value.bool (by unfold gS;rw [decide_eq_true (show u=t by omega)];rfl),rfl,rfl⟩
 ·apply Y 0xf963e4;refine al (fO SA l sc inn S hS u hbu hl hu) ?_;apply Zu 0x561fb8488<;>intro hg17
  ·have hcu:ij l inn S u=false:=obw;apply Y 0x139;refine C.cond rfl (fun _=>?_) (fun h=>by cases h);apply Y 0x6c;exact ⟨congrArg Value.bool (by unfold gS;rw [hcu];simp),rfl,rfl⟩
  ·have hcu:ij l inn S u=true:=obw;apply Y 0xf963e4;refine al (fO SA l sc inn S hS t hbt hl ht) ?_;apply Zu 0x3a38488<;>intro hc22
   ·have hct:ij l inn S t=false:=oai;apply Y 0x6c;exact ⟨congrArg Value.bool (by unfold gS;rw [hct];simp),rfl,rfl⟩
   ·have hct:ij l inn S t=true:=oai;apply Y 0xf875859;refine sp (Ev.cast (u:=.int .i64 (((u*S:Nat)):Int)) (Ev.mul rfl rfl QP QP) (congrArg (Value.int .i64) m1)) ?_;apply Y 0xaa1;refine lp [1,2,3] [_,_,_] (fun j:Nat=>[(7,.int .i64 (((u*S+j):Nat):Int))]) (kz [_,_]) nz (fun j=>j≤S∧∀ a,a<j→(decide (u*S+a<l.length)&&(l.getD (u*S+a) Sy.zero).old&&decide (rdT (l.getD (u*S+a) Sy.zero) S=t))=false) (fun j=>S-j) 0 ⟨Nat.zero_le _,bq⟩ (lk [0,1] []) ?_;apply Y 0xb1e;intro j hj hno;apply Y 0x9d;refine sp (Ev.cast (u:=.int .i64 (((u+1):Nat):Int)) (Ev.add rfl rfl oe oe) (congrArg (Value.int .i64) oe)) ?_;apply Y 0xf8;refine sp (Ev.cast (u:=.int .i64 ((((u+1)*S:Nat)):Int)) (Ev.mul rfl rfl oah oah) (congrArg (Value.int .i64) m2)) ?_;apply Y 0x28;refine L.bool 34 rfl (imp of_decide_eq_true ?_) (imp of_decide_eq_false ?_)<;>intro
    ·apply Zu 0x2af953ef9<;>intro
     ·apply Y 0x599;have hatk:=hat (u*S+j) oe;apply Y 0x5a3f6a3f6d90e31ead;refine sq (Ev.load rfl rfl rfl (Src.r 1 rfl) ((eK (i:=(u*S+j)) (j:=0) oe ob).trans rfl)) ?_;apply Y 0x6d;refine LQ.bool 49 rfl ?_ ?_<;>intro hg49
      ·apply Y 0x65a3f66a3f6dc90e631e6;refine sq (Ev.load rfl rfl rfl (Src.r 1 rfl) ((eK (i:=(u*S+j)) (j:=1) oe ob).trans rfl)) ?_;apply Y 0x690e631e6;refine sq (Ev.cast (u:=.int .i64 (((rdT (l.getD (u*S+j) Sy.zero) S):Nat):Int)) (Ev.quo rfl rfl oe oe oe) (congrArg (Value.int .i64) (DS hatk.1))) ?_;apply Zu 0x4d32ec96dc<;>intro
       ·have hx:(decide (u*S+j<l.length)&&(l.getD (u*S+j) Sy.zero).old&&decide (rdT (l.getD (u*S+j) Sy.zero) S=t))=true:=by rw [decide_eq_true oe,hg49,decide_eq_true oe];rfl
        apply Y 0x4b3da0e;exact ⟨congrArg Value.bool (by unfold gS;rw [decide_eq_false (show ¬u=t by omega),hcu,hct,show G0 l S u t=true from rZ (p:=fun a=>(decide (u*S+a<l.length)&&(l.getD (u*S+a) Sy.zero).old&&decide (rdT (l.getD (u*S+a) Sy.zero) S=t))) (k:=j) oe hx];rfl),rfl,rfl⟩
       have hx:(decide (u*S+j<l.length)&&(l.getD (u*S+j) Sy.zero).old&&decide (rdT (l.getD (u*S+j) Sy.zero) S=t))=false:=by rw [hg49,decide_eq_false (show ¬rdT (l.getD (u*S+j) Sy.zero) S=t by omega),Bool.and_false]
       exact Zm 0xb20f9a7a
      have hx:(decide (u*S+j<l.length)&&(l.getD (u*S+j) Sy.zero).old&&decide (rdT (l.getD (u*S+j) Sy.zero) S=t))=false:=by rw [hg49,Bool.and_false,Bool.false_and]
      apply Y 0x40ec4ed9e9b9b;refine C.cond rfl (fun h=>by cases h) (fun _=>?_);exact Zm 0xb20f9a7a
     ·have hall:G0 l S u t=false:=pt (p:=fun a=>(decide (u*S+a<l.length)&&(l.getD (u*S+a) Sy.zero).old&&decide (rdT (l.getD (u*S+a) Sy.zero) S=t))) (fun a ha=>by
       rcases Nat.lt_or_ge a j with h|h
       ·exact hno a h
       ·show (decide (u*S+a<l.length)&&(l.getD (u*S+a) Sy.zero).old&&decide (rdT (l.getD (u*S+a) Sy.zero) S=t))=false
        rw [decide_eq_false oe]
        rfl)
      exact Zm 0x4b2fd91aa9
    have hall:G0 l S u t=false:=pt (p:=fun a=>(decide (u*S+a<l.length)&&(l.getD (u*S+a) Sy.zero).old&&decide (rdT (l.getD (u*S+a) Sy.zero) S=t))) (fun a ha=>hno a oe);apply Y 0x1ea;refine C.cond rfl (fun h=>by cases h) (fun _=>?_);exact Zm 0x4b2fd91aa9
theorem BO (lf:Bool)(inn out:Int)(ops:List Po)(OA:Option Addr)(oc:Nat)(hops:ops.length≤9223372036854775807)(size:Int):
    Ctr X 132 [.agg (List.toArray [.bool lf,.int .i64 inn,.int .i64 out,.slice OA ops.length oc]),.int .i64 size] [Rd OA (ck ops)] [] (fun v R' H'=>∃ (A:Option Addr) (c:Nat) (hs:List Hd),v=.tuple #[.slice A (rdM lf inn out size ops).length c,.int .i64 (rdE lf inn out size ops)]∧R'=[Rd A (aC hs (J8 (rdM lf inn out size ops))),aS hs (J8 (rdM lf inn out size ops))]∧H'=[]∧hs.length=(rdM lf inn out size ops).length):=by
 refine co Tryz.func132 ?_;intro β;apply Y 0x6a;intro A2;apply Y 0x19a23f63edb538;intro A16 c16;apply Zu 0xdd38db55d828<;>intro hc20
 ·apply Y 0x2cecbeebe89d848;have hE:rdE lf inn out size ops=_:=H7 hc20;refine ⟨none,0,[],?_,?_,rfl,?_⟩
  ·rw [bD (by rw [hE];first|decide|exact hc20),hE];exact Zm 0x2
  ·rw [bD (by rw [hE];first|decide|exact hc20)];exact Zm 0x2
  rw [bD (by rw [hE];first|decide|exact hc20)];exact Zm 0x2
 obtain ⟨k1,k2,k3,k4,k5,k6⟩:=fM hc20;rw [show syS inn out ops=ah ops from if_pos hc20];apply Y 0x331f;intro htot;apply Zu 0x3a983b5859<;>intro hc23
 ·apply Y 0x2cecbeebe89c8;have hE:rdE lf inn out size ops=_:=H6 hc20 hc23;refine ⟨none,0,[],?_,?_,rfl,?_⟩
  ·rw [bD (by rw [hE];first|decide|exact hc20),hE];exact Zm 0x2
  ·rw [bD (by rw [hE];first|decide|exact hc20)];exact Zm 0x2
  rw [bD (by rw [hE];first|decide|exact hc20)];exact Zm 0x2
 apply Zu 0xcd2fb85859<;>intro
 ·apply Y 0x1fd;refine C.cond rfl (fun _=>?_) (fun h=>by cases h);apply Y 0xd22f2cecbeebe89c8;intro hE;refine ⟨none,0,[],?_,?_,rfl,?_⟩
  ·rw [bD (by rw [hE];first|decide|exact hc20),hE];exact Zm 0x2
  ·rw [bD (by rw [hE];first|decide|exact hc20)];exact Zm 0x2
  rw [bD (by rw [hE];first|decide|exact hc20)];exact Zm 0x2
 apply Zu 0x2af9<;>intro
 ·apply Y 0xd22f2cecbeebe89c8;intro hE;refine ⟨none,0,[],?_,?_,rfl,?_⟩
  ·rw [bD (by rw [hE];first|decide|exact hc20),hE];exact Zm 0x2
  ·rw [bD (by rw [hE];first|decide|exact hc20)];exact Zm 0x2
  rw [bD (by rw [hE];first|decide|exact hc20)];exact Zm 0x2
 apply Y 0xbd;obtain ⟨S,rfl⟩:∃ S:Nat,size=(S:Int):=⟨size.toNat,by omega⟩;apply Y 0x7ef0f3b3b78;refine al (wY inn out S ⟨by omega,by omega⟩ ⟨by omega,by omega⟩ oe oe) ?_;apply Zu 0x2a58188<;>intro
 ·apply Y 0x2cecbeebe89c8;have hE:rdE lf inn out (S:Int) ops=_:=H4 hc20 obx oe oe (by simp only [Int.toNat_natCast];omega);refine ⟨none,0,[],?_,?_,rfl,?_⟩
  ·rw [bD (by rw [hE];first|decide|exact hc20),hE];exact Zm 0x2
  ·rw [bD (by rw [hE];first|decide|exact hc20)];exact Zm 0x2
  rw [bD (by rw [hE];first|decide|exact hc20)];exact Zm 0x2
 apply Y 0xbd;have hatl:∀ i,i<(ah ops).length→0≤((ah ops).getD i Sy.zero).at_∧((ah ops).getD i Sy.zero).at_≤65536:=fun i hi=>by
  apply Y 0xe72f;intro hat;refine ⟨hat.1,?_⟩
  cases ho:((ah ops).getD i Sy.zero).old with
  |true=>have:=hat.2.1 ho;omega
  |false=>have:=hat.2.2 ho;omega
 have hsec:∀ u,u<(rdN inn out S)→(u+1)*S≤1000000:=fun u hu=>by
  have:=Nat.mul_le_mul (show u+1≤64 by omega) (show S≤4096 by omega);exact Zm 0x18
 apply Y 0x2bba73bab;intro A44;apply Y 0xa8;intro A9;apply Y 0x851faa178b2e5494c;refine lp [] [] (fun q:Nat×Option Addr×Nat×List Hd=>[(8,.int .i64 ((rdN inn out S):Int)),(9,ag A9 0),(10,.slice q.2.1 (bN (ah ops) inn S (rdN inn out S) q.1).length q.2.2.1),(11,.int .i64 (q.1:Int))]) (kzz [_,_] [] fun q=>[aS q.2.2.2 (J8 (bN (ah ops) inn S (rdN inn out S) q.1))]) (fun q=>[Own 31 1 q.2.1 (bN (ah ops) inn S (rdN inn out S) q.1).length q.2.2.1 (aC q.2.2.2 (J8 (bN (ah ops) inn S (rdN inn out S) q.1)))]) (fun q=>q.1≤(rdN inn out S)∧q.2.2.2.length=q.1) (fun q=>(rdN inn out S)-q.1) (0,A44,0,[]) ⟨Nat.zero_le _,rfl⟩ (lk [2,1,0] [0]) ?_;apply Y 0xd10f;intro u A c hs hu hhs
 dsimp only at hu hhs ⊢;apply Y 0x55;have hrl:=bW (ah ops) inn S (rdN inn out S) u;apply Zu 0x79d878<;>intro
 ·apply Y 0x2b4899;intro A50;apply Y 0xcd49;refine lp [] [] (fun q:Nat×Option Addr×Nat=>[(8,.int .i64 ((rdN inn out S):Int)),(9,ag A9 0),(10,.slice A (bN (ah ops) inn S (rdN inn out S) u).length c),(11,.int .i64 (u:Int)),(12,.slice q.2.1 (jl (ah ops) inn S u q.1).length q.2.2),(13,.int .i64 (q.1:Int))]) (kz [_,_,_]) (fun q=>[Own 3 1 q.2.1 (jl (ah ops) inn S u q.1).length q.2.2 (I64 (NI (jl (ah ops) inn S u q.1))),Own 31 1 A (bN (ah ops) inn S (rdN inn out S) u).length c (aC hs (J8 (bN (ah ops) inn S (rdN inn out S) u)))]) (fun q=>q.1≤(rdN inn out S)) (fun q=>(rdN inn out S)-q.1) (0,A50,0) (Nat.zero_le _) (lk [0,1,2] [1,0]) ?_;apply Y 0xf1e;intro t B d ht
  dsimp only at ht ⊢;apply Y 0x55;have hrr:=iA (ah ops) inn S u t;apply Zu 0x79d878<;>intro
  ·apply Y 0x28f4e4899;refine al (xE A16 (ah ops) c16 inn S oe u t (hsec u oe) (hsec t oe) oe oe oe hatl) ?_;apply Zu 0x3a9888<;>intro hc59
   ·have he:(jl (ah ops) inn S u (t+1))=(jl (ah ops) inn S u t)++[t]:=BS hc59;apply Y 0x2bac;intro A62;apply Y 0x1d2f;intro A63 cc63;apply Y 0x9a81e;refine QE.round (i:=(t,B,d)) ((t+1,A63,cc63)) ot ot (by exact lk [0,1,2] [0,1] ⟨rfl,rfl,rfl,rfl,OH,rfl,trivial⟩ (hh:=⟨(congrArg some (ay OH qd)),rfl,trivial⟩))
   have he:(jl (ah ops) inn S u (t+1))=(jl (ah ops) inn S u t):=Fp hc59;apply Y 0x9a7a;refine QE.round (i:=(t,B,d)) ((t+1,B,d)) ot ot (by exact lk [0,1,2] [0,1] ⟨rfl,rfl,rfl,rfl,Qm,rfl,trivial⟩ (hh:=⟨(congrArg some OT),rfl,trivial⟩))
  apply Y 0xa9;obtain rfl:t=(rdN inn out S):=oe;apply Y 0x2bac7c;intro A66;refine L.append (j:=0) rfl rfl rfl rfl ob rfl rfl rfl rfl (Src.o 1 rfl) rfl (by intro v hv;simp at hv;subst hv;rfl) oe QD rfl (fun A67 cc67=>?_);apply Y 0x9a81e;refine QE.more (r:=aS (hs++[(B,d)]) (J8 (bN (ah ops) inn S (rdN inn out S) u)++[I64 (NI (jl (ah ops) inn S u (rdN inn out S)))])) (dI 3 0 d rfl rfl (by rw [bS,bW];exact hhs)) ?_;refine QE.round (i:=(u,A,c,hs)) ((u+1,A67,cc67,hs++[(B,d)])) Qy ot (by exact lk [2,3,0] [0] ⟨rfl,rfl,oas,rfl,trivial⟩ (hr:=⟨rfl,rfl,(congrArg some (by dsimp only;rw [jm,← mJ])),trivial⟩) (hh:=⟨(congrArg some (ay oas (by dsimp only;rw [jm,← jd (by rw [bW];exact hhs),bm]))),trivial⟩))
 apply Y 0x130fe8d848a9;refine qrt [0,3] [] [_,_] rfl rt ?_;obtain rfl:u=(rdN inn out S):=oe;have hE:rdE lf inn out (S:Int) ops=0:=Fq hc20 obx oe oe qR;have hR:rdM lf inn out (S:Int) ops=(bN (ah ops) inn S (rdN inn out S) (rdN inn out S)):=by
  rw [xJ hE,Int.toNat_natCast]
  exact xg oe htot rfl
 rw [hR,hE,hrl];exact ⟨A,c,hs,rfl,rfl,rfl,hhs⟩
theorem DY (x:Po):∀ v∈Po.cells x,v.oneCell'=true:=by
 intro v hv
 simp only [Po.cells,List.mem_cons,List.not_mem_nil,or_false] at hv
 rcases hv with rfl|rfl|rfl|rfl|rfl<;>rfl
theorem Du {X:Cx}{β:Base}{Γ:Env}{R H:List Pr}{s d:Nat}{x:Operand}{k:IntKind}{m:Int}{q:UInt8}{i j:Ti}(hs:au s X.tab=some i)(hd:au d X.tab=some j)(hj:j.desc=.int .u8)(hx:ev Γ x=some (.int k m))(hq:m%256=(q.toNat:Int)):Ev X β Γ R H (.convert s d x) (.int .u8 (q.toNat:Int)):=
  (Ev.pure (v:=.int .u8 (IntKind.u8.wrap m)) oan).cast (by rw [show IntKind.u8.wrap m=m%256 by simp [IntKind.wrap,IntKind.bits,IntKind.signed],hq])
theorem Al {X:Cx}{β:Base}{Γ:Env}{R H:List Pr}{t ty:Nat}{x y:Operand}{a b:UInt8}(hx:ev Γ x=some (.int .u8 (a.toNat:Int)))(hy:ev Γ y=some (.int .u8 (b.toNat:Int))):Ev X β Γ R H (.binOp .add t x y ty) (.int .u8 ((a+b).toNat:Int)):=
  (Ev.pure (v:=.int .u8 (IntKind.u8.wrap ((a.toNat:Int)+(b.toNat:Int)))) (by simp [pev,hx,hy,GZ,IntKind.wrap])).cast (by rw [show IntKind.u8.wrap ((a.toNat:Int)+(b.toNat:Int))=((a.toNat:Int)+(b.toNat:Int))%256 by simp [IntKind.wrap,IntKind.bits,IntKind.signed],UInt8.toNat_add];rfl)
theorem MF (B SA:Option Addr)(old:List UInt8)(l:List Sy)(bc sc:Nat)(hl:l.length≤1000000)(hok:Bq old l):
    Ctr X 253 [.slice B old.length bc,.slice SA l.length sc] [Rd B (U8 old),Rd SA (cT l)] [] (fun v R' H'=>∃ (A:Option Addr) (c:Nat),v=.tuple #[.slice A (bf old l).length c,.int .i64 0]∧R'=[]∧H'=[Own 5 1 A (bf old l).length c (U8 (bf old l))]):=by
 refine co Tryz.func253 ?_;intro β;apply Y 0x1cc8;refine z6 (m:=l.length) rfl rfl rfl rfl rfl oaR oe rfl (fun A11=>?_);apply Y 0xaad8581;refine lp [] [] (fun q:Nat×Option Addr×Nat=>[(0,.slice B old.length bc),(12,.slice SA l.length sc),(13,.int .i64 (l.length:Int)),(14,.int .i64 (q.1:Int)),(6,.slice q.2.1 (bf old (l.take q.1)).length q.2.2)]) (kz [_,_]) (fun q=>[Own 5 1 q.2.1 (bf old (l.take q.1)).length q.2.2 (U8 (bf old (l.take q.1)))]) (fun q=>q.1≤l.length) (fun q=>l.length-q.1) (0,A11,l.length) (Nat.zero_le _) (lk [0,1] [0]) ?_;apply Y 0xf1e;intro i A c hi
 dsimp only at hi ⊢;apply Y 0xef1f;intro hrl;apply Zu 0x7930e<;>intro
 ·apply Y 0x970f4899;refine sp (ab (vs:=Sy.cells (l.getD i Sy.zero)) rfl rfl rfl (Src.r 1 rfl) (eb l i oe) rfl ob) ?_;apply Y 0xa8;intro A8;apply Y 0x984c;refine fE (fun z:UInt8=>[(0,.slice B old.length bc),(12,.slice SA l.length sc),(13,.int .i64 (l.length:Int)),(14,.int .i64 (i:Int)),(6,.slice A (bf old (l.take i)).length c),(8,ag A8 0)]) (fun z:UInt8=>[Rd B (U8 old),Rd SA (cT l)]) (fun z:UInt8=>[Own 5 1 A (bf old (l.take i)).length c (U8 (bf old (l.take i))),Own 225 3 A8 1 1 [.bool (l.getD i Sy.zero).old,.int .i64 (l.getD i Sy.zero).at_,.int .u8 (z.toNat:Int)]]) (fun z:UInt8=>z=DJ old (l.getD i Sy.zero)) ?_ ?_
  ·apply Zu 0x3a98fa48<;>intro hc19
   ·have hat:=hok i oe hc19;apply Zu 0x9d2f28fa58<;>intro
    ·exact Zm 0x18
    apply Zu 0x2a7d1ee43be4<;>intro
    ·exact Zm 0x18
    apply Y 0x59;refine aE [_,_] ⟨Has.o 1 rfl,Has.r 0 rfl,trivial⟩ ?_;apply Y 0x76e692bee4e3d63ffbe31ee4ae33be89e9ded60fdee;refine sp (Al rfl rfl) ?_;apply Y 0xfc9be9ae33be17e3;refine QE.join (((l.getD i Sy.zero).b+old.getD (l.getD i Sy.zero).at_.toNat 0)) (by unfold DJ;rw [if_pos hc19]) (lk [0,1] [0,1])
   apply Y 0x7a;refine QE.join ((l.getD i Sy.zero).b) (by unfold DJ;rw [if_neg (by rw [hc19];decide)]) (lk [0,1] [0,1])
  intro z hz;apply Y 0x2bfaab;intro A42;refine L.append (j:=0) rfl rfl rfl rfl ob rfl rfl rfl rfl (Src.o 2 rfl) rfl (dG rfl) oe oH rfl (fun A43 cc43=>?_);apply Y 0xa72f20efb81e;intro he;rw [← hz] at he;apply Y 0xdf1f;intro hel;refine QE.round (i:=(i,A,c)) ((i+1,A43,cc43)) ot ot (by exact lk [0,1] [0] ⟨rfl,rfl,rfl,rfl,qF,trivial⟩ (hh:=⟨(congrArg some (ay hel.symm Ql)),trivial⟩))
 apply Y 0x22ee8d848a9;obtain rfl:i=l.length:=oe;exact Zm 0x18e36e
theorem FZ (B:Option Addr)(b:List UInt8)(bc n:Nat)(hl:b.length≤9223372036854775807)(hn:n≤1000000):
    Ctr X 36 [.slice B b.length bc,.int .i64 (n:Int)] [Rd B (U8 b)] [] (fun v R' H'=>∃ (A:Option Addr) (c:Nat),v=.slice A (mM b n).length c∧R'=[]∧H'=[Own 5 1 A (mM b n).length c (U8 (mM b n))]):=by
 refine co Tryz.func36 ?_;intro β;apply Y 0xb50f481a;intro A8;apply Y 0xcd49;refine lp [] [] (fun q:Nat×Option Addr×Nat=>[(0,.slice B b.length bc),(1,.int .i64 (n:Int)),(6,.int .i64 (q.1:Int)),(5,.slice q.2.1 (mM b q.1).length q.2.2)]) (kz [_]) (fun q=>[Own 5 1 q.2.1 (mM b q.1).length q.2.2 (U8 (mM b q.1))]) (fun q=>q.1≤n) (fun q=>n-q.1) (0,A8,0) (Nat.zero_le _) (lk [0] [0]) ?_;apply Y 0xf1e;intro i A c hi
 dsimp only at hi ⊢;have hrl:=tO b i;apply Zu 0x79d858<;>intro
 ·apply Y 0xb999;refine sp (Ev.cast (u:=.int .i64 ((7*i:Nat):Int)) (Ev.mul rfl rfl oe oe) (congrArg (Value.int .i64) oe)) ?_;refine sp (Du (q:=UInt8.ofNat (7*i%256)) rfl rfl rfl rfl (by rw [UInt8.toNat_ofNat'];omega)) ?_;apply Y 0x1;refine fE (fun z:UInt8=>[(0,.slice B b.length bc),(1,.int .i64 (n:Int)),(6,.int .i64 (i:Int)),(5,.slice A (mM b i).length c),(7,.int .u8 (z.toNat:Int))]) (fun z:UInt8=>[Rd B (U8 b)]) (fun z:UInt8=>[Own 5 1 A (mM b i).length c (U8 (mM b i))]) (fun z:UInt8=>z=IN b i) ?_ ?_
  ·apply Zu 0x2a1c<;>intro
   ·apply Y 0xac;refine sp (ae (k:=i) rfl rfl rfl rfl rfl rfl rfl oe (Src.r 0 rfl) oG) ?_;apply Y 0x81e2be;refine QE.join (b.getD i 0) (by unfold IN;rw [if_pos oe]) (lk [0] [0])
   apply Y 0x7a;refine QE.join (UInt8.ofNat (7*i%256)) (by unfold IN;rw [if_neg oe]) (lk [0] [0])
  intro z hz;apply Y 0x2bac;intro A27;apply Y 0xdc2f;intro A28 cc28;apply Y 0x9a81e;have he:=yM b i;rw [← hz] at he;have hel:(mM b (i+1)).length=(mM b i).length+1:=qf;refine QE.round (i:=(i,A,c)) ((i+1,A28,cc28)) ot ot (by exact lk [0] [0] ⟨rfl,rfl,rfl,qF,trivial⟩ (hh:=⟨(congrArg some (ay hel.symm Ql)),trivial⟩))
 apply Y 0x91ee8c8a9;obtain rfl:i=n:=oe;exact Zm 0x18e
theorem uB {old:List UInt8}{inn out:Int}{ops:List Po}(hE:cF inn out ops=0)(hin:inn=(old.length:Int)):Bq old (syS inn out ops)∧(syS inn out ops).length≤1000000:=by
 apply Y 0x100f;intro k1 k2 k3 k4 k5 k6;apply Y 0x710f;intro hs;apply Y 0x331f;intro htot;rw [hs];refine ⟨fun i hi ho=>?_,by omega⟩;apply Y 0xe72f;intro hat;have:=hat.2.1 ho;exact Zm 0x18
theorem zR (B:Option Addr)(old:List UInt8)(bc:Nat)(lf:Bool)(inn out:Int)(ops:List Po)(OA:Option Addr)(oc:Nat)(hops:ops.length≤9223372036854775807)(hlf:lf=false)(hE:cF inn out ops=0)(hin:inn=(old.length:Int)):
    Ctr X 225 [.slice B old.length bc,.agg (List.toArray [.bool lf,.int .i64 inn,.int .i64 out,.slice OA ops.length oc])] [Rd B (U8 old),Rd OA (ck ops)] [] (fun v R' H'=>∃ (A:Option Addr) (c:Nat),v=.tuple #[.slice A (bf old (syS inn out ops)).length c,.int .i64 0]∧R'=[]∧H'=[Own 5 1 A (bf old (syS inn out ops)).length c (U8 (bf old (syS inn out ops)))]):=by
 refine co Tryz.func225 ?_;intro β;have hrun:=uB hE hin;apply Y 0x6a;intro A3;apply Y 0x19991f98edb538;intro SA sc;apply Zu 0xdd38db55d8284a<;>intro hc18
 ·exact absurd hE hc18
 apply Zu 0x3a983b5859<;>intro hc21
 ·rw [hlf] at hc21
  cases hc21
 apply Zu 0xdd13b9d59<;>intro
 ·exact Zm 0x18
 apply Y 0x1c59;refine al (MF B SA old (syS inn out ops) bc sc hrun.2 hrun.1) ?_;apply Y 0x19;intro YA yc;apply Y 0xb858d8284a;refine L.bool 44 rfl (imp mC ?_) (imp mD ?_)<;>intro hg44
 ·exact absurd rfl hg44
 apply Zu 0x3a384a1e480e4<;>intro hc48
 ·exact Zm 0xd41f22e89381c
 rw [hlf] at hc48
 cases hc48
theorem Dm {l:List Nat}{i:Nat}(h:i<l.length):(I64 (NI l))[i]?=some (.int .i64 ((l.getD i 0:Nat):Int)):=by simp [I64,NI,h]
theorem Eb (a b:Int):
    Ctr X 236 [.int .i64 a,.int .i64 b] [] [] (fun v R' H'=>v=.bool (decide (1≤a)&&decide (a≤b))∧R'=[]∧H'=[]):=by
 refine co Tryz.func236 ?_;intro β;apply Y 0xb8481a;refine L.bool 7 rfl (imp of_decide_eq_true ?_) (imp of_decide_eq_false ?_)<;>intro
 ·apply Y 0xecd9d87d
  simp [*]
 apply Y 0xecd938ca
 simp [*]
theorem EW (sz n:Int)(lf:Bool)(inn out:Int)(ops:List Po)(OA:Option Addr)(oc:Nat)(qv hv:Value):
    Ctr X 195 [.agg (List.toArray [.int .i64 sz,.int .i64 n,.bool lf,.int .i64 inn,.int .i64 out,.slice OA ops.length oc,qv,hv])] [] [] (fun v R' H'=>v=.bool (kb sz n inn out)∧R'=[]∧H'=[]):=by
 refine co Tryz.func195 ?_;intro β;apply Y 0x6a;intro A1;apply Y 0xf8b91db49;refine j6 (js:=[]) (js':=[]) (Eb sz 4096) rfl rfl rfl rfl rfl ob trivial rfl ?_;apply Zu 0xe61f788<;>intro hg8
 ·simp only [Bool.and_eq_true,decide_eq_true_eq] at hg8;apply Y 0x453ef9;refine j6 (js:=[]) (js':=[]) (Eb n 64) rfl rfl rfl rfl rfl ob trivial rfl ?_;apply Y 0x2888;refine L.bool 14 rfl ?_ ?_<;>intro hg14
  ·simp only [Bool.and_eq_true,decide_eq_true_eq] at hg14;have hp:=xR hg8.1 hg8.2 hg14.1 hg14.2;exact Zm 0xbb2fd9d8415e4ebebef0f453e5be453e5be4
  first
   |simp only [Bool.and_eq_false_iff,decide_eq_false_iff_not] at hg14
   |skip
  exact Zm 0x300fd938ea3939
 simp only [Bool.and_eq_false_iff,decide_eq_false_iff_not] at hg8;exact Zm 0x300fd938ea391d39
theorem wT (sz n:Int)(lf:Bool)(inn out:Int)(ops:List Po)(OA:Option Addr)(oc:Nat)(qv hv:Value):
    Ctr X 75 [.agg (List.toArray [.int .i64 sz,.int .i64 n,.bool lf,.int .i64 inn,.int .i64 out,.slice OA ops.length oc,qv,hv])] [] [] (fun v R' H'=>v=.bool (kb sz n inn out)∧R'=[]∧H'=[]):=by
 refine co Tryz.func75 ?_;intro β;apply Y 0x6a;intro A1;apply Y 0x28f8db49;refine L.bool 6 rfl (imp of_decide_eq_true ?_) (imp of_decide_eq_false ?_)<;>intro
 ·apply Zu 0xe51fb84eb<;>intro
  ·apply Zu 0x461fb84eb<;>intro
   ·apply Zu 0x761fb84eb<;>intro
    ·have hp:=xR (a:=sz) (b:=n) oe oe oe oe;apply Y 0xb8415e4ebeb53e5be4;refine L.bool 32 rfl (imp of_decide_eq_true ?_) (imp of_decide_eq_false ?_)<;>intro
     ·exact Zm 0xbb2fd9d8415e4ebeb53e5be4
     exact Zm 0x300fd938ea39
    exact Zm 0x300fd938ea1dea39
   exact Zm 0x300fd938ea1dea1dca
  exact Zm 0x300fd938ea1dea1dca28ca
 exact Zm 0x300fd938ea1dea1dca28ca28ca
theorem dV (A:Option Addr)(l:List Int)(c:Nat)(n:Int)(hl:l.length≤9223372036854775807):
    Ctr X 134 [.slice A l.length c,.int .i64 n] [Rd A (I64 l)] [] (fun v R' H'=>v=.int .i64 (eB l n)∧R'=[]∧H'=[]):=by
 refine co Tryz.func134 ?_;intro β;apply Y 0xcd30e;refine lp [0,1] [_,_] (fun k:Nat=>[(5,.int .i64 (k:Int))]) (kz [_]) nz (fun k=>k≤l.length∧∀ i,i<k→l.getD i 0≠n) (fun k=>l.length-k) 0 ⟨Nat.zero_le _,bq⟩ (lk [0] []) ?_;apply Y 0xb1e;intro k hk hno;apply Zu 0x2a9d<;>intro
 ·apply Zu 0x4d38230f9b1f1c99<;>intro hc17
  ·apply Y 0x4b3d2dc8;exact ⟨congrArg (Value.int .i64) (Cw oe hno hc17).symm,rfl,rfl⟩
  exact Zm 0x713f9a7a
 apply Y 0xd91aa9;exact ⟨congrArg (Value.int .i64) (F2 (fun i hi=>hno i oe)).symm,rfl,rfl⟩
theorem yl (CA LA:Option Addr)(cs l:List Nat)(cc lc:Nat)(hcl:cs.length≤1000000)(hl:l.length≤1000000)(hlt:∀ i,i<l.length→l.getD i 0<cs.length):
    Ctr X 79 [.slice CA cs.length cc,.slice LA l.length lc] [Rd CA (I64 (NI cs)),Rd LA (I64 (NI l))] [] (fun v R' H'=>∃ (A:Option Addr) (c:Nat),v=.slice A (iF cs l).length c∧R'=[]∧H'=[Own 3 1 A (iF cs l).length c (I64 (NI (iF cs l)))]):=by
 refine co Tryz.func79 ?_;intro β;apply Y 0x2b481a;intro A7;apply Y 0xcd49;refine lp [] [] (fun q:Nat×Option Addr×Nat=>[(0,.slice CA cs.length cc),(1,.slice LA l.length lc),(6,.int .i64 (q.1:Int)),(5,.slice q.2.1 (iF cs (l.take q.1)).length q.2.2)]) (kz [_,_]) (fun q=>[Own 3 1 q.2.1 (iF cs (l.take q.1)).length q.2.2 (I64 (NI (iF cs (l.take q.1))))]) (fun q=>q.1≤l.length) (fun q=>l.length-q.1) (0,A7,0) (Nat.zero_le _) (lk [0,1] [0]) ?_;apply Y 0xf1e;intro i A c hi
 dsimp only at hi ⊢;apply Zu 0x2a9d<;>intro
 ·apply Y 0x99;have hli:=hlt i oe;have hrl:=iE cs (l.take i);rw [List.length_take] at hrl;apply Y 0x28ac;refine sp (ae (k:=i) rfl rfl rfl rfl rfl rfl rfl oe (Src.r 1 rfl) Qq) ?_;refine sp (Ev.load rfl rfl rfl (Src.r 1 rfl) (Dm oe)) ?_;refine sp (ae (k:=(l.getD i 0)) rfl rfl rfl rfl rfl rfl rfl hli (Src.r 0 rfl) Qq) ?_;refine sp (Ev.load rfl rfl rfl (Src.r 0 rfl) (Dm hli)) ?_;apply Y 0x2b;intro A22;refine L.append (j:=0) rfl rfl rfl rfl ob rfl rfl rfl rfl (Src.o 1 rfl) rfl (dG rfl) (by rw [iE,List.length_take];omega) oU rfl (fun A23 cc23=>?_);apply Y 0x9a81e;have he:=ym cs l (i:=i) oe;have hel:(iF cs (l.take (i+1))).length=(iF cs (l.take i)).length+1:=qf;refine QE.round (i:=(i,A,c)) ((i+1,A23,cc23)) ot ot (by exact lk [0,1] [0] ⟨rfl,rfl,rfl,qF,trivial⟩ (hh:=⟨(congrArg some (ay hel.symm qd)),trivial⟩))
 apply Y 0x91ee8c8a9;obtain rfl:i=l.length:=oe;exact Zm 0x18e36e
theorem vB (S n:Nat)(lf:Bool)(inn out:Int)(ops:List Po)(OA:Option Addr)(oc:Nat)(qv hv:Value)(hops:ops.length≤9223372036854775807)(hS1:1≤S)(hS2:S≤4096)(hn1:1≤n)(hn2:n≤64)(hE:cF inn out ops=0):
    Ctr X 196 [.agg (List.toArray [.int .i64 (S:Int),.int .i64 (n:Int),.bool lf,.int .i64 inn,.int .i64 out,.slice OA ops.length oc,qv,hv])] [Rd OA (ck ops)] [] (fun v R' H'=>∃ (A:Option Addr) (c:Nat),v=.slice A (aH (ah ops) inn S n).length c∧R'=[]∧H'=[Own 3 1 A (aH (ah ops) inn S n).length c (I64 (NI (aH (ah ops) inn S n)))]):=by
 refine co Tryz.func196 ?_;intro β;apply Y 0x100f;intro k1 k2 k3 k4 k5 k6;apply Y 0x710f;intro hsy;apply Y 0x1de;intro hsl;apply Y 0x540f;intro hnS;apply Y 0x6a;intro A1;apply Y 0x991f98e21edb49;rw [hsy];apply Y 0x19;intro SA sc;apply Y 0xaa13b78320f549db5d8284a;refine lp [] [] (fun q:Nat×Option Addr×Nat=>[(1,ag A1 0),(3,.slice SA (ah ops).length sc),(15,.int .i64 (n:Int)),(16,.int .i64 (q.1:Int)),(5,.slice q.2.1 (aH (ah ops) inn S q.1).length q.2.2)]) (kz [_,_,_]) (fun q=>[Own 3 1 q.2.1 (aH (ah ops) inn S q.1).length q.2.2 (I64 (NI (aH (ah ops) inn S q.1)))]) (fun q=>q.1≤n) (fun q=>n-q.1) (0,none,0) (Nat.zero_le _) (lk [0,1,2] [0]) ?_;apply Y 0xf1e;intro t A c hi
 dsimp only at hi ⊢;apply Zu 0x7930e<;>intro
 ·apply Y 0xb72f5c899;intro hlt;apply Y 0x190f;intro m1;apply Y 0x221f;intro m2;apply Y 0xf80f;intro hb2;apply Y 0xaa1df0f3bab;refine lp [] [] (fun j:Nat=>[(1,ag A1 0),(3,.slice SA (ah ops).length sc),(15,.int .i64 (n:Int)),(16,.int .i64 (t:Int)),(6,.int .i64 (t:Int)),(5,.slice A (aH (ah ops) inn S t).length c),(7,.int .i64 (((t*S+j):Nat):Int))]) (kz [_,_,_]) (kz [_]) (fun j=>j≤S∧∀ a,a<j→chY (ah ops) inn (t*S+a)=false) (fun j=>S-j) 0 ⟨Nat.zero_le _,bq⟩ (lk [0,1,2] [0]) ?_;apply Y 0xb1e;intro j hj hno;apply Y 0x3b80e283b1f3b4b1f9d;refine sp (Ev.cast (u:=.int .i64 (max ((ah ops).length:Int) inn)) (Ev.pure rfl) (congrArg (Value.int .i64) O7)) ?_;refine sp (Ev.cast (u:=.int .i64 (min (((t+1)*S:Nat):Int) (max ((ah ops).length:Int) inn))) (Ev.pure rfl) (congrArg (Value.int .i64) Qj)) ?_;apply Zu 0x791<;>intro
  ·apply Y 0xb81c99;refine L.bool 43 rfl (imp of_decide_eq_true ?_) (imp of_decide_eq_false ?_)<;>intro
   ·have hx:chY (ah ops) inn (t*S+j)=true:=by unfold chY;rw [if_neg oe];exact decide_eq_true oe
    apply Y 0x1ca39;refine C.cond rfl (fun _=>?_) (fun h=>by cases h);apply Y 0x231f5;intro hrl;apply Y 0x2bac;intro A54;apply Y 0x750f;intro A55 cc55;apply Y 0x912f20efb340f1e0f39e1;intro hx0;have he:=mw hx0;apply Y 0x421f;intro hel;exact Zm 0x113f
   apply Y 0x7d;refine sp (cn (k:=(t*S+j)) (m:=(t*S+j)*3) rfl rfl rfl rfl rfl rfl oe (Src.r 0 rfl) (dx (k:=(t*S+j)) oe) rfl) ?_;apply Y 0x4;refine sp (ab (vs:=Sy.cells ((ah ops).getD (t*S+j) Sy.zero)) rfl rfl rfl (Src.r 0 rfl) (eb (ah ops) (t*S+j) oe) rfl ob) ?_;apply Y 0x4baf9;refine sp (mK (a:=((ah ops).getD (t*S+j) Sy.zero)) (b:=⟨true,(((t*S+j):Nat):Int),0⟩) rfl rfl) ?_;apply Zu 0x3a1<;>intro hc51
   ·have hx:chY (ah ops) inn (t*S+j)=true:=by unfold chY;rw [if_pos oe];exact hc51
    apply Y 0x231f5;intro hrl;apply Y 0x2bac;intro A54;apply Y 0x750f;intro A55 cc55;apply Y 0x912f20efb340f1e0f39e1;intro hx0;have he:=mw hx0;apply Y 0x421f;intro hel;exact Zm 0x113f
   have hx:chY (ah ops) inn (t*S+j)=false:=by unfold chY;rw [if_pos oe];exact hc51
   apply Y 0x9a7a;refine QE.round (j+1) qC oe (lk [0,1,2] [0])
  apply Y 0x20efbe5e;have hx0:ij (ah ops) inn S t=false:=Gt hno oe;have he:=zE hx0;refine QE.round (i:=(t,A,c)) ((t+1,A,c)) ot ot (by exact lk [0,1,2] [0] ⟨rfl,rfl,rfl,rfl,Qm,trivial⟩ (hh:=⟨(congrArg some OT),trivial⟩))
 apply Y 0x91ee8c8a9;obtain rfl:t=n:=oe;exact Zm 0x18e
theorem fN (S n:Nat)(lf:Bool)(inn out:Int)(ops:List Po)(OA:Option Addr)(oc:Nat)(qv hv:Value)(hops:ops.length≤9223372036854775807)(hS1:1≤S)(hS2:S≤4096)(hn1:1≤n)(hn2:n≤64)(hE:cF inn out ops=0):
    Ctr X 76 [.agg (List.toArray [.int .i64 (S:Int),.int .i64 (n:Int),.bool lf,.int .i64 inn,.int .i64 out,.slice OA ops.length oc,qv,hv])] [Rd OA (ck ops)] [] (fun v R' H'=>∃ (A:Option Addr) (c:Nat),v=.slice A (aH (ah ops) inn S n).length c∧R'=[]∧H'=[Own 3 1 A (aH (ah ops) inn S n).length c (I64 (NI (aH (ah ops) inn S n)))]):=by
 refine co Tryz.func76 ?_;intro β;apply Y 0x100f;intro k1 k2 k3 k4 k5 k6;apply Y 0x710f;intro hsy;apply Y 0x1de;intro hsl;apply Y 0x540f;intro hnS;apply Y 0x6a;intro A1;apply Y 0xa23f98e21edb49;rw [hsy];apply Y 0x19;intro SA sc;apply Y 0x2bdb5d8284a;intro A13;apply Y 0xcd49;refine lp [] [] (fun q:Nat×Option Addr×Nat=>[(1,ag A1 0),(3,.slice SA (ah ops).length sc),(6,.int .i64 (q.1:Int)),(5,.slice q.2.1 (aH (ah ops) inn S q.1).length q.2.2)]) (kz [_,_,_]) (fun q=>[Own 3 1 q.2.1 (aH (ah ops) inn S q.1).length q.2.2 (I64 (NI (aH (ah ops) inn S q.1)))]) (fun q=>q.1≤n) (fun q=>n-q.1) (0,A13,0) (Nat.zero_le _) (lk [0,1,2] [0]) ?_;apply Y 0xf1e;intro t A c hi
 dsimp only at hi ⊢;apply Zu 0x7913b758<;>intro
 ·apply Y 0xb72f599;intro hlt;apply Y 0xf80f;intro hb2;apply Y 0x7ba3b3b80eab;refine al (fO SA (ah ops) sc inn S hS1 t oe oe oe) ?_;apply Zu 0x3a984a88<;>intro hc28
  ·apply Y 0x231f;intro hrl;apply Y 0x2bac;intro A31;apply Y 0x750f;intro A32 cc32;apply Y 0x9a81e;have he:=mw hc28;apply Y 0x421f;intro hel;refine QE.round (i:=(t,A,c)) ((t+1,A32,cc32)) ot ot (by exact lk [0,1,2] [0] ⟨rfl,rfl,rfl,qF,trivial⟩ (hh:=⟨(congrArg some (ay hel.symm qd)),trivial⟩))
  apply Y 0x9a7a;have he:=zE hc28;refine QE.round (i:=(t,A,c)) ((t+1,A,c)) ot ot (by exact lk [0,1,2] [0] ⟨rfl,rfl,rfl,Qm,trivial⟩ (hh:=⟨(congrArg some OT),trivial⟩))
 apply Y 0x91ee8c8a9;obtain rfl:t=n:=oe;exact Zm 0x18e
theorem l6 {l:List Nat}{i:Nat}(h:i<l.length):l.getD i 0∈l:=by
 exact Zm 0xe40f580f
theorem Ck {s n:Nat}(hs:s<2^n){t:Nat}(h:t∈mem s 64):t<n:=by
 unfold mem at h;rw [List.mem_filter] at h;refine Nat.lt_of_not_le fun g=>?_
 have:=Nat.testBit_lt_two_pow (x:=s) (i:=t) (Nat.lt_of_lt_of_le hs (Nat.pow_le_pow_right ob g));rw [this] at h
 cases h.2
theorem MS {s n:Nat}(hs:s<2^n)(hn:n≤16):(mem s 64).length≤16:=by
 have e:mem s 64=(List.range n).filter s.testBit:=by
  unfold mem
  exact jE (fun t ht=>Nat.testBit_lt_two_pow (Nat.lt_of_lt_of_le hs (Nat.pow_le_pow_right ob ht))) oe
 rw [e];have:=List.length_filter_le s.testBit (List.range n);rw [List.length_range] at this;exact Zm 0x18
theorem nr (S n:Nat)(inn out:Int)(ops:List Po)(OA:Option Addr)(oc:Nat)(qv hv:Value)(hops:ops.length≤9223372036854775807)(hS1:1≤S)(hS2:S≤4096)(hn1:1≤n)(hn2:n≤64)(hE:cF inn out ops=0)(hi1:inn≤(S:Int)*(n:Int))(hi2:out≤(S:Int)*(n:Int)):
    Ctr X 201 [.agg (List.toArray [.int .i64 (S:Int),.int .i64 (n:Int),.bool false,.int .i64 inn,.int .i64 out,.slice OA ops.length oc,qv,hv])] [Rd OA (ck ops)] [] (fun v R' H'=>∃ (A:Option Addr) (hs:List Hd),v=.slice A n n∧R'=[Rd A (aC hs (J8 (bN (ah ops) inn S n n))),aS hs (J8 (bN (ah ops) inn S n n))]∧H'=[]∧hs.length=n):=by
 refine co Tryz.func201 ?_;intro β;apply Y 0x100f;intro k1 k2 k3 k4 k5 k6;apply Y 0x710f;intro hsy;apply Y 0x1de;intro hsl;apply Y 0x540f;intro hnS;apply Y 0xe82f;intro r1 r2 r3 r4;apply Y 0xe31f;intro hpad;apply Y 0xd31f;intro hml;apply Y 0x6a;intro A1;apply Y 0xf8db49;refine kU (m:=n) rfl rfl rfl rfl rfl rfl rfl rfl rfl obs oe rfl (fun A8=>?_);apply Y 0xf898e21e481;refine aL (BP false inn out ops OA oc hops (S:Int)) ?_;rw [r1,r2];apply Y 0x6ee;intro MA mc hs hhs;apply Y 0x1cd828;refine L.copy (j:=0) (o:=0) rfl rfl rfl rfl rfl (fun g hg _=>hg) rfl rfl (Src.r 0 rfl) (by rw [bB obt,bS,hml];omega) (xi _ _) (by rw [bB obt,bS,hml,List.length_replicate];omega) rfl ?_;apply Y 0x130fe8c898;refine QE.more (r:=aS (hs++List.replicate (n-(bN (ah ops) inn S (rdN inn out S) (rdN inn out S)).length) (none,0)) (J8 (DZ (bN (ah ops) inn S (rdN inn out S) (rdN inn out S)) n))) (sb 2 rfl hhs _) ?_;refine qrt [1,0] [] [_] rfl rt ?_;refine ⟨A8,hs++List.replicate (n-(bN (ah ops) inn S (rdN inn out S) (rdN inn out S)).length) (none,0),rfl,?_,rfl,by rw [List.length_append,List.length_replicate,hhs,hml];omega⟩;rw [← hpad];have he:∀ q:Nat,List.drop (0+(aC hs (J8 (bN (ah ops) inn S (rdN inn out S) (rdN inn out S)))).length) (List.replicate n (Value.slice none 0 0))=List.replicate (n-(bN (ah ops) inn S (rdN inn out S) (rdN inn out S)).length) (Value.slice none 0 0):=fun _=>by rw [Nat.zero_add,bB obt,bS,List.drop_replicate]
 show [Rd A8 (List.take 0 _++aC hs (J8 (bN (ah ops) inn S (rdN inn out S) (rdN inn out S)))++List.drop (0+(aC hs (J8 (bN (ah ops) inn S (rdN inn out S) (rdN inn out S)))).length) (List.replicate n (Value.slice none 0 0))),_]=_;rw [he 0,List.take_zero,List.nil_append,Bt hhs]
end Go.Proofs.YtbpddeiogcgegaaGreat
