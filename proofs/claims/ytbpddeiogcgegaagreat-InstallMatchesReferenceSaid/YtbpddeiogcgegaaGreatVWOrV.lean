/-
  Part of a proof.
-/
import Derived.Test.YtbpddeiogcgegaaGreatVWOrS
set_option maxHeartbeats 0
set_option maxRecDepth 4000
set_option linter.all false
namespace Go.Proofs.YtbpddeiogcgegaaGreat
open Go.Sl
theorem xS (inn out:Int)(S:Nat)(h0:0≤inn∧inn≤65536)(h1:0≤out∧out≤65536)(hS:1≤S)(hS2:S≤4096):
    Ctr X 204 [.int .i64 (max inn out),.int .i64 (S:Int)] [] [] (fun v R' H'=>v=.int .i64 ((rdN inn out S:Nat):Int)∧R'=[]∧H'=[]):=by
 refine co Tryz.func204 ?_;intro β;apply Y 0x6c1eca2dc9;refine sp (Ev.cast (u:=.int .i64 (((rdN inn out S):Nat):Int)) (Ev.quo rfl rfl oe oe oe) (congrArg (Value.int .i64) (EP h0.1 h1.1 hS))) ?_;exact Zm 0x53ed91
theorem yr (SA:Option Addr)(l:List Sy)(sc:Nat)(inn:Int)(S:Nat)(hS:1≤S)(u t:Nat)(hbu:(u+1)*S≤1000000)(hbt:(t+1)*S≤1000000)(hl:l.length≤1000000)(hu:u≤1000000)(ht:t≤1000000)(hat:∀ i,i<l.length→0≤(l.getD i Sy.zero).at_∧(l.getD i Sy.zero).at_≤65536):
    Ctr X 205 [.agg (List.toArray [.slice SA l.length sc,.int .i64 inn,.int .i64 (S:Int)]),.int .i64 (u:Int),.int .i64 (t:Int)] [Rd SA (cU l)] [] (fun v R' H'=>v=.bool (ib l inn S u t)∧R'=[]∧H'=[]):=by
 refine co Tryz.func205 ?_;intro β;have hb2:(u+1)*S=u*S+S:=Nat.succ_mul u S;have m1:(u:Int)*(S:Int)=((u*S:Nat):Int):=(Int.natCast_mul u S).symm;have m2:((u+1:Nat):Int)*(S:Int)=(((u+1)*S:Nat):Int):=(Int.natCast_mul (u+1) S).symm;apply Y 0x4a;intro A3;apply Y 0x48487c549;refine L.bool 11 rfl (imp fA ?_) (imp fz ?_)<;>intro
 ·apply Y 0x1ea39;refine C.cond rfl (fun _=>?_) (fun h=>by cases h);apply Y 0x4c;exact ⟨congrArg Value.bool (by unfold ib;rw [decide_eq_true (show u=t by omega)];rfl),rfl,rfl⟩
 ·apply Y 0xb9c3e4;refine al (fV SA l sc inn S hS u hbu hl hu) ?_;apply Zu 0xb71fb84a8<;>intro hg17
  ·have hcu:iC l inn S u=false:=obJ;apply Y 0x139;refine C.cond rfl (fun _=>?_) (fun h=>by cases h);apply Y 0x4c;exact ⟨congrArg Value.bool (by unfold ib;rw [hcu];simp),rfl,rfl⟩
  ·have hcu:iC l inn S u=true:=obJ;apply Y 0xb9c3e4;refine al (fV SA l sc inn S hS t hbt hl ht) ?_;apply Zu 0x1a384a8<;>intro hc22
   ·have hct:iC l inn S t=false:=oao;apply Y 0x4c;exact ⟨congrArg Value.bool (by unfold ib;rw [hct];simp),rfl,rfl⟩
   ·have hct:iC l inn S t=true:=oao;apply Y 0xf865899;refine sp (Ev.cast (u:=.int .i64 (((u*S:Nat)):Int)) (Ev.mul rfl rfl QS QS) (congrArg (Value.int .i64) m1)) ?_;apply Y 0xba1;refine lp [1,2,3] [_,_,_] (fun j:Nat=>[(7,.int .i64 (((u*S+j):Nat):Int))]) (kz [_,_]) nz (fun j=>j≤S∧∀ a,a<j→(decide (u*S+a<l.length)&&(l.getD (u*S+a) Sy.zero).old&&decide (rdT (l.getD (u*S+a) Sy.zero) S=t))=false) (fun j=>S-j) 0 ⟨Nat.zero_le _,br⟩ (lk [0,1] []) ?_;apply Y 0xa1e;intro j hj hno;apply Y 0xbd;refine sp (Ev.cast (u:=.int .i64 (((u+1):Nat):Int)) (Ev.add rfl rfl oe oe) (congrArg (Value.int .i64) oe)) ?_;apply Y 0xf8;refine sp (Ev.cast (u:=.int .i64 ((((u+1)*S:Nat)):Int)) (Ev.mul rfl rfl oan oan) (congrArg (Value.int .i64) m2)) ?_;apply Y 0x48;refine L.bool 34 rfl (imp of_decide_eq_true ?_) (imp of_decide_eq_false ?_)<;>intro
    ·apply Zu 0xe9b9b2eb9<;>intro
     ·apply Y 0x589;have hatk:=hat (u*S+j) oe;apply Y 0xd14fe14ffc50ea0e6d;refine sq (Ev.load rfl rfl rfl (Src.r 1 rfl) ((eV (i:=(u*S+j)) (j:=0) oe ob).trans rfl)) ?_;apply Y 0xfc;refine LQ.bool 49 rfl ?_ ?_<;>intro hg49
      ·apply Y 0x28d14f28e14f283d50e28a0e28;refine sq (Ev.load rfl rfl rfl (Src.r 1 rfl) ((eV (i:=(u*S+j)) (j:=1) oe ob).trans rfl)) ?_;apply Y 0x2850e28a0e28;refine sq (Ev.cast (u:=.int .i64 (((rdT (l.getD (u*S+j) Sy.zero) S):Nat):Int)) (Ev.quo rfl rfl oe oe oe) (congrArg (Value.int .i64) (EN hatk.1))) ?_;apply Zu 0xec52e2a283d<;>intro
       ·have hx:(decide (u*S+j<l.length)&&(l.getD (u*S+j) Sy.zero).old&&decide (rdT (l.getD (u*S+j) Sy.zero) S=t))=true:=by rw [decide_eq_true oe,hg49,decide_eq_true oe];rfl
        apply Y 0x8bdc70e;exact ⟨congrArg Value.bool (by unfold ib;rw [decide_eq_false (show ¬u=t by omega),hcu,hct,show HU l S u t=true from sY (p:=fun a=>(decide (u*S+a<l.length)&&(l.getD (u*S+a) Sy.zero).old&&decide (rdT (l.getD (u*S+a) Sy.zero) S=t))) (k:=j) oe hx];rfl),rfl,rfl⟩
       have hx:(decide (u*S+j<l.length)&&(l.getD (u*S+j) Sy.zero).old&&decide (rdT (l.getD (u*S+j) Sy.zero) S=t))=false:=by rw [hg49,decide_eq_false (show ¬rdT (l.getD (u*S+j) Sy.zero) S=t by omega),Bool.and_false]
       exact Zm 0xe30f8a5a
      have hx:(decide (u*S+j<l.length)&&(l.getD (u*S+j) Sy.zero).old&&decide (rdT (l.getD (u*S+j) Sy.zero) S=t))=false:=by rw [hg49,Bool.and_false,Bool.false_and]
      apply Y 0x80ee4e3aefbfb;refine C.cond rfl (fun h=>by cases h) (fun _=>?_);exact Zm 0xe30f8a5a
     ·have hall:HU l S u t=false:=p9 (p:=fun a=>(decide (u*S+a<l.length)&&(l.getD (u*S+a) Sy.zero).old&&decide (rdT (l.getD (u*S+a) Sy.zero) S=t))) (fun a ha=>by
       rcases Nat.lt_or_ge a j with h|h
       ·exact hno a h
       ·show (decide (u*S+a<l.length)&&(l.getD (u*S+a) Sy.zero).old&&decide (rdT (l.getD (u*S+a) Sy.zero) S=t))=false
        rw [decide_eq_false oe]
        rfl)
      exact Zm 0xdd2fd9c9a9
    have hall:HU l S u t=false:=p9 (p:=fun a=>(decide (u*S+a<l.length)&&(l.getD (u*S+a) Sy.zero).old&&decide (rdT (l.getD (u*S+a) Sy.zero) S=t))) (fun a ha=>hno a oe);apply Y 0x11d;refine C.cond rfl (fun h=>by cases h) (fun _=>?_);exact Zm 0xdd2fd9c9a9
theorem CL (lf:Bool)(inn out:Int)(ops:List Po)(OA:Option Addr)(oc:Nat)(hops:ops.length≤9223372036854775807)(size:Int):
    Ctr X 132 [.agg (List.toArray [.bool lf,.int .i64 inn,.int .i64 out,.slice OA ops.length oc]),.int .i64 size] [Rd OA (bZ ops)] [] (fun v R' H'=>∃ (A:Option Addr) (c:Nat) (hs:List Hd),v=.tuple #[.slice A (rdM lf inn out size ops).length c,.int .i64 (rdE lf inn out size ops)]∧R'=[Rd A (ay hs (J8 (rdM lf inn out size ops))),KidsR hs (J8 (rdM lf inn out size ops))]∧H'=[]∧hs.length=(rdM lf inn out size ops).length):=by
 refine co Tryz.func132 ?_;intro β;apply Y 0x4a;intro A2;apply Y 0x19f83fc3e7c538;intro A16 c16;apply Zu 0x5d387c55e848<;>intro hc20
 ·apply Y 0x7ce1ce3ce59e87;have hE:rdE lf inn out size ops=_:=ID hc20;refine ⟨none,0,[],?_,?_,rfl,?_⟩
  ·rw [bE (by rw [hE];first|decide|exact hc20),hE];exact Zm 0x2
  ·rw [bE (by rw [hE];first|decide|exact hc20)];exact Zm 0x2
  rw [bE (by rw [hE];first|decide|exact hc20)];exact Zm 0x2
 obtain ⟨k1,k2,k3,k4,k5,k6⟩:=fT hc20;rw [show syS inn out ops=ah ops from if_pos hc20];apply Y 0x641f;intro htot;apply Zu 0x1a881b5899<;>intro hc23
 ·apply Y 0x7ce1ce3ce59c8;have hE:rdE lf inn out size ops=_:=IC hc20 hc23;refine ⟨none,0,[],?_,?_,rfl,?_⟩
  ·rw [bE (by rw [hE];first|decide|exact hc20),hE];exact Zm 0x2
  ·rw [bE (by rw [hE];first|decide|exact hc20)];exact Zm 0x2
  rw [bE (by rw [hE];first|decide|exact hc20)];exact Zm 0x2
 apply Zu 0x903fb85899<;>intro
 ·apply Y 0x1dd;refine C.cond rfl (fun _=>?_) (fun h=>by cases h);apply Y 0x152f7ce1ce3ce59c8;intro hE;refine ⟨none,0,[],?_,?_,rfl,?_⟩
  ·rw [bE (by rw [hE];first|decide|exact hc20),hE];exact Zm 0x2
  ·rw [bE (by rw [hE];first|decide|exact hc20)];exact Zm 0x2
  rw [bE (by rw [hE];first|decide|exact hc20)];exact Zm 0x2
 apply Zu 0xe9b9<;>intro
 ·apply Y 0x152f7ce1ce3ce59c8;intro hE;refine ⟨none,0,[],?_,?_,rfl,?_⟩
  ·rw [bE (by rw [hE];first|decide|exact hc20),hE];exact Zm 0x2
  ·rw [bE (by rw [hE];first|decide|exact hc20)];exact Zm 0x2
  rw [bE (by rw [hE];first|decide|exact hc20)];exact Zm 0x2
 apply Y 0x9d;obtain ⟨S,rfl⟩:∃ S:Nat,size=(S:Int):=⟨size.toNat,by omega⟩;apply Y 0x6111f1b1b68;refine al (xS inn out S ⟨by omega,by omega⟩ ⟨by omega,by omega⟩ oe oe) ?_;apply Zu 0xe9581a8<;>intro
 ·apply Y 0x7ce1ce3ce59c8;have hE:rdE lf inn out (S:Int) ops=_:=Iz hc20 obK oe oe (by simp only [Int.toNat_natCast];omega);refine ⟨none,0,[],?_,?_,rfl,?_⟩
  ·rw [bE (by rw [hE];first|decide|exact hc20),hE];exact Zm 0x2
  ·rw [bE (by rw [hE];first|decide|exact hc20)];exact Zm 0x2
  rw [bE (by rw [hE];first|decide|exact hc20)];exact Zm 0x2
 apply Y 0x9d;have hatl:∀ i,i<(ah ops).length→0≤((ah ops).getD i Sy.zero).at_∧((ah ops).getD i Sy.zero).at_≤65536:=fun i hi=>by
  apply Y 0x4a2f;intro hat;refine ⟨hat.1,?_⟩
  cases ho:((ah ops).getD i Sy.zero).old with
  |true=>have:=hat.2.1 ho;omega
  |false=>have:=hat.2.2 ho;omega
 have hsec:∀ u,u<(rdN inn out S)→(u+1)*S≤1000000:=fun u hu=>by
  have:=Nat.mul_le_mul (show u+1≤64 by omega) (show S≤4096 by omega);exact Zm 0x18
 apply Y 0x3bfa61b2c;intro A44;apply Y 0x98;intro A9;apply Y 0xd61fba16892e5496b;refine lp [] [] (fun q:Nat×Option Addr×Nat×List Hd=>[(8,.int .i64 ((rdN inn out S):Int)),(9,ag A9 0),(10,.slice q.2.1 (bS (ah ops) inn S (rdN inn out S) q.1).length q.2.2.1),(11,.int .i64 (q.1:Int))]) (kzz [_,_] [] fun q=>[KidsR q.2.2.2 (J8 (bS (ah ops) inn S (rdN inn out S) q.1))]) (fun q=>[Own 31 1 q.2.1 (bS (ah ops) inn S (rdN inn out S) q.1).length q.2.2.1 (ay q.2.2.2 (J8 (bS (ah ops) inn S (rdN inn out S) q.1)))]) (fun q=>q.1≤(rdN inn out S)∧q.2.2.2.length=q.1) (fun q=>(rdN inn out S)-q.1) (0,A44,0,[]) ⟨Nat.zero_le _,rfl⟩ (lk [2,1,0] [0]) ?_;apply Y 0x920f;intro u A c hs hu hhs
 dsimp only at hu hhs ⊢;apply Y 0x55;have hrl:=bY (ah ops) inn S (rdN inn out S) u;apply Zu 0x79e868<;>intro
 ·apply Y 0x3b789;intro A50;apply Y 0xad49;refine lp [] [] (fun q:Nat×Option Addr×Nat=>[(8,.int .i64 ((rdN inn out S):Int)),(9,ag A9 0),(10,.slice A (bS (ah ops) inn S (rdN inn out S) u).length c),(11,.int .i64 (u:Int)),(12,.slice q.2.1 (jG (ah ops) inn S u q.1).length q.2.2),(13,.int .i64 (q.1:Int))]) (kz [_,_,_]) (fun q=>[Own 3 1 q.2.1 (jG (ah ops) inn S u q.1).length q.2.2 (I64 (NI (jG (ah ops) inn S u q.1))),Own 31 1 A (bS (ah ops) inn S (rdN inn out S) u).length c (ay hs (J8 (bS (ah ops) inn S (rdN inn out S) u)))]) (fun q=>q.1≤(rdN inn out S)) (fun q=>(rdN inn out S)-q.1) (0,A50,0) (Nat.zero_le _) (lk [0,1,2] [1,0]) ?_;apply Y 0x72e;intro t B d ht
  dsimp only at ht ⊢;apply Y 0x55;have hrr:=iO (ah ops) inn S u t;apply Zu 0x79e868<;>intro
  ·apply Y 0x4815e789;refine al (yr A16 (ah ops) c16 inn S oe u t (hsec u oe) (hsec t oe) oe oe oe hatl) ?_;apply Zu 0x1a88a8<;>intro hc59
   ·have he:(jG (ah ops) inn S u (t+1))=(jG (ah ops) inn S u t)++[t]:=CQ hc59;apply Y 0x3b9c;intro A62;apply Y 0xdf2f;intro A63 cc63;apply Y 0x8ad1e;refine QE.round (i:=(t,B,d)) ((t+1,A63,cc63)) ou ou (by exact lk [0,1,2] [0,1] ⟨rfl,rfl,rfl,rfl,OM,rfl,trivial⟩ (hh:=⟨(congrArg some (ax OM qg)),rfl,trivial⟩))
   have he:(jG (ah ops) inn S u (t+1))=(jG (ah ops) inn S u t):=Gh hc59;apply Y 0x8a5a;refine QE.round (i:=(t,B,d)) ((t+1,B,d)) ou ou (by exact lk [0,1,2] [0,1] ⟨rfl,rfl,rfl,rfl,Qq,rfl,trivial⟩ (hh:=⟨(congrArg some OW),rfl,trivial⟩))
  apply Y 0xa9;obtain rfl:t=(rdN inn out S):=oe;apply Y 0x3b9cdb;intro A66;refine L.append (j:=0) rfl rfl rfl rfl ob rfl rfl rfl rfl (Src.o 1 rfl) rfl (by intro v hv;simp at hv;subst hv;rfl) oe Qj rfl (fun A67 cc67=>?_);apply Y 0x8ad1e;refine QE.more (r:=KidsR (hs++[(B,d)]) (J8 (bS (ah ops) inn S (rdN inn out S) u)++[I64 (NI (jG (ah ops) inn S u (rdN inn out S)))])) (dM 3 0 d rfl rfl (by rw [bU,bY];exact hhs)) ?_;refine QE.round (i:=(u,A,c,hs)) ((u+1,A67,cc67,hs++[(B,d)])) QC ou (by exact lk [2,3,0] [0] ⟨rfl,rfl,oay,rfl,trivial⟩ (hr:=⟨rfl,rfl,(congrArg some (by dsimp only;rw [jH,← nf])),trivial⟩) (hh:=⟨(congrArg some (ax oay (by dsimp only;rw [jH,← jz (by rw [bY];exact hhs),bp]))),trivial⟩))
 apply Y 0x340fd8e87a9;refine qrt [0,3] [] [_,_] rfl rt ?_;obtain rfl:u=(rdN inn out S):=oe;have hE:rdE lf inn out (S:Int) ops=0:=Gi hc20 obK oe oe qU;have hR:rdM lf inn out (S:Int) ops=(bS (ah ops) inn S (rdN inn out S) (rdN inn out S)):=by
  rw [yy hE,Int.toNat_natCast]
  exact x2 oe htot rfl
 rw [hR,hE,hrl];exact ⟨A,c,hs,rfl,rfl,rfl,hhs⟩
theorem EU (x:Po):∀ v∈Po.cells x,v.oneCell'=true:=by
 intro v hv
 simp only [Po.cells,List.mem_cons,List.not_mem_nil,or_false] at hv
 rcases hv with rfl|rfl|rfl|rfl|rfl<;>rfl
theorem Eo {X:Cx}{β:Base}{Γ:Env}{R H:List Pr}{s d:Nat}{x:Operand}{k:IntKind}{m:Int}{q:UInt8}{i j:Ti}(hs:ar s X.tab=some i)(hd:ar d X.tab=some j)(hj:j.desc=.int .u8)(hx:ev Γ x=some (.int k m))(hq:m%256=(q.toNat:Int)):Ev X β Γ R H (.convert s d x) (.int .u8 (q.toNat:Int)):=
  (Ev.pure (v:=.int .u8 (IntKind.u8.wrap m)) oat).cast (by rw [show IntKind.u8.wrap m=m%256 by simp [IntKind.wrap,IntKind.bits,IntKind.signed],hq])
theorem By {X:Cx}{β:Base}{Γ:Env}{R H:List Pr}{t ty:Nat}{x y:Operand}{a b:UInt8}(hx:ev Γ x=some (.int .u8 (a.toNat:Int)))(hy:ev Γ y=some (.int .u8 (b.toNat:Int))):Ev X β Γ R H (.binOp .add t x y ty) (.int .u8 ((a+b).toNat:Int)):=
  (Ev.pure (v:=.int .u8 (IntKind.u8.wrap ((a.toNat:Int)+(b.toNat:Int)))) (by simp [pev,hx,hy,HT,IntKind.wrap])).cast (by rw [show IntKind.u8.wrap ((a.toNat:Int)+(b.toNat:Int))=((a.toNat:Int)+(b.toNat:Int))%256 by simp [IntKind.wrap,IntKind.bits,IntKind.signed],UInt8.toNat_add];rfl)
theorem M1 (B SA:Option Addr)(old:List UInt8)(l:List Sy)(bc sc:Nat)(hl:l.length≤1000000)(hok:Co old l):
    Ctr X 253 [.slice B old.length bc,.slice SA l.length sc] [Rd B (U8 old),Rd SA (cU l)] [] (fun v R' H'=>∃ (A:Option Addr) (c:Nat),v=.tuple #[.slice A (bg old l).length c,.int .i64 0]∧R'=[]∧H'=[Own 5 1 A (bg old l).length c (U8 (bg old l))]):=by
 refine co Tryz.func253 ?_;intro β;apply Y 0x2dc8;refine Bc (m:=l.length) rfl rfl rfl rfl rfl oab oe rfl (fun A11=>?_);apply Y 0xbae8581;refine lp [] [] (fun q:Nat×Option Addr×Nat=>[(0,.slice B old.length bc),(12,.slice SA l.length sc),(13,.int .i64 (l.length:Int)),(14,.int .i64 (q.1:Int)),(6,.slice q.2.1 (bg old (l.take q.1)).length q.2.2)]) (kz [_,_]) (fun q=>[Own 5 1 q.2.1 (bg old (l.take q.1)).length q.2.2 (U8 (bg old (l.take q.1)))]) (fun q=>q.1≤l.length) (fun q=>l.length-q.1) (0,A11,l.length) (Nat.zero_le _) (lk [0,1] [0]) ?_;apply Y 0x72e;intro i A c hi
 dsimp only at hi ⊢;apply Y 0x122f;intro hrl;apply Zu 0x7920e<;>intro
 ·apply Y 0x980f789;refine sp (aa (vs:=Sy.cells (l.getD i Sy.zero)) rfl rfl rfl (Src.r 1 rfl) (ek l i oe) rfl ob) ?_;apply Y 0x98;intro A8;apply Y 0x886b;refine eK (fun z:UInt8=>[(0,.slice B old.length bc),(12,.slice SA l.length sc),(13,.int .i64 (l.length:Int)),(14,.int .i64 (i:Int)),(6,.slice A (bg old (l.take i)).length c),(8,ag A8 0)]) (fun z:UInt8=>[Rd B (U8 old),Rd SA (cU l)]) (fun z:UInt8=>[Own 5 1 A (bg old (l.take i)).length c (U8 (bg old (l.take i))),Own 225 3 A8 1 1 [.bool (l.getD i Sy.zero).old,.int .i64 (l.getD i Sy.zero).at_,.int .u8 (z.toNat:Int)]]) (fun z:UInt8=>z=EE old (l.getD i Sy.zero)) ?_ ?_
  ·apply Zu 0x1a88da7<;>intro hc19
   ·have hat:=hok i oe hc19;apply Zu 0x603f48da58<;>intro
    ·exact Zm 0x18
    apply Zu 0xe9ed6ee491e4<;>intro
    ·exact Zm 0x18
    apply Y 0x99;refine av [_,_] ⟨Has.o 1 rfl,Has.r 0 rfl,trivial⟩ ?_;apply Y 0xd6e695be45e36d3f8ae36eed9e391ec9eddea70f6fe;refine sp (By rfl rfl) ?_;apply Y 0xcccbe6ae391ee6e3;refine QE.join (((l.getD i Sy.zero).b+old.getD (l.getD i Sy.zero).at_.toNat 0)) (by unfold EE;rw [if_pos hc19]) (lk [0,1] [0,1])
   apply Y 0x5a;refine QE.join ((l.getD i Sy.zero).b) (by unfold EE;rw [if_neg (by rw [hc19];decide)]) (lk [0,1] [0,1])
  intro z hz;apply Y 0x3bda2c;intro A42;refine L.append (j:=0) rfl rfl rfl rfl ob rfl rfl rfl rfl (Src.o 2 rfl) rfl (dJ rfl) oe oJ rfl (fun A43 cc43=>?_);apply Y 0xf92fd0ed1e;intro he;rw [← hz] at he;apply Y 0xf12f;intro hel;refine QE.round (i:=(i,A,c)) ((i+1,A43,cc43)) ou ou (by exact lk [0,1] [0] ⟨rfl,rfl,rfl,rfl,qK,trivial⟩ (hh:=⟨(congrArg some (ax hel.symm Qp)),trivial⟩))
 apply Y 0xa2ed8e87a9;obtain rfl:i=l.length:=oe;exact Zm 0x78eb6e
theorem GT (B:Option Addr)(b:List UInt8)(bc n:Nat)(hl:b.length≤9223372036854775807)(hn:n≤1000000):
    Ctr X 36 [.slice B b.length bc,.int .i64 (n:Int)] [Rd B (U8 b)] [] (fun v R' H'=>∃ (A:Option Addr) (c:Nat),v=.slice A (nm b n).length c∧R'=[]∧H'=[Own 5 1 A (nm b n).length c (U8 (nm b n))]):=by
 refine co Tryz.func36 ?_;intro β;apply Y 0xc60f7c9;intro A8;apply Y 0xad49;refine lp [] [] (fun q:Nat×Option Addr×Nat=>[(0,.slice B b.length bc),(1,.int .i64 (n:Int)),(6,.int .i64 (q.1:Int)),(5,.slice q.2.1 (nm b q.1).length q.2.2)]) (kz [_]) (fun q=>[Own 5 1 q.2.1 (nm b q.1).length q.2.2 (U8 (nm b q.1))]) (fun q=>q.1≤n) (fun q=>n-q.1) (0,A8,0) (Nat.zero_le _) (lk [0] [0]) ?_;apply Y 0x72e;intro i A c hi
 dsimp only at hi ⊢;have hrl:=uO b i;apply Zu 0x79e858<;>intro
 ·apply Y 0xf989;refine sp (Ev.cast (u:=.int .i64 ((7*i:Nat):Int)) (Ev.mul rfl rfl oe oe) (congrArg (Value.int .i64) oe)) ?_;refine sp (Eo (q:=UInt8.ofNat (7*i%256)) rfl rfl rfl rfl (by rw [UInt8.toNat_ofNat'];omega)) ?_;apply Y 0x1;refine eK (fun z:UInt8=>[(0,.slice B b.length bc),(1,.int .i64 (n:Int)),(6,.int .i64 (i:Int)),(5,.slice A (nm b i).length c),(7,.int .u8 (z.toNat:Int))]) (fun z:UInt8=>[Rd B (U8 b)]) (fun z:UInt8=>[Own 5 1 A (nm b i).length c (U8 (nm b i))]) (fun z:UInt8=>z=Je b i) ?_ ?_
  ·apply Zu 0xe92d<;>intro
   ·apply Y 0x9c;refine sp (ae (k:=i) rfl rfl rfl rfl rfl rfl rfl oe (Src.r 0 rfl) oI) ?_;apply Y 0xd1e5be;refine QE.join (b.getD i 0) (by unfold Je;rw [if_pos oe]) (lk [0] [0])
   apply Y 0x5a;refine QE.join (UInt8.ofNat (7*i%256)) (by unfold Je;rw [if_neg oe]) (lk [0] [0])
  intro z hz;apply Y 0x3b9c;intro A27;apply Y 0xaf2f;intro A28 cc28;apply Y 0x8ad1e;have he:=zN b i;rw [← hz] at he;have hel:(nm b (i+1)).length=(nm b i).length+1:=qi;refine QE.round (i:=(i,A,c)) ((i+1,A28,cc28)) ou ou (by exact lk [0] [0] ⟨rfl,rfl,rfl,qK,trivial⟩ (hh:=⟨(congrArg some (ax hel.symm Qp)),trivial⟩))
 apply Y 0x11ed8c8a9;obtain rfl:i=n:=oe;exact Zm 0x78e
theorem vu {old:List UInt8}{inn out:Int}{ops:List Po}(hE:cG inn out ops=0)(hin:inn=(old.length:Int)):Co old (syS inn out ops)∧(syS inn out ops).length≤1000000:=by
 apply Y 0x800f;intro k1 k2 k3 k4 k5 k6;apply Y 0x220f;intro hs;apply Y 0x641f;intro htot;rw [hs];refine ⟨fun i hi ho=>?_,by omega⟩;apply Y 0x4a2f;intro hat;have:=hat.2.1 ho;exact Zm 0x18
theorem AT (B:Option Addr)(old:List UInt8)(bc:Nat)(lf:Bool)(inn out:Int)(ops:List Po)(OA:Option Addr)(oc:Nat)(hops:ops.length≤9223372036854775807)(hlf:lf=false)(hE:cG inn out ops=0)(hin:inn=(old.length:Int)):
    Ctr X 225 [.slice B old.length bc,.agg (List.toArray [.bool lf,.int .i64 inn,.int .i64 out,.slice OA ops.length oc])] [Rd B (U8 old),Rd OA (bZ ops)] [] (fun v R' H'=>∃ (A:Option Addr) (c:Nat),v=.tuple #[.slice A (bg old (syS inn out ops)).length c,.int .i64 0]∧R'=[]∧H'=[Own 5 1 A (bg old (syS inn out ops)).length c (U8 (bg old (syS inn out ops)))]):=by
 refine co Tryz.func225 ?_;intro β;have hrun:=vu hE hin;apply Y 0x4a;intro A3;apply Y 0x193b1f77e7c538;intro SA sc;apply Zu 0x5d387c55e8483a<;>intro hc18
 ·exact absurd hE hc18
 apply Zu 0x1a881b5899<;>intro hc21
 ·rw [hlf] at hc21
  cases hc21
 apply Zu 0x5d11bbd99<;>intro
 ·exact Zm 0x18
 apply Y 0x483c;refine al (M1 B SA old (syS inn out ops) bc sc hrun.2 hrun.1) ?_;apply Y 0x19;intro YA yc;apply Y 0xb858e8483a;refine L.bool 44 rfl (imp ky ?_) (imp kA ?_)<;>intro hg44
 ·exact absurd rfl hg44
 apply Zu 0x1a38461e440e4<;>intro hc48
 ·exact Zm 0x461fa2e59382d
 rw [hlf] at hc48
 cases hc48
theorem Eg {l:List Nat}{i:Nat}(h:i<l.length):(I64 (NI l))[i]?=some (.int .i64 ((l.getD i 0:Nat):Int)):=by simp [I64,NI,h]
theorem E8 (a b:Int):
    Ctr X 236 [.int .i64 a,.int .i64 b] [] [] (fun v R' H'=>v=.bool (decide (1≤a)&&decide (a≤b))∧R'=[]∧H'=[]):=by
 refine co Tryz.func236 ?_;intro β;apply Y 0xb87c9;refine L.bool 7 rfl (imp of_decide_eq_true ?_) (imp of_decide_eq_false ?_)<;>intro
 ·apply Y 0x4dd9e8ed
  simp [*]
 apply Y 0x4dd9389a
 simp [*]
theorem FT (sz n:Int)(lf:Bool)(inn out:Int)(ops:List Po)(OA:Option Addr)(oc:Nat)(qv hv:Value):
    Ctr X 195 [.agg (List.toArray [.int .i64 sz,.int .i64 n,.bool lf,.int .i64 inn,.int .i64 out,.slice OA ops.length oc,qv,hv])] [] [] (fun v R' H'=>v=.bool (kN sz n inn out)∧R'=[]∧H'=[]):=by
 refine co Tryz.func195 ?_;intro β;apply Y 0x4a;intro A1;apply Y 0xf8f917c49;refine fZ (js:=[]) (js':=[]) (E8 sz 4096) rfl rfl rfl rfl rfl ob trivial rfl ?_;apply Zu 0x481f6a8<;>intro hg8
 ·simp only [Bool.and_eq_true,decide_eq_true_eq] at hg8;apply Y 0x4b2eb9;refine fZ (js:=[]) (js':=[]) (E8 n 64) rfl rfl rfl rfl rfl ob trivial rfl ?_;apply Y 0x48a8;refine L.bool 14 rfl ?_ ?_<;>intro hg14
  ·simp only [Bool.and_eq_true,decide_eq_true_eq] at hg14;have hp:=yH hg8.1 hg8.2 hg14.1 hg14.2;exact Zm 0x7e2fd9e8455e41c1c111f4b2e7be4b2e7be4
  first
   |simp only [Bool.and_eq_false_iff,decide_eq_false_iff_not] at hg14
   |skip
  exact Zm 0xa00fd9381d3939
 simp only [Bool.and_eq_false_iff,decide_eq_false_iff_not] at hg8;exact Zm 0xa00fd9381d39ea39
theorem xN (sz n:Int)(lf:Bool)(inn out:Int)(ops:List Po)(OA:Option Addr)(oc:Nat)(qv hv:Value):
    Ctr X 75 [.agg (List.toArray [.int .i64 sz,.int .i64 n,.bool lf,.int .i64 inn,.int .i64 out,.slice OA ops.length oc,qv,hv])] [] [] (fun v R' H'=>v=.bool (kN sz n inn out)∧R'=[]∧H'=[]):=by
 refine co Tryz.func75 ?_;intro β;apply Y 0x4a;intro A1;apply Y 0x48f87c49;refine L.bool 6 rfl (imp of_decide_eq_true ?_) (imp of_decide_eq_false ?_)<;>intro
 ·apply Zu 0x471fb841c<;>intro
  ·apply Zu 0xa71fb841c<;>intro
   ·apply Zu 0xd71fb841c<;>intro
    ·have hp:=yH (a:=sz) (b:=n) oe oe oe oe;apply Y 0xb8455e41c1cb2e7be4;refine L.bool 32 rfl (imp of_decide_eq_true ?_) (imp of_decide_eq_false ?_)<;>intro
     ·exact Zm 0x7e2fd9e8455e41c1cb2e7be4
     exact Zm 0xa00fd9381d39
    exact Zm 0xa00fd9381dea1d39
   exact Zm 0xa00fd9381dea1dea9a
  exact Zm 0xa00fd9381dea1dea9a489a
 exact Zm 0xa00fd9381dea1dea9a489a489a
theorem ea (A:Option Addr)(l:List Int)(c:Nat)(n:Int)(hl:l.length≤9223372036854775807):
    Ctr X 134 [.slice A l.length c,.int .i64 n] [Rd A (I64 l)] [] (fun v R' H'=>v=.int .i64 (eM l n)∧R'=[]∧H'=[]):=by
 refine co Tryz.func134 ?_;intro β;apply Y 0xad20e;refine lp [0,1] [_,_] (fun k:Nat=>[(5,.int .i64 (k:Int))]) (kz [_]) nz (fun k=>k≤l.length∧∀ i,i<k→l.getD i 0≠n) (fun k=>l.length-k) 0 ⟨Nat.zero_le _,br⟩ (lk [0] []) ?_;apply Y 0xa1e;intro k hk hno;apply Zu 0xe9bd<;>intro
 ·apply Zu 0xec38540f7d1f2d89<;>intro hc17
  ·apply Y 0x8bdc7dc8;exact ⟨congrArg (Value.int .i64) (Dn oe hno hc17).symm,rfl,rfl⟩
  exact Zm 0xb73f8a5a
 apply Y 0xd9c9a9;exact ⟨congrArg (Value.int .i64) (GW (fun i hi=>hno i oe)).symm,rfl,rfl⟩
theorem zn (CA LA:Option Addr)(cs l:List Nat)(cc lc:Nat)(hcl:cs.length≤1000000)(hl:l.length≤1000000)(hlt:∀ i,i<l.length→l.getD i 0<cs.length):
    Ctr X 79 [.slice CA cs.length cc,.slice LA l.length lc] [Rd CA (I64 (NI cs)),Rd LA (I64 (NI l))] [] (fun v R' H'=>∃ (A:Option Addr) (c:Nat),v=.slice A (iT cs l).length c∧R'=[]∧H'=[Own 3 1 A (iT cs l).length c (I64 (NI (iT cs l)))]):=by
 refine co Tryz.func79 ?_;intro β;apply Y 0x3b7c9;intro A7;apply Y 0xad49;refine lp [] [] (fun q:Nat×Option Addr×Nat=>[(0,.slice CA cs.length cc),(1,.slice LA l.length lc),(6,.int .i64 (q.1:Int)),(5,.slice q.2.1 (iT cs (l.take q.1)).length q.2.2)]) (kz [_,_]) (fun q=>[Own 3 1 q.2.1 (iT cs (l.take q.1)).length q.2.2 (I64 (NI (iT cs (l.take q.1))))]) (fun q=>q.1≤l.length) (fun q=>l.length-q.1) (0,A7,0) (Nat.zero_le _) (lk [0,1] [0]) ?_;apply Y 0x72e;intro i A c hi
 dsimp only at hi ⊢;apply Zu 0xe9bd<;>intro
 ·apply Y 0x89;have hli:=hlt i oe;have hrl:=iS cs (l.take i);rw [List.length_take] at hrl;apply Y 0x489c;refine sp (ae (k:=i) rfl rfl rfl rfl rfl rfl rfl oe (Src.r 1 rfl) Qt) ?_;refine sp (Ev.load rfl rfl rfl (Src.r 1 rfl) (Eg oe)) ?_;refine sp (ae (k:=(l.getD i 0)) rfl rfl rfl rfl rfl rfl rfl hli (Src.r 0 rfl) Qt) ?_;refine sp (Ev.load rfl rfl rfl (Src.r 0 rfl) (Eg hli)) ?_;apply Y 0x3b;intro A22;refine L.append (j:=0) rfl rfl rfl rfl ob rfl rfl rfl rfl (Src.o 1 rfl) rfl (dJ rfl) (by rw [iS,List.length_take];omega) oY rfl (fun A23 cc23=>?_);apply Y 0x8ad1e;have he:=zo cs l (i:=i) oe;have hel:(iT cs (l.take (i+1))).length=(iT cs (l.take i)).length+1:=qi;refine QE.round (i:=(i,A,c)) ((i+1,A23,cc23)) ou ou (by exact lk [0,1] [0] ⟨rfl,rfl,rfl,qK,trivial⟩ (hh:=⟨(congrArg some (ax hel.symm qg)),trivial⟩))
 apply Y 0x11ed8c8a9;obtain rfl:i=l.length:=oe;exact Zm 0x78eb6e
theorem wF (S n:Nat)(lf:Bool)(inn out:Int)(ops:List Po)(OA:Option Addr)(oc:Nat)(qv hv:Value)(hops:ops.length≤9223372036854775807)(hS1:1≤S)(hS2:S≤4096)(hn1:1≤n)(hn2:n≤64)(hE:cG inn out ops=0):
    Ctr X 196 [.agg (List.toArray [.int .i64 (S:Int),.int .i64 (n:Int),.bool lf,.int .i64 inn,.int .i64 out,.slice OA ops.length oc,qv,hv])] [Rd OA (bZ ops)] [] (fun v R' H'=>∃ (A:Option Addr) (c:Nat),v=.slice A (aL (ah ops) inn S n).length c∧R'=[]∧H'=[Own 3 1 A (aL (ah ops) inn S n).length c (I64 (NI (aL (ah ops) inn S n)))]):=by
 refine co Tryz.func196 ?_;intro β;apply Y 0x800f;intro k1 k2 k3 k4 k5 k6;apply Y 0x220f;intro hsy;apply Y 0x7de;intro hsl;apply Y 0x750f;intro hnS;apply Y 0x4a;intro A1;apply Y 0x3b1f77ec0e7c49;rw [hsy];apply Y 0x19;intro SA sc;apply Y 0xba11b68230f5497c5e8483a;refine lp [] [] (fun q:Nat×Option Addr×Nat=>[(1,ag A1 0),(3,.slice SA (ah ops).length sc),(15,.int .i64 (n:Int)),(16,.int .i64 (q.1:Int)),(5,.slice q.2.1 (aL (ah ops) inn S q.1).length q.2.2)]) (kz [_,_,_]) (fun q=>[Own 3 1 q.2.1 (aL (ah ops) inn S q.1).length q.2.2 (I64 (NI (aL (ah ops) inn S q.1)))]) (fun q=>q.1≤n) (fun q=>n-q.1) (0,none,0) (Nat.zero_le _) (lk [0,1,2] [0]) ?_;apply Y 0x72e;intro t A c hi
 dsimp only at hi ⊢;apply Zu 0x7920e<;>intro
 ·apply Y 0x1a2f5c889;intro hlt;apply Y 0x2a0f;intro m1;apply Y 0x531f;intro m2;apply Y 0x1a0f;intro hb2;apply Y 0xba1f01f1b2c;refine lp [] [] (fun j:Nat=>[(1,ag A1 0),(3,.slice SA (ah ops).length sc),(15,.int .i64 (n:Int)),(16,.int .i64 (t:Int)),(6,.int .i64 (t:Int)),(5,.slice A (aL (ah ops) inn S t).length c),(7,.int .i64 (((t*S+j):Nat):Int))]) (kz [_,_,_]) (kz [_]) (fun j=>j≤S∧∀ a,a<j→chY (ah ops) inn (t*S+a)=false) (fun j=>S-j) 0 ⟨Nat.zero_le _,br⟩ (lk [0,1,2] [0]) ?_;apply Y 0xa1e;intro j hj hno;apply Y 0x1b40e481d1f1b2d1fbd;refine sp (Ev.cast (u:=.int .i64 (max ((ah ops).length:Int) inn)) (Ev.pure rfl) (congrArg (Value.int .i64) qa)) ?_;refine sp (Ev.cast (u:=.int .i64 (min (((t+1)*S:Nat):Int) (max ((ah ops).length:Int) inn))) (Ev.pure rfl) (congrArg (Value.int .i64) Qm)) ?_;apply Zu 0x791<;>intro
  ·apply Y 0xb82d89;refine L.bool 43 rfl (imp of_decide_eq_true ?_) (imp of_decide_eq_false ?_)<;>intro
   ·have hx:chY (ah ops) inn (t*S+j)=true:=by unfold chY;rw [if_neg oe];exact decide_eq_true oe
    apply Y 0x19a39;refine C.cond rfl (fun _=>?_) (fun h=>by cases h);apply Y 0x541f5;intro hrl;apply Y 0x3b9c;intro A54;apply Y 0x860f;intro A55 cc55;apply Y 0xb32fd0e450f4f0f79e1;intro hx0;have he:=mY hx0;apply Y 0x731f;intro hel;exact Zm 0x573f
   apply Y 0xed;refine sp (cf (k:=(t*S+j)) (m:=(t*S+j)*3) rfl rfl rfl rfl rfl rfl oe (Src.r 0 rfl) (dA (k:=(t*S+j)) oe) rfl) ?_;apply Y 0x4;refine sp (aa (vs:=Sy.cells ((ah ops).getD (t*S+j) Sy.zero)) rfl rfl rfl (Src.r 0 rfl) (ek (ah ops) (t*S+j) oe) rfl ob) ?_;apply Y 0x4fab9;refine sp (nh (a:=((ah ops).getD (t*S+j) Sy.zero)) (b:=⟨true,(((t*S+j):Nat):Int),0⟩) rfl rfl) ?_;apply Zu 0x1a1<;>intro hc51
   ·have hx:chY (ah ops) inn (t*S+j)=true:=by unfold chY;rw [if_pos oe];exact hc51
    apply Y 0x541f5;intro hrl;apply Y 0x3b9c;intro A54;apply Y 0x860f;intro A55 cc55;apply Y 0xb32fd0e450f4f0f79e1;intro hx0;have he:=mY hx0;apply Y 0x731f;intro hel;exact Zm 0x573f
   have hx:chY (ah ops) inn (t*S+j)=false:=by unfold chY;rw [if_pos oe];exact hc51
   apply Y 0x8a5a;refine QE.round (j+1) qG oe (lk [0,1,2] [0])
  apply Y 0xd0e66e;have hx0:iC (ah ops) inn S t=false:=Hk hno oe;have he:=AF hx0;refine QE.round (i:=(t,A,c)) ((t+1,A,c)) ou ou (by exact lk [0,1,2] [0] ⟨rfl,rfl,rfl,rfl,Qq,trivial⟩ (hh:=⟨(congrArg some OW),trivial⟩))
 apply Y 0x11ed8c8a9;obtain rfl:t=n:=oe;exact Zm 0x78e
theorem fU (S n:Nat)(lf:Bool)(inn out:Int)(ops:List Po)(OA:Option Addr)(oc:Nat)(qv hv:Value)(hops:ops.length≤9223372036854775807)(hS1:1≤S)(hS2:S≤4096)(hn1:1≤n)(hn2:n≤64)(hE:cG inn out ops=0):
    Ctr X 76 [.agg (List.toArray [.int .i64 (S:Int),.int .i64 (n:Int),.bool lf,.int .i64 inn,.int .i64 out,.slice OA ops.length oc,qv,hv])] [Rd OA (bZ ops)] [] (fun v R' H'=>∃ (A:Option Addr) (c:Nat),v=.slice A (aL (ah ops) inn S n).length c∧R'=[]∧H'=[Own 3 1 A (aL (ah ops) inn S n).length c (I64 (NI (aL (ah ops) inn S n)))]):=by
 refine co Tryz.func76 ?_;intro β;apply Y 0x800f;intro k1 k2 k3 k4 k5 k6;apply Y 0x220f;intro hsy;apply Y 0x7de;intro hsl;apply Y 0x750f;intro hnS;apply Y 0x4a;intro A1;apply Y 0xf83f77ec0e7c49;rw [hsy];apply Y 0x19;intro SA sc;apply Y 0x3b7c5e8483a;intro A13;apply Y 0xad49;refine lp [] [] (fun q:Nat×Option Addr×Nat=>[(1,ag A1 0),(3,.slice SA (ah ops).length sc),(6,.int .i64 (q.1:Int)),(5,.slice q.2.1 (aL (ah ops) inn S q.1).length q.2.2)]) (kz [_,_,_]) (fun q=>[Own 3 1 q.2.1 (aL (ah ops) inn S q.1).length q.2.2 (I64 (NI (aL (ah ops) inn S q.1)))]) (fun q=>q.1≤n) (fun q=>n-q.1) (0,A13,0) (Nat.zero_le _) (lk [0,1,2] [0]) ?_;apply Y 0x72e;intro t A c hi
 dsimp only at hi ⊢;apply Zu 0x7911b658<;>intro
 ·apply Y 0x1a2f589;intro hlt;apply Y 0x1a0f;intro hb2;apply Y 0x6fa1b1b40e2c;refine al (fV SA (ah ops) sc inn S hS1 t oe oe oe) ?_;apply Zu 0x1a883aa8<;>intro hc28
  ·apply Y 0x541f;intro hrl;apply Y 0x3b9c;intro A31;apply Y 0x860f;intro A32 cc32;apply Y 0x8ad1e;have he:=mY hc28;apply Y 0x731f;intro hel;refine QE.round (i:=(t,A,c)) ((t+1,A32,cc32)) ou ou (by exact lk [0,1,2] [0] ⟨rfl,rfl,rfl,qK,trivial⟩ (hh:=⟨(congrArg some (ax hel.symm qg)),trivial⟩))
  apply Y 0x8a5a;have he:=AF hc28;refine QE.round (i:=(t,A,c)) ((t+1,A,c)) ou ou (by exact lk [0,1,2] [0] ⟨rfl,rfl,rfl,Qq,trivial⟩ (hh:=⟨(congrArg some OW),trivial⟩))
 apply Y 0x11ed8c8a9;obtain rfl:t=n:=oe;exact Zm 0x78e
theorem mI {l:List Nat}{i:Nat}(h:i<l.length):l.getD i 0∈l:=by
 exact Zm 0xf50f690f
theorem Dc {s n:Nat}(hs:s<2^n){t:Nat}(h:t∈mem s 64):t<n:=by
 unfold mem at h;rw [List.mem_filter] at h;refine Nat.lt_of_not_le fun g=>?_
 have:=Nat.testBit_lt_two_pow (x:=s) (i:=t) (Nat.lt_of_lt_of_le hs (Nat.pow_le_pow_right ob g));rw [this] at h
 cases h.2
theorem Nf {s n:Nat}(hs:s<2^n)(hn:n≤16):(mem s 64).length≤16:=by
 have e:mem s 64=(List.range n).filter s.testBit:=by
  unfold mem
  exact j4 (fun t ht=>Nat.testBit_lt_two_pow (Nat.lt_of_lt_of_le hs (Nat.pow_le_pow_right ob ht))) oe
 rw [e];have:=List.length_filter_le s.testBit (List.range n);rw [List.length_range] at this;exact Zm 0x18
theorem nU (S n:Nat)(inn out:Int)(ops:List Po)(OA:Option Addr)(oc:Nat)(qv hv:Value)(hops:ops.length≤9223372036854775807)(hS1:1≤S)(hS2:S≤4096)(hn1:1≤n)(hn2:n≤64)(hE:cG inn out ops=0)(hi1:inn≤(S:Int)*(n:Int))(hi2:out≤(S:Int)*(n:Int)):
    Ctr X 201 [.agg (List.toArray [.int .i64 (S:Int),.int .i64 (n:Int),.bool false,.int .i64 inn,.int .i64 out,.slice OA ops.length oc,qv,hv])] [Rd OA (bZ ops)] [] (fun v R' H'=>∃ (A:Option Addr) (hs:List Hd),v=.slice A n n∧R'=[Rd A (ay hs (J8 (bS (ah ops) inn S n n))),KidsR hs (J8 (bS (ah ops) inn S n n))]∧H'=[]∧hs.length=n):=by
 refine co Tryz.func201 ?_;intro β;apply Y 0x800f;intro k1 k2 k3 k4 k5 k6;apply Y 0x220f;intro hsy;apply Y 0x7de;intro hsl;apply Y 0x750f;intro hnS;apply Y 0x4b2f;intro r1 r2 r3 r4;apply Y 0x251f;intro hpad;apply Y 0x151f;intro hml;apply Y 0x4a;intro A1;apply Y 0xf87c49;refine lF (m:=n) rfl rfl rfl rfl rfl rfl rfl rfl rfl obF oe rfl (fun A8=>?_);apply Y 0xf877ec0e71;refine aJ (CM false inn out ops OA oc hops (S:Int)) ?_;rw [r1,r2];apply Y 0xcee;intro MA mc hs hhs;apply Y 0x2de848;refine L.copy (j:=0) (o:=0) rfl rfl rfl rfl rfl (fun g hg _=>hg) rfl rfl (Src.r 0 rfl) (by rw [bk obG,bU,hml];omega) (nK _ _) (by rw [bk obG,bU,hml,List.length_replicate];omega) rfl ?_;apply Y 0x340fd8c888;refine QE.more (r:=KidsR (hs++List.replicate (n-(bS (ah ops) inn S (rdN inn out S) (rdN inn out S)).length) (none,0)) (J8 (EV (bS (ah ops) inn S (rdN inn out S) (rdN inn out S)) n))) (s9 2 rfl hhs _) ?_;refine qrt [1,0] [] [_] rfl rt ?_;refine ⟨A8,hs++List.replicate (n-(bS (ah ops) inn S (rdN inn out S) (rdN inn out S)).length) (none,0),rfl,?_,rfl,by rw [List.length_append,List.length_replicate,hhs,hml];omega⟩;rw [← hpad];have he:∀ q:Nat,List.drop (0+(ay hs (J8 (bS (ah ops) inn S (rdN inn out S) (rdN inn out S)))).length) (List.replicate n (Value.slice none 0 0))=List.replicate (n-(bS (ah ops) inn S (rdN inn out S) (rdN inn out S)).length) (Value.slice none 0 0):=fun _=>by rw [Nat.zero_add,bk obG,bU,List.drop_replicate]
 show [Rd A8 (List.take 0 _++ay hs (J8 (bS (ah ops) inn S (rdN inn out S) (rdN inn out S)))++List.drop (0+(ay hs (J8 (bS (ah ops) inn S (rdN inn out S) (rdN inn out S)))).length) (List.replicate n (Value.slice none 0 0))),_]=_;rw [he 0,List.take_zero,List.nil_append,Cq hhs]
end Go.Proofs.YtbpddeiogcgegaaGreat
