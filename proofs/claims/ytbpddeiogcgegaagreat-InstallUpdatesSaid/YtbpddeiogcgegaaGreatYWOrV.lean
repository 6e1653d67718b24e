/-
  Part of a proof.
-/
import Derived.Test.YtbpddeiogcgegaaGreatYWOrS
set_option maxHeartbeats 0
set_option maxRecDepth 4000
set_option linter.all false
namespace Go.Proofs.YtbpddeiogcgegaaGreat
open Go.Sl
theorem zu (inn out:Int)(S:Nat)(h0:0≤inn∧inn≤65536)(h1:0≤out∧out≤65536)(hS:1≤S)(hS2:S≤4096):
    Ctr X 204 [.int .i64 (max inn out),.int .i64 (S:Int)] [] [] (fun v R' H'=>v=.int .i64 ((rdN inn out S:Nat):Int)∧R'=[]∧H'=[]):=by
 refine co Tryz.func204 ?_;intro β;apply Y 0x3c0e9b5812;refine sp (Ev.cast (u:=.int .i64 (((rdN inn out S):Nat):Int)) (Ev.quo rfl rfl oe oe oe) (congrArg (Value.int .i64) (F7 h0.1 h1.1 hS))) ?_;exact Zm 0xd1e395a
theorem Aa (SA:Option Addr)(l:List Sy)(sc:Nat)(inn:Int)(S:Nat)(hS:1≤S)(u t:Nat)(hbu:(u+1)*S≤1000000)(hbt:(t+1)*S≤1000000)(hl:l.length≤1000000)(hu:u≤1000000)(ht:t≤1000000)(hat:∀ i,i<l.length→0≤(l.getD i Sy.zero).at_∧(l.getD i Sy.zero).at_≤65536):
    Ctr X 205 [.agg (List.toArray [.slice SA l.length sc,.int .i64 inn,.int .i64 (S:Int)]),.int .i64 (u:Int),.int .i64 (t:Int)] [Rd SA (dh l)] [] (fun v R' H'=>v=.bool (iH l inn S u t)∧R'=[]∧H'=[]):=by
 refine co Tryz.func205 ?_;intro β;have hb2:(u+1)*S=u*S+S:=Nat.succ_mul u S;have m1:(u:Int)*(S:Int)=((u*S:Nat):Int):=(Int.natCast_mul u S).symm;have m2:((u+1:Nat):Int)*(S:Int)=(((u+1)*S:Nat):Int):=(Int.natCast_mul (u+1) S).symm;apply Y 0x2a;intro A3;apply Y 0x53b15e428;refine L.bool 11 rfl (imp ey ?_) (imp ew ?_)<;>intro
 ·apply Y 0x19da8;refine C.cond rfl (fun _=>?_) (fun h=>by cases h);apply Y 0x5c;exact ⟨congrArg Value.bool (by unfold iH;rw [decide_eq_true (show u=t by omega)];rfl),rfl,rfl⟩
 ·apply Y 0xb8e2e7;refine an (gG SA l sc inn S hS u hbu hl hu) ?_;apply Y 0xc8729;refine L.bool 17 rfl ?_ ?_<;>intro hg17
  ·have hcu:gE l inn S u=false:=by simpa using hg17
   apply Y 0x1a8;refine C.cond rfl (fun _=>?_) (fun h=>by cases h);apply Y 0x5c;exact ⟨congrArg Value.bool (by unfold iH;rw [hcu];simp),rfl,rfl⟩
  ·have hcu:gE l inn S u=true:=by simpa using hg17
   apply Y 0xb8e2e7;refine an (gG SA l sc inn S hS t hbt hl ht) ?_;apply Zu 0xe916a29<;>intro hc22
   ·have hct:gE l inn S t=false:=oa0;apply Y 0x5c;exact ⟨congrArg Value.bool (by unfold iH;rw [hct];simp),rfl,rfl⟩
   ·have hct:gE l inn S t=true:=oa0;apply Y 0xd848aa;refine sp (Ev.cast (u:=.int .i64 (((u*S:Nat)):Int)) (Ev.mul rfl rfl QC QC) (congrArg (Value.int .i64) m1)) ?_;apply Y 0x19;refine lp [1,2,3] [_,_,_] (fun j:Nat=>[(7,.int .i64 (((u*S+j):Nat):Int))]) (kz [_,_]) nz (fun j=>j≤S∧∀ a,a<j→(decide (u*S+a<l.length)&&(l.getD (u*S+a) Sy.zero).old&&decide (rdT (l.getD (u*S+a) Sy.zero) S=t))=false) (fun j=>S-j) 0 ⟨Nat.zero_le _,bA⟩ (lk [0,1] []) ?_;apply Y 0xf0e;intro j hj hno;apply Y 0x584;refine sp (Ev.cast (u:=.int .i64 (((u+1):Nat):Int)) (Ev.add rfl rfl oe oe) (congrArg (Value.int .i64) oe)) ?_;apply Y 0xd8;refine sp (Ev.cast (u:=.int .i64 ((((u+1)*S:Nat)):Int)) (Ev.mul rfl rfl oad oad) (congrArg (Value.int .i64) m2)) ?_;apply Y 0x5;refine L.bool 34 rfl (imp of_decide_eq_true ?_) (imp of_decide_eq_false ?_)<;>intro
    ·apply Zu 0x782c42eb8<;>intro
     ·apply Y 0x449;have hatk:=hat (u*S+j) oe;apply Y 0x282f382fa930e60e3d;refine sq (Ev.load rfl rfl rfl (Src.r 1 rfl) ((ft (i:=(u*S+j)) (j:=0) oe ob).trans rfl)) ?_;apply Y 0xa9;refine LQ.bool 49 rfl ?_ ?_<;>intro hg49
      ·apply Y 0x18282f18382f181d30e1860e18;refine sq (Ev.load rfl rfl rfl (Src.r 1 rfl) ((ft (i:=(u*S+j)) (j:=1) oe ob).trans rfl)) ?_;apply Y 0x1830e1860e18;refine sq (Ev.cast (u:=.int .i64 (((rdT (l.getD (u*S+j) Sy.zero) S):Nat):Int)) (Ev.quo rfl rfl oe oe oe) (congrArg (Value.int .i64) (F5 hatk.1))) ?_;apply Zu 0x40e9ab9181d<;>intro
       ·have hx:(decide (u*S+j<l.length)&&(l.getD (u*S+j) Sy.zero).old&&decide (rdT (l.getD (u*S+j) Sy.zero) S=t))=true:=by rw [decide_eq_true oe,hg49,decide_eq_true oe];rfl
        apply Y 0x4babf9;exact ⟨congrArg Value.bool (by unfold iH;rw [decide_eq_false (show ¬u=t by omega),hcu,hct,show Ij l S u t=true from lI (p:=fun a=>(decide (u*S+a<l.length)&&(l.getD (u*S+a) Sy.zero).old&&decide (rdT (l.getD (u*S+a) Sy.zero) S=t))) (k:=j) oe hx];rfl),rfl,rfl⟩
       have hx:(decide (u*S+j<l.length)&&(l.getD (u*S+j) Sy.zero).old&&decide (rdT (l.getD (u*S+j) Sy.zero) S=t))=false:=by rw [hg49,decide_eq_false (show ¬rdT (l.getD (u*S+j) Sy.zero) S=t by omega),Bool.and_false]
       exact Zm 0xafe3ad9
      have hx:(decide (u*S+j<l.length)&&(l.getD (u*S+j) Sy.zero).old&&decide (rdT (l.getD (u*S+j) Sy.zero) S=t))=false:=by rw [hg49,Bool.and_false,Bool.false_and]
      apply Y 0x9aa9f3e38e8b8b;refine C.cond rfl (fun h=>by cases h) (fun _=>?_);exact Zm 0xafe3ad9
     ·have hall:Ij l S u t=false:=ti (p:=fun a=>(decide (u*S+a<l.length)&&(l.getD (u*S+a) Sy.zero).old&&decide (rdT (l.getD (u*S+a) Sy.zero) S=t))) (fun a ha=>by
       rcases Nat.lt_or_ge a j with h|h
       ·exact hno a h
       ·show (decide (u*S+a<l.length)&&(l.getD (u*S+a) Sy.zero).old&&decide (rdT (l.getD (u*S+a) Sy.zero) S=t))=false
        rw [decide_eq_false oe]
        rfl)
      exact Zm 0xad1f39f969
    have hall:Ij l S u t=false:=ti (p:=fun a=>(decide (u*S+a<l.length)&&(l.getD (u*S+a) Sy.zero).old&&decide (rdT (l.getD (u*S+a) Sy.zero) S=t))) (fun a ha=>hno a oe);apply Y 0x1fa;refine C.cond rfl (fun h=>by cases h) (fun _=>?_);exact Zm 0xad1f39f969
theorem D4 (lf:Bool)(inn out:Int)(ops:List Po)(OA:Option Addr)(oc:Nat)(hops:ops.length≤9223372036854775807)(size:Int):
    Ctr X 132 [.agg (List.toArray [.bool lf,.int .i64 inn,.int .i64 out,.slice OA ops.length oc]),.int .i64 size] [Rd OA (cv ops)] [] (fun v R' H'=>∃ (A:Option Addr) (c:Nat) (hs:List Hd),v=.tuple #[.slice A (rdM lf inn out size ops).length c,.int .i64 (rdE lf inn out size ops)]∧R'=[Rd A (aB hs (J8 (rdM lf inn out size ops))),KidsR hs (J8 (rdM lf inn out size ops))]∧H'=[]∧hs.length=(rdM lf inn out size ops).length):=by
 refine co Tryz.func132 ?_;intro β;apply Y 0x2a;intro A2;apply Y 0xe2efb283;refine an (gu lf inn out ops OA oc hops) ?_;apply Y 0x89;intro A16 c16;apply Zu 0x5d18a15e42855<;>intro hc20
 ·apply Y 0x79e29e49e4a58;have hE:rdE lf inn out size ops=_:=JN hc20;refine ⟨none,0,[],?_,?_,rfl,?_⟩
  ·rw [bH (by rw [hE];first|decide|exact hc20),hE]
   rfl
  ·rw [bH (by rw [hE];first|decide|exact hc20)]
   rfl
  rw [bH (by rw [hE];first|decide|exact hc20)]
  rfl
 obtain ⟨k1,k2,k3,k4,k5,k6⟩:=fD hc20;rw [show syS inn out ops=ah ops from if_pos hc20];apply Y 0xac0f;intro htot;apply Zu 0xe9f86b2aa<;>intro hc23
 ·apply Y 0x79e29e49e4a48;have hE:rdE lf inn out size ops=_:=JM hc20 hc23;refine ⟨none,0,[],?_,?_,rfl,?_⟩
  ·rw [bH (by rw [hE];first|decide|exact hc20),hE]
   rfl
  ·rw [bH (by rw [hE];first|decide|exact hc20)]
   rfl
  rw [bH (by rw [hE];first|decide|exact hc20)]
  rfl
 apply Y 0x6caa;refine L.bool 26 rfl (imp of_decide_eq_true ?_) (imp of_decide_eq_false ?_)<;>intro
 ·apply Y 0x1bc;refine C.cond rfl (fun _=>?_) (fun h=>by cases h);apply Y 0x491f79e29e49e4a48;intro hE;refine ⟨none,0,[],?_,?_,rfl,?_⟩
  ·rw [bH (by rw [hE];first|decide|exact hc20),hE]
   rfl
  ·rw [bH (by rw [hE];first|decide|exact hc20)]
   rfl
  rw [bH (by rw [hE];first|decide|exact hc20)]
  rfl
 apply Zu 0x782c<;>intro
 ·apply Y 0x491f79e29e49e4a48;intro hE;refine ⟨none,0,[],?_,?_,rfl,?_⟩
  ·rw [bH (by rw [hE];first|decide|exact hc20),hE]
   rfl
  ·rw [bH (by rw [hE];first|decide|exact hc20)]
   rfl
  rw [bH (by rw [hE];first|decide|exact hc20)]
  rfl
 apply Y 0xaa;obtain ⟨S,rfl⟩:∃ S:Nat,size=(S:Int):=⟨size.toNat,by omega⟩;apply Y 0x3b90f6b6b68;refine an (zu inn out S ⟨by omega,by omega⟩ ⟨by omega,by omega⟩ oe oe) ?_;apply Zu 0x78482829<;>intro
 ·apply Y 0x79e29e49e4a48;have hE:rdE lf inn out (S:Int) ops=_:=JK hc20 obE oe oe (by simp only [Int.toNat_natCast];omega);refine ⟨none,0,[],?_,?_,rfl,?_⟩
  ·rw [bH (by rw [hE];first|decide|exact hc20),hE]
   rfl
  ·rw [bH (by rw [hE];first|decide|exact hc20)]
   rfl
  rw [bH (by rw [hE];first|decide|exact hc20)]
  rfl
 apply Y 0xaa;have hatl:∀ i,i<(ah ops).length→0≤((ah ops).getD i Sy.zero).at_∧((ah ops).getD i Sy.zero).at_≤65536:=fun i hi=>by
  apply Y 0xbd0f;intro hat;refine ⟨hat.1,?_⟩
  cases ho:((ah ops).getD i Sy.zero).old with
  |true=>have:=hat.2.1 ho;omega
  |false=>have:=hat.2.2 ho;omega
 have hsec:∀ u,u<(rdN inn out S)→(u+1)*S≤1000000:=fun u hu=>by
  have:=Nat.mul_le_mul (show u+1≤64 by omega) (show S≤4096 by omega)
  omega
 apply Y 0x7aca36b8a;intro A44;apply Y 0x88;intro A9;apply Y 0x2f0f196814e428eb;refine lp [] [] (fun q:Nat×Option Addr×Nat×List Hd=>[(8,.int .i64 ((rdN inn out S):Int)),(9,ag A9 0),(10,.slice q.2.1 (bV (ah ops) inn S (rdN inn out S) q.1).length q.2.2.1),(11,.int .i64 (q.1:Int))]) (kzz [_,_] [] fun q=>[KidsR q.2.2.2 (J8 (bV (ah ops) inn S (rdN inn out S) q.1))]) (fun q=>[Own 31 1 q.2.1 (bV (ah ops) inn S (rdN inn out S) q.1).length q.2.2.1 (aB q.2.2.2 (J8 (bV (ah ops) inn S (rdN inn out S) q.1)))]) (fun q=>q.1≤(rdN inn out S)∧q.2.2.2.length=q.1) (fun q=>(rdN inn out S)-q.1) (0,A44,0,[]) ⟨Nat.zero_le _,rfl⟩ (lk [2,1,0] [0]) ?_;apply Y 0xaee;intro u A c hs hu hhs
 dsimp only at hu hhs ⊢;apply Y 0x44;have hrl:=bY (ah ops) inn S (rdN inn out S) u;apply Zu 0x783b<;>intro
 ·apply Y 0x7a249;intro A50;apply Y 0x19228;refine lp [] [] (fun q:Nat×Option Addr×Nat=>[(8,.int .i64 ((rdN inn out S):Int)),(9,ag A9 0),(10,.slice A (bV (ah ops) inn S (rdN inn out S) u).length c),(11,.int .i64 (u:Int)),(12,.slice q.2.1 (kH (ah ops) inn S u q.1).length q.2.2),(13,.int .i64 (q.1:Int))]) (kz [_,_,_]) (fun q=>[Own 3 1 q.2.1 (kH (ah ops) inn S u q.1).length q.2.2 (I64 (NI (kH (ah ops) inn S u q.1))),Own 31 1 A (bV (ah ops) inn S (rdN inn out S) u).length c (aB hs (J8 (bV (ah ops) inn S (rdN inn out S) u)))]) (fun q=>q.1≤(rdN inn out S)) (fun q=>(rdN inn out S)-q.1) (0,A50,0) (Nat.zero_le _) (lk [0,1,2] [1,0]) ?_;apply Y 0xb1e;intro t B d ht
  dsimp only at ht ⊢;apply Y 0x44;have hrr:=jN (ah ops) inn S u t;apply Zu 0x783b<;>intro
  ·apply Y 0x516e249;refine an (Aa A16 (ah ops) c16 inn S oe u t (hsec u oe) (hsec t oe) oe oe oe hatl) ?_;apply Zu 0xe9f829<;>intro hc59
   ·have he:(kH (ah ops) inn S u (t+1))=(kH (ah ops) inn S u t)++[t]:=D9 hc59;apply Y 0x7a3b;intro A62;apply Y 0x1f1f;intro A63 cc63;apply Y 0x3a90e;refine QE.round (i:=(t,B,d)) ((t+1,A63,cc63)) ou ou (by exact lk [0,1,2] [0,1] ⟨rfl,rfl,rfl,rfl,OJ,rfl,trivial⟩ (hh:=⟨(congrArg some (ay OJ O4)),rfl,trivial⟩))
   have he:(kH (ah ops) inn S u (t+1))=(kH (ah ops) inn S u t):=HB hc59;apply Y 0x3ad9;refine QE.round (i:=(t,B,d)) ((t+1,B,d)) ou ou (by exact lk [0,1,2] [0,1] ⟨rfl,rfl,rfl,rfl,Qe,rfl,trivial⟩ (hh:=⟨(congrArg some OR),rfl,trivial⟩))
  apply Y 0x69;obtain rfl:t=(rdN inn out S):=oe;apply Y 0x7a3b8d;intro A66;refine L.append (j:=0) rfl rfl rfl rfl ob rfl rfl rfl rfl (Src.o 1 rfl) rfl (by intro v hv;simp at hv;subst hv;rfl) oe Qa rfl (fun A67 cc67=>?_);apply Y 0x3a90e;refine QE.more (r:=KidsR (hs++[(B,d)]) (J8 (bV (ah ops) inn S (rdN inn out S) u)++[I64 (NI (kH (ah ops) inn S u (rdN inn out S)))])) (ea 3 0 d rfl rfl (by rw [bW,bY];exact hhs)) ?_;refine QE.round (i:=(u,A,c,hs)) ((u+1,A67,cc67,hs++[(B,d)])) Qp ou (by exact lk [2,3,0] [0] ⟨rfl,rfl,oap,rfl,trivial⟩ (hr:=⟨rfl,rfl,(congrArg some (by dsimp only;rw [kI,← pD])),trivial⟩) (hh:=⟨(congrArg some (ay oap (by dsimp only;rw [kI,← kC (by rw [bY];exact hhs),bb]))),trivial⟩))
 apply Y 0x5a5869;refine qfz 0 [] ?_;refine qrt [0,3] [] [_,_] rfl rt ?_;obtain rfl:u=(rdN inn out S):=oe;have hE:rdE lf inn out (S:Int) ops=0:=HC hc20 obE oe oe qI;have hR:rdM lf inn out (S:Int) ops=(bV (ah ops) inn S (rdN inn out S) (rdN inn out S)):=by
  rw [Af hE,Int.toNat_natCast]
  exact zC oe htot rfl
 rw [hR,hE,hrl];exact ⟨A,c,hs,rfl,rfl,rfl,hhs⟩
theorem Gb (x:Po):∀ v∈Po.cells x,v.oneCell'=true:=by
 intro v hv
 simp only [Po.cells,List.mem_cons,List.not_mem_nil,or_false] at hv
 rcases hv with rfl|rfl|rfl|rfl|rfl<;>rfl
theorem FP {X:Cx}{β:Base}{Γ:Env}{R H:List Pr}{s d:Nat}{x:Operand}{k:IntKind}{m:Int}{q:UInt8}{i j:Ti}(hs:au s X.tab=some i)(hd:au d X.tab=some j)(hj:j.desc=.int .u8)(hx:ev Γ x=some (.int k m))(hq:m%256=(q.toNat:Int)):Ev X β Γ R H (.convert s d x) (.int .u8 (q.toNat:Int)):=
  (Ev.pure (v:=.int .u8 (IntKind.u8.wrap m)) oaj).cast (by rw [show IntKind.u8.wrap m=m%256 by simp [IntKind.wrap,IntKind.bits,IntKind.signed],hq])
theorem CV {X:Cx}{β:Base}{Γ:Env}{R H:List Pr}{t ty:Nat}{x y:Operand}{a b:UInt8}(hx:ev Γ x=some (.int .u8 (a.toNat:Int)))(hy:ev Γ y=some (.int .u8 (b.toNat:Int))):Ev X β Γ R H (.binOp .add t x y ty) (.int .u8 ((a+b).toNat:Int)):=
  (Ev.pure (v:=.int .u8 (IntKind.u8.wrap ((a.toNat:Int)+(b.toNat:Int)))) (by simp [pev,hx,hy,Jd,IntKind.wrap])).cast (by rw [show IntKind.u8.wrap ((a.toNat:Int)+(b.toNat:Int))=((a.toNat:Int)+(b.toNat:Int))%256 by simp [IntKind.wrap,IntKind.bits,IntKind.signed],UInt8.toNat_add];rfl)
theorem NP (B SA:Option Addr)(old:List UInt8)(l:List Sy)(bc sc:Nat)(hl:l.length≤1000000)(hok:zB old l):
    Ctr X 253 [.slice B old.length bc,.slice SA l.length sc] [Rd B (U8 old),Rd SA (dh l)] [] (fun v R' H'=>∃ (A:Option Addr) (c:Nat),v=.tuple #[.slice A (a7 old l).length c,.int .i64 0]∧R'=[]∧H'=[Own 5 1 A (a7 old l).length c (U8 (a7 old l))]):=by
 refine co Tryz.func253 ?_;intro β;apply Y 0x582d;refine CH (m:=l.length) rfl rfl rfl rfl rfl QX oe rfl (fun A11=>?_);apply Y 0x195828;refine lp [] [] (fun q:Nat×Option Addr×Nat=>[(0,.slice B old.length bc),(12,.slice SA l.length sc),(13,.int .i64 (l.length:Int)),(14,.int .i64 (q.1:Int)),(6,.slice q.2.1 (a7 old (l.take q.1)).length q.2.2)]) (kz [_,_]) (fun q=>[Own 5 1 q.2.1 (a7 old (l.take q.1)).length q.2.2 (U8 (a7 old (l.take q.1)))]) (fun q=>q.1≤l.length) (fun q=>l.length-q.1) (0,A11,l.length) (Nat.zero_le _) (lk [0,1] [0]) ?_;apply Y 0xb1e;intro i A c hi
 dsimp only at hi ⊢;have hrl:(a7 old (l.take i)).length=i:=oa9;apply Zu 0x1cda<;>intro
 ·apply Y 0xf30f249;refine sp (ab (vs:=Sy.cells (l.getD i Sy.zero)) rfl rfl rfl (Src.r 1 rfl) (eG l i oe) rfl ob) ?_;apply Y 0x88;intro A8;apply Y 0xf8eb;refine jr (fun z:UInt8=>[(0,.slice B old.length bc),(12,.slice SA l.length sc),(13,.int .i64 (l.length:Int)),(14,.int .i64 (i:Int)),(6,.slice A (a7 old (l.take i)).length c),(8,ag A8 0)]) (fun z:UInt8=>[Rd B (U8 old),Rd SA (dh l)]) (fun z:UInt8=>[Own 5 1 A (a7 old (l.take i)).length c (U8 (a7 old (l.take i))),Own 225 3 A8 1 1 [.bool (l.getD i Sy.zero).old,.int .i64 (l.getD i Sy.zero).at_,.int .u8 (z.toNat:Int)]]) (fun z:UInt8=>z=yl old (l.getD i Sy.zero)) ?_ ?_
  ·apply Zu 0xe9f8ba2<;>intro hc19
   ·have hat:=hok i oe hc19;apply Zu 0x7f1f5ba24<;>intro
    ·omega
    apply Zu 0x786a2cebe7cc7<;>intro
    ·omega
    apply Y 0xe8;refine aG [_,_] ⟨Has.o 1 rfl,Has.r 0 rfl,trivial⟩ ?_;apply Y 0x230f;refine mq 1 rfl (ldR 0) ?_;apply Y 0x4de;refine mfo 3 ?_;apply Y 0x6ebe78e6cc;refine mfo 5 ?_;apply Y 0x6152f;refine mfo 6 ?_;apply Y 0xa7ec9bbe;refine sp (CV rfl rfl) ?_;apply Y 0x70eac7be6cc19e6;refine QE.join (((l.getD i Sy.zero).b+old.getD (l.getD i Sy.zero).at_.toNat 0)) (by unfold yl;rw [if_pos hc19]) (lk [0,1] [0,1])
   apply Y 0xd9;refine QE.join ((l.getD i Sy.zero).b) (by unfold yl;rw [if_neg (by rw [hc19];decide)]) (lk [0,1] [0,1])
  intro z hz;apply Y 0x7aba8a;intro A42;refine L.append (j:=0) rfl rfl rfl rfl ob rfl rfl rfl rfl (Src.o 2 rfl) rfl (eZ rfl) oe oM rfl (fun A43 cc43=>?_);apply Y 0x6d90e;have he:=rj old l (i:=i) oe;rw [← hz] at he;apply Y 0x871f;intro hel;refine QE.round (i:=(i,A,c)) ((i+1,A43,cc43)) ou ou (by exact lk [0,1] [0] ⟨rfl,rfl,rfl,rfl,qL,trivial⟩ (hh:=⟨(congrArg some (ay hel.symm QK)),trivial⟩))
 apply Y 0x34e5a5869;obtain rfl:i=l.length:=oe;exact Zm 0xd6ee4e
theorem If (B:Option Addr)(b:List UInt8)(bc n:Nat)(hl:b.length≤9223372036854775807)(hn:n≤1000000):
    Ctr X 36 [.slice B b.length bc,.int .i64 (n:Int)] [Rd B (U8 b)] [] (fun v R' H'=>∃ (A:Option Addr) (c:Nat),v=.slice A (pI b n).length c∧R'=[]∧H'=[Own 5 1 A (pI b n).length c (U8 (pI b n))]):=by
 refine co Tryz.func36 ?_;intro β;apply Y 0x870f212;intro A8;apply Y 0x19228;refine lp [] [] (fun q:Nat×Option Addr×Nat=>[(0,.slice B b.length bc),(1,.int .i64 (n:Int)),(6,.int .i64 (q.1:Int)),(5,.slice q.2.1 (pI b q.1).length q.2.2)]) (kz [_]) (fun q=>[Own 5 1 q.2.1 (pI b q.1).length q.2.2 (U8 (pI b q.1))]) (fun q=>q.1≤n) (fun q=>n-q.1) (0,A8,0) (Nat.zero_le _) (lk [0] [0]) ?_;apply Y 0xb1e;intro i A c hi
 dsimp only at hi ⊢;have hrl:=wj b i;apply Zu 0x78584<;>intro
 ·apply Y 0x4849;refine sp (Ev.cast (u:=.int .i64 ((7*i:Nat):Int)) (Ev.mul rfl rfl oe oe) (congrArg (Value.int .i64) oe)) ?_;refine sp (FP (q:=UInt8.ofNat (7*i%256)) rfl rfl rfl rfl (by rw [UInt8.toNat_ofNat'];omega)) ?_;apply Y 0x1;refine jr (fun z:UInt8=>[(0,.slice B b.length bc),(1,.int .i64 (n:Int)),(6,.int .i64 (i:Int)),(5,.slice A (pI b i).length c),(7,.int .u8 (z.toNat:Int))]) (fun z:UInt8=>[Rd B (U8 b)]) (fun z:UInt8=>[Own 5 1 A (pI b i).length c (U8 (pI b i))]) (fun z:UInt8=>z=Kk b i) ?_ ?_
  ·apply Zu 0x786c<;>intro
   ·apply Y 0x3b;refine sp (ae (k:=i) rfl rfl rfl rfl rfl rfl rfl oe (Src.r 0 rfl) oO) ?_;apply Y 0x90ebbe;refine QE.join (b.getD i 0) (by unfold Kk;rw [if_pos oe]) (lk [0] [0])
   apply Y 0xd9;refine QE.join (UInt8.ofNat (7*i%256)) (by unfold Kk;rw [if_neg oe]) (lk [0] [0])
  intro z hz;apply Y 0x7a3b;intro A27;apply Y 0xde1f;intro A28 cc28;apply Y 0x3a90e;have he:=Bn b i;rw [← hz] at he;have hel:(pI b (i+1)).length=(pI b i).length+1:=qf;refine QE.round (i:=(i,A,c)) ((i+1,A28,cc28)) ou ou (by exact lk [0] [0] ⟨rfl,rfl,rfl,qL,trivial⟩ (hh:=⟨(congrArg some (ay hel.symm QK)),trivial⟩))
 apply Y 0x20e7c69;obtain rfl:i=n:=oe;exact Zm 0xd6e
theorem xa {old:List UInt8}{inn out:Int}{ops:List Po}(hE:cU inn out ops=0)(hin:inn=(old.length:Int)):zB old (syS inn out ops)∧(syS inn out ops).length≤1000000:=by
 apply Y 0xbce;intro k1 k2 k3 k4 k5 k6;apply Y 0x1ee;intro hs;apply Y 0xac0f;intro htot;rw [hs];refine ⟨fun i hi ho=>?_,by omega⟩;apply Y 0xbd0f;intro hat;have:=hat.2.1 ho
 omega
theorem Cw (B:Option Addr)(old:List UInt8)(bc:Nat)(lf:Bool)(inn out:Int)(ops:List Po)(OA:Option Addr)(oc:Nat)(hops:ops.length≤9223372036854775807)(hlf:lf=false)(hE:cU inn out ops=0)(hin:inn=(old.length:Int)):
    Ctr X 225 [.slice B old.length bc,.agg (List.toArray [.bool lf,.int .i64 inn,.int .i64 out,.slice OA ops.length oc])] [Rd B (U8 old),Rd OA (cv ops)] [] (fun v R' H'=>∃ (A:Option Addr) (c:Nat),v=.tuple #[.slice A (a7 old (syS inn out ops)).length c,.int .i64 0]∧R'=[]∧H'=[Own 5 1 A (a7 old (syS inn out ops)).length c (U8 (a7 old (syS inn out ops)))]):=by
 refine co Tryz.func225 ?_;intro β;have hrun:=xa hE hin;apply Y 0x2a;intro A3;apply Y 0x89921ff5efb283;intro SA sc;apply Zu 0x5d18a15e428553c<;>intro hc18
 ·exact absurd hE hc18
 apply Zu 0xe9f86b2aa<;>intro hc21
 ·rw [hlf] at hc21
  cases hc21
 apply Zu 0x5d16b58aa<;>intro
 ·omega
 apply Y 0x58e8;refine an (NP B SA old (syS inn out ops) bc sc hrun.2 hrun.1) ?_;apply Y 0x89;intro YA yc;apply Y 0x6c28553c;refine L.bool 44 rfl (imp tf ?_) (imp tg ?_)<;>intro hg44
 ·exact absurd rfl hg44
 apply Zu 0xe916a12e7d0e7<;>intro hc48
 ·apply Y 0x34e4a6c;exact ⟨YA,yc,rfl,rfl,rfl⟩
 rw [hlf] at hc48
 cases hc48
theorem FH {l:List Nat}{i:Nat}(h:i<l.length):(I64 (NI l))[i]?=some (.int .i64 ((l.getD i 0:Nat):Int)):=by simp [I64,NI,h]
theorem Gr (a b:Int):
    Ctr X 236 [.int .i64 a,.int .i64 b] [] [] (fun v R' H'=>v=.bool (decide (1≤a)&&decide (a≤b))∧R'=[]∧H'=[]):=by
 refine co Tryz.func236 ?_;intro β;apply Y 0x6c12;refine L.bool 7 rfl (imp of_decide_eq_true ?_) (imp of_decide_eq_false ?_)<;>intro
 ·apply Y 0xfc395a5b86a
  simp [*]
 apply Y 0xfc39bb2b
 simp [*]
theorem G8 (sz n:Int)(lf:Bool)(inn out:Int)(ops:List Po)(OA:Option Addr)(oc:Nat)(qv hv:Value):
    Ctr X 195 [.agg (List.toArray [.int .i64 sz,.int .i64 n,.bool lf,.int .i64 inn,.int .i64 out,.slice OA ops.length oc,qv,hv])] [] [] (fun v R' H'=>v=.bool (lZ sz n inn out)∧R'=[]∧H'=[]):=by
 refine co Tryz.func195 ?_;intro β;apply Y 0x2a;intro A1;apply Y 0xd8481fb28;refine gL (js:=[]) (js':=[]) (Gr sz 4096) rfl rfl rfl rfl rfl ob trivial rfl ?_;apply Y 0x329;refine L.bool 8 rfl ?_ ?_<;>intro hg8
 ·simp only [Bool.and_eq_true,decide_eq_true_eq] at hg8;apply Y 0x742eb8;refine gL (js:=[]) (js':=[]) (Gr n 64) rfl rfl rfl rfl rfl ob trivial rfl ?_;apply Y 0x529;refine L.bool 14 rfl ?_ ?_<;>intro hg14
  ·simp only [Bool.and_eq_true,decide_eq_true_eq] at hg14;have hp:=Ak hg8.1 hg8.2 hg14.1 hg14.2;apply Y 0x395a57d4e7cbcbb90f742eb8e742eb8e7;exact ⟨congrArg Value.bool oae,rfl,rfl⟩
  first
   |simp only [Bool.and_eq_false_iff,decide_eq_false_iff_not] at hg14
   |skip
  exact Zm 0xdce39bbfaa8a8
 simp only [Bool.and_eq_false_iff,decide_eq_false_iff_not] at hg8;exact Zm 0xdce39bbfaa89da8
theorem zk (sz n:Int)(lf:Bool)(inn out:Int)(ops:List Po)(OA:Option Addr)(oc:Nat)(qv hv:Value):
    Ctr X 75 [.agg (List.toArray [.int .i64 sz,.int .i64 n,.bool lf,.int .i64 inn,.int .i64 out,.slice OA ops.length oc,qv,hv])] [] [] (fun v R' H'=>v=.bool (lZ sz n inn out)∧R'=[]∧H'=[]):=by
 refine co Tryz.func75 ?_;intro β;apply Y 0x2a;intro A1;apply Y 0x5d8fb28;refine L.bool 6 rfl (imp of_decide_eq_true ?_) (imp of_decide_eq_false ?_)<;>intro
 ·apply Zu 0xbf0fc87cb<;>intro
  ·apply Zu 0xff0fc87cb<;>intro
   ·apply Zu 0x201fc87cb<;>intro
    ·have hp:=Ak (a:=sz) (b:=n) oe oe oe oe;apply Y 0xc87d4e7cbcb42eb8e7;refine L.bool 32 rfl (imp of_decide_eq_true ?_) (imp of_decide_eq_false ?_)<;>intro
     ·apply Y 0x395a57d4e7cbcb42eb8e7;exact ⟨congrArg Value.bool oae,rfl,rfl⟩
     exact Zm 0xdce39bbfaa8
    exact Zm 0xdce39bbfa9dfaa8
   exact Zm 0xdce39bbfa9dfa9d2b
  exact Zm 0xdce39bbfa9dfa9d2b52b
 exact Zm 0xdce39bbfa9dfa9d2b52b52b
theorem fy (A:Option Addr)(l:List Int)(c:Nat)(n:Int)(hl:l.length≤9223372036854775807):
    Ctr X 134 [.slice A l.length c,.int .i64 n] [Rd A (I64 l)] [] (fun v R' H'=>v=.int .i64 (fe l n)∧R'=[]∧H'=[]):=by
 refine co Tryz.func134 ?_;intro β;apply Y 0x192da;refine lp [0,1] [_,_] (fun k:Nat=>[(5,.int .i64 (k:Int))]) (kz [_]) nz (fun k=>k≤l.length∧∀ i,i<k→l.getD i 0≠n) (fun k=>l.length-k) 0 ⟨Nat.zero_le _,bA⟩ (lk [0] []) ?_;apply Y 0xf0e;intro k hk hno;apply Zu 0x786c4<;>intro
 ·apply Zu 0x40e13ffe931f5849<;>intro hc17
  ·apply Y 0x4bab7c;exact ⟨congrArg (Value.int .i64) (EH oe hno hc17).symm,rfl,rfl⟩
  apply Y 0x3ad9;refine QE.round (k+1) obm oe (lk [0] [])
 apply Y 0x39f969;exact ⟨congrArg (Value.int .i64) (Ii (fun i hi=>hno i oe)).symm,rfl,rfl⟩
theorem AP (CA LA:Option Addr)(cs l:List Nat)(cc lc:Nat)(hcl:cs.length≤1000000)(hl:l.length≤1000000)(hlt:∀ i,i<l.length→l.getD i 0<cs.length):
    Ctr X 79 [.slice CA cs.length cc,.slice LA l.length lc] [Rd CA (I64 (NI cs)),Rd LA (I64 (NI l))] [] (fun v R' H'=>∃ (A:Option Addr) (c:Nat),v=.slice A (jU cs l).length c∧R'=[]∧H'=[Own 3 1 A (jU cs l).length c (I64 (NI (jU cs l)))]):=by
 refine co Tryz.func79 ?_;intro β;apply Y 0x7a212;intro A7;apply Y 0x19228;refine lp [] [] (fun q:Nat×Option Addr×Nat=>[(0,.slice CA cs.length cc),(1,.slice LA l.length lc),(6,.int .i64 (q.1:Int)),(5,.slice q.2.1 (jU cs (l.take q.1)).length q.2.2)]) (kz [_,_]) (fun q=>[Own 3 1 q.2.1 (jU cs (l.take q.1)).length q.2.2 (I64 (NI (jU cs (l.take q.1))))]) (fun q=>q.1≤l.length) (fun q=>l.length-q.1) (0,A7,0) (Nat.zero_le _) (lk [0,1] [0]) ?_;apply Y 0xb1e;intro i A c hi
 dsimp only at hi ⊢;apply Zu 0x786c4<;>intro
 ·apply Y 0x49;have hli:=hlt i oe;have hrl:=jT cs (l.take i);rw [List.length_take] at hrl;apply Y 0x53b;refine sp (ae (k:=i) rfl rfl rfl rfl rfl rfl rfl oe (Src.r 1 rfl) Qi) ?_;refine sp (Ev.load rfl rfl rfl (Src.r 1 rfl) (FH oe)) ?_;refine sp (ae (k:=(l.getD i 0)) rfl rfl rfl rfl rfl rfl rfl hli (Src.r 0 rfl) Qi) ?_;refine sp (Ev.load rfl rfl rfl (Src.r 0 rfl) (FH hli)) ?_;apply Y 0x7a;intro A22;refine L.append (j:=0) rfl rfl rfl rfl ob rfl rfl rfl rfl (Src.o 1 rfl) rfl (eZ rfl) (by rw [jT,List.length_take];omega) oV rfl (fun A23 cc23=>?_);apply Y 0x3a90e;have he:=AQ cs l (i:=i) oe;have hel:(jU cs (l.take (i+1))).length=(jU cs (l.take i)).length+1:=qf;refine QE.round (i:=(i,A,c)) ((i+1,A23,cc23)) ou ou (by exact lk [0,1] [0] ⟨rfl,rfl,rfl,qL,trivial⟩ (hh:=⟨(congrArg some (ay hel.symm O4)),trivial⟩))
 apply Y 0x20e7c69;obtain rfl:i=l.length:=oe;exact Zm 0xd6ee4e
theorem x6 (S n:Nat)(lf:Bool)(inn out:Int)(ops:List Po)(OA:Option Addr)(oc:Nat)(qv hv:Value)(hops:ops.length≤9223372036854775807)(hS1:1≤S)(hS2:S≤4096)(hn1:1≤n)(hn2:n≤64)(hE:cU inn out ops=0):
    Ctr X 196 [.agg (List.toArray [.int .i64 (S:Int),.int .i64 (n:Int),.bool lf,.int .i64 inn,.int .i64 out,.slice OA ops.length oc,qv,hv])] [Rd OA (cv ops)] [] (fun v R' H'=>∃ (A:Option Addr) (c:Nat),v=.slice A (aI (ah ops) inn S n).length c∧R'=[]∧H'=[Own 3 1 A (aI (ah ops) inn S n).length c (I64 (NI (aI (ah ops) inn S n)))]):=by
 refine co Tryz.func196 ?_;intro β;apply Y 0xbce;intro k1 k2 k3 k4 k5 k6;apply Y 0x1ee;intro hsy;apply Y 0x1be;intro hsl;apply Y 0x310f;intro hnS;apply Y 0x2a;intro A1;apply Y 0x921ff5edcfb28;rw [hsy];apply Y 0x89;intro SA sc;apply Y 0x196b68eee428fb28553c;refine lp [] [] (fun q:Nat×Option Addr×Nat=>[(1,ag A1 0),(3,.slice SA (ah ops).length sc),(15,.int .i64 (n:Int)),(16,.int .i64 (q.1:Int)),(5,.slice q.2.1 (aI (ah ops) inn S q.1).length q.2.2)]) (kz [_,_,_]) (fun q=>[Own 3 1 q.2.1 (aI (ah ops) inn S q.1).length q.2.2 (I64 (NI (aI (ah ops) inn S q.1)))]) (fun q=>q.1≤n) (fun q=>n-q.1) (0,none,0) (Nat.zero_le _) (lk [0,1,2] [0]) ?_;apply Y 0xb1e;intro t A c hi
 dsimp only at hi ⊢;apply Zu 0x1cda<;>intro
 ·apply Y 0x284849;have hlt:=FY (S:=S) (show t<n by omega);apply Y 0xc40f;intro m1;apply Y 0x9b0f;intro m2;apply Y 0xb40f;intro hb2;apply Y 0x19a90f6b8a;refine lp [] [] (fun j:Nat=>[(1,ag A1 0),(3,.slice SA (ah ops).length sc),(15,.int .i64 (n:Int)),(16,.int .i64 (t:Int)),(6,.int .i64 (t:Int)),(5,.slice A (aI (ah ops) inn S t).length c),(7,.int .i64 (((t*S+j):Nat):Int))]) (kz [_,_,_]) (kz [_]) (fun j=>j≤S∧∀ a,a<j→chY (ah ops) inn (t*S+a)=false) (fun j=>S-j) 0 ⟨Nat.zero_le _,bA⟩ (lk [0,1,2] [0]) ?_;apply Y 0xf0e;intro j hj hno;apply Y 0x6bd0e5631f6b731f584;refine sp (Ev.cast (u:=.int .i64 (max ((ah ops).length:Int) inn)) (Ev.pure rfl) (congrArg (Value.int .i64) O0)) ?_;refine sp (Ev.cast (u:=.int .i64 (min (((t+1)*S:Nat):Int) (max ((ah ops).length:Int) inn))) (Ev.pure rfl) (congrArg (Value.int .i64) Qc)) ?_;apply Zu 0x78<;>intro
  ·apply Y 0xc85849;refine L.bool 43 rfl (imp of_decide_eq_true ?_) (imp of_decide_eq_false ?_)<;>intro
   ·have hx:chY (ah ops) inn (t*S+j)=true:=by unfold chY;rw [if_neg oe];exact decide_eq_true oe
    apply Y 0x12ba8;refine C.cond rfl (fun _=>?_) (fun h=>by cases h);apply Y 0x9c0f4;intro hrl;apply Y 0x7a3b;intro A54;apply Y 0x520f;intro A55 cc55;apply Y 0x66e1;refine lR rfl ?_;apply Y 0x681f6dbde;intro hx0;have he:=pd hx0;apply Y 0xbb0f;intro hel;exact Zm 0x122f
   apply Y 0xb86a;refine sp (cT (k:=(t*S+j)) (m:=(t*S+j)*3) rfl rfl rfl rfl rfl rfl oe (Src.r 0 rfl) (dW (k:=(t*S+j)) oe) rfl) ?_;apply Y 0x7;refine sp (ab (vs:=Sy.cells ((ah ops).getD (t*S+j) Sy.zero)) rfl rfl rfl (Src.r 0 rfl) (eG (ah ops) (t*S+j) oe) rfl ob) ?_;apply Y 0x7cab8;refine sp (pG (a:=((ah ops).getD (t*S+j) Sy.zero)) (b:=⟨true,(((t*S+j):Nat):Int),0⟩) rfl rfl) ?_;apply Zu 0xe91<;>intro hc51
   ·have hx:chY (ah ops) inn (t*S+j)=true:=by unfold chY;rw [if_pos oe];exact hc51
    apply Y 0x9c0f4;intro hrl;apply Y 0x7a3b;intro A54;apply Y 0x520f;intro A55 cc55;apply Y 0x66e1;refine lR rfl ?_;apply Y 0x681f6dbde;intro hx0;have he:=pd hx0;apply Y 0xbb0f;intro hel;exact Zm 0x122f
   have hx:chY (ah ops) inn (t*S+j)=false:=by unfold chY;rw [if_pos oe];exact hc51
   apply Y 0x3ad9;refine QE.round (j+1) qq oe (lk [0,1,2] [0])
  apply Y 0x6d64e;have hx0:gE (ah ops) inn S t=false:=IF hno oe;have he:=Cf hx0;refine QE.round (i:=(t,A,c)) ((t+1,A,c)) ou ou (by exact lk [0,1,2] [0] ⟨rfl,rfl,rfl,rfl,Qe,trivial⟩ (hh:=⟨(congrArg some OR),trivial⟩))
 apply Y 0x20e7c69;obtain rfl:t=n:=oe;exact Zm 0xd6e
theorem gF (S n:Nat)(lf:Bool)(inn out:Int)(ops:List Po)(OA:Option Addr)(oc:Nat)(qv hv:Value)(hops:ops.length≤9223372036854775807)(hS1:1≤S)(hS2:S≤4096)(hn1:1≤n)(hn2:n≤64)(hE:cU inn out ops=0):
    Ctr X 76 [.agg (List.toArray [.int .i64 (S:Int),.int .i64 (n:Int),.bool lf,.int .i64 inn,.int .i64 out,.slice OA ops.length oc,qv,hv])] [Rd OA (cv ops)] [] (fun v R' H'=>∃ (A:Option Addr) (c:Nat),v=.slice A (aI (ah ops) inn S n).length c∧R'=[]∧H'=[Own 3 1 A (aI (ah ops) inn S n).length c (I64 (NI (aI (ah ops) inn S n)))]):=by
 refine co Tryz.func76 ?_;intro β;apply Y 0xbce;intro k1 k2 k3 k4 k5 k6;apply Y 0x1ee;intro hsy;apply Y 0x1be;intro hsl;apply Y 0x310f;intro hnS;apply Y 0x2a;intro A1;apply Y 0xf5edcfb28;refine an (gu lf inn out ops OA oc hops) ?_;rw [hsy];apply Y 0x89;intro SA sc;apply Y 0x7afb28553c;intro A13;apply Y 0x19228;refine lp [] [] (fun q:Nat×Option Addr×Nat=>[(1,ag A1 0),(3,.slice SA (ah ops).length sc),(6,.int .i64 (q.1:Int)),(5,.slice q.2.1 (aI (ah ops) inn S q.1).length q.2.2)]) (kz [_,_,_]) (fun q=>[Own 3 1 q.2.1 (aI (ah ops) inn S q.1).length q.2.2 (I64 (NI (aI (ah ops) inn S q.1)))]) (fun q=>q.1≤n) (fun q=>n-q.1) (0,A13,0) (Nat.zero_le _) (lk [0,1,2] [0]) ?_;apply Y 0xb1e;intro t A c hi
 dsimp only at hi ⊢;apply Zu 0x786b484<;>intro
 ·apply Y 0x449;have hlt:=FY (S:=S) (show t<n by omega);apply Y 0xb40f;intro hb2;apply Y 0x3ca6b6bd0e8a;refine an (gG SA (ah ops) sc inn S hS1 t oe oe oe) ?_;apply Zu 0xe9f83c29<;>intro hc28
  ·apply Y 0x9c0f;intro hrl;apply Y 0x7a3b;intro A31;apply Y 0x520f;intro A32 cc32;apply Y 0x3a90e;have he:=pd hc28;apply Y 0xbb0f;intro hel;refine QE.round (i:=(t,A,c)) ((t+1,A32,cc32)) ou ou (by exact lk [0,1,2] [0] ⟨rfl,rfl,rfl,qL,trivial⟩ (hh:=⟨(congrArg some (ay hel.symm O4)),trivial⟩))
  apply Y 0x3ad9;have he:=Cf hc28;refine QE.round (i:=(t,A,c)) ((t+1,A,c)) ou ou (by exact lk [0,1,2] [0] ⟨rfl,rfl,rfl,Qe,trivial⟩ (hh:=⟨(congrArg some OR),trivial⟩))
 apply Y 0x20e7c69;obtain rfl:t=n:=oe;exact Zm 0xd6e
theorem nY {l:List Nat}{i:Nat}(h:i<l.length):l.getD i 0∈l:=by
 exact Zm 0xe10f540f
theorem Ew {s n:Nat}(hs:s<2^n){t:Nat}(h:t∈mem s 64):t<n:=by
 unfold mem at h;rw [List.mem_filter] at h;refine Nat.lt_of_not_le fun g=>?_
 have:=Nat.testBit_lt_two_pow (x:=s) (i:=t) (Nat.lt_of_lt_of_le hs (Nat.pow_le_pow_right ob g));rw [this] at h
 cases h.2
theorem N4 {s n:Nat}(hs:s<2^n)(hn:n≤16):(mem s 64).length≤16:=by
 have e:mem s 64=(List.range n).filter s.testBit:=by
  unfold mem
  exact k9 (fun t ht=>Nat.testBit_lt_two_pow (Nat.lt_of_lt_of_le hs (Nat.pow_le_pow_right ob ht))) oe
 rw [e];have:=List.length_filter_le s.testBit (List.range n);rw [List.length_range] at this
 omega
theorem rG (S n:Nat)(inn out:Int)(ops:List Po)(OA:Option Addr)(oc:Nat)(qv hv:Value)(hops:ops.length≤9223372036854775807)(hS1:1≤S)(hS2:S≤4096)(hn1:1≤n)(hn2:n≤64)(hE:cU inn out ops=0)(hi1:inn≤(S:Int)*(n:Int))(hi2:out≤(S:Int)*(n:Int)):
    Ctr X 201 [.agg (List.toArray [.int .i64 (S:Int),.int .i64 (n:Int),.bool false,.int .i64 inn,.int .i64 out,.slice OA ops.length oc,qv,hv])] [Rd OA (cv ops)] [] (fun v R' H'=>∃ (A:Option Addr) (hs:List Hd),v=.slice A n n∧R'=[Rd A (aB hs (J8 (bV (ah ops) inn S n n))),KidsR hs (J8 (bV (ah ops) inn S n n))]∧H'=[]∧hs.length=n):=by
 refine co Tryz.func201 ?_;intro β;apply Y 0xbce;intro k1 k2 k3 k4 k5 k6;apply Y 0x1ee;intro hsy;apply Y 0x1be;intro hsl;apply Y 0x310f;intro hnS;apply Y 0x1c1f;intro r1 r2 r3 r4;apply Y 0x8d0f;intro hpad;apply Y 0x7d0f;intro hml;apply Y 0x2a;intro A1;apply Y 0xd8fb28;refine mU (m:=n) rfl rfl rfl rfl rfl rfl rfl rfl rfl obz oe rfl (fun A8=>?_);apply Y 0xd8f5edc21;refine a8 (D5 false inn out ops OA oc hops (S:Int)) ?_;rw [r1,r2];apply Y 0x9ee;intro MA mc hs hhs;apply Y 0x58155;refine L.copy (j:=0) (o:=0) rfl rfl rfl rfl rfl (fun g hg _=>hg) rfl rfl (Src.r 0 rfl) (by rw [bt obA,bW,hml];omega) (rp _ _) (by rw [bt obA,bW,hml,List.length_replicate];omega) rfl ?_;apply Y 0x7cf8;refine qfz 0 [] ?_;refine QE.more (r:=KidsR (hs++List.replicate (n-(bV (ah ops) inn S (rdN inn out S) (rdN inn out S)).length) (none,0)) (J8 (Gc (bV (ah ops) inn S (rdN inn out S) (rdN inn out S)) n))) (uW 2 rfl hhs _) ?_;refine qrt [1,0] [] [_] rfl rt ?_;refine ⟨A8,hs++List.replicate (n-(bV (ah ops) inn S (rdN inn out S) (rdN inn out S)).length) (none,0),rfl,?_,rfl,by rw [List.length_append,List.length_replicate,hhs,hml];omega⟩;rw [← hpad];have he:∀ q:Nat,List.drop (0+(aB hs (J8 (bV (ah ops) inn S (rdN inn out S) (rdN inn out S)))).length) (List.replicate n (Value.slice none 0 0))=List.replicate (n-(bV (ah ops) inn S (rdN inn out S) (rdN inn out S)).length) (Value.slice none 0 0):=fun _=>by rw [Nat.zero_add,bt obA,bW,List.drop_replicate]
 show [Rd A8 (List.take 0 _++aB hs (J8 (bV (ah ops) inn S (rdN inn out S) (rdN inn out S)))++List.drop (0+(aB hs (J8 (bV (ah ops) inn S (rdN inn out S) (rdN inn out S)))).length) (List.replicate n (Value.slice none 0 0))),_]=_;rw [he 0,List.take_zero,List.nil_append,DP hhs]
end Go.Proofs.YtbpddeiogcgegaaGreat
