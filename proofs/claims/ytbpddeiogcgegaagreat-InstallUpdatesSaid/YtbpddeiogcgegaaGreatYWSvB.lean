/-
  Part of a proof.
-/
import Derived.Test.YtbpddeiogcgegaaGreatYWPlE
set_option maxHeartbeats 0
set_option maxRecDepth 4000
set_option linter.all false
namespace Go.Proofs.YtbpddeiogcgegaaGreat
open Go.Sl
theorem JQ (p:Nat)(B:Option Addr)(b:List UInt8)(n bc:Nat)(CA O:Option Addr)(out:List UInt8)(m oc:Nat)(hn:b.length=n)(hm:out.length=m)(hfit:p+b.length≤m)(ho:m≤oc):
    Ctr X 234 [.int .i64 (p:Int),.slice B n bc,ag CA 0] [Rd B (U8 b)] [Own 24 1 CA 1 1 [.slice O m oc],Own 5 1 O m oc (U8 out)] (fun v R' H'=>v=.tuple #[]∧R'=[]∧H'=[Own 24 1 CA 1 1 [.slice O m oc],Own 5 1 O m oc (U8 (vE out p b))]):=by
 refine co Tryz.func234 ?_;intro β;apply Y 0x394e68;refine sp (bx (l:=p) rfl rfl rfl rfl rfl rfl oe) ?_;apply Y 0x3;refine L.copy (j:=1) (o:=p) rfl rfl rfl rfl rfl (fun g hg hlen=>by rw [aH] at hlen;rw [hg];exact GY oe) rfl rfl (Src.r 0 rfl) oO (b4 b) (by rw [aH,aH];omega) rfl ?_;apply Y 0x50e;refine lQ ?_;refine qrt [] [0,1] [] rfl trivial ?_;refine ⟨rfl,rfl,?_⟩;rw [← Sp]
 rfl
theorem J4 (p:Nat)(B:Option Addr)(n bc:Nat):
    Ctr X 233 [.int .i64 (p:Int),.slice B n bc] [] [] (fun v R' H'=>v=.tuple #[]∧R'=[]∧H'=[]):=by
 refine co Tryz.func233 ?_;intro β;apply Y 0xd9;refine lQ ?_;refine qrt [] [] [] rfl trivial ?_;exact Zm 0xd1e
theorem Hx (RB:Option Addr)(rec:List UInt8)(rc:Nat)(size:Int)(hrc:rec.length≤rc)(hrl:rec.length≤9223372036854775807)(CA O:Option Addr)(out:List UInt8)(oc:Nat)(ho:out.length≤oc)(hsz:size=(out.length:Int)):
    Ctr X 232 [.slice RB rec.length rc,.int .i64 size,.func (.func 234) #[] #[ag CA 0]] [Rd RB (U8 rec)] [Own 24 1 CA 1 1 [.slice O out.length oc],Own 5 1 O out.length oc (U8 out)] (fun v R' H'=>v=.bool (bS rec size).isSome∧R'=[]∧∃ out':List UInt8,out'.length=out.length∧(∀ ps,bS rec size=some ps→out'=cP out ps)∧H'=[Own 24 1 CA 1 1 [.slice O out.length oc],Own 5 1 O out.length oc (U8 out')]):=by
 apply Y 0xbe1f;intro β;apply Y 0x212;refine L.defer ?_;apply Zu 0xbf0f5587b<;>intro
 ·apply Y 0x1fa;refine C.cond rfl (fun _=>?_) (fun h=>by cases h);apply Y 0xd50f25e;intro hE;have hlen:out.length=out.length:=rfl;apply Y 0x240f812f;exact ⟨_,hlen,(fun ps h=>by rw [hE] at h;cases h),rfl⟩
 apply Zu 0x786ac30f7bbe7352fb8<;>intro
 ·apply Y 0xd50f25e;intro hE;have hlen:out.length=out.length:=rfl;apply Y 0x240f812f;exact ⟨_,hlen,(fun ps h=>by rw [hE] at h;cases h),rfl⟩
 apply Y 0x48e8;refine sp (bx (l:=1) rfl rfl rfl rfl rfl rfl oe) ?_;apply Y 0xddca3ca;intro A23;apply Y 0x428;refine C.le (Γ':=[(0,.slice RB rec.length rc),(1,.int .i64 size),(2,.func (.func 234) #[] #[ag CA 0]),(6,.bool false),(7,ag A23 0)]) (R':=[Rd RB (U8 rec)]) (H':=[Own 334 3 A23 1 1 [.slice (bF RB rc 1 1) (rec.drop 1).length (rc-1),.int .i64 0,.int .i64 size],Own 24 1 CA 1 1 [.slice O out.length oc],Own 5 1 O out.length oc (U8 out)]) (by exact lk [0] [2,0,1] (hh:=⟨(congrArg some oak),rfl,rfl,trivial⟩)) ?_;apply Y 0x1a1f;intro hbig;apply Y 0x502f994c8a;refine bf (js:=[0]) (js':=[1,2]) (eP 334 3 A23 [.int .i64 0,.int .i64 size] (bF RB rc 1 1) (rec.drop 1) (rc-1) ot) rfl rfl rfl ob hcx rfl ?_ ?_
 rotate_left;apply Y 0x98;intro h27;rw [List.length_drop] at h27;apply Y 0xa80f95e
 omega;apply Y 0x1a;intro h27;apply Y 0x19;have hn0:=mO (rec.drop 1);apply Y 0x7e1f;refine lp [0,1,2,6,7,27] [_,_,_,_,_,_] (fun q:Nat×Option Addr×List UInt8×Nat×Int×List Pc=>[(28,.int .i64 (q.1:Int))]) (kzz [_] [] fun q=>[Rd q.2.1 (U8 q.2.2.1)]) (fun q=>[Own 334 3 A23 1 1 [.slice q.2.1 q.2.2.1.length q.2.2.2.1,.int .i64 q.2.2.2.2.1,.int .i64 size],Own 24 1 CA 1 1 [.slice O out.length oc],Own 5 1 O out.length oc (U8 (cP out q.2.2.2.2.2))]) (fun q=>q.1≤(be2 (rec.drop 1))∧q.2.2.1.length≤q.2.2.2.1∧lU (be2 (rec.drop 1)) size ((rec.drop 1).drop 2) ((be2 (rec.drop 1))-q.1) q.2.2.1 q.2.2.2.2.1 q.2.2.2.2.2∧(cP out q.2.2.2.2.2).length=out.length) (fun q=>(be2 (rec.drop 1))-q.1) (0,(bF (bF RB rc 1 1) (rc-1) 2 1),((rec.drop 1).drop 2),(rc-1-2),0,[]) ⟨Nat.zero_le _,by dsimp only;rw [List.length_drop,List.length_drop];omega,lU.start _ _ _,rfl⟩ (lk [2,0] [0,1,2]) ?_;rintro ⟨k,S,l,c,last,ps⟩ ⟨hk,hc,hh,hlen⟩
 dsimp only at hk hc hh hlen ⊢;apply Zu 0x1cda<;>intro
 ·apply Y 0x3b49;refine bf (js:=[0]) (js':=[1,2]) (Ap 334 A23 S l c last size hc) rfl rfl rfl ob hcx rfl ?_ ?_
  rotate_left;apply Y 0x98;intro hp;apply Y 0xe1e940f;have hE:=nK (rec:=rec) (size:=size) (lU.bad (by rw [show (be2 (rec.drop 1))-k=(be2 (rec.drop 1))-(k+1)+1 from by omega] at hh;exact hh) hp);apply Y 0x240f612f;exact ⟨_,hlen,(fun ps h=>by rw [hE] at h;cases h),rfl⟩;apply Y 0x21e;intro hp;have hp1:=hp
  unfold aj at hp1;apply Y 0x302f402f5;refine gL (js:=[1,2]) (js':=[0]) (JQ (be2 l) (bF (bF S c 2 1) (c-2) 2 1) (((l.drop 2).drop 2).take (be2 (l.drop 2))) (be2 (l.drop 2)) (c-2-2) CA O (cP out ps) out.length oc qS hlen qS oe) rfl rfl rfl rfl rfl ob hcx rfl ?_;apply Y 0x512f6d50e29;refine QE.round (i:=(k,S,l,c,last,ps)) ((k+1,(bF (bF (bF S c 2 1) (c-2) 2 1) (c-2-2) (be2 (l.drop 2)) 1),(((l.drop 2).drop 2).drop (be2 (l.drop 2))),((c-2-2)-(be2 (l.drop 2))),(be2 l:Int)+((be2 (l.drop 2)):Int),ps++[(be2 l,((l.drop 2).drop 2).take (be2 (l.drop 2)))])) (by exact ⟨by dsimp only;omega,by dsimp only;rw [List.length_drop,List.length_drop,List.length_drop];omega,lU.next qW hp,by dsimp only;rw [gI,nF (by dsimp only;rw [List.length_take,List.length_drop,List.length_drop];omega)];exact hlen⟩) ou (by exact lk [3,0] [2,0,1] (hh:=⟨rfl,rfl,(congrArg some (by rw [gI])),trivial⟩))
 obtain rfl:k=(be2 (rec.drop 1)):=oe;have hdone:=lU.done (by rw [Nat.sub_self] at hh;exact hh);apply Y 0x994c4869;refine bf (js:=[0]) (js':=[1,2]) (eP 334 3 A23 [.int .i64 last,.int .i64 size] S l c hc) rfl rfl rfl ob hcx rfl ?_ ?_
 rotate_left;apply Y 0x98;intro h40;apply Y 0xe50f;intro hE;rw [if_neg oe] at hE;apply Y 0x240f612fe1e;exact ⟨_,hlen,(fun ps h=>by rw [hE] at h;cases h),rfl⟩;apply Y 0x1a;intro h40;apply Y 0xe50f;intro hE;apply Zu 0x701f55<;>intro hg44
 ·apply Y 0x912f5a5b894e79979974cb8;exact ⟨congrArg Value.bool (Gw hE h40 hg44),rfl,_,hlen,Kv hE,rfl⟩
 apply Y 0xbb2ba8;rw [if_neg oe] at hE;apply Y 0x240f912f;exact ⟨_,hlen,(fun ps h=>by rw [hE] at h;cases h),rfl⟩
theorem Hy (RB:Option Addr)(rec:List UInt8)(rc:Nat)(size:Int)(hrc:rec.length≤rc)(hrl:rec.length≤9223372036854775807)(_hs1:size≤1000000):
    Ctr X 232 [.slice RB rec.length rc,.int .i64 size,.func (.func 233) #[] #[]] [Rd RB (U8 rec)] [] (fun v R' H'=>v=.bool (bS rec size).isSome∧R'=[]∧H'=[]):=by
 apply Y 0xbe1f;intro β;apply Y 0x212;refine L.defer ?_;apply Zu 0xbf0f5587b<;>intro
 ·apply Y 0x1fa;refine C.cond rfl (fun _=>?_) (fun h=>by cases h);apply Y 0xd50f25e;intro hE;exact Zm 0x120fc80f
 apply Zu 0x786ac30f7bbe7352fb8<;>intro
 ·apply Y 0xd50f25e;intro hE;exact Zm 0x120fc80f
 apply Y 0x48e8;refine sp (bx (l:=1) rfl rfl rfl rfl rfl rfl oe) ?_;apply Y 0xddca3ca;intro A23;apply Y 0x428;refine C.le (Γ':=[(0,.slice RB rec.length rc),(1,.int .i64 size),(2,.func (.func 233) #[] #[]),(6,.bool false),(7,ag A23 0)]) (R':=[Rd RB (U8 rec)]) (H':=[Own 334 3 A23 1 1 [.slice (bF RB rc 1 1) (rec.drop 1).length (rc-1),.int .i64 0,.int .i64 size]]) (by exact lk [0] [0] (hh:=⟨(congrArg some oak),trivial⟩)) ?_;apply Y 0x1a1f;intro hbig;apply Y 0x502f994c8a;refine bf (js:=[0]) (js':=[]) (eP 334 3 A23 [.int .i64 0,.int .i64 size] (bF RB rc 1 1) (rec.drop 1) (rc-1) ot) rfl rfl rfl ob hcx rfl ?_ ?_
 rotate_left;apply Y 0x98;intro h27;rw [List.length_drop] at h27;apply Y 0xa80f95e
 omega;apply Y 0x1a;intro h27;apply Y 0x19;have hn0:=mO (rec.drop 1);apply Y 0x7e1f;refine lp [0,1,2,6,7,27] [_,_,_,_,_,_] (fun q:Nat×Option Addr×List UInt8×Nat×Int×List Pc=>[(28,.int .i64 (q.1:Int))]) (kzz [_] [] fun q=>[Rd q.2.1 (U8 q.2.2.1)]) (fun q=>[Own 334 3 A23 1 1 [.slice q.2.1 q.2.2.1.length q.2.2.2.1,.int .i64 q.2.2.2.2.1,.int .i64 size]]) (fun q=>q.1≤(be2 (rec.drop 1))∧q.2.2.1.length≤q.2.2.2.1∧lU (be2 (rec.drop 1)) size ((rec.drop 1).drop 2) ((be2 (rec.drop 1))-q.1) q.2.2.1 q.2.2.2.2.1 q.2.2.2.2.2) (fun q=>(be2 (rec.drop 1))-q.1) (0,(bF (bF RB rc 1 1) (rc-1) 2 1),((rec.drop 1).drop 2),(rc-1-2),0,[]) ⟨Nat.zero_le _,by dsimp only;rw [List.length_drop,List.length_drop];omega,lU.start _ _ _⟩ (lk [2,0] [0]) ?_;rintro ⟨k,S,l,c,last,ps⟩ ⟨hk,hc,hh⟩
 dsimp only at hk hc hh ⊢;apply Zu 0x1cda<;>intro
 ·apply Y 0x3b49;refine bf (js:=[0]) (js':=[]) (Ap 334 A23 S l c last size hc) rfl rfl rfl ob hcx rfl ?_ ?_
  rotate_left;apply Y 0x98;intro hp;apply Y 0xe1e940f;have hE:=nK (rec:=rec) (size:=size) (lU.bad (by rw [show (be2 (rec.drop 1))-k=(be2 (rec.drop 1))-(k+1)+1 from by omega] at hh;exact hh) hp);exact Zm 0x120fa80f;apply Y 0x21e;intro hp;have hp1:=hp
  unfold aj at hp1;apply Y 0x302f402f5;refine gL (js:=[]) (js':=[0]) (J4 (be2 l) (bF (bF S c 2 1) (c-2) 2 1) (be2 (l.drop 2)) (c-2-2)) rfl rfl rfl rfl rfl ob trivial rfl ?_;apply Y 0x512f6d50e29;refine QE.round (i:=(k,S,l,c,last,ps)) ((k+1,(bF (bF (bF S c 2 1) (c-2) 2 1) (c-2-2) (be2 (l.drop 2)) 1),(((l.drop 2).drop 2).drop (be2 (l.drop 2))),((c-2-2)-(be2 (l.drop 2))),(be2 l:Int)+((be2 (l.drop 2)):Int),ps++[(be2 l,((l.drop 2).drop 2).take (be2 (l.drop 2)))])) (by exact ⟨by dsimp only;omega,by dsimp only;rw [List.length_drop,List.length_drop,List.length_drop];omega,lU.next qW hp⟩) ou (lk [3,0] [0])
 obtain rfl:k=(be2 (rec.drop 1)):=oe;have hdone:=lU.done (by rw [Nat.sub_self] at hh;exact hh);apply Y 0x994c4869;refine bf (js:=[0]) (js':=[]) (eP 334 3 A23 [.int .i64 last,.int .i64 size] S l c hc) rfl rfl rfl ob hcx rfl ?_ ?_
 rotate_left;apply Y 0x98;intro h40;apply Y 0xe50f;intro hE;rw [if_neg oe] at hE;exact Zm 0x120fa80fe1e;apply Y 0x1a;intro h40;apply Y 0xe50f;intro hE;apply Zu 0x701f55<;>intro hg44
 ·apply Y 0xc80f5a5b894e79979974cb8;exact ⟨congrArg Value.bool (Gw hE h40 hg44),rfl,rfl⟩
 apply Y 0xbb2ba8;rw [if_neg oe] at hE;exact Zm 0x120fc80f
def StR (A5:Option Addr)(s:List (Nat×Nat)×Option Addr×Nat):List Pr:=[Own 220 1 A5 1 1 [.slice s.2.1 s.1.length s.2.2],Own 223 2 s.2.1 s.1.length s.2.2 (bD s.1)]
def Ss (x:Nat×Nat):List Value:=[.agg (List.toArray [.int .i64 (x.1:Int),.int .i64 (x.2:Int)])]
def RM (s:List (Nat×Nat)×Option Addr×Nat)(x:Nat×Nat)(s2:List (Nat×Nat)×Option Addr×Nat):Prop:=s2.1=s.1++[x]
def Pj (s:List (Nat×Nat)×Option Addr×Nat)(_x:Nat×Nat):Prop:=s.1.length≤200000
theorem wR {a b:List UInt8}{j:Nat}(h:a.length≤j∨(j<a.length∧a.getD j 0=b.getD j 0))(hj:j≤a.length:=by omega):aA a b (min (j+1) a.length)=aA a b j:=by
 rcases h with h|⟨h,he⟩
 ·rw [Nat.min_eq_right oe]
  congr 1
  omega
 rw [Nat.min_eq_left oe,aA,if_pos he]
theorem IE {s:List (Nat×Nat)}{k j:Nat}(h:∀ x∈s,x.2<k)(hkj:k≤j):∀ x∈s++[(k,j)],x.2<j+1:=by
 intro x hx
 rcases List.mem_append.1 hx with hx|hx
 ·have:=h x hx
  omega
 simp only [List.mem_singleton] at hx;subst hx
 exact Nat.lt_succ_self _
theorem yU (s:List (Nat×Nat))(i:Nat):(gw s i).length≤s.length+1:=by
 unfold gw
 split
 ·split<;>simp
 simp
theorem wV (a b:List UInt8):∀ k,(aA a b k).length≤k
  |0=>Nat.le_refl _
  |k+1=>by
    rw [aA]
    have:=wV a b k
    split
    · omega
    · have:=yU (aA a b k) k;omega
theorem Ki (l:Nat)(r:Loop)(PA PB:Option Addr)(SA SB:Option Addr)(a b:List UInt8)(ca cb:Nat)(hab:a.length=b.length)(hal:a.length≤100000)(A5:Option Addr)(hy:uR X l r Ss (StR A5) RM Pj):
    Ctr X 278 [.func (.yield l) #[] #[],ag PA 0,ag PB 0] [Rd PA [.slice SA a.length ca],Rd PB [.slice SB b.length cb],Rd SA (U8 a),Rd SB (U8 b)] [dS l r,Own 220 1 A5 1 1 [.slice none ([]:List (Nat×Nat)).length 0],Own 223 2 none ([]:List (Nat×Nat)).length 0 (bD ([]:List (Nat×Nat)))] (fun v R' H'=>R'=[]∧∃ (O:Option Addr) (c:Nat),H'=dS l r::StR A5 (aA a b a.length,O,c)):=by
 refine co Tryz.func278 ?_;intro β;apply Y 0x192;refine lp [0,1,2] [_,_,_] (fun q:Nat×List (Nat×Nat)×Option Addr×Nat=>[(4,.int .i64 (q.1:Int))]) (kz [_,_,_,_]) (fun q=>[dS l r,Own 220 1 A5 1 1 [.slice q.2.2.1 q.2.1.length q.2.2.2],Own 223 2 q.2.2.1 q.2.1.length q.2.2.2 (bD q.2.1)]) (fun q=>q.1≤a.length+1∧q.2.1=aA a b (min q.1 a.length)∧∀ x∈q.2.1,x.2<q.1) (fun q=>a.length+1-q.1) (0,[],none,0) ⟨Nat.zero_le _,by dsimp only;rw [Nat.zero_min];rfl,fun x hx=>by cases hx⟩ (lk [0,1,2,3] [0,1,2]) ?_;apply Y 0xcc1f;intro k s O c hk hs hlt
 dsimp only at hk hs hlt ⊢;apply Zu 0x783a3e484<;>intro hc9
 ·have hka:k<a.length:=Int.ofNat_lt.1 hc9;have hsk:aA a b k=s:=by rw [hs,Nat.min_eq_left (Nat.le_of_lt hka)]
  have hsl:s.length≤k:=by rw [← hsk];exact wV a b k
  apply Y 0x2d49;refine jr (fun j:Nat=>[(0,.func (.yield l) #[] #[]),(1,ag PA 0),(2,ag PB 0),(5,.int .i64 (k:Int)),(4,.int .i64 (j:Int))]) (fun j:Nat=>[Rd PA [.slice SA a.length ca],Rd PB [.slice SB b.length cb],Rd SA (U8 a),Rd SB (U8 b)]) (fun j:Nat=>[dS l r,Own 220 1 A5 1 1 [.slice O s.length c],Own 223 2 O s.length c (bD s)]) (fun j:Nat=>(k≤j∧j≤a.length∧aA a b j=(if k<j then s++[(k,j)] else s))∧aA a b (min (j+1) a.length)=aA a b j) ?_ ?_
  ·apply Y 0x53e;refine lp [0,1,2,5] [_,_,_,_] (fun j:Nat=>[(4,.int .i64 (j:Int))]) (kz [_,_,_,_]) (kz [_,_,_]) (fun j=>k≤j∧j≤a.length∧aA a b j=(if k<j then s++[(k,j)] else s)) (fun j=>a.length-j) k ⟨Nat.le_refl _,Nat.le_of_lt hka,by rw [if_neg (Nat.lt_irrefl _)];exact hsk⟩ (lk [0,1,2,3] [0,1,2]) ?_;rintro j hj;have hkj:=hj.1;have hjl:=hj.2.1;apply Y 0xa9b930ea93d44;refine LQ.bool 17 rfl (imp of_decide_eq_true ?_) (imp of_decide_eq_false ?_)<;>intro hg17
   ·have hja:j<a.length:=Int.ofNat_lt.1 hg17;apply Y 0x181d30e18;refine sq (ae (k:=j) rfl rfl rfl rfl rfl rfl rfl hja (Src.r 2 rfl) oO) ?_;apply Y 0x18;refine sq (Ev.load rfl rfl rfl (Src.r 2 rfl) (bE hja)) ?_;apply Y 0x181d52e18;refine sq (ae (k:=j) rfl rfl rfl rfl rfl rfl rfl oe (Src.r 3 rfl) oO) ?_;apply Y 0x18;refine sq (Ev.load rfl rfl rfl (Src.r 3 rfl) (bE oe)) ?_;apply Zu 0x5d9ab918<;>intro hc27
    ·apply Y 0x68ecde53ee8;refine QE.round (j+1) (by exact ⟨by omega,by omega,E8 hlt hkj hj.2.2 (fun e=>hc27 (e9.2 e))⟩) oe (lk [0,1,2,3] [0,1,2])
    apply Y 0x64e;refine QE.join (j) (by exact ⟨hj,wR (.inr ⟨hja,e9.1 hc27⟩)⟩) (lk [0,1,2,3] [0,1,2])
   apply Y 0x9aa9f3e8b8b;refine C.cond rfl (fun h=>by cases h) (fun _=>?_);apply Y 0x64e;refine QE.join (j) (by exact ⟨hj,wR (.inl oe)⟩) (lk [0,1,2,3] [0,1,2])
  rintro j ⟨⟨hkj,hjl,hcj⟩,hstop⟩;apply Y 0x4;refine tu ?_;apply Y 0x37e37e37e37e;refine LY.bool 33 rfl (imp of_decide_eq_true ?_) (imp of_decide_eq_false ?_)<;>intro
  ·apply Y 0x6fe37e6fe37e6fe37e6fe;refine LY.step (Ev.build rfl rfl rfl rfl rfl rfl rfl) rfl ?_;apply Y 0x6fe;refine LY.yield (js:=[0,1,2]) (js':=[]) hy (s,O,c) (k,j) (show s.length≤200000 by omega) rfl rfl rfl rfl ob rfl ?_;apply Y 0xb1e;intro s2 O2 c2 hnx;have hnx2:s2=s++[(k,j)]:=hnx;subst hnx2;apply Y 0x37e37e6fe;refine LY.nil ?_;apply Y 0x1b;refine C.cond rfl (fun h=>by cases h) (fun _=>?_);apply Y 0x3ad9;refine QE.round (i:=(k,s,O,c)) ((j+1,s++[(k,j)],O2,c2)) (by exact ⟨by dsimp only;omega,by dsimp only;rw [hstop,hcj,if_pos oe],IE hlt oe⟩) ou (lk [0,1,2,3] [0,1,2])
  apply Y 0x37e5fe5fe5fe5fe5fe5fe;refine LY.nil ?_;apply Y 0x1b;refine C.cond rfl (fun h=>by cases h) (fun _=>?_);apply Y 0x3ad9;refine QE.round (i:=(k,s,O,c)) ((j+1,s,O,c)) (by exact ⟨by dsimp only;omega,by dsimp only;rw [hstop,hcj,if_neg oe],fun x hx=>Nat.lt_of_lt_of_le (hlt x hx) ou⟩) ou (lk [0,1,2,3] [0,1,2])
 apply Y 0x64e;refine lQ ?_;refine qrt [] [0,1,2] [] rfl trivial ?_;obtain rfl:s=aA a b a.length:=by rw [hs];congr 1;omega
 exact ⟨rfl,O,c,rfl⟩
theorem Ch (SA SB:Option Addr)(n m:Nat)(ca cb:Nat):
    Ctr X 256 [.slice SA n ca,.slice SB m cb] [] [] (fun v R' H'=>∃ PA PB:Option Addr,v=.func (.func 278) #[] #[ag PA 0,ag PB 0]∧R'=[Rd PA [.slice SA n ca],Rd PB [.slice SB m cb]]∧H'=[]):=by
 refine co Tryz.func256 ?_;intro β;apply Y 0x920f2;intro A2;apply Y 0x920f;intro A3;apply Y 0x7c1;refine qfz 0 [1] ?_;refine qfz 0 [] ?_;refine qrt [1,0] [] [_] rfl rt ?_;exact ⟨A2,A3,rfl,rfl,rfl⟩
theorem s6 (SA SB:Option Addr)(a b:List UInt8)(ca cb:Nat)(hab:a.length=b.length)(hal:a.length≤100000):
    Ctr X 226 [.slice SA a.length ca,.slice SB b.length cb] [Rd SA (U8 a),Rd SB (U8 b)] [] (fun v R' H'=>∃ (O:Option Addr) (c:Nat),v=.slice O (aA a b a.length).length c∧R'=[]∧H'=[Own 223 2 O (aA a b a.length).length c (bD (aA a b a.length))]):=by
 refine CX (X:=X) (fn:=Tryz.f226) Tryz.func226 rfl oa rfl ?_;intro β;apply Y 0x88212;intro A5;apply Y 0x47b;refine jt 223 2 ?_;apply Y 0x3b;refine a8 (Ch SA SB a.length b.length ca cb) ?_;apply Y 0x89;intro PA PB;apply Y 0x53ef8;refine xl (Rf:=[Rd PA [.slice SA a.length ca],Rd PB [.slice SB b.length cb],Rd SA (U8 a),Rd SB (U8 b)]) (js:=[0,1]) (js':=[]) (He:=fun i:Option Addr×Nat=>StR A5 (aA a b a.length,i.1,i.2)) rfl rfl rfl ob hcx (fun l d fn tmps hfr=>?_) (fun d i=>?_)
 ·refine (Ki l _ PA PB SA SB a b ca cb hab hal A5 ?_).mono ?_
  ·intro β2 w2 s x hg hs2;obtain ⟨rs,O,c⟩:=s;obtain ⟨p,q⟩:=x;have hrl:rs.length≤200000:=hg;refine vu (He:=StR A5) (good:=RM (rs,O,c) (p,q)) hfr ob rfl rfl rfl rfl rfl rfl rfl hs2 ?_;apply Y 0x88;intro A6;refine dd (vs:=[_,_]) (j:=3) rfl rfl rfl rfl rfl (Nat.zero_lt_succ _) rfl rfl ?_;apply Y 0x50e;refine fun a1 w1 hf1 hs1=>⟨rfl,_,_,hf1,hs1,?_⟩
   apply Y 0xebe;refine sp (ab (vs:=[_,_]) rfl rfl rfl (Src.o 3 rfl) rfl rfl ob) ?_;refine CI (cs:=[.int .i64 (p:Int),.int .i64 (q:Int)]) rfl rfl rfl rfl (Nat.zero_lt_succ _) rfl rfl rfl (fun A13=>?_);refine L.append (j:=2) rfl rfl rfl rfl ob rfl rfl rfl rfl (Src.o 4 rfl) rfl (kJ [(p,q)]) (by show rs.length+1≤_;omega) (by show (rs.length+1)*16≤_;omega) rfl (fun A14 c14=>?_);apply Y 0x50eac;refine fun a2 w3 hf2 hs3=>⟨rfl,(rs++[(p,q)],A14,c14),rfl,?_⟩
   have h3:=hs3.sel (js:=[0,1,2]) ob;have e1:(rs++[(p,q)]).length=rs.length+1:=Ob
   unfold StR
   dsimp only;rw [e1,← jj]
   exact h3
  rintro v R' H' ⟨rfl,O,c,rfl⟩;exact ⟨rfl,(O,c),rfl⟩
 obtain ⟨O,c⟩:=i
 dsimp only [StR];exact Zm 0xf10fb12f5aebe273e
theorem NS {x:UInt8}{a b:List UInt8}{k:Nat}(h:k<(aA a b a.length).length):U8 (iG x a (aA a b a.length) k)++U8 (tw ((aA a b a.length).getD k (0,0)).1)++U8 (tw (((aA a b a.length).getD k (0,0)).2-((aA a b a.length).getD k (0,0)).1))++U8 ((a.drop ((aA a b a.length).getD k (0,0)).1).take (((aA a b a.length).getD k (0,0)).2-((aA a b a.length).getD k (0,0)).1))=U8 (iG x a (aA a b a.length) (k+1)):=by
 rw [cy,cy,cy,rE h]
theorem JI {x:UInt8}{a b:List UInt8}{k:Nat}(h:k<(aA a b a.length).length):(iG x a (aA a b a.length) k).length+2+2+(((aA a b a.length).getD k (0,0)).2-((aA a b a.length).getD k (0,0)).1)=(iG x a (aA a b a.length) (k+1)).length:=by
 have hr:=iv h;rw [← rE h]
 simp only [List.length_append,List.length_take,List.length_drop,tw,List.length_cons,List.length_nil]
 omega
theorem De (n:Nat)(_hn:n≤1000000):
    Ctr X 229 [.int .i64 (n:Int)] [] [] (fun v R' H'=>∃ A,v=.slice A 2 2∧R'=[]∧H'=[Own 5 1 A 2 2 (U8 (tw n))]):=by
 refine co Tryz.func229 ?_;intro β;apply Y 0x4812;refine sp (Ev.shr rfl rfl ob) ?_;apply Y 0x7a7de37de;intro A8;apply Y 0x20e5a;refine ⟨A8,rfl,rfl,?_⟩;rw [show tw n=[UInt8.ofInt ((n:Int).fdiv (2^8)),UInt8.ofInt (n:Int)] from by rw [MH,rX];rfl]
 rfl
theorem Dx (A:Option Addr)(l:List UInt8)(c:Nat)(hl:0<l.length):
    Ctr X 192 [.slice A l.length c] [Rd A (U8 l)] [] (fun v R' H'=>v=.int .i64 ((l.getD 0 0).toNat:Int)∧R'=[]∧H'=[]):=by
 refine co Tryz.func192 ?_;intro β;apply Y 0x4812;refine sp (ae (k:=0) rfl rfl rfl rfl rfl rfl rfl hl (Src.r 0 rfl) (by rw [aH];exact hl)) ?_;refine sp (Ev.load rfl rfl rfl (Src.r 0 rfl) (bE hl)) ?_;exact Zm 0xd1e395ac30f
theorem uJ (SA SB:Option Addr)(a b:List UInt8)(ca cb:Nat)(hab:a.length=b.length)(hal:a.length≤100000):
    Ctr X 135 [.slice SA a.length ca,.slice SB b.length cb] [Rd SA (U8 a),Rd SB (U8 b)] [] (fun v R' H'=>∃ (O:Option Addr) (c:Nat),v=.slice O (aA a b a.length).length c∧R'=[]∧H'=[Own 223 2 O (aA a b a.length).length c (bD (aA a b a.length))]):=by
 refine co Tryz.func135 ?_;intro β;apply Y 0x212;refine I0 rfl rfl rfl rfl (fun A8=>?_);apply Y 0x19228;refine lp [] [] (fun q:Nat×Option Addr×Nat=>[(0,.slice SA a.length ca),(1,.slice SB b.length cb),(5,.slice q.2.1 (aA a b q.1).length q.2.2),(6,.int .i64 (q.1:Int))]) (kz [_,_]) (fun q=>[Own 223 2 q.2.1 (aA a b q.1).length q.2.2 (bD (aA a b q.1))]) (fun q=>q.1≤a.length) (fun q=>a.length-q.1) (0,A8,0) (Nat.zero_le _) (lk [0,1] [0]) ?_;apply Y 0xb1e;intro k O c hk
 dsimp only at hk ⊢;apply Y 0x44;have hcl:=fE a b k;apply Zu 0x78c868<;>intro
 ·apply Zu 0x40e9aa9e41fb41fb9900fa41fb93d4449<;>intro hc23
  ·apply Y 0xcde1bb9e66e;have e1:aA a b (k+1)=aA a b k:=by rw [aA,if_pos (e9.1 hc23)]
   refine QE.round (i:=(k,O,c)) ((k+1,O,c)) ou ou (by exact lk [0,1] [0] ⟨rfl,rfl,(by dsimp only;rw [e1];rfl),rfl,trivial⟩ (hh:=⟨(by dsimp only;rw [e1];rfl),trivial⟩))
  apply Zu 0x401f6c158e8<;>intro
  ·apply Y 0x7b42f7d42f7c0eb86a;refine sp (Ev.load rfl rfl rfl (Src.o 0 rfl) (eM (aA a b k) ((aA a b k).length-1) 1 oe ob)) ?_;apply Zu 0x40e12c<;>intro hc37
   ·apply Y 0xb42fd42f9b3c0e3b;refine L.store (j:=0) rfl rfl rfl rfl rfl rfl rfl (by exact eM (aA a b k) ((aA a b k).length-1) 1 oe ob) ?_;apply Y 0x3a50e;have e1:aA a b (k+1)=(aA a b k).set ((aA a b k).length-1) (((aA a b k).getD ((aA a b k).length-1) (0,0)).1,k+1):=by rw [aA,if_neg (fun e=>hc23 (e9.2 e)),yS oe (by exact Int.ofNat.inj hc37)]
    have e2:(aA a b (k+1)).length=(aA a b k).length:=by rw [e1,List.length_set]
    refine QE.round (i:=(k,O,c)) ((k+1,O,c)) ou ou (by exact lk [0,1] [0] ⟨rfl,rfl,obg,rfl,trivial⟩ (hh:=⟨(congrArg some (ay e2.symm (by dsimp only;rw [e1];exact jk _ _ (k+1) oe))),trivial⟩))
   apply Y 0x102fca9bc868;intro A50;apply Y 0xee1f;intro A51 cc51;apply Y 0x3a90e;have hst:(aA a b k).length=0∨((aA a b k).getD ((aA a b k).length-1) (0,0)).2≠k:=.inr (fun e=>hc37 (congrArg Int.ofNat e));apply Y 0x781f;intro e1;apply Y 0x271f;intro e2;exact Zm 0xf12f
  apply Y 0x1a8a8;refine C.cond rfl (fun h=>by cases h) (fun _=>?_);apply Y 0x102fca9bc868;intro A50;apply Y 0xee1f;intro A51 cc51;apply Y 0x3a90e;have hst:(aA a b k).length=0∨((aA a b k).getD ((aA a b k).length-1) (0,0)).2≠k:=.inl oe;apply Y 0x781f;intro e1;apply Y 0x271f;intro e2;exact Zm 0xf12f
 apply Y 0x20e7c69;obtain rfl:k=a.length:=oe;exact Zm 0xf10f
theorem D2 (sec:Int)(SA SB:Option Addr)(a b:List UInt8)(ca cb:Nat)(hca:a.length≤ca)(_hal:a.length≤9223372036854775807)(hbl:b.length≤9223372036854775807):
    Ctr X 189 [.int .i64 sec,.slice SA a.length ca,.slice SB b.length cb] [Rd SA (U8 a),Rd SB (U8 b)] [] (fun v R' H'=>∃ (A:Option Addr) (c:Nat),v=.tuple #[.slice A (iQ sec a b).length c,.int .i64 (Jc sec a b)]∧R'=[]∧H'=[Own 5 1 A (iQ sec a b).length c (U8 (iQ sec a b))]):=by
 refine co Tryz.func189 ?_;intro β;apply Zu 0xef0f6c2848<;>intro
 ·apply Y 0x12b52b5fa5bc;refine C.cond rfl (fun _=>?_) (fun h=>by cases h);apply Y 0xe00f34eb3e4a48;intro hB;exact Zm 0x340f
 apply Zu 0x101fc8b8<;>intro
 ·apply Y 0x12b52b5fa;refine C.cond rfl (fun _=>?_) (fun h=>by cases h);apply Y 0xe00f34eb3e4a48;intro hB;exact Zm 0x340f
 apply Y 0xc8b86a2c;refine L.bool 25 rfl (imp tf ?_) (imp tg ?_)<;>intro
 ·apply Y 0x12b52b;refine C.cond rfl (fun _=>?_) (fun h=>by cases h);apply Y 0xe00f34eb3e4a48;intro hB;exact Zm 0x340f
 apply Zu 0x9f1fc8b86a<;>intro
 ·apply Y 0x12b;refine C.cond rfl (fun _=>?_) (fun h=>by cases h);apply Y 0xe00f34eb3e4a48;intro hB;exact Zm 0x340f
 apply Zu 0x786a2c<;>intro
 ·apply Y 0xe00f34eb3e4a48;intro hB;exact Zm 0x340f
 apply Y 0xaa;have hB:¬cV sec a b:=Ql;apply Y 0x850f;intro hcl;apply Y 0x3b;refine an (s6 SA SB a b ca cb oe oe) ?_;apply Y 0x89;intro O oc;apply Y 0x7a7de8a15e28;intro A40;apply Y 0x5;refine an (De (aA a b a.length).length oe) ?_;apply Y 0x21e;intro A43;apply Y 0x8f0f;intro A44 cc44;apply Y 0x195828;refine lp [] [] (fun q:Nat×Option Addr×Nat=>[(1,.slice SA a.length ca),(9,.slice q.2.1 (iG (UInt8.ofInt sec) a (aA a b a.length) q.1).length q.2.2),(45,.slice O (aA a b a.length).length oc),(46,.int .i64 ((aA a b a.length).length:Int)),(47,.int .i64 (q.1:Int))]) (kz [_,_,_]) (fun q=>[Own 5 1 q.2.1 (iG (UInt8.ofInt sec) a (aA a b a.length) q.1).length q.2.2 (U8 (iG (UInt8.ofInt sec) a (aA a b a.length) q.1))]) (fun q=>q.1≤(aA a b a.length).length) (fun q=>(aA a b a.length).length-q.1) (0,A44,cc44) (Nat.zero_le _) (lk [0,1,2] [1]) ?_;apply Y 0xb1e;intro k A c hk
 dsimp only at hk ⊢;have hpl:=vA (x:=(UInt8.ofInt sec)) (a:=a) (b:=b) k;have hpe:=vA (x:=(UInt8.ofInt sec)) (a:=a) (b:=b) (aA a b a.length).length;apply Zu 0x1cda<;>intro
 ·have hk2:k<(aA a b a.length).length:=oe;have hr:=iv hk2;apply Y 0x249;refine sp (cT (k:=k) (m:=k*2) rfl rfl rfl rfl rfl rfl hk2 (Src.r 0 rfl) (dz hk2) rfl) ?_;refine sp (ab (k:=k*2) rfl rfl rfl (Src.r 0 rfl) (rangesV_at (aA a b a.length) k hk2) rfl ob) ?_;apply Y 0x88;intro A11;apply Y 0xba48f8eb;refine an (De ((aA a b a.length).getD k (0,0)).1 oe) ?_;apply Y 0x21e;intro A54;apply Y 0x8f0f;intro A55 cc55;apply Y 0xeae26eeae26e481;refine sp (Ev.cast (u:=.int .i64 ((((aA a b a.length).getD k (0,0)).2-((aA a b a.length).getD k (0,0)).1:Nat):Int)) (Ev.sub rfl rfl oe oe) (congrArg (Value.int .i64) oe)) ?_;refine an (De (((aA a b a.length).getD k (0,0)).2-((aA a b a.length).getD k (0,0)).1) oe) ?_;apply Y 0x21e;intro A62;refine L.append (j:=2) rfl rfl rfl rfl ob rfl rfl rfl rfl (Src.o 0 rfl) oU (b4 _) oe oM rfl (fun A63 cc63=>?_);apply Y 0xfaef1efaef1e3b1;refine sp (dB (l:=((aA a b a.length).getD k (0,0)).1) (h:=((aA a b a.length).getD k (0,0)).2) rfl rfl rfl rfl rfl rfl rfl rfl oe oe) ?_;refine L.append (j:=2) rfl rfl rfl rfl ob rfl rfl rfl rfl (Src.cast (Src.take (Src.sub (Src.r 1 rfl) ca ((aA a b a.length).getD k (0,0)).1 1 oO) (((aA a b a.length).getD k (0,0)).2-((aA a b a.length).getD k (0,0)).1)) oar) (by rw [aH,List.length_take,List.length_drop];show _=_*1;rw [Nat.mul_one];omega) (b4 _) oe oM rfl (fun A71 cc71=>?_);apply Y 0x6d90e;refine QE.round (i:=(k,A,c)) ((k+1,A71,cc71)) ou ou (by exact lk [0,1,2] [2] ⟨rfl,(by dsimp only;rw [← JI hk2];rfl),rfl,rfl,rfl,trivial⟩ (hh:=⟨(congrArg some (ay (JI hk2) (NS hk2))),trivial⟩))
 apply Y 0x6c69;refine sp (Ev.cast (u:=.int .i64 (((iG (UInt8.ofInt sec) a (aA a b a.length) k).length+2:Nat):Int)) (Ev.add rfl rfl oe oe) (congrArg (Value.int .i64) oe)) ?_;refine an (De ((iG (UInt8.ofInt sec) a (aA a b a.length) k).length+2) oe) ?_;apply Y 0x21e;intro A77;apply Y 0x8f0f;intro A78 cc78;apply Y 0xb30fbb;obtain rfl:k=(aA a b a.length).length:=oe;refine ⟨A78,cc78,?_,rfl,?_⟩
 ·rw [tO hB,gz hB]
  unfold l7;rw [List.length_append]
  rfl
 rw [gz hB]
 unfold l7;rw [← cy,List.length_append]
 rfl
theorem zR (x y:UInt8)(k n:Nat)(h:k<n):(List.replicate k x++List.replicate (n-k) y).set k x=List.replicate (k+1) x++List.replicate (n-(k+1)) y:=by
 obtain ⟨m,rfl⟩:∃ m,n=k+1+m:=⟨n-(k+1),by omega⟩;rw [show k+1+m-k=m+1 from by omega,show k+1+m-(k+1)=m from by omega,List.set_append_right _ _ Ob,List.replicate_succ (n:=m)]
 simp [List.replicate_succ']
theorem RP (a lo hi:Int):
    Ctr X 99 [.int .i64 a,.int .i64 lo,.int .i64 hi] [] [] (fun v R' H'=>v=.bool (decide (lo≤a)&&decide (a≤hi))∧R'=[]∧H'=[]):=by
 refine co Tryz.func99 ?_;intro β;apply Zu 0x4f1f55812<;>intro hg10
 ·apply Y 0xe3e395a5b86a
  simp [tup,hg10]
  try omega
 apply Y 0xe3e39bb2b
 simp [tup,hg10]
 try omega
theorem Co (n:Nat)(hn:n≤1000000):
    Ctr X 31 [.int .i64 (n:Int)] [] [] (fun v R' H'=>∃ A,v=.slice A n n∧R'=[]∧H'=[Own 5 1 A n n (U8 (List.replicate n 255))]):=by
 refine co Tryz.func31 ?_;intro β;apply Y 0xf01f4812;intro A6;apply Y 0x19228;refine lp [0,3] [_,_] (fun k:Nat=>[(4,.int .i64 (k:Int))]) nz (fun k=>[Own 5 1 A6 n n (U8 (List.replicate k 255++List.replicate (n-k) 0))]) (fun k=>k≤n) (fun k=>n-k) 0 oe (by exact lk [] [0] (hh:=⟨(by simp [U8,ti5]),trivial⟩)) ?_;intro k hk;apply Zu 0x78584<;>intro
 ·apply Y 0x3b49;refine sp (ae (k:=k) rfl rfl rfl rfl rfl rfl rfl oe (Src.o 0 rfl) (by rw [aH];simp;omega)) ?_;refine L.store (j:=0) (v:=.int .u8 ((255:UInt8).toNat:Int)) rfl rfl rfl rfl rfl rfl rfl (bE OO) ?_;apply Y 0x3a50e;refine QE.round (k+1) oe oe (by exact lk [] [0] (hh:=⟨(by simp only [List.set_cons_zero,List.getElem?_cons_zero];rw [lO];congr 3;exact zR _ _ k n oe),trivial⟩))
 apply Y 0x20e7c69;obtain rfl:k=n:=oe;refine ⟨A6,rfl,rfl,?_⟩
 simp [sel]
def flO (f:Fl)(a:Fa):List Pr:=[Own 24 1 a.D f.data.length a.cD (aB a.hs (B8 f.data)),aw 5 a.hs (B8 f.data),Own 3 1 a.W f.wear.length a.cW (I64 f.wear),Own 4 1 a.E f.dead.length a.cE (Bs f.dead)]
def flR (f:Fl)(a:Fa):List Pr:=[Rd a.D (aB a.hs (B8 f.data)),KidsR a.hs (B8 f.data),Rd a.W (I64 f.wear),Rd a.E (Bs f.dead)]
def fl0 (s m:Nat)(l:Int):Fl:=⟨s,List.replicate m (List.replicate s 255),List.replicate m 0,l,List.replicate m false⟩
def okR (z:Int)(f:Fl)(i:Nat):Bool:=decide (((f.data.getD i []).length:Int)=z∧0≤f.wear.getD i 0∧f.wear.getD i 0≤f.limit)
def okB (z:Int)(f:Fl):Bool:=decide (1≤z∧z≤4096∧1≤f.limit∧f.limit≤100000∧1≤f.data.length∧f.data.length≤64∧f.wear.length=f.data.length∧f.dead.length=f.data.length)&&(List.range f.data.length).all (okR z f)
theorem J2 {z:Int}{f:Fl}(h:¬ (1≤z∧z≤4096∧1≤f.limit∧f.limit≤100000∧1≤f.data.length∧f.data.length≤64∧f.wear.length=f.data.length∧f.dead.length=f.data.length)):okB z f=false:=by unfold okB;rw [decide_eq_false h];rfl
theorem AE {z:Int}{f:Fl}{k:Nat}(hk:k<f.data.length)(h:okR z f k=false):okB z f=false:=by
 unfold okB;rw [Bool.and_eq_false_iff];refine .inr (List.all_eq_false.2 ⟨k,by simpa using hk,by simp [h]⟩)
theorem tY {z:Int}{f:Fl}(h:1≤z∧z≤4096∧1≤f.limit∧f.limit≤100000∧1≤f.data.length∧f.data.length≤64∧f.wear.length=f.data.length∧f.dead.length=f.data.length)(hr:∀ i,i<f.data.length→okR z f i=true):okB z f=true:=by
 unfold okB;rw [decide_eq_true h,Bool.true_and,List.all_eq_true]
 exact fun i hi=>hr i obU
theorem AD {z:Int}{f:Fl}{k:Nat}(h1:((f.data.getD k []).length:Int)=z)(h2:0≤f.wear.getD k 0∧f.wear.getD k 0≤f.limit):okR z f k=true:=decide_eq_true ⟨h1,h2⟩
theorem Gg {z:Int}{f:Fl}{k:Nat}(h:¬ (((f.data.getD k []).length:Int)=z∧0≤f.wear.getD k 0∧f.wear.getD k 0≤f.limit)):okR z f k=false:=decide_eq_false h
theorem yB (z:Int)(f:Fl)(a:Fa)(hh:a.hs.length=f.data.length)(hn:f.data.length≤9223372036854775807):
    Ctr X 62 [.agg (List.toArray [.int .i64 z,.slice a.D f.data.length a.cD,.slice a.W f.wear.length a.cW,.int .i64 f.limit,.slice a.E f.dead.length a.cE])] (flR f a) [] (fun v R' H'=>v=.bool (okB z f)∧R'=[]∧H'=[]):=by
 refine co Tryz.func62 ?_;intro β;apply Y 0x2a;intro A1;apply Y 0x52947ed82283d8fb28;refine L.bool 12 rfl ?_ ?_<;>intro hg12
 ·have q12:¬(1≤z∧z≤4096):=by simp at hg12;omega
  apply Y 0x1fa5fa52b5a8;refine C.cond rfl (fun _=>?_) (fun h=>by cases h);exact Zm 0xc6e54e5c
 have q12:1≤z∧z≤4096:=by simp at hg12;omega
 apply Y 0xc872947e7cb;refine L.bool 18 rfl ?_ ?_<;>intro hg18
 ·have q18:¬(1≤f.limit∧f.limit≤100000):=by simp at hg18;omega
  apply Y 0x1fa5fa52b;refine C.cond rfl (fun _=>?_) (fun h=>by cases h);exact Zm 0xc6e54e5c
 have q18:1≤f.limit∧f.limit≤100000:=by simp at hg18;omega
 apply Y 0xc872947eb8;refine L.bool 23 rfl ?_ ?_<;>intro hg23
 ·have q23:¬(1≤(f.data.length:Int)∧(f.data.length:Int)≤64):=by simp at hg23;omega
  apply Y 0x1fa5fa;refine C.cond rfl (fun _=>?_) (fun h=>by cases h);exact Zm 0xc6e54e5c
 have q23:1≤(f.data.length:Int)∧(f.data.length:Int)≤64:=by simp at hg23;omega
 apply Y 0xc8b86acb;refine L.bool 30 rfl (imp tf ?_) (imp tg ?_)<;>intro
 ·apply Y 0x1fa;refine C.cond rfl (fun _=>?_) (fun h=>by cases h);exact Zm 0xc6e54e5c
 apply Zu 0x5d16a2ccb<;>intro
 ·exact Zm 0xc6e54e5c
 apply Y 0x192aa;refine lp [0,1,3] [_,_,_] (fun k:Nat=>[(4,.int .i64 (k:Int))]) (kz [_,_,_,_,_]) nz (fun k=>k≤f.data.length∧∀ i,i<k→okR z f i=true) (fun k=>f.data.length-k) 0 ⟨by omega,fun i h=>absurd h (Nat.not_lt_zero i)⟩ (lk [0,1,2,3,4] []) ?_;apply Y 0xf0e;intro k hk hr;apply Zu 0x78584<;>intro
 ·apply Y 0xa930e60e3d449;refine sq (ae (k:=k) rfl rfl rfl rfl rfl rfl rfl oe (Src.r 1 rfl) oy) ?_;apply Y 0xb930e60ea9a82f;refine LQ.bool 51 rfl (imp tf ?_) (imp tg ?_)<;>intro
  ·apply Y 0x9aa9f3e8b8b;refine C.cond rfl (fun _=>?_) (fun h=>by cases h);exact Zm 0xa60f54e4babf9
  have q51:0=0:=rfl;apply Y 0x1830e1860e18151f18c41f181d30e1860e18;refine LQ.call (.bool _) (RP _ _ _) (fun _ _ _ h=>h.1) rfl trivial rfl ?_;apply Zu 0xe99ab918<;>intro hc61
  ·apply Y 0x54e4babf9
   exact AE (k:=k) oe (Gg (by simp [-List.getD_eq_getElem?_getD] at hc61;omega))
  apply Y 0x3ad9;refine QE.round (k+1) ?_ oe (lk [0,1,2,3,4] []);refine ⟨by omega,fun i hi=>?_⟩
  by_cases hik:i<k
  ·exact hr i hik
  obtain rfl:i=k:=oe
  exact AD oe (by simp [-List.getD_eq_getElem?_getD] at hc61;omega)
 apply Y 0x54e39f969
 exact tY oe (fun i hi=>hr i oe)
theorem GQ (z:Int)(f:Fl)(a:Fa)(hh:a.hs.length=f.data.length)(hn:f.data.length≤9223372036854775807):
    Ctr X 58 [.agg (List.toArray [.int .i64 z,.slice a.D f.data.length a.cD,.slice a.W f.wear.length a.cW,.int .i64 f.limit,.slice a.E f.dead.length a.cE])] (flR f a) [] (fun v R' H'=>v=.bool (okB z f)∧R'=[]∧H'=[]):=by
 refine co Tryz.func58 ?_;intro β;apply Y 0x2a;intro A1;apply Y 0x5d82283d8fb28;refine L.bool 12 rfl (imp of_decide_eq_true ?_) (imp of_decide_eq_false ?_)<;>intro
 ·apply Y 0x1fa5fa5bc5bc52b52b52b;refine C.cond rfl (fun _=>?_) (fun h=>by cases h);exact Zm 0xc6e54e5c
 apply Y 0xc87cb;refine L.bool 17 rfl (imp of_decide_eq_true ?_) (imp of_decide_eq_false ?_)<;>intro
 ·apply Y 0x1fa5fa5bc5bc52b52b;refine C.cond rfl (fun _=>?_) (fun h=>by cases h);exact Zm 0xc6e54e5c
 apply Zu 0x301fc87cb<;>intro
 ·apply Y 0x1fa5fa5bc5bc52b;refine C.cond rfl (fun _=>?_) (fun h=>by cases h);exact Zm 0xc6e54e5c
 apply Zu 0x8f1fc87cb<;>intro
 ·apply Y 0x1fa5fa5bc5bc;refine C.cond rfl (fun _=>?_) (fun h=>by cases h);exact Zm 0xc6e54e5c
 apply Zu 0x601fc8b8<;>intro
 ·apply Y 0x1fa5fa5bc;refine C.cond rfl (fun _=>?_) (fun h=>by cases h);exact Zm 0xc6e54e5c
 apply Zu 0x820fc8b8<;>intro
 ·apply Y 0x1fa5fa;refine C.cond rfl (fun _=>?_) (fun h=>by cases h);exact Zm 0xc6e54e5c
 apply Y 0xc8b86acb;refine L.bool 42 rfl (imp tf ?_) (imp tg ?_)<;>intro
 ·apply Y 0x1fa;refine C.cond rfl (fun _=>?_) (fun h=>by cases h);exact Zm 0xc6e54e5c
 apply Zu 0x5d16a2ccb<;>intro
 ·exact Zm 0xc6e54e5c
 apply Y 0x193d82aa;refine lp [1,3,50,51] [_,_,_,_] (fun k:Nat=>[(52,.int .i64 (k:Int))]) (kz [_,_,_,_,_]) nz (fun k=>k≤f.data.length∧∀ i,i<k→okR z f i=true) (fun k=>f.data.length-k) 0 ⟨by omega,fun i h=>absurd h (Nat.not_lt_zero i)⟩ (lk [0,1,2,3,4] []) ?_;apply Y 0xf0e;intro k hk hr;apply Zu 0x1cda<;>intro
 ·apply Y 0x4849;refine sp (ae (k:=k) rfl rfl rfl rfl rfl rfl rfl oe (Src.r 1 rfl) oy) ?_;apply Y 0xb930e60eb93d2836de;refine LQ.bool 62 rfl (imp tf ?_) (imp tg ?_)<;>intro
  ·apply Y 0x9aa98b8bb938e8b;refine C.cond rfl (fun _=>?_) (fun h=>by cases h);exact Zm 0xa60f54e4babf9
  apply Y 0xa9b918151f18c41f181d30e1860e18;refine LQ.bool 70 rfl (imp of_decide_eq_true ?_) (imp of_decide_eq_false ?_)<;>intro
  ·apply Y 0x9aa98b8b;refine C.cond rfl (fun _=>?_) (fun h=>by cases h);exact Zm 0xa60f54e4babf9
  apply Zu 0x1c9ab91830e1860e18151f18c41f181d30e1860e18<;>intro
  ·exact Zm 0xa60f54e4babf9
  apply Y 0x6dd9;refine QE.round (k+1) ?_ oe (lk [0,1,2,3,4] []);refine ⟨by omega,fun i hi=>?_⟩
  by_cases hik:i<k
  ·exact hr i hik
  obtain rfl:i=k:=oe
  exact AD oe oe
 apply Y 0x54e39f969
 exact tY oe (fun i hi=>hr i oe)
theorem s5 (f:Fl)(a:Fa)(ok:f.Ok)(_hh:a.hs.length=f.data.length)(x:Fo)(XA:Option Addr)(xc:Nat)(_hxl:x.data.length≤9223372036854775807):
    Ctr X 51 [flV f a,.agg (List.toArray [.int .i64 x.kind,.int .i64 x.sec,.int .i64 x.at_,.slice XA x.data.length xc])] (flR f a++[Rd XA (U8 x.data)]) [] (fun v R' H'=>v=.int .i64 (ao f x)∧R'=[]∧H'=[]):=by
 obtain ⟨os1,os2,on1,on2,owl,odl,orows,ol1,ol2,owear⟩:=ok;refine co Tryz.func51 ?_;intro β;apply Y 0x2a;intro A2;apply Y 0xdd;intro A3;apply Y 0x56bfb14e428;refine L.bool 8 rfl (imp tf ?_) (imp tg ?_)<;>intro
 ·apply Zu 0x5d16a12e7d0e7<;>intro
  ·apply Y 0xec5c
   exact wW oe
  apply Y 0x52947ec0e3d86b2aa;refine L.bool 21 rfl ?_ ?_<;>intro hg21
  ·have q21:¬(0≤x.sec∧x.sec≤(f.data.length:Int)-1):=by simp at hg21;omega
   apply Y 0x1bca8a8a8a8a8;refine C.cond rfl (fun _=>?_) (fun h=>by cases h);exact Zm 0x45eec5c
  have q21:0≤x.sec∧x.sec≤(f.data.length:Int)-1:=by simp at hg21;omega
  apply Y 0x2c12e7d0e7;refine L.bool 25 rfl (imp ey ?_) (imp ew ?_)<;>intro
  ·apply Y 0x2c2947e7cb12e7d0e7;refine L.bool 32 rfl ?_ ?_<;>intro hg32
   ·have q32:¬(0≤x.at_∧x.at_≤(f.size:Int)):=by simp at hg32;omega
    apply Y 0x12cfaa8;refine C.cond rfl (fun _=>?_) (fun h=>by cases h);exact Zm 0x45eec5c
   have q32:0≤x.at_∧x.at_≤(f.size:Int):=by simp at hg32;omega
   apply Zu 0x786a2cc0e712e7d0e742eb812e7d0e7<;>intro
   ·exact Zm 0x45eec5c
   apply Zu 0xe9f8cbeabe6bd82aa<;>intro hc50
   ·apply Y 0xec5c
    exact c8 oe oe hc50
   apply Zu 0x780fb952e92e3d4aa<;>intro
   ·apply Zu 0x40e9ab91830e1860e18a8e181ce1852e1892e1830e1860e18<;>intro
    ·exact Zm 0x660fec5c
    exact Zm 0x3beec39f9e8
   apply Y 0x9aa9f3e8b8b;refine C.cond rfl (fun h=>by cases h) (fun _=>?_);exact Zm 0x3beec39f9e8
  apply Y 0x16afaa8a8a8;refine C.cond rfl (fun h=>by cases h) (fun _=>?_);apply Zu 0xe9f8cbeabe6bd82aa<;>intro hc50
  ·apply Y 0xec5c
   exact c8 oe oe hc50
  apply Zu 0x780fb952e92e3d4aa<;>intro
  ·apply Zu 0x40e9ab91830e1860e18a8e181ce1852e1892e1830e1860e18<;>intro
   ·exact Zm 0x660fec5c
   exact Zm 0x3beec39f9e8
  apply Y 0x9aa9f3e8b8b;refine C.cond rfl (fun h=>by cases h) (fun _=>?_);exact Zm 0x3beec39f9e8
 apply Y 0x12b;refine C.cond rfl (fun h=>by cases h) (fun _=>?_);apply Y 0x52947ec0e3d86b2aa;refine L.bool 21 rfl ?_ ?_<;>intro hg21
 ·have q21:¬(0≤x.sec∧x.sec≤(f.data.length:Int)-1):=by simp at hg21;omega
  apply Y 0x1bca8a8a8a8a8;refine C.cond rfl (fun _=>?_) (fun h=>by cases h);exact Zm 0x45eec5c
 have q21:0≤x.sec∧x.sec≤(f.data.length:Int)-1:=by simp at hg21;omega
 apply Y 0x2c12e7d0e7;refine L.bool 25 rfl (imp ey ?_) (imp ew ?_)<;>intro
 ·apply Y 0x2c2947e7cb12e7d0e7;refine L.bool 32 rfl ?_ ?_<;>intro hg32
  ·have q32:¬(0≤x.at_∧x.at_≤(f.size:Int)):=by simp at hg32;omega
   apply Y 0x12cfaa8;refine C.cond rfl (fun _=>?_) (fun h=>by cases h);exact Zm 0x45eec5c
  have q32:0≤x.at_∧x.at_≤(f.size:Int):=by simp at hg32;omega
  apply Zu 0x786a2cc0e712e7d0e742eb812e7d0e7<;>intro
  ·exact Zm 0x45eec5c
  apply Zu 0xe9f8cbeabe6bd82aa<;>intro hc50
  ·apply Y 0xec5c
   exact c8 oe oe hc50
  apply Zu 0x780fb952e92e3d4aa<;>intro
  ·apply Zu 0x40e9ab91830e1860e18a8e181ce1852e1892e1830e1860e18<;>intro
   ·exact Zm 0x660fec5c
   exact Zm 0x3beec39f9e8
  apply Y 0x9aa9f3e8b8b;refine C.cond rfl (fun h=>by cases h) (fun _=>?_);exact Zm 0x3beec39f9e8
 apply Y 0x16afaa8a8a8;refine C.cond rfl (fun h=>by cases h) (fun _=>?_);apply Zu 0xe9f8cbeabe6bd82aa<;>intro hc50
 ·apply Y 0xec5c
  exact c8 oe oe hc50
 apply Zu 0x780fb952e92e3d4aa<;>intro
 ·apply Zu 0x40e9ab91830e1860e18a8e181ce1852e1892e1830e1860e18<;>intro
  ·exact Zm 0x660fec5c
  exact Zm 0x3beec39f9e8
 apply Y 0x9aa9f3e8b8b;refine C.cond rfl (fun h=>by cases h) (fun _=>?_);exact Zm 0x3beec39f9e8
theorem uH (f:Fl)(a:Fa)(ok:f.Ok)(_hh:a.hs.length=f.data.length)(x:Fo)(XA:Option Addr)(xc:Nat)(_hxl:x.data.length≤9223372036854775807):
    Ctr X 117 [flV f a,.agg (List.toArray [.int .i64 x.kind,.int .i64 x.sec,.int .i64 x.at_,.slice XA x.data.length xc])] (flR f a++[Rd XA (U8 x.data)]) [] (fun v R' H'=>v=.int .i64 (ao f x)∧R'=[]∧H'=[]):=by
 obtain ⟨os1,os2,on1,on2,owl,odl,orows,ol1,ol2,owear⟩:=ok;have hw:0≤x.sec∧x.sec<(f.data.length:Int)→f.wear.getD x.sec.toNat 0≤f.limit:=fun h=>(owear _ oe).2
 refine co Tryz.func117 ?_;intro β;apply Y 0x2a;intro A2;apply Y 0xdd;intro A3;apply Y 0x6c53e49aa9b952e92ea952e92e3d15e14e28;refine L.bool 16 rfl ?_ ?_<;>intro hg16
 ·replace hg16:=(Bool.not_eq_true' _).mp hg16;replace hg16:=ew hg16;apply Zu 0xe915b8<;>intro hc13
  ·replace hc13:=(Bool.not_eq_true' _).mp hc13;replace hc13:=ew hc13;apply Y 0xec4bf9
   exact wW oe
  replace hc13:=(Bool.not_eq_false' _).mp hc13;replace hc13:=ey hc13;apply Zu 0x570f56b24<;>intro
  ·apply Y 0x13bca8;refine C.cond rfl (fun _=>?_) (fun h=>by cases h);apply Y 0xe8;refine C.cond rfl (fun _=>?_) (fun h=>by cases h);exact Zm 0x45eec4bf9
  apply Zu 0x785b8cb12e7d0e7<;>intro hc20
  ·apply Y 0xe8;refine C.cond rfl (fun _=>?_) (fun h=>by cases h);exact Zm 0x45eec4bf9
  apply Y 0x3b;refine L.bool 33 rfl (imp ey ?_) (imp ew ?_)<;>intro
  ·apply Zu 0xbf1f2c12e7d0e7<;>intro
   ·apply Y 0x157faa82cfa;refine C.cond rfl (fun _=>?_) (fun h=>by cases h);exact Zm 0x45eec4bf9
   apply Zu 0x801f6a2ccb12e7d0e7<;>intro
   ·apply Y 0x157faa8;refine C.cond rfl (fun _=>?_) (fun h=>by cases h);exact Zm 0x45eec4bf9
   apply Zu 0x785b8c0e712e7d0e742eb812e7d0e7<;>intro
   ·exact Zm 0x45eec4bf9
   apply Zu 0xe91cbeabe6bd82<;>intro hc56
   ·apply Y 0xec4bf9
    exact c8 oe oe hc56
   apply Zu 0x880fb93d4<;>intro
   ·apply Zu 0x1c9aa9b91830e1860e18a8e181ce1852e1892e1830e1860e18<;>intro
    ·exact Zm 0x760fec4bf9
    exact Zm 0x4beec39f973ed9
   apply Y 0x9ab9f3e8b8b;refine C.cond rfl (fun h=>by cases h) (fun _=>?_);exact Zm 0x4beec39f973ed9
  apply Y 0x13faa8a8a8a8;refine C.cond rfl (fun h=>by cases h) (fun _=>?_);apply Zu 0xe91cbeabe6bd82<;>intro hc56
  ·apply Y 0xec4bf9
   exact c8 oe oe hc56
  apply Zu 0x880fb93d4<;>intro
  ·apply Zu 0x1c9aa9b91830e1860e18a8e181ce1852e1892e1830e1860e18<;>intro
   ·exact Zm 0x760fec4bf9
   exact Zm 0x4beec39f973ed9
  apply Y 0x9ab9f3e8b8b;refine C.cond rfl (fun h=>by cases h) (fun _=>?_);exact Zm 0x4beec39f973ed9
 replace hg16:=(Bool.not_eq_false' _).mp hg16;replace hg16:=ey hg16;apply Y 0x13bc;refine C.cond rfl (fun h=>by cases h) (fun _=>?_);apply Zu 0x570f56b24<;>intro
 ·apply Y 0x13bca8;refine C.cond rfl (fun _=>?_) (fun h=>by cases h);apply Y 0xe8;refine C.cond rfl (fun _=>?_) (fun h=>by cases h);exact Zm 0x45eec4bf9
 apply Zu 0x785b8cb12e7d0e7<;>intro hc20
 ·apply Y 0xe8;refine C.cond rfl (fun _=>?_) (fun h=>by cases h);exact Zm 0x45eec4bf9
 apply Y 0x3b;refine L.bool 33 rfl (imp ey ?_) (imp ew ?_)<;>intro
 ·apply Zu 0xbf1f2c12e7d0e7<;>intro
  ·apply Y 0x157faa82cfa;refine C.cond rfl (fun _=>?_) (fun h=>by cases h);exact Zm 0x45eec4bf9
  apply Zu 0x801f6a2ccb12e7d0e7<;>intro
  ·apply Y 0x157faa8;refine C.cond rfl (fun _=>?_) (fun h=>by cases h);exact Zm 0x45eec4bf9
  apply Zu 0x785b8c0e712e7d0e742eb812e7d0e7<;>intro
  ·exact Zm 0x45eec4bf9
  apply Zu 0xe91cbeabe6bd82<;>intro hc56
  ·apply Y 0xec4bf9
   exact c8 oe oe hc56
  apply Zu 0x880fb93d4<;>intro
  ·apply Zu 0x1c9aa9b91830e1860e18a8e181ce1852e1892e1830e1860e18<;>intro
   ·exact Zm 0x760fec4bf9
   exact Zm 0x4beec39f973ed9
  apply Y 0x9ab9f3e8b8b;refine C.cond rfl (fun h=>by cases h) (fun _=>?_);exact Zm 0x4beec39f973ed9
 apply Y 0x13faa8a8a8a8;refine C.cond rfl (fun h=>by cases h) (fun _=>?_);apply Zu 0xe91cbeabe6bd82<;>intro hc56
 ·apply Y 0xec4bf9
  exact c8 oe oe hc56
 apply Zu 0x880fb93d4<;>intro
 ·apply Zu 0x1c9aa9b91830e1860e18a8e181ce1852e1892e1830e1860e18<;>intro
  ·exact Zm 0x760fec4bf9
  exact Zm 0x4beec39f973ed9
 apply Y 0x9ab9f3e8b8b;refine C.cond rfl (fun h=>by cases h) (fun _=>?_);exact Zm 0x4beec39f973ed9
theorem Fq (i:Nat)(o:UInt8)(x:Fo)(XA A:Option Addr)(xc:Nat)(hi:i≤1000000)(h0:0≤x.at_)(h1:x.at_≤1000000)(hxl:x.data.length≤1000000)(hk:x.kind≠1):
    Ctr X 181 [.int .i64 (i:Int),.int .u8 (o.toNat:Int),ag A 0] [Rd A [.int .i64 x.kind,.int .i64 x.sec,.int .i64 x.at_,.slice XA x.data.length xc],Rd XA (U8 x.data)] [] (fun v R' H'=>v=.int .u8 ((w9 x i o).toNat:Int)∧R'=[]∧H'=[]):=by
 refine co Tryz.func181 ?_;intro β;apply Zu 0xdf0f6c1c0ed848da<;>intro
 ·apply Zu 0x782c42eb8<;>intro
  ·apply Y 0x3d848;refine sp (ae (k:=((i:Int)-x.at_).toNat) rfl rfl rfl rfl rfl rfl oe oe (Src.r 1 rfl) oO) ?_;apply Y 0xe3e394aefe1a0f;rw [lG hk oe]
   rfl
  apply Y 0xe3e397ce8;rw [iA hk oe]
  rfl
 apply Y 0x1fa;refine C.cond rfl (fun h=>by cases h) (fun _=>?_);apply Y 0xe3e397ce8;rw [iA hk oe]
 rfl
theorem KA (i:Nat)(A B:Option Addr)(ms:List UInt8)(c:Nat)(hm:ms.length≤9223372036854775807):
    Ctr X 69 [.int .i64 (i:Int),ag A 0] [Rd A [.slice B ms.length c],Rd B (U8 ms)] [] (fun v R' H'=>v=.int .u8 ((ms.getD i 0).toNat:Int)∧R'=[]∧H'=[]):=by
 refine co Tryz.func69 ?_;intro β;apply Zu 0x783a3e48da<;>intro
 ·apply Y 0x3a3e2;refine sp (ae (k:=i) rfl rfl rfl rfl rfl rfl rfl oe (Src.r 1 rfl) oO) ?_;exact Zm 0xd1e394a1a0f
 apply Y 0xe3e39f9e8;rw [cM oe]
 rfl
theorem FZ (A B:Option Addr)(c d:Nat)(xs ys:List UInt8)(hxs:xs.length≤9223372036854775807)(hys:ys.length≤9223372036854775807):
    Ctr X 53 [.slice A xs.length c,.slice B ys.length d] [Rd A (U8 xs),Rd B (U8 ys)] [] (fun v R' H'=>v=.bool (xs==ys)∧R'=[]∧H'=[]):=by
 refine co Tryz.func53 ?_;intro β;apply Zu 0x5d1558da<;>intro hc10
 ·apply Y 0xe3e5c
  simp [tup];intro h;subst h
  simp at hc10
 apply Y 0x192aa;refine lp [0,1] [_,_] (fun k:Nat=>[(5,.int .i64 (k:Int))]) (kz [_,_]) nz (fun k=>k≤xs.length∧xs.take k=ys.take k) (fun k=>xs.length-k) 0 ⟨by omega,by simp⟩ (lk [0,1] []) ?_;apply Y 0xf0e;intro k hk htk;apply Zu 0x786c4<;>intro
 ·apply Zu 0x5d9aa9e41fb41fb9900fa41fb93d449<;>intro hc25
  ·apply Y 0xe3e4babf9
   simp [tup];intro h;subst h
   simp at hc25
  apply Y 0x3ad9;refine QE.round (k+1) ?_ oe (lk [0,1] []);refine ⟨by omega,?_⟩;rw [aC xs 0 k oe,aC ys 0 k oe,htk,e9.1 hc25]
 apply Y 0xe3e39f969;have hke:k=xs.length:=oe;subst hke;rw [List.take_of_length_le (Nat.le_refl _),List.take_of_length_le oe] at htk
 simp [tup,htk]
end Go.Proofs.YtbpddeiogcgegaaGreat
