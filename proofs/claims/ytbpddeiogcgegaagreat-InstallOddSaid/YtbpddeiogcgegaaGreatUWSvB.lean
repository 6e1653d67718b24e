/-
  Part of a proof.
-/
import Derived.Test.YtbpddeiogcgegaaGreatUWPlE
set_option maxHeartbeats 0
set_option maxRecDepth 4000
set_option linter.all false
namespace Go.Proofs.YtbpddeiogcgegaaGreat
open Go.Sl
theorem Ia (p:Nat)(B:Option Addr)(b:List UInt8)(n bc:Nat)(CA O:Option Addr)(out:List UInt8)(m oc:Nat)(hn:b.length=n)(hm:out.length=m)(hfit:p+b.length≤m)(ho:m≤oc):
    Ctr X 234 [.int .i64 (p:Int),.slice B n bc,ag CA 0] [Rd B (U8 b)] [Own 24 1 CA 1 1 [.slice O m oc],Own 5 1 O m oc (U8 out)] (fun v R' H'=>v=.tuple #[]∧R'=[]∧H'=[Own 24 1 CA 1 1 [.slice O m oc],Own 5 1 O m oc (U8 (pZ out p b))]):=by
 refine co Tryz.func234 ?_;intro β;apply Y 0x794e78;refine sp (bt (l:=p) rfl rfl rfl rfl rfl rfl oe) ?_;apply Y 0x7;refine L.copy (j:=1) (o:=p) rfl rfl rfl rfl rfl (fun g hg hlen=>by rw [aJ] at hlen;rw [hg];exact EN oe) rfl rfl (Src.r 0 rfl) oG (bQ b) (by rw [aJ,aJ];omega) rfl ?_;apply Y 0x560f60e;refine qrt [] [0,1] [] rfl trivial ?_;refine ⟨rfl,rfl,?_⟩;rw [← Rw];exact Zm 0x2
theorem Iq (p:Nat)(B:Option Addr)(n bc:Nat):
    Ctr X 233 [.int .i64 (p:Int),.slice B n bc] [] [] (fun v R' H'=>v=.tuple #[]∧R'=[]∧H'=[]):=by
 refine co Tryz.func233 ?_;intro β;apply Y 0x560f7a;refine qrt [] [] [] rfl trivial ?_;exact Zm 0x33e
theorem Fh (RB:Option Addr)(rec:List UInt8)(rc:Nat)(size:Int)(hrc:rec.length≤rc)(hrl:rec.length≤9223372036854775807)(CA O:Option Addr)(out:List UInt8)(oc:Nat)(ho:out.length≤oc)(hsz:size=(out.length:Int)):
    Ctr X 232 [.slice RB rec.length rc,.int .i64 size,.func (.func 234) #[] #[ag CA 0]] [Rd RB (U8 rec)] [Own 24 1 CA 1 1 [.slice O out.length oc],Own 5 1 O out.length oc (U8 out)] (fun v R' H'=>v=.bool (aT rec size).isSome∧R'=[]∧∃ out':List UInt8,out'.length=out.length∧(∀ ps,aT rec size=some ps→out'=cR out ps)∧H'=[Own 24 1 CA 1 1 [.slice O out.length oc],Own 5 1 O out.length oc (U8 out')]):=by
 apply Y 0xbc2f;intro β;apply Y 0x481a;refine L.defer ?_;apply Zu 0xe51f289d98<;>intro
 ·apply Y 0x1ea;refine C.cond rfl (fun _=>?_) (fun h=>by cases h);apply Y 0x7a0fe9e;intro hE;apply Y 0xa22f;intro hlen;apply Y 0x480f803f;exact ⟨_,hlen,(fun ps h=>by rw [hE] at h;cases h),rfl⟩
 apply Zu 0x2a41be42be46b1ff9<;>intro
 ·apply Y 0x7a0fe9e;intro hE;apply Y 0xa22f;intro hlen;apply Y 0x480f803f;exact ⟨_,hlen,(fun ps h=>by rw [hE] at h;cases h),rfl⟩
 apply Y 0x7bba7ba1a3fb959;intro A23;apply Y 0x549;refine C.le (Γ':=[(0,.slice RB rec.length rc),(1,.int .i64 size),(2,.func (.func 234) #[] #[ag CA 0]),(6,.bool false),(7,ag A23 0)]) (R':=[Rd RB (U8 rec)]) (H':=[Own 334 3 A23 1 1 [.slice (bh RB rc 1 1) (rec.drop 1).length (rc-1),.int .i64 0,.int .i64 size],Own 24 1 CA 1 1 [.slice O out.length oc],Own 5 1 O out.length oc (U8 out)]) (by exact lk [0] [2,0,1] (hh:=⟨(congrArg some Q3),rfl,rfl,trivial⟩)) ?_;apply Y 0xa32f;intro hbig;apply Y 0xfe2fe95dab;refine ba (js:=[0]) (js':=[1,2]) (eo 334 3 A23 [.int .i64 0,.int .i64 size] (bh RB rc 1 1) (rec.drop 1) (rc-1) oo) rfl rfl rfl ob hcx rfl ?_ ?_
 rotate_left;apply Y 0x29;intro h27;rw [List.length_drop] at h27;exact Zm 0x182e0f47e;apply Y 0x1b;intro h27;apply Y 0x131faa1;intro hn0;apply Y 0x4c2f;refine lp [0,1,2,6,7,27] [_,_,_,_,_,_] (fun q:Nat×Option Addr×List UInt8×Nat×Int×List Pc=>[(28,.int .i64 (q.1:Int))]) (kzz [_] [] fun q=>[Rd q.2.1 (U8 q.2.2.1)]) (fun q=>[Own 334 3 A23 1 1 [.slice q.2.1 q.2.2.1.length q.2.2.2.1,.int .i64 q.2.2.2.2.1,.int .i64 size],Own 24 1 CA 1 1 [.slice O out.length oc],Own 5 1 O out.length oc (U8 (cR out q.2.2.2.2.2))]) (fun q=>q.1≤(be2 (rec.drop 1))∧q.2.2.1.length≤q.2.2.2.1∧fV (be2 (rec.drop 1)) size ((rec.drop 1).drop 2) ((be2 (rec.drop 1))-q.1) q.2.2.1 q.2.2.2.2.1 q.2.2.2.2.2∧(cR out q.2.2.2.2.2).length=out.length) (fun q=>(be2 (rec.drop 1))-q.1) (0,(bh (bh RB rc 1 1) (rc-1) 2 1),((rec.drop 1).drop 2),(rc-1-2),0,[]) ⟨Nat.zero_le _,by dsimp only;rw [List.length_drop,List.length_drop];omega,fV.start _ _ _,rfl⟩ (lk [2,0] [0,1,2]) ?_;apply Y 0xe92f;intro k S l c last ps hk hc hh hlen
 dsimp only at hk hc hh hlen ⊢;apply Zu 0x7930e<;>intro
 ·apply Y 0xac99;refine ba (js:=[0]) (js':=[1,2]) (xY 334 A23 S l c last size hc) rfl rfl rfl ob hcx rfl ?_ ?_
  rotate_left;apply Y 0x29;intro hp;apply Y 0x13ed80f;have hE:=iC (rec:=rec) (size:=size) (fV.bad (by rw [show (be2 (rec.drop 1))-k=(be2 (rec.drop 1))-(k+1)+1 from by omega] at hh;exact hh) hp);apply Y 0x480f603f;exact ⟨_,hlen,(fun ps h=>by rw [hE] at h;cases h),rfl⟩;apply Y 0x41e;intro hp;have hp1:=hp
  unfold ai at hp1;apply Y 0xde2fee2f28;refine j6 (js:=[1,2]) (js':=[0]) (Ia (be2 l) (bh (bh S c 2 1) (c-2) 2 1) (((l.drop 2).drop 2).take (be2 (l.drop 2))) (be2 (l.drop 2)) (c-2-2) CA O (cR out ps) out.length oc qZ hlen qZ oe) rfl rfl rfl rfl rfl ob hcx rfl ?_;apply Y 0x503f20efb60e88;refine QE.round (i:=(k,S,l,c,last,ps)) ((k+1,(bh (bh (bh S c 2 1) (c-2) 2 1) (c-2-2) (be2 (l.drop 2)) 1),(((l.drop 2).drop 2).drop (be2 (l.drop 2))),((c-2-2)-(be2 (l.drop 2))),(be2 l:Int)+((be2 (l.drop 2)):Int),ps++[(be2 l,((l.drop 2).drop 2).take (be2 (l.drop 2)))])) (by exact ⟨by dsimp only;omega,by dsimp only;rw [List.length_drop,List.length_drop,List.length_drop];omega,fV.next q9 hp,by dsimp only;rw [ew,gd (by dsimp only;rw [List.length_take,List.length_drop,List.length_drop];omega)];exact hlen⟩) ot (by exact lk [3,0] [2,0,1] (hh:=⟨rfl,rfl,(congrArg some (by rw [ew])),trivial⟩))
 obtain rfl:k=(be2 (rec.drop 1)):=oe;have hdone:=fV.done (by rw [Nat.sub_self] at hh;exact hh);apply Y 0xe95db9a9;refine ba (js:=[0]) (js':=[1,2]) (eo 334 3 A23 [.int .i64 last,.int .i64 size] S l c hc) rfl rfl rfl ob hcx rfl ?_ ?_
 rotate_left;apply Y 0x29;intro h40;apply Y 0x8a0f;intro hE;rw [if_neg oe] at hE;apply Y 0x480f603f13e;exact ⟨_,hlen,(fun ps h=>by rw [hE] at h;cases h),rfl⟩;apply Y 0x1b;intro h40;apply Y 0x8a0f;intro hE;apply Zu 0x5e2f2828<;>intro hg44
 ·apply Y 0x903fe8d8f994e4e94e945df9;exact ⟨congrArg Value.bool (Eh hE h40 hg44),rfl,_,hlen,I0 hE,rfl⟩
 apply Y 0xe838ca39;rw [if_neg oe] at hE;apply Y 0x480f903f;exact ⟨_,hlen,(fun ps h=>by rw [hE] at h;cases h),rfl⟩
theorem Fk (RB:Option Addr)(rec:List UInt8)(rc:Nat)(size:Int)(hrc:rec.length≤rc)(hrl:rec.length≤9223372036854775807)(_hs1:size≤1000000):
    Ctr X 232 [.slice RB rec.length rc,.int .i64 size,.func (.func 233) #[] #[]] [Rd RB (U8 rec)] [] (fun v R' H'=>v=.bool (aT rec size).isSome∧R'=[]∧H'=[]):=by
 apply Y 0xbc2f;intro β;apply Y 0x481a;refine L.defer ?_;apply Zu 0xe51f289d98<;>intro
 ·apply Y 0x1ea;refine C.cond rfl (fun _=>?_) (fun h=>by cases h);apply Y 0x7a0fe9e;intro hE;exact Zm 0x250f4e0f
 apply Zu 0x2a41be42be46b1ff9<;>intro
 ·apply Y 0x7a0fe9e;intro hE;exact Zm 0x250f4e0f
 apply Y 0x7bba7ba1a3fb959;intro A23;apply Y 0x549;refine C.le (Γ':=[(0,.slice RB rec.length rc),(1,.int .i64 size),(2,.func (.func 233) #[] #[]),(6,.bool false),(7,ag A23 0)]) (R':=[Rd RB (U8 rec)]) (H':=[Own 334 3 A23 1 1 [.slice (bh RB rc 1 1) (rec.drop 1).length (rc-1),.int .i64 0,.int .i64 size]]) (by exact lk [0] [0] (hh:=⟨(congrArg some Q3),trivial⟩)) ?_;apply Y 0xa32f;intro hbig;apply Y 0xfe2fe95dab;refine ba (js:=[0]) (js':=[]) (eo 334 3 A23 [.int .i64 0,.int .i64 size] (bh RB rc 1 1) (rec.drop 1) (rc-1) oo) rfl rfl rfl ob hcx rfl ?_ ?_
 rotate_left;apply Y 0x29;intro h27;rw [List.length_drop] at h27;exact Zm 0x182e0f47e;apply Y 0x1b;intro h27;apply Y 0x131faa1;intro hn0;apply Y 0x4c2f;refine lp [0,1,2,6,7,27] [_,_,_,_,_,_] (fun q:Nat×Option Addr×List UInt8×Nat×Int×List Pc=>[(28,.int .i64 (q.1:Int))]) (kzz [_] [] fun q=>[Rd q.2.1 (U8 q.2.2.1)]) (fun q=>[Own 334 3 A23 1 1 [.slice q.2.1 q.2.2.1.length q.2.2.2.1,.int .i64 q.2.2.2.2.1,.int .i64 size]]) (fun q=>q.1≤(be2 (rec.drop 1))∧q.2.2.1.length≤q.2.2.2.1∧fV (be2 (rec.drop 1)) size ((rec.drop 1).drop 2) ((be2 (rec.drop 1))-q.1) q.2.2.1 q.2.2.2.2.1 q.2.2.2.2.2) (fun q=>(be2 (rec.drop 1))-q.1) (0,(bh (bh RB rc 1 1) (rc-1) 2 1),((rec.drop 1).drop 2),(rc-1-2),0,[]) ⟨Nat.zero_le _,by dsimp only;rw [List.length_drop,List.length_drop];omega,fV.start _ _ _⟩ (lk [2,0] [0]) ?_;rintro ⟨k,S,l,c,last,ps⟩ ⟨hk,hc,hh⟩
 dsimp only at hk hc hh ⊢;apply Zu 0x7930e<;>intro
 ·apply Y 0xac99;refine ba (js:=[0]) (js':=[]) (xY 334 A23 S l c last size hc) rfl rfl rfl ob hcx rfl ?_ ?_
  rotate_left;apply Y 0x29;intro hp;apply Y 0x13ed80f;have hE:=iC (rec:=rec) (size:=size) (fV.bad (by rw [show (be2 (rec.drop 1))-k=(be2 (rec.drop 1))-(k+1)+1 from by omega] at hh;exact hh) hp);exact Zm 0x250f2e0f;apply Y 0x41e;intro hp;have hp1:=hp
  unfold ai at hp1;apply Y 0xde2fee2f28;refine j6 (js:=[]) (js':=[0]) (Iq (be2 l) (bh (bh S c 2 1) (c-2) 2 1) (be2 (l.drop 2)) (c-2-2)) rfl rfl rfl rfl rfl ob trivial rfl ?_;apply Y 0x503f20efb60e88;refine QE.round (i:=(k,S,l,c,last,ps)) ((k+1,(bh (bh (bh S c 2 1) (c-2) 2 1) (c-2-2) (be2 (l.drop 2)) 1),(((l.drop 2).drop 2).drop (be2 (l.drop 2))),((c-2-2)-(be2 (l.drop 2))),(be2 l:Int)+((be2 (l.drop 2)):Int),ps++[(be2 l,((l.drop 2).drop 2).take (be2 (l.drop 2)))])) (by exact ⟨by dsimp only;omega,by dsimp only;rw [List.length_drop,List.length_drop,List.length_drop];omega,fV.next q9 hp⟩) ot (lk [3,0] [0])
 obtain rfl:k=(be2 (rec.drop 1)):=oe;have hdone:=fV.done (by rw [Nat.sub_self] at hh;exact hh);apply Y 0xe95db9a9;refine ba (js:=[0]) (js':=[]) (eo 334 3 A23 [.int .i64 last,.int .i64 size] S l c hc) rfl rfl rfl ob hcx rfl ?_ ?_
 rotate_left;apply Y 0x29;intro h40;apply Y 0x8a0f;intro hE;rw [if_neg oe] at hE;exact Zm 0x250f2e0f13e;apply Y 0x1b;intro h40;apply Y 0x8a0f;intro hE;apply Zu 0x5e2f2828<;>intro hg44
 ·apply Y 0x4e0fe8d8f994e4e94e945df9;exact ⟨congrArg Value.bool (Eh hE h40 hg44),rfl,rfl⟩
 apply Y 0xe838ca39;rw [if_neg oe] at hE;exact Zm 0x250f4e0f
def StR (A5:Option Addr)(s:List (Nat×Nat)×Option Addr×Nat):List Pr:=[Own 220 1 A5 1 1 [.slice s.2.1 s.1.length s.2.2],Own 223 2 s.2.1 s.1.length s.2.2 (a6 s.1)]
def RC (x:Nat×Nat):List Value:=[.agg (List.toArray [.int .i64 (x.1:Int),.int .i64 (x.2:Int)])]
def PI (s:List (Nat×Nat)×Option Addr×Nat)(x:Nat×Nat)(s2:List (Nat×Nat)×Option Addr×Nat):Prop:=s2.1=s.1++[x]
def MV (s:List (Nat×Nat)×Option Addr×Nat)(_x:Nat×Nat):Prop:=s.1.length≤200000
theorem um {a b:List UInt8}{j:Nat}(h:a.length≤j∨(j<a.length∧a.getD j 0=b.getD j 0))(hj:j≤a.length:=by omega):aF a b (min (j+1) a.length)=aF a b j:=by
 rcases h with h|⟨h,he⟩
 ·rw [Nat.min_eq_right oe]
  congr 1;exact Zm 0x18
 rw [Nat.min_eq_left oe,aF,if_pos he]
theorem Gs {s:List (Nat×Nat)}{k j:Nat}(h:∀ x∈s,x.2<k)(hkj:k≤j):∀ x∈s++[(k,j)],x.2<j+1:=by
 intro x hx
 rcases List.mem_append.1 hx with hx|hx
 ·have:=h x hx;exact Zm 0x18
 simp only [List.mem_singleton] at hx;subst hx
 exact Nat.lt_succ_self _
theorem wA (s:List (Nat×Nat))(i:Nat):(fZ s i).length≤s.length+1:=by
 unfold fZ
 split
 ·split<;>simp
 exact Zm 0x51e
theorem uu (a b:List UInt8):∀ k,(aF a b k).length≤k
  |0=>Nat.le_refl _
  |k+1=>by
    rw [aF]
    have:=uu a b k
    split
    · omega
    · have:=wA (aF a b k) k;omega
theorem IG (l:Nat)(r:Loop)(PA PB:Option Addr)(SA SB:Option Addr)(a b:List UInt8)(ca cb:Nat)(hab:a.length=b.length)(hal:a.length≤100000)(A5:Option Addr)(hy:r5 X l r RC (StR A5) PI MV):
    Ctr X 278 [.func (.yield l) #[] #[],ag PA 0,ag PB 0] [Rd PA [.slice SA a.length ca],Rd PB [.slice SB b.length cb],Rd SA (U8 a),Rd SB (U8 b)] [dp l r,Own 220 1 A5 1 1 [.slice none ([]:List (Nat×Nat)).length 0],Own 223 2 none ([]:List (Nat×Nat)).length 0 (a6 ([]:List (Nat×Nat)))] (fun v R' H'=>R'=[]∧∃ (O:Option Addr) (c:Nat),H'=dp l r::StR A5 (aF a b a.length,O,c)):=by
 refine co Tryz.func278 ?_;intro β;apply Y 0xcd;refine lp [0,1,2] [_,_,_] (fun q:Nat×List (Nat×Nat)×Option Addr×Nat=>[(4,.int .i64 (q.1:Int))]) (kz [_,_,_,_]) (fun q=>[dp l r,Own 220 1 A5 1 1 [.slice q.2.2.1 q.2.1.length q.2.2.2],Own 223 2 q.2.2.1 q.2.1.length q.2.2.2 (a6 q.2.1)]) (fun q=>q.1≤a.length+1∧q.2.1=aF a b (min q.1 a.length)∧∀ x∈q.2.1,x.2<q.1) (fun q=>a.length+1-q.1) (0,[],none,0) ⟨Nat.zero_le _,by dsimp only;rw [Nat.zero_min];rfl,fun x hx=>by cases hx⟩ (lk [0,1,2,3] [0,1,2]) ?_;apply Y 0x1a2f;intro k s O c hk hs hlt
 dsimp only at hk hs hlt ⊢;apply Zu 0x2aa4e758<;>intro hc9
 ·have hka:k<a.length:=Int.ofNat_lt.1 hc9;have hsk:aF a b k=s:=by rw [hs,Nat.min_eq_left (Nat.le_of_lt hka)]
  have hsl:s.length≤k:=by rw [← hsk];exact uu a b k
  apply Y 0xc899;refine fE (fun j:Nat=>[(0,.func (.yield l) #[] #[]),(1,ag PA 0),(2,ag PB 0),(5,.int .i64 (k:Int)),(4,.int .i64 (j:Int))]) (fun j:Nat=>[Rd PA [.slice SA a.length ca],Rd PB [.slice SB b.length cb],Rd SA (U8 a),Rd SB (U8 b)]) (fun j:Nat=>[dp l r,Own 220 1 A5 1 1 [.slice O s.length c],Own 223 2 O s.length c (a6 s)]) (fun j:Nat=>(k≤j∧j≤a.length∧aF a b j=(if k<j then s++[(k,j)] else s))∧aF a b (min (j+1) a.length)=aF a b j) ?_ ?_
  ·apply Y 0xaa;refine lp [0,1,2,5] [_,_,_,_] (fun j:Nat=>[(4,.int .i64 (j:Int))]) (kz [_,_,_,_]) (kz [_,_,_]) (fun j=>k≤j∧j≤a.length∧aF a b j=(if k<j then s++[(k,j)] else s)) (fun j=>a.length-j) k ⟨Nat.le_refl _,Nat.le_of_lt hka,by rw [if_neg (Nat.lt_irrefl _)];exact hsk⟩ (lk [0,1,2,3] [0,1,2]) ?_;rintro j hj;have hkj:=hj.1;have hjl:=hj.2.1;apply Y 0x6dc990e6dad55;refine LQ.bool 17 rfl (imp of_decide_eq_true ?_) (imp of_decide_eq_false ?_)<;>intro hg17
   ·have hja:j<a.length:=Int.ofNat_lt.1 hg17;apply Y 0x6dc90e6;refine sq (ae (k:=j) rfl rfl rfl rfl rfl rfl rfl hja (Src.r 2 rfl) oG) ?_;apply Y 0x6;refine sq (Ev.load rfl rfl rfl (Src.r 2 rfl) (bp hja)) ?_;apply Y 0x6dc83e6;refine sq (ae (k:=j) rfl rfl rfl rfl rfl rfl rfl oe (Src.r 3 rfl) oG) ?_;apply Y 0x6;refine sq (Ev.load rfl rfl rfl (Src.r 3 rfl) (bp oe)) ?_;apply Zu 0xdd32ec96<;>intro hc27
    ·apply Y 0x86ecfeaa59;refine QE.round (j+1) (by exact ⟨by omega,by omega,CU hlt hkj hj.2.2 (fun e=>hc27 (dJ.2 e))⟩) oe (lk [0,1,2,3] [0,1,2])
    apply Y 0xe5e;refine QE.join (j) (by exact ⟨hj,um (.inr ⟨hja,dJ.1 hc27⟩)⟩) (lk [0,1,2,3] [0,1,2])
   apply Y 0x40ec4e9b9b;refine C.cond rfl (fun h=>by cases h) (fun _=>?_);apply Y 0xe5e;refine QE.join (j) (by exact ⟨hj,um (.inl oe)⟩) (lk [0,1,2,3] [0,1,2])
  rintro j ⟨⟨hkj,hjl,hcj⟩,hstop⟩;apply Y 0x5;refine pF ?_;apply Y 0x69e69e69e69e;refine LY.bool 33 rfl (imp of_decide_eq_true ?_) (imp of_decide_eq_false ?_)<;>intro
  ·apply Y 0x920f69e920f69e920f69e920f;refine LY.step (Ev.build rfl rfl rfl rfl rfl rfl rfl) rfl ?_;apply Y 0x920f;refine LY.yield (js:=[0,1,2]) (js':=[]) hy (s,O,c) (k,j) (show s.length≤200000 by omega) rfl rfl rfl rfl ob rfl ?_;apply Y 0xf1e;intro s2 O2 c2 hnx;have hnx2:s2=s++[(k,j)]:=hnx;subst hnx2;apply Y 0x69e69e920f;refine LY.nil ?_;apply Y 0x8a;refine C.cond rfl (fun h=>by cases h) (fun _=>?_);apply Y 0x9a7a;refine QE.round (i:=(k,s,O,c)) ((j+1,s++[(k,j)],O2,c2)) (by exact ⟨by dsimp only;omega,by dsimp only;rw [hstop,hcj,if_pos oe],Gs hlt oe⟩) ot (lk [0,1,2,3] [0,1,2])
  apply Y 0x69e820f820f820f820f820f820f;refine LY.nil ?_;apply Y 0x8a;refine C.cond rfl (fun h=>by cases h) (fun _=>?_);apply Y 0x9a7a;refine QE.round (i:=(k,s,O,c)) ((j+1,s,O,c)) (by exact ⟨by dsimp only;omega,by dsimp only;rw [hstop,hcj,if_neg oe],fun x hx=>Nat.lt_of_lt_of_le (hlt x hx) ot⟩) ot (lk [0,1,2,3] [0,1,2])
 apply Y 0xd43f560fe5e;obtain rfl:s=aF a b a.length:=by rw [hs];congr 1;omega
 exact ⟨rfl,O,c,rfl⟩
theorem zH (SA SB:Option Addr)(n m:Nat)(ca cb:Nat):
    Ctr X 256 [.slice SA n ca,.slice SB m cb] [] [] (fun v R' H'=>∃ PA PB:Option Addr,v=.func (.func 278) #[] #[ag PA 0,ag PB 0]∧R'=[Rd PA [.slice SA n ca],Rd PB [.slice SB m cb]]∧H'=[]):=by
 refine co Tryz.func256 ?_;intro β;apply Y 0xbc0f48;intro A2;apply Y 0xbc0f;intro A3;apply Y 0xe8c81;refine qfz 0 [1] ?_;apply Y 0x130f;refine qrt [1,0] [] [_] rfl rt ?_;exact ⟨A2,A3,rfl,rfl,rfl⟩
theorem pj (SA SB:Option Addr)(a b:List UInt8)(ca cb:Nat)(hab:a.length=b.length)(hal:a.length≤100000):
    Ctr X 226 [.slice SA a.length ca,.slice SB b.length cb] [Rd SA (U8 a),Rd SB (U8 b)] [] (fun v R' H'=>∃ (O:Option Addr) (c:Nat),v=.slice O (aF a b a.length).length c∧R'=[]∧H'=[Own 223 2 O (aF a b a.length).length c (a6 (aF a b a.length))]):=by
 refine An (X:=X) (fn:=Tryz.f226) Tryz.func226 rfl oa rfl ?_;intro β;apply Y 0xa8481a;intro A5;apply Y 0x5cb;refine hI 223 2 ?_;apply Y 0xac;refine aL (zH SA SB a.length b.length ca cb) ?_;apply Y 0x19;intro PA PB;apply Y 0xaa98;refine uJ (Rf:=[Rd PA [.slice SA a.length ca],Rd PB [.slice SB b.length cb],Rd SA (U8 a),Rd SB (U8 b)]) (js:=[0,1]) (js':=[]) (He:=fun i:Option Addr×Nat=>StR A5 (aF a b a.length,i.1,i.2)) rfl rfl rfl ob hcx (fun l d fn tmps hfr=>?_) (fun d i=>?_)
 ·refine (IG l _ PA PB SA SB a b ca cb hab hal A5 ?_).mono ?_
  ·intro β2 w2 s x hg hs2;obtain ⟨rs,O,c⟩:=s;obtain ⟨p,q⟩:=x;have hrl:rs.length≤200000:=hg;refine sW (He:=StR A5) (good:=PI (rs,O,c) (p,q)) hfr ob rfl rfl rfl rfl rfl rfl rfl hs2 ?_;apply Y 0xa8;intro A6;refine cO (vs:=[_,_]) (j:=3) rfl rfl rfl rfl rfl (Nat.zero_lt_succ _) rfl rfl ?_;apply Y 0x60e;refine fun a1 w1 hf1 hs1=>⟨rfl,_,_,hf1,hs1,?_⟩
   apply Y 0x1ee;refine sp (ab (vs:=[_,_]) rfl rfl rfl (Src.o 3 rfl) rfl rfl ob) ?_;refine sa (cs:=[.int .i64 (p:Int),.int .i64 (q:Int)]) rfl rfl rfl rfl (Nat.zero_lt_succ _) rfl rfl rfl (fun A13=>?_);refine L.append (j:=2) rfl rfl rfl rfl ob rfl rfl rfl rfl (Src.o 4 rfl) rfl (jn [(p,q)]) (by show rs.length+1≤_;omega) (by show (rs.length+1)*16≤_;omega) rfl (fun A14 c14=>?_);apply Y 0x60e9be;refine fun a2 w3 hf2 hs3=>⟨rfl,(rs++[(p,q)],A14,c14),rfl,?_⟩
   apply Y 0x462f;intro h3;have e1:(rs++[(p,q)]).length=rs.length+1:=oO
   unfold StR;apply Y 0xd4e;rw [e1,← eM]
   exact h3
  rintro v R' H' ⟨rfl,O,c,rfl⟩;exact ⟨rfl,(O,c),rfl⟩
 obtain ⟨O,c⟩:=i
 dsimp only [StR];exact Zm 0x150fb03fe811ee48fb
theorem HZ {x:UInt8}{a b:List UInt8}{k:Nat}(h:k<(aF a b a.length).length):U8 (iz x a (aF a b a.length) k)++U8 (tw ((aF a b a.length).getD k (0,0)).1)++U8 (tw (((aF a b a.length).getD k (0,0)).2-((aF a b a.length).getD k (0,0)).1))++U8 ((a.drop ((aF a b a.length).getD k (0,0)).1).take (((aF a b a.length).getD k (0,0)).2-((aF a b a.length).getD k (0,0)).1))=U8 (iz x a (aF a b a.length) (k+1)):=by
 rw [b8,b8,b8,np h]
theorem BL {x:UInt8}{a b:List UInt8}{k:Nat}(h:k<(aF a b a.length).length):(iz x a (aF a b a.length) k).length+2+2+(((aF a b a.length).getD k (0,0)).2-((aF a b a.length).getD k (0,0)).1)=(iz x a (aF a b a.length) (k+1)).length:=by
 have hr:=eY h;rw [← np h]
 simp only [List.length_append,List.length_take,List.length_drop,tw,List.length_cons,List.length_nil];exact Zm 0x18
theorem AJ (n:Nat)(_hn:n≤1000000):
    Ctr X 229 [.int .i64 (n:Int)] [] [] (fun v R' H'=>∃ A,v=.slice A 2 2∧R'=[]∧H'=[Own 5 1 A 2 2 (U8 (tw n))]):=by
 refine co Tryz.func229 ?_;intro β;apply Y 0xb91a;refine sp (Ev.shr rfl rfl ob) ?_;apply Y 0x2bede7ede;intro A8;apply Y 0x91ee81;refine ⟨A8,rfl,rfl,?_⟩;rw [show tw n=[UInt8.ofInt ((n:Int).fdiv (2^8)),UInt8.ofInt (n:Int)] from by rw [Lh,gg];rfl];exact Zm 0x2
theorem k8 (n:Nat)(hn:n≤1000000):
    Ctr X 159 [.int .i64 (n:Int)] [] [] (fun v R' H'=>∃ A,v=.slice A 2 2∧R'=[]∧H'=[Own 5 1 A 2 2 (U8 (tw n))]):=by
 refine co Tryz.func159 ?_;intro β;apply Y 0xb91a;refine sp (Ev.quo rfl rfl oe oe oe) ?_;apply Y 0x7ede;refine sp (Ev.rem rfl rfl oe oe) ?_;apply Y 0x2bede;intro A9;apply Y 0x91ee81;refine ⟨A9,rfl,rfl,?_⟩;rw [show tw n=[UInt8.ofInt ((n:Int)/256),UInt8.ofInt ((n:Int)%256)] from by rw [G8,G7];rfl];exact Zm 0x2
theorem jx (A:Option Addr)(l:List UInt8)(c at_:Nat)(hl:l.length≤9223372036854775807)(ha:at_≤1000000):
    Ctr X 155 [.slice A l.length c,.int .i64 (at_:Int)] [Rd A (U8 l)] [] (fun v R' H'=>v=.int .i64 (cU l at_)∧R'=[]∧H'=[]):=by
 refine co Tryz.func155 ?_;intro β;apply Zu 0x79d8da7581a<;>intro
 ·apply Y 0x6c;exact ⟨congrArg (Value.int .i64) (if_neg oe).symm,rfl,rfl⟩
 apply Y 0xbd;have hb0:=mR (l.getD at_ 0);have hb1:=mR (l.getD (at_+1) 0);apply Y 0xc9ad;refine sq (ae (k:=at_) rfl rfl rfl rfl rfl rfl rfl oe (Src.r 0 rfl) oG) ?_;apply Y 0xf70f6ae;refine sq (Ev.mul rfl rfl oe oe) ?_;apply Y 0x8cec9;refine sq (ae (k:=(at_+1)) rfl rfl rfl rfl rfl rfl oe oe (Src.r 0 rfl) oG) ?_;apply Y 0x6fed940e8cef70f6ae
 unfold cU;apply Y 0x780f
 exact Cf l at_
theorem Bd (A:Option Addr)(l:List UInt8)(c:Nat)(hl:0<l.length):
    Ctr X 192 [.slice A l.length c] [Rd A (U8 l)] [] (fun v R' H'=>v=.int .i64 ((l.getD 0 0).toNat:Int)∧R'=[]∧H'=[]):=by
 refine co Tryz.func192 ?_;intro β;apply Y 0xb91a;refine sp (ae (k:=0) rfl rfl rfl rfl rfl rfl rfl hl (Src.r 0 rfl) (by rw [aJ];exact hl)) ?_;refine sp (Ev.load rfl rfl rfl (Src.r 0 rfl) (bp hl)) ?_;exact Zm 0x33ed911be
theorem jQ (SA SB:Option Addr)(a b:List UInt8)(ca cb:Nat)(hab:a.length=b.length)(hal:a.length≤100000):
    Ctr X 135 [.slice SA a.length ca,.slice SB b.length cb] [Rd SA (U8 a),Rd SB (U8 b)] [] (fun v R' H'=>∃ (O:Option Addr) (c:Nat),v=.slice O (aF a b a.length).length c∧R'=[]∧H'=[Own 223 2 O (aF a b a.length).length c (a6 (aF a b a.length))]):=by
 refine co Tryz.func135 ?_;intro β;apply Y 0x481a;refine z7 rfl rfl rfl rfl (fun A8=>?_);apply Y 0xcd49;refine lp [] [] (fun q:Nat×Option Addr×Nat=>[(0,.slice SA a.length ca),(1,.slice SB b.length cb),(5,.slice q.2.1 (aF a b q.1).length q.2.2),(6,.int .i64 (q.1:Int))]) (kz [_,_]) (fun q=>[Own 223 2 q.2.1 (aF a b q.1).length q.2.2 (a6 (aF a b q.1))]) (fun q=>q.1≤a.length) (fun q=>a.length-q.1) (0,A8,0) (Nat.zero_le _) (lk [0,1] [0]) ?_;apply Y 0xf1e;intro k O c hk
 dsimp only at hk ⊢;apply Y 0x55;have hcl:=eX a b k;apply Zu 0x2aac<;>intro
 ·apply Zu 0x4d40e1d1fdc1fc96ae180fc9ad5599<;>intro hc23
  ·apply Y 0xcfe8aece39e;have e1:aF a b (k+1)=aF a b k:=by rw [aF,if_pos (dJ.1 hc23)]
   refine QE.round (i:=(k,O,c)) ((k+1,O,c)) ot ot (by exact lk [0,1] [0] ⟨rfl,rfl,(by dsimp only;rw [e1];rfl),rfl,trivial⟩ (hh:=⟨(by dsimp only;rw [e1];rfl),trivial⟩))
  apply Zu 0x961fb848d88d<;>intro
  ·apply Y 0x4663f4963f461e7d;refine sp (Ev.load rfl rfl rfl (Src.o 0 rfl) (bG (aF a b k) ((aF a b k).length-1) 1 oe ob)) ?_;apply Zu 0x4d38f9<;>intro hc37
   ·apply Y 0x663f963fda761eac;refine L.store (j:=0) rfl rfl rfl rfl rfl rfl rfl (by exact bG (aF a b k) ((aF a b k).length-1) 1 oe ob) ?_;apply Y 0x9a60e;have e1:aF a b (k+1)=(aF a b k).set ((aF a b k).length-1) (((aF a b k).getD ((aF a b k).length-1) (0,0)).1,k+1):=by rw [aF,if_neg (fun e=>hc23 (dJ.2 e)),wx oe (by exact Int.ofNat.inj hc37)]
    have e2:(aF a b (k+1)).length=(aF a b k).length:=by rw [e1,List.length_set]
    refine QE.round (i:=(k,O,c)) ((k+1,O,c)) ot ot (by exact lk [0,1] [0] ⟨rfl,rfl,obb,rfl,trivial⟩ (hh:=⟨(congrArg some (ay e2.symm (by dsimp only;rw [e1];exact gT _ _ (k+1) oe))),trivial⟩))
   apply Y 0xbe2fbadab878;intro A50;apply Y 0xec2f;intro A51 cc51;apply Y 0x9a81e;have hst:(aF a b k).length=0∨((aF a b k).getD ((aF a b k).length-1) (0,0)).2≠k:=.inr (fun e=>hc37 (congrArg Int.ofNat e));apply Y 0xa12f;intro e1;apply Y 0x5f1f;intro e2;exact Zm 0xf03f
  apply Y 0x13939;refine C.cond rfl (fun h=>by cases h) (fun _=>?_);apply Y 0xbe2fbadab878;intro A50;apply Y 0xec2f;intro A51 cc51;apply Y 0x9a81e;have hst:(aF a b k).length=0∨((aF a b k).getD ((aF a b k).length-1) (0,0)).2≠k:=.inl oe;apply Y 0xa12f;intro e1;apply Y 0x5f1f;intro e2;exact Zm 0xf03f
 apply Y 0x91ee8c8a9;obtain rfl:k=a.length:=oe;exact Zm 0x150f
theorem BK (sec:Int)(SA SB:Option Addr)(a b:List UInt8)(ca cb:Nat)(hca:a.length≤ca)(_hal:a.length≤9223372036854775807)(hbl:b.length≤9223372036854775807):
    Ctr X 189 [.int .i64 sec,.slice SA a.length ca,.slice SB b.length cb] [Rd SA (U8 a),Rd SB (U8 b)] [] (fun v R' H'=>∃ (A:Option Addr) (c:Nat),v=.tuple #[.slice A (gI sec a b).length c,.int .i64 (GY sec a b)]∧R'=[]∧H'=[Own 5 1 A (gI sec a b).length c (U8 (gI sec a b))]):=by
 refine co Tryz.func189 ?_;intro β;apply Zu 0x161fb858c8<;>intro
 ·apply Y 0x1ca28ca28ea28fd;refine C.cond rfl (fun _=>?_) (fun h=>by cases h);apply Y 0x6be22ed2e89c8;intro hB;exact Zm 0x9ce
 apply Zu 0x661fb8f9<;>intro
 ·apply Y 0x1ca28ca28ea;refine C.cond rfl (fun _=>?_) (fun h=>by cases h);apply Y 0x6be22ed2e89c8;intro hB;exact Zm 0x9ce
 apply Zu 0xad2fb87dbcbc<;>intro
 ·apply Y 0x1ca28ca;refine C.cond rfl (fun _=>?_) (fun h=>by cases h);apply Y 0x6be22ed2e89c8;intro hB;exact Zm 0x9ce
 apply Zu 0xb61fb87d<;>intro
 ·apply Y 0x1ca;refine C.cond rfl (fun _=>?_) (fun h=>by cases h);apply Y 0x6be22ed2e89c8;intro hB;exact Zm 0x9ce
 apply Zu 0x2a7d<;>intro
 ·apply Y 0x6be22ed2e89c8;intro hB;exact Zm 0x9ce
 apply Y 0xc32fbd;intro hB;apply Y 0xe90f;intro hcl;apply Y 0xac;refine al (pj SA SB a b ca cb oe oe) ?_;apply Y 0x19;intro O oc;apply Y 0x2bedeabcae49;intro A40;apply Y 0x28;refine al (AJ (aF a b a.length).length oe) ?_;apply Y 0x41e;intro A43;apply Y 0x500f;intro A44 cc44;apply Y 0xaad8581;refine lp [] [] (fun q:Nat×Option Addr×Nat=>[(1,.slice SA a.length ca),(9,.slice q.2.1 (iz (UInt8.ofInt sec) a (aF a b a.length) q.1).length q.2.2),(45,.slice O (aF a b a.length).length oc),(46,.int .i64 ((aF a b a.length).length:Int)),(47,.int .i64 (q.1:Int))]) (kz [_,_,_]) (fun q=>[Own 5 1 q.2.1 (iz (UInt8.ofInt sec) a (aF a b a.length) q.1).length q.2.2 (U8 (iz (UInt8.ofInt sec) a (aF a b a.length) q.1))]) (fun q=>q.1≤(aF a b a.length).length) (fun q=>(aF a b a.length).length-q.1) (0,A44,cc44) (Nat.zero_le _) (lk [0,1,2] [1]) ?_;apply Y 0xf1e;intro k A c hk
 dsimp only at hk ⊢;apply Y 0x972f;intro hpl;apply Y 0x872f;intro hpe;apply Zu 0x7930e<;>intro
 ·apply Y 0xf12f;intro hk2;have hr:=eY hk2;apply Y 0x201f4899;refine sp (ab (k:=k*2) rfl rfl rfl (Src.r 0 rfl) (rangesV_at (aF a b a.length) k hk2) rfl ob) ?_;apply Y 0xa8;intro A11;apply Y 0xfab9984c;refine al (AJ ((aF a b a.length).getD k (0,0)).1 oe) ?_;apply Y 0x41e;intro A54;apply Y 0x500f;intro A55 cc55;apply Y 0x653f2eeb6e2eeb6eb91;refine al (AJ (((aF a b a.length).getD k (0,0)).2-((aF a b a.length).getD k (0,0)).1) oe) ?_;apply Y 0x41e;intro A62;apply Y 0x2d2f;intro A63 cc63;apply Y 0x2a3f110f14e110f14eac1;refine L.append (j:=2) rfl rfl rfl rfl ob rfl rfl rfl rfl (Src.cast (Src.take (Src.sub (Src.r 1 rfl) ca ((aF a b a.length).getD k (0,0)).1 1 oG) (((aF a b a.length).getD k (0,0)).2-((aF a b a.length).getD k (0,0)).1)) QV) Qh (bQ _) oe oH rfl (fun A71 cc71=>?_);apply Y 0x20efb81e;refine QE.round (i:=(k,A,c)) ((k+1,A71,cc71)) ot ot (by exact lk [0,1,2] [2] ⟨rfl,(by dsimp only;rw [← BL hk2];rfl),rfl,rfl,rfl,trivial⟩ (hh:=⟨(congrArg some (ay (BL hk2) (HZ hk2))),trivial⟩))
 apply Y 0xd53fb848a9;refine al (AJ ((iz (UInt8.ofInt sec) a (aF a b a.length) k).length+2) oe) ?_;apply Y 0x41e;intro A77;apply Y 0x500f;intro A78 cc78;apply Y 0x88ee838;obtain rfl:k=(aF a b a.length).length:=oe;refine ⟨A78,cc78,?_,rfl,?_⟩
 ·rw [pX hB,ji hB]
  unfold DR;exact Zm 0x28d1f
 rw [ji hB]
 unfold DR;rw [← b8,List.length_append];exact Zm 0x2
theorem u2 (sec:Int)(SA SB:Option Addr)(a b:List UInt8)(ca cb:Nat)(hca:a.length≤ca)(_hal:a.length≤9223372036854775807)(hbl:b.length≤9223372036854775807):
    Ctr X 97 [.agg (List.toArray [.int .i64 sec,.slice SA a.length ca,.slice SB b.length cb])] [Rd SA (U8 a),Rd SB (U8 b)] [] (fun v R' H'=>∃ (A:Option Addr) (c:Nat),v=.tuple #[.slice A (gI sec a b).length c,.int .i64 (GY sec a b)]∧R'=[]∧H'=[Own 5 1 A (gI sec a b).length c (U8 (gI sec a b))]):=by
 refine co Tryz.func97 ?_;intro β;apply Y 0x6a;intro A1;apply Zu 0x8c0f28f8db5538<;>intro
 ·apply Y 0x11d1dca1dca;refine C.cond rfl (fun _=>?_) (fun h=>by cases h);apply Y 0x6be22ed2e89c8;intro hB;exact Zm 0x9ce
 apply Zu 0x261fb84eb<;>intro
 ·apply Y 0x11d1dca39;refine C.cond rfl (fun _=>?_) (fun h=>by cases h);apply Y 0x6be22ed2e89c8;intro hB;exact Zm 0x9ce
 apply Y 0xb8f953ef9eb;refine L.bool 24 rfl (imp mC ?_) (imp mD ?_)<;>intro
 ·apply Y 0x11d39;refine C.cond rfl (fun _=>?_) (fun h=>by cases h);apply Y 0x6be22ed2e89c8;intro hB;exact Zm 0x9ce
 apply Zu 0xb61fb8f9eb<;>intro
 ·apply Y 0x139;refine C.cond rfl (fun _=>?_) (fun h=>by cases h);apply Y 0x6be22ed2e89c8;intro hB;exact Zm 0x9ce
 apply Zu 0x2af9eb<;>intro
 ·apply Y 0x6be22ed2e89c8;intro hB;exact Zm 0x9ce
 apply Y 0xc32fbd;intro hB;apply Y 0xe90f;intro hcl;apply Y 0xf8f878;refine al (jQ SA SB a b ca cb oe oe) ?_;apply Y 0x19;intro O oc;apply Y 0xcae49;refine C.join (fun q:Option Addr×Nat=>[(1,ag A1 0),(4,.slice O (aF a b a.length).length oc),(5,.slice q.1 (iz (UInt8.ofInt sec) a (aF a b a.length) 0).length q.2)]) (fun q:Option Addr×Nat=>[Rd O (a6 (aF a b a.length)),Rd A1 [.int .i64 sec,.slice SA a.length ca,.slice SB b.length cb],Rd SA (U8 a),Rd SB (U8 b)]) (fun q:Option Addr×Nat=>[Own 5 1 q.1 (iz (UInt8.ofInt sec) a (aF a b a.length) 0).length q.2 (U8 (iz (UInt8.ofInt sec) a (aF a b a.length) 0))]) (fun q:Option Addr×Nat=>True) ?_ ?_
 ·apply Y 0xa51f;refine mq 0 rfl (faR 1) ?_;refine mq 1 rfl (ldR 1) ?_;apply Zu 0x5f2fa6efaea33f
  ·apply Y 0x2b;intro A44;apply Y 0x41eb23fe4e3;intro A47;apply Y 0x500f76e69;intro A48 cc48;exact Zm 0x303f5c17e3
  apply Y 0x41eb23f;intro A47;apply Y 0x2b89e3;intro A44;apply Y 0x500f76e69;intro A48 cc48;exact Zm 0x303f5c17e3
 rintro ⟨A48,cc48⟩ _;apply Y 0xcd58ad4e;refine lp [] [] (fun q:Nat×Option Addr×Nat=>[(1,ag A1 0),(4,.slice O (aF a b a.length).length oc),(5,.slice q.2.1 (iz (UInt8.ofInt sec) a (aF a b a.length) q.1).length q.2.2),(6,.int .i64 (q.1:Int))]) (kz [_,_,_,_]) (fun q=>[Own 5 1 q.2.1 (iz (UInt8.ofInt sec) a (aF a b a.length) q.1).length q.2.2 (U8 (iz (UInt8.ofInt sec) a (aF a b a.length) q.1))]) (fun q=>q.1≤(aF a b a.length).length) (fun q=>(aF a b a.length).length-q.1) (0,A48,cc48) (Nat.zero_le _) (lk [0,1,2,3] [0]) ?_;apply Y 0xf1e;intro k A c hk
 dsimp only at hk ⊢;apply Y 0x972f;intro hpl;apply Y 0x872f;intro hpe;apply Zu 0x2a9d<;>intro
 ·apply Y 0xf12f;intro hk2;have hr:=eY hk2;apply Y 0xf73f5b1f201fb84899;refine al (k8 ((aF a b a.length).getD k (0,0)).1 oe) ?_;apply Y 0x41e;intro A61;apply Y 0x500f;intro A62 cc62;apply Y 0x9dedae43ea51f49;refine mq 3 rfl (cn (k:=k) (m:=k*2) rfl rfl rfl rfl rfl rfl hk2 (Src.r 0 rfl) (bA hk2) rfl) ?_;refine mq 4 rfl (Ev.fieldAddr rfl rfl rfl rfl rfl rfl (Src.r 0 rfl) (bA hk2) rfl) ?_;refine mq 5 rfl (Ev.load rfl rfl rfl (Src.r 0 rfl) ((bG (aF a b a.length) k 1 hk2 ob).trans rfl)) ?_;apply Y 0xb3e3653f34e3f73f27e35b1f96e3201f74e37f3e5ae;refine al (k8 (((aF a b a.length).getD k (0,0)).2-((aF a b a.length).getD k (0,0)).1) oe) ?_;apply Y 0x41e;intro A75;apply Y 0x2d2f2ae69;intro A76 cc76;apply Y 0xfaeade1ceeae43ea51f8a5cf2e3;refine mq 5 rfl (cn (k:=k) (m:=k*2) rfl rfl rfl rfl rfl rfl hk2 (Src.r 0 rfl) (bA hk2) rfl) ?_;refine mq 6 rfl (Ev.fieldAddr rfl rfl rfl rfl rfl rfl (Src.r 0 rfl) (bA hk2) rfl) ?_;refine mq 7 rfl (Ev.load rfl rfl rfl (Src.r 0 rfl) ((bG (aF a b a.length) k 0 hk2 ob).trans rfl)) ?_;apply Y 0xb3e35b1f34e3201f27e3796e37e;refine sp (Ev.load rfl rfl rfl (Src.r 0 rfl) ((bG (aF a b a.length) k 1 hk2 ob).trans rfl)) ?_;apply Y 0xf2e692a3fb5e3;refine L.append (j:=2) rfl rfl rfl rfl ob rfl rfl rfl rfl (Src.cast (Src.take (Src.sub (Src.r 2 rfl) ca ((aF a b a.length).getD k (0,0)).1 1 oG) (((aF a b a.length).getD k (0,0)).2-((aF a b a.length).getD k (0,0)).1)) QV) Qh (bQ _) oe oH rfl (fun A91 cc91=>?_);apply Y 0x9a5c4de3;refine QE.round (i:=(k,A,c)) ((k+1,A91,cc91)) ot ot (by exact lk [0,1,2,3] [2] ⟨rfl,rfl,(by dsimp only;rw [← BL hk2];rfl),rfl,trivial⟩ (hh:=⟨(congrArg some (ay (BL hk2) (HZ hk2))),trivial⟩))
 apply Y 0xd53fb848a9;refine al (k8 ((iz (UInt8.ofInt sec) a (aF a b a.length) k).length+2) oe) ?_;apply Y 0x41e;intro A96;apply Y 0x500f;intro A97 cc97;apply Y 0x88ee838;obtain rfl:k=(aF a b a.length).length:=oe;refine ⟨A97,cc97,?_,rfl,?_⟩
 ·rw [pX hB,ji hB]
  unfold DR;exact Zm 0x28d1f
 rw [ji hB]
 unfold DR;rw [← b8,List.length_append];exact Zm 0x2
end Go.Proofs.YtbpddeiogcgegaaGreat
