/-
  Part of a proof.
-/
import Derived.Test.YtbpddeiogcgegaaGreatYWFlF
set_option maxHeartbeats 0
set_option maxRecDepth 4000
set_option linter.all false
namespace Go.Proofs.YtbpddeiogcgegaaGreat
open Go.Sl
def pwJ:Value:=.iface 303 (.agg #[])
theorem yK (D A:Option Addr)(l:List UInt8)(c w:Nat)(hc:l.length≤c)(hl:2*w≤l.length)(hw:w≤4):
    dU X 173 [ag D 0,.int .i64 (w:Int)] [Rd A (U8 l)] [Own 305 1 D 1 1 [.slice A l.length c]] (b5 [{ v:=pwJ,recovered:=false }] (fun v R' H'=>aQ l w=true∧∃ (A':Option Addr) (c':Nat),(l.drop (2*(w))).length≤c'∧v=.int .i64 (pN (cr l w):Int)∧R'=[Rd A' (U8 (l.drop (2*(w))))]∧H'=[Own 305 1 D 1 1 [.slice A' (l.drop (2*(w))).length c']]) (fun R' H'=>aQ l w=false∧∃ u:Value,R'=[]∧H'=[Own 305 1 D 1 1 [u]])):=by
 refine dU.of (X:=X) (fn:=Tryz.f173) Tryz.func173 rfl oa rfl ?_;intro β;apply Y 0x1948da12;refine lp [] [] (fun q:Nat×Option Addr×Nat=>[(0,ag D 0),(5,.int .i64 (pN (cr l q.1):Int)),(6,.int .i64 (w:Int)),(7,.int .i64 (q.1:Int))]) (fun q=>[Rd q.2.1 (U8 (l.drop (2*(q.1))))]) (fun q=>[Own 305 1 D 1 1 [.slice q.2.1 (l.drop (2*(q.1))).length q.2.2]]) (fun q=>q.1≤w∧aQ l q.1=true∧(l.drop (2*(q.1))).length≤q.2.2) (fun q=>w-q.1) (0,A,c) ⟨Nat.zero_le _,rfl,hc⟩ (lk [0] [0]) ?_;apply Y 0xec1f;intro k A c hkw hk hcc
 dsimp only at hkw hk hcc ⊢;apply Zu 0x1cda<;>intro
 ·have hv:=tC (cr l k);rw [cn] at hv;have hp:(256^k:Nat)≤16777216:=Nat.le_trans (Nat.pow_le_pow_right ob (show k≤3 by omega)) ob;apply Y 0x86ef2e96ea93d4449;refine sq (ae (k:=0) rfl rfl rfl rfl rfl rfl rfl ot (Src.r 0 rfl) qY) ?_;refine sq (Ev.load rfl rfl rfl (Src.r 0 rfl) (bE ot)) ?_;apply Y 0x86ef2e96ea9;refine sq (ae (k:=1) rfl rfl rfl rfl rfl rfl rfl ot (Src.r 0 rfl) qY) ?_;refine sq (Ev.load rfl rfl rfl (Src.r 0 rfl) (bE ot)) ?_;refine sq (CU rfl) ?_;apply Zu 0x5d9aa9<;>intro hc22
  ·have hno:aQ l w=false:=Cb (k:=k) oe (by
    unfold dp;rw [beq_eq_false_iff_ne];intro h;refine hc22 (e9.2 ?_);rw [bn,bn]
    exact h)
   apply Y 0xe1e940fe1e2fe3ca68;refine uT (js:=[]) (hs:=[0]) ob ⟨rfl,?_⟩;exact ⟨hno,_,rfl,rfl⟩
  have hk1:aQ l (k+1)=true:=by
   rw [dN,hk,Bool.true_and]
   unfold dp;have h:=e9.1 hc22;rw [bn,bn] at h;rw [beq_iff_eq]
   exact h
  have hv1:pN (cr l (k+1))=pN (cr l k)*256+(l.getD (2*k) 0).toNat:=by rw [xS,pM,Nat.mul_comm]
  apply Y 0x48e8;refine sp (CR (k:=8) rfl oU ob oe) ?_;apply Y 0x94e994c3;refine sp (ae (k:=0) rfl rfl rfl rfl rfl rfl rfl ot (Src.r 0 rfl) qY) ?_;refine sp (Ev.load rfl rfl rfl (Src.r 0 rfl) (bE ot)) ?_;apply Y 0xc30f;refine sp (FR rfl rfl oe (UInt8.toNat_lt _)) ?_;apply Y 0x94e994c3b1;refine sp (bx (l:=2) rfl rfl rfl rfl rfl rfl ot) ?_;apply Y 0x6d50eece994c;refine QE.more (r:=Rd (bF A c 2 1) (U8 (l.drop (2*(k+1))))) (((bw (Has.r 0 rfl) c 2 hcc).cast (by rw [List.drop_drop,Nat.mul_add]))) ?_;refine QE.round (i:=(k,A,c)) ((k+1,bF A c 2 1,c-2)) (by exact ⟨by dsimp only;omega,hk1,by dsimp only;rw [List.length_drop] at hcc ⊢;omega⟩) ou (by exact lk [0] [0] ⟨rfl,(by exact congrArg some (congrArg (Value.int .i64) (by dsimp only;rw [hv1,bn];rfl))),rfl,rfl,trivial⟩ (hh:=⟨(by exact congrArg some (ay rfl (by dsimp only;rw [show (l.drop (2*(k+1))).length=(l.drop (2*k)).length-2 from by rw [List.length_drop,List.length_drop];omega];rfl))),trivial⟩))
 apply Y 0x7c69;obtain rfl:k=w:=oe;apply Y 0x121f;exact ⟨hk,A,c,hcc,rfl,rfl,rfl⟩
theorem Ks (D N A:Option Addr)(l:List UInt8)(c:Nat)(n0:Int)(hc:l.length≤c)(hl:8≤l.length):
    dU X 172 [ag D 0,ag N 0] [Rd A (U8 l)] [Own 305 1 D 1 1 [.slice A l.length c],Own 3 1 N 1 1 [.int .i64 n0]] (b5 [{ v:=pwJ,recovered:=false }] (fun v R' H'=>∃ (u:Value) (p:Pr),(aQ l 4=true∧p=Own 3 1 N 1 1 [.int .i64 (pN (cr l 4):Int)])∧v=.tuple #[]∧R'=[]∧H'=[Own 305 1 D 1 1 [u],p]) (fun R' H'=>∃ (u:Value) (p:Pr),(aQ l 4=false∧p=Own 3 1 N 1 1 [.int .i64 n0])∧R'=[]∧H'=[Own 305 1 D 1 1 [u],p])):=by
 refine dU.of (X:=X) (fn:=Tryz.f172) Tryz.func172 rfl oa rfl ?_;intro β;apply Y 0x8a;refine bf (js:=[0]) (js':=[1]) (yK D A l c 4 hc oe ob) rfl rfl rfl ob hcx rfl ?_ ?_
 rotate_left;apply Y 0x7d;intro hk u;apply Y 0x712f;exact ⟨u,_,⟨hk,rfl⟩,rfl,rfl⟩;apply Y 0x4d;intro hk A' c' hcc;apply Y 0xa12fa4e50eac;exact ⟨_,_,⟨hk,rfl⟩,rfl,rfl,rfl⟩
theorem uD (β:Base)(D:Option Addr)(Q:Exit→Act→World→Prop)(h:QE β 15 [] Q .normal [] [] [Own 4 1 D 1 1 [.bool false]]):
    C X β 15 [] Q (match Tryz.f218.body with|some (.seq _ b)=>b|_=>.skip) [(1,pwJ),(4,pwJ),(0,ag D 0)] [] [Own 4 1 D 1 1 [.bool false]]:=by
 apply Y 0x48;refine sp (pH rfl rfl rfl) ?_;apply Y 0xf8;refine C.cond rfl (fun _=>?_) (fun h=>by cases h);apply Y 0x484;refine sp (GN rfl rfl rfl) ?_;apply Y 0xc8;refine L.alloc (cs:=[]) rfl rfl rfl (fun A2=>?_);refine FI (j:=1) (m:=0) rfl rfl rfl rfl rfl ?_;apply Y 0x2d1;refine C.cond rfl (fun h=>by cases h) (fun _=>?_);apply Y 0x50eece68e8
 exact QE.le (Γ':=[]) (R':=[]) (H':=[Own 4 1 D 1 1 [.bool false]]) (aE (rs:=[]) (hs:=[0]) trivial trivial rt ob) h
theorem frJ (v p:Value):Fr 15 [] { tmps:=#[p]++((Array.replicate 14 undef).setIfInBounds 3 v).setIfInBounds 0 v,defers:=[] } [(1,v),(4,v),(0,p)]:=
  Mp oa oa oa oa
theorem NK (w:World):Sat ⟨w,fun _=>False,fun _=>False⟩ w [] []:=⟨⟨rfl,rfl,rfl,Nat.le_refl _,fun _ _ _=>rfl⟩,by simp,by simp,by simp,by simp,by simp,by simp⟩
theorem Bt (β:Base)(p:Value)(Q:Exit→Act→World→Prop)(h:∀ Γ,QE β 15 [] Q .normal Γ [] []):
    C X β 15 [] Q (match Tryz.f218.body with|some (.seq _ b)=>b|_=>.skip) [(1,.nilIface),(4,.nilIface),(0,p)] [] []:=by
 apply Y 0x48;refine sp (lX rfl rfl rfl) ?_;apply Y 0xf8;refine C.cond rfl (fun h=>by cases h) (fun _=>?_);apply Y 0xd9
 exact h _
theorem Ei {D:Option Addr}{w w':World}(h:(Own 4 1 D 1 1 [.bool false]).p w)(h':(Own 4 1 D 1 1 [.bool false]).p w')(k:Nat)(hk:(Own 4 1 D 1 1 [.bool false]).fp k):w'.heap[k]?=w.heap[k]?:=by
 obtain ⟨g,cur,hA,hg,_,_,hs,ht⟩:=cR h ob;obtain ⟨g',cur',hA',hg',_,_,hs',ht'⟩:=cR h' ob;apply Y 0xed0f;intro a ha hak;rw [hA] at hA' ha
 injection hA' with hA'
 injection hA' with hA'
 injection ha with ha
 subst ha hA';have e:∀ c:Array Value,c.size=1*1→c.toList.take (1*1)=[.bool false]→c=#[.bool false]:=by
  intro c h1 h2;rw [List.take_of_length_le (by simpa using Nat.le_of_eq h1)] at h2
  apply Array.ext'
  exact h2
 rw [← hak]
 show w'.heap[g]?=w.heap[g]?;rw [hg,hg',e cur hs ht,e cur' hs' ht']
theorem Sf (w:World)(D:Option Addr)(h:(Own 4 1 D 1 1 [.bool false]).p w):Sat ⟨w,fun k=>(Own 4 1 D 1 1 [.bool false]).fp k,fun _=>False⟩ w [] [Own 4 1 D 1 1 [.bool false]]:=by
 have hlt:∀ k,(Own 4 1 D 1 1 [.bool false]).fp k→k<w.heap.size:=by
  rintro k ⟨a,ha,hk⟩;obtain ⟨g,cur,hA,hg,_⟩:=cR h ob;rw [hA] at ha
  injection ha with ha
  subst ha;have:=(Array.getElem?_eq_some_iff.1 hg).1
  exact hk▸this
 refine ⟨⟨rfl,rfl,rfl,Nat.le_refl _,fun _ _ _=>rfl⟩,by simp,by simp,fun i c hc=>?_,fun i c hc k hk=>?_,fun i j c d hc hd hne k _ _=>?_,by simp⟩
 ·match i,hc with
  |0,hc=>injection hc with hc;subst hc;exact h
  |i+1,hc=>cases hc
 ·match i,hc with
  |0,hc=>injection hc with hc;subst hc;exact ⟨hlt k hk,.inr hk⟩
  |i+1,hc=>cases hc
 match i,j,hc,hd with
 |0,0,_,_=>exact hne rfl
 |0,j+1,_,hd=>cases hd
 |i+1,_,hc,_=>cases hc
theorem z6:RecC X.P 218 4 pwJ:=by
 refine ⟨fun p w=>?_,fun p w=>?_,fun D w hD=>?_⟩
 ·have hf:X.P.funcs[218]?=some Tryz.f218:=Tryz.func218;have hb:Tryz.f218.body.isNone=false:=rfl;have hname:(Tryz.f218.name== "runtime.NumGoroutine")=false:=rfl
  simp only [beq_eq_false_iff_ne] at hname;apply Y 0xc51f;intro h;rw [h] at hb
  cases hb
 ·refine callsD_of_wpS (P:=X.P) Tryz.func218 rfl fun c₀ cs hu=>?_
  apply wpS_seq
  apply wpS_region;apply Y 0xb00f;refine wpS_of_wp (Bt _ p _ (fun Γ a' w' hf' hs'=>?_) _ w (frJ .nilIface p) (NK w));apply Y 0xe40f;intro hst;apply Y 0x3ee;intro hd
  cases c₀
  simp only at hu;subst hu;exact Zm 0xc00f
 refine callsD_of_wpS (P:=X.P) Tryz.func218 rfl fun c₀ cs hu=>?_
 apply wpS_seq
 apply wpS_region;apply Y 0xb00f;refine wpS_of_wp (uD _ D _ (fun a' w' hf' hs'=>?_) _ w (frJ pwJ (ag D 0)) (Sf w D hD));have hown:=hs'.own 0 _ rfl;have hst:Stp w w' (fun _=>False):=by
  refine ⟨hs'.ext.os,hs'.ext.tape,hs'.ext.output,hs'.ext.size,fun k hk _=>?_⟩
  by_cases h:(Own 4 1 D 1 1 [.bool false]).fp k
  ·exact Ei hD hown k h
  exact hs'.ext.block k hk h
 apply Y 0x3ee;intro hd
 cases c₀
 simp only at hu;subst hu;exact Zm 0xc00f
theorem wJ (fid:Nat)(cap:Array Value)(A:Option Addr)(l:List UInt8)(c:Nat)(pc:Pr)(Φ Ψ:Pr→Prop)(hw:∀ D,dU X fid ([ag D 0]++cap.toList) [Rd A (U8 l)] [Own 305 1 D 1 1 [.slice A l.length c],pc] (b5 [{ v:=pwJ,recovered:=false }] (fun v R' H'=>∃ (u:Value) (p:Pr),Φ p∧v=.tuple #[]∧R'=[]∧H'=[Own 305 1 D 1 1 [u],p]) (fun R' H'=>∃ (u:Value) (p:Pr),Ψ p∧R'=[]∧H'=[Own 305 1 D 1 1 [u],p]))):
    Ctr X 171 [.slice A l.length c,.func (.func fid) #[] cap] [Rd A (U8 l)] [pc] (fun v R' H'=>∃ p,R'=[]∧H'=[p]∧((Φ p∧v=.bool true)∨(Ψ p∧v=.bool false))):=by
 refine uY (X:=X) (fn:=Tryz.f171) Tryz.func171 rfl oa rfl ?_;intro β;apply Y 0x882;intro A4;apply Y 0x48f8;refine FL rfl ?_;apply Y 0xddca58f8;intro A9;refine FM (js:=[2,0]) (js':=[1]) (hw A9) rfl rfl rfl rfl rfl ob hcx rfl ?_ ?_
 ·apply Y 0xa1e;intro u p hp;apply Y 0xbd97e2f8;refine IV (js:=[]) (hs:=[1]) (vs:=[_]) z6 rfl ⟨⟨_,_,0,_,rfl,rfl,Src.o 2 rfl,.inr ⟨rfl,rfl⟩⟩,trivial⟩ ob ?_;exact ⟨p,rfl,rfl,.inl ⟨hp,rfl⟩⟩
 rintro _ _ ⟨u,p,hp,rfl,rfl⟩;apply Y 0xe1e;refine IX (js:=[]) (hs:=[1]) (vs:=[_]) 2 rfl z6 rfl ⟨⟨_,_,0,_,rfl,rfl,Src.o 2 rfl,.inr ⟨rfl,rfl⟩⟩,trivial⟩ ob ?_;exact ⟨p,rfl,rfl,.inr ⟨hp,rfl⟩⟩
theorem NG (D S A:Option Addr)(l:List UInt8)(c:Nat)(hc:l.length≤c)(hl:30≤l.length):
    dU X 175 [ag D 0,ag S 0] [Rd A (U8 l)] [Own 305 1 D 1 1 [.slice A l.length c],Own 73 9 S 1 1 (I64 (List.replicate 9 0))] (b5 [{ v:=pwJ,recovered:=false }] (fun v R' H'=>∃ (u:Value) (p:Pr),(aQ l 15=true∧p=Own 73 9 S 1 1 (I64 (wL (cr l 15))))∧v=.tuple #[]∧R'=[]∧H'=[Own 305 1 D 1 1 [u],p]) (fun R' H'=>∃ (u:Value) (p:Pr),(aQ l 15=false∧∃ xs:List Int,xs.length=9∧p=Own 73 9 S 1 1 (I64 xs))∧R'=[]∧H'=[Own 305 1 D 1 1 [u],p])):=by
 refine dU.of (X:=X) (fn:=Tryz.f175) Tryz.func175 rfl oa rfl ?_;intro β;apply Y 0x2;refine an (wH S (List.replicate 9 0) rfl) ?_;apply Y 0x21e;intro A5;apply Y 0x193;refine lp [0,1,5,6] [_,_,_,_] (fun q:Nat×Option Addr×Nat=>[(7,.int .i64 (q.1:Int))]) (fun q=>[Rd q.2.1 (U8 (l.drop (2*rW (q.1))))]) (fun q=>[Own 305 1 D 1 1 [.slice q.2.1 (l.drop (2*rW (q.1))).length q.2.2],Own 73 9 S 1 1 (I64 (jD l (q.1))),Own 266 2 A5 9 9 (iV S)]) (fun q=>q.1≤9∧aQ l (rW q.1)=true∧(l.drop (2*rW (q.1))).length≤q.2.2) (fun q=>9-q.1) (0,A,c) ⟨Nat.zero_le _,rfl,hc⟩ (lk [0] [1,2,0]) ?_;apply Y 0xec1f;intro k A c hkw hk hcc
 dsimp only at hkw hk hcc ⊢;apply Zu 0x1cda<;>intro
 ·have hw:=FV (k:=k) oe;have ho:=AF (k:=k) oe;apply Y 0x249;refine sp (cT (k:=k) (m:=k*2) rfl rfl rfl rfl rfl rfl oe (Src.o 2 rfl) Ox rfl) ?_;refine sp (ab (k:=k*2) rfl rfl rfl (Src.o 2 rfl) (mF S oe) rfl ob) ?_;apply Y 0x88;intro A4;apply Y 0xf8f4e;refine C.join (fun q:Option Addr×Nat=>[(0,ag D 0),(1,ag S 0),(5,.slice A5 9 9),(6,.int .i64 9),(7,.int .i64 (k:Int))]) (fun q:Option Addr×Nat=>[Rd q.1 (U8 ((l.drop (2*rW (k))).drop (2*(wds.getD k 0))))]) (fun q:Option Addr×Nat=>[Own 305 1 D 1 1 [.slice q.1 ((l.drop (2*rW (k))).drop (2*(wds.getD k 0))).length q.2],Own 73 9 S 1 1 (I64 (jD l (k+1))),Own 266 2 A5 9 9 (iV S)]) (fun q:Option Addr×Nat=>aQ (l.drop (2*rW (k))) (wds.getD k 0)=true∧((l.drop (2*rW (k))).drop (2*(wds.getD k 0))).length≤q.2) ?_ ?_
  ·refine tv ?_;refine LA.alt [0,2,3] oa ob ⟨⟨_,rfl,?_⟩,⟨_,rfl,?_⟩,⟨_,rfl,?_⟩,trivial⟩
   ·apply Y 0x38f1e;refine LA.alt [1,2,3] oa ob ⟨⟨_,rfl,?_⟩,⟨_,rfl,?_⟩,⟨_,rfl,?_⟩,trivial⟩
    ·apply Y 0x5b;refine LA.alt [2,3] oa ob ⟨⟨_,rfl,?_⟩,⟨_,rfl,?_⟩,trivial⟩
     ·apply Zu 0xed61e5bf6e38f1e93e79
      rotate_left;apply Y 0x7d;intro hk1 u;exact Zm 0xad;apply Y 0x4d;intro hk1 A' c' hcc';exact Zm 0xcd38
     apply Zu 0xd70f38f1e
     ·apply Zu 0xed61e5bf6e79
      rotate_left;apply Y 0x7d;intro hk1 u;exact Zm 0xad;apply Y 0x4d;intro hk1 A' c' hcc';exact Zm 0xcd38
     apply Zu 0xed61e7955e5b
     rotate_left;apply Y 0x7d;intro hk1 u;exact Zm 0xad;apply Y 0x4d;intro hk1 A' c' hcc';exact Zm 0xcd38
    ·apply Zu 0x702f79
     ·apply Zu 0xed61e5bf6e38f1e93e5b
      rotate_left;apply Y 0x7d;intro hk1 u;exact Zm 0xad;apply Y 0x4d;intro hk1 A' c' hcc';exact Zm 0xcd38
     apply Zu 0x1de38f1e
     ·apply Zu 0xed61e5bf6e5b
      rotate_left;apply Y 0x7d;intro hk1 u;exact Zm 0xad;apply Y 0x4d;intro hk1 A' c' hcc';exact Zm 0xcd38
     apply Zu 0x76e5b
     ·apply Zu 0xed61e5b
      rotate_left;apply Y 0x7d;intro hk1 u;exact Zm 0xad;apply Y 0x4d;intro hk1 A' c' hcc';exact Zm 0xcd38
     apply Zu 0xed
     rotate_left;apply Y 0x7d;intro hk1 u;exact Zm 0xad;apply Y 0x4d;intro hk1 A' c' hcc';exact Zm 0xcd5b74e38
    apply Y 0x38f1e;refine LA.alt [1,2,4] oa ob ⟨⟨_,rfl,?_⟩,⟨_,rfl,?_⟩,⟨_,rfl,?_⟩,trivial⟩
    ·apply Zu 0xd70f5b
     ·apply Zu 0xed61e5bf6e79
      rotate_left;apply Y 0x7d;intro hk1 u;exact Zm 0xad;apply Y 0x4d;intro hk1 A' c' hcc';exact Zm 0xcd38
     apply Zu 0xed61e7955e5b
     rotate_left;apply Y 0x7d;intro hk1 u;exact Zm 0xad;apply Y 0x4d;intro hk1 A' c' hcc';exact Zm 0xcd38
    ·apply Zu 0x1de79
     ·apply Zu 0xed61e5bf6e5b
      rotate_left;apply Y 0x7d;intro hk1 u;exact Zm 0xad;apply Y 0x4d;intro hk1 A' c' hcc';exact Zm 0xcd38
     apply Zu 0x76e5b
     ·apply Zu 0xed61e5b
      rotate_left;apply Y 0x7d;intro hk1 u;exact Zm 0xad;apply Y 0x4d;intro hk1 A' c' hcc';exact Zm 0xcd38
     apply Zu 0xed
     rotate_left;apply Y 0x7d;intro hk1 u;exact Zm 0xad;apply Y 0x4d;intro hk1 A' c' hcc';exact Zm 0xcd5b74e38
    apply Zu 0x311f5b
    ·apply Zu 0xed61e7955e5b
     rotate_left;apply Y 0x7d;intro hk1 u;exact Zm 0xad;apply Y 0x4d;intro hk1 A' c' hcc';exact Zm 0xcd38
    apply Zu 0x76e79
    ·apply Zu 0xed61e5b
     rotate_left;apply Y 0x7d;intro hk1 u;exact Zm 0xad;apply Y 0x4d;intro hk1 A' c' hcc';exact Zm 0xcd38
    apply Zu 0xed
    rotate_left;apply Y 0x7d;intro hk1 u;exact Zm 0xad;apply Y 0x4d;intro hk1 A' c' hcc';exact Zm 0xcd5b74e38
   ·apply Y 0x79;refine LA.alt [0,3] oa ob ⟨⟨_,rfl,?_⟩,⟨_,rfl,?_⟩,trivial⟩
    ·apply Zu 0x702f38f1e
     ·apply Zu 0xed61e5bf6e38f1e93e5b
      rotate_left;apply Y 0x7d;intro hk1 u;exact Zm 0xad;apply Y 0x4d;intro hk1 A' c' hcc';exact Zm 0xcd38
     apply Zu 0x1de38f1e
     ·apply Zu 0xed61e5bf6e5b
      rotate_left;apply Y 0x7d;intro hk1 u;exact Zm 0xad;apply Y 0x4d;intro hk1 A' c' hcc';exact Zm 0xcd38
     apply Zu 0x76e5b
     ·apply Zu 0xed61e5b
      rotate_left;apply Y 0x7d;intro hk1 u;exact Zm 0xad;apply Y 0x4d;intro hk1 A' c' hcc';exact Zm 0xcd38
     apply Zu 0xed
     rotate_left;apply Y 0x7d;intro hk1 u;exact Zm 0xad;apply Y 0x4d;intro hk1 A' c' hcc';exact Zm 0xcd5b74e38
    apply Zu 0x211f38f1e
    ·apply Zu 0x1de38f1e
     ·apply Zu 0xed61e5bf6e5b
      rotate_left;apply Y 0x7d;intro hk1 u;exact Zm 0xad;apply Y 0x4d;intro hk1 A' c' hcc';exact Zm 0xcd38
     apply Zu 0x76e5b
     ·apply Zu 0xed61e5b
      rotate_left;apply Y 0x7d;intro hk1 u;exact Zm 0xad;apply Y 0x4d;intro hk1 A' c' hcc';exact Zm 0xcd38
     apply Zu 0xed
     rotate_left;apply Y 0x7d;intro hk1 u;exact Zm 0xad;apply Y 0x4d;intro hk1 A' c' hcc';exact Zm 0xcd5b74e38
    apply Zu 0xb70f5b
    ·apply Zu 0x76e38f1e
     ·apply Zu 0xed61e5b
      rotate_left;apply Y 0x7d;intro hk1 u;exact Zm 0xad;apply Y 0x4d;intro hk1 A' c' hcc';exact Zm 0xcd38
     apply Zu 0xed
     rotate_left;apply Y 0x7d;intro hk1 u;exact Zm 0xad;apply Y 0x4d;intro hk1 A' c' hcc';exact Zm 0xcd5b74e38
    apply Zu 0xed
    rotate_left;apply Y 0x7d;intro hk1 u;exact Zm 0xad;apply Y 0x4d;intro hk1 A' c' hcc';exact Zm 0xcd5b74e38f1ec70f38
   apply Y 0x38f1e;refine LA.alt [0,2,4] oa ob ⟨⟨_,rfl,?_⟩,⟨_,rfl,?_⟩,⟨_,rfl,?_⟩,trivial⟩
   ·apply Y 0x38f1e;refine LA.alt [1,2,4] oa ob ⟨⟨_,rfl,?_⟩,⟨_,rfl,?_⟩,⟨_,rfl,?_⟩,trivial⟩
    ·apply Zu 0xd70f5b
     ·apply Zu 0xed61e5bf6e79
      rotate_left;apply Y 0x7d;intro hk1 u;exact Zm 0xad;apply Y 0x4d;intro hk1 A' c' hcc';exact Zm 0xcd38
     apply Zu 0xed61e7955e5b
     rotate_left;apply Y 0x7d;intro hk1 u;exact Zm 0xad;apply Y 0x4d;intro hk1 A' c' hcc';exact Zm 0xcd38
    ·apply Zu 0x1de79
     ·apply Zu 0xed61e5bf6e5b
      rotate_left;apply Y 0x7d;intro hk1 u;exact Zm 0xad;apply Y 0x4d;intro hk1 A' c' hcc';exact Zm 0xcd38
     apply Zu 0x76e5b
     ·apply Zu 0xed61e5b
      rotate_left;apply Y 0x7d;intro hk1 u;exact Zm 0xad;apply Y 0x4d;intro hk1 A' c' hcc';exact Zm 0xcd38
     apply Zu 0xed
     rotate_left;apply Y 0x7d;intro hk1 u;exact Zm 0xad;apply Y 0x4d;intro hk1 A' c' hcc';exact Zm 0xcd5b74e38
    apply Zu 0x311f5b
    ·apply Zu 0xed61e7955e5b
     rotate_left;apply Y 0x7d;intro hk1 u;exact Zm 0xad;apply Y 0x4d;intro hk1 A' c' hcc';exact Zm 0xcd38
    apply Zu 0x76e79
    ·apply Zu 0xed61e5b
     rotate_left;apply Y 0x7d;intro hk1 u;exact Zm 0xad;apply Y 0x4d;intro hk1 A' c' hcc';exact Zm 0xcd38
    apply Zu 0xed
    rotate_left;apply Y 0x7d;intro hk1 u;exact Zm 0xad;apply Y 0x4d;intro hk1 A' c' hcc';exact Zm 0xcd5b74e38
   ·apply Zu 0x211f79
    ·apply Zu 0x1de38f1e
     ·apply Zu 0xed61e5bf6e5b
      rotate_left;apply Y 0x7d;intro hk1 u;exact Zm 0xad;apply Y 0x4d;intro hk1 A' c' hcc';exact Zm 0xcd38
     apply Zu 0x76e5b
     ·apply Zu 0xed61e5b
      rotate_left;apply Y 0x7d;intro hk1 u;exact Zm 0xad;apply Y 0x4d;intro hk1 A' c' hcc';exact Zm 0xcd38
     apply Zu 0xed
     rotate_left;apply Y 0x7d;intro hk1 u;exact Zm 0xad;apply Y 0x4d;intro hk1 A' c' hcc';exact Zm 0xcd5b74e38
    apply Zu 0xb70f5b
    ·apply Zu 0x76e38f1e
     ·apply Zu 0xed61e5b
      rotate_left;apply Y 0x7d;intro hk1 u;exact Zm 0xad;apply Y 0x4d;intro hk1 A' c' hcc';exact Zm 0xcd38
     apply Zu 0xed
     rotate_left;apply Y 0x7d;intro hk1 u;exact Zm 0xad;apply Y 0x4d;intro hk1 A' c' hcc';exact Zm 0xcd5b74e38
    apply Zu 0xed
    rotate_left;apply Y 0x7d;intro hk1 u;exact Zm 0xad;apply Y 0x4d;intro hk1 A' c' hcc';exact Zm 0xcd5b74e38f1ec70f38
   apply Y 0x5b;refine LA.alt [0,2] oa ob ⟨⟨_,rfl,?_⟩,⟨_,rfl,?_⟩,trivial⟩
   ·apply Zu 0x311f38f1e
    ·apply Zu 0xed61e7955e5b
     rotate_left;apply Y 0x7d;intro hk1 u;exact Zm 0xad;apply Y 0x4d;intro hk1 A' c' hcc';exact Zm 0xcd38
    apply Zu 0x76e79
    ·apply Zu 0xed61e5b
     rotate_left;apply Y 0x7d;intro hk1 u;exact Zm 0xad;apply Y 0x4d;intro hk1 A' c' hcc';exact Zm 0xcd38
    apply Zu 0xed
    rotate_left;apply Y 0x7d;intro hk1 u;exact Zm 0xad;apply Y 0x4d;intro hk1 A' c' hcc';exact Zm 0xcd5b74e38
   apply Zu 0xb70f79
   ·apply Zu 0x76e38f1e
    ·apply Zu 0xed61e5b
     rotate_left;apply Y 0x7d;intro hk1 u;exact Zm 0xad;apply Y 0x4d;intro hk1 A' c' hcc';exact Zm 0xcd38
    apply Zu 0xed
    rotate_left;apply Y 0x7d;intro hk1 u;exact Zm 0xad;apply Y 0x4d;intro hk1 A' c' hcc';exact Zm 0xcd5b74e38
   apply Zu 0xed
   rotate_left;apply Y 0x7d;intro hk1 u;exact Zm 0xad;apply Y 0x4d;intro hk1 A' c' hcc';exact Zm 0xcd5b74e38f1ec70f38
  apply Y 0xcce;intro A' c' hk1 hcc'
  dsimp only at hk1 hcc' ⊢;apply Y 0x6d;refine QE.round (i:=(k,A,c)) ((k+1,A',c')) (by exact ⟨by dsimp only;omega,by dsimp only;rw [kO oe,← lx hk];exact hk1,by dsimp only;rw [kO oe,Nat.mul_add,← List.drop_drop];exact hcc'⟩) ou (by exact lk [0] [0,1,2] (hr:=⟨Qw,trivial⟩) (hh:=⟨Qw,rfl,rfl,trivial⟩))
 apply Y 0xa4e64e;obtain rfl:k=9:=oe;rw [xU];apply Y 0xa12f;exact ⟨_,_,⟨hk,rfl⟩,rfl,rfl,rfl⟩
end Go.Proofs.YtbpddeiogcgegaaGreat
namespace Go.Sl
theorem z8 (x:UInt8)(old:List UInt8)(s:List (Nat×Nat)):(l7 x old s).getD 0 0=x:=rfl
theorem vS {sec:Nat}(h:sec<64):(UInt8.ofInt (sec:Int)).toNat=sec:=by
 apply Y 0x740f
 omega
structure RecIs (sec:Nat)(a b r:List UInt8):Prop where
  eq:iQ (sec:Int) a b=r
  e:Jc (sec:Int) a b=0
  head:(r.getD 0 0).toNat=sec
  len:r.length=5+4*(aA a b a.length).length+sQ a b a.length
  le:r.length≤20485
  res:vx b r=a
  resE:resE b r=0
theorem RecIs.of {sec:Nat}{a b r:List UInt8}(hr:r=iQ (sec:Int) a b)(h:sec<64)(hl:a.length=b.length)(h1:1≤a.length)(h2:a.length≤4096):RecIs sec a b r:=by
 subst hr;have hB:¬cV (sec:Int) a b:=Ql;obtain ⟨h3,h4⟩:=Hu hB;refine ⟨rfl,tO hB,?_,?_,ny _ _ _,h3,h4⟩
 ·rw [gz hB,z8,vS h]
 rw [gz hB,nB]
section
variable {X:Cx}{β:Base}{n:Nat}{ds:List Deferred}{ops:Array Oper}{Q:Exit→Act→World→Prop}{Γ:Env}{R H:List Pr}{rest:List Oper}
end
theorem UOk.of {f g:Fl}{us:List Int}(h:UOk f us)(hl:g.data.length=f.data.length):UOk g us:=⟨h.l,fun s hs=>by rw [hl];exact h.r s hs⟩
end Go.Sl
namespace Go.Proofs.YtbpddeiogcgegaaGreat
open Go.Sl
theorem Gu (f:Fl)(a:Fa)(ok:f.Ok)(hh:a.hs.length=f.data.length)(s:Int)(hs:0≤s∧s<(f.data.length:Int))(h8:8≤f.size)(hcap:Caps f a):
    Ctr X 107 [flV f a,.int .i64 s] (flR f a) [] (fun v R' H'=>v=.int .i64 (l4 (av f s))∧R'=[]∧H'=[]):=by
 obtain ⟨os1,os2,on1,on2,owl,odl,orows,ol1,ol2,owear⟩:=ok;have hrow:=orows s.toNat oe;have hcp:=hcap s.toNat oe;refine co Tryz.func107 ?_;intro β;apply Y 0x2a;intro A2;apply Y 0x88fb28;intro A5;apply Y 0x3d827bece;refine sp (ae (k:=s.toNat) rfl rfl rfl rfl rfl rfl oe oe (Src.r 1 rfl) oy) ?_;apply Y 0x6de;refine sp (Ev.cast (u:=.slice (a.hs.getD s.toNat (none,0)).1 ((f.data.getD s.toNat []).take 8).length (a.hs.getD s.toNat (none,0)).2) (br (h:=8) rfl rfl rfl rfl rfl rfl oe) (by rw [List.length_take,Nat.min_eq_left oe])) ?_;apply Y 0x3;refine L.call (js:=[0]) (js':=[]) (wJ 172 #[ag A5 0] (a.hs.getD s.toNat (none,0)).1 ((f.data.getD s.toNat []).take 8) (a.hs.getD s.toNat (none,0)).2 (Own 3 1 A5 1 1 [.int .i64 (-1)]) (fun p=>aQ ((f.data.getD s.toNat []).take 8) 4=true∧p=Own 3 1 A5 1 1 [.int .i64 (pN (cr ((f.data.getD s.toNat []).take 8) 4):Int)]) (fun p=>aQ ((f.data.getD s.toNat []).take 8) 4=false∧p=Own 3 1 A5 1 1 [.int .i64 (-1)]) (fun D=>Ks D A5 _ _ _ (-1) Oq Oq)) rfl rfl rfl ob ⟨(((((Has.kid 2 rfl oH (s.toNat) OG).cast (bB _))).take 8).cast (cj _ _)),trivial⟩ rfl ?_;rintro v _ _ ⟨p,rfl,rfl,hp⟩;rw [gC ob,mH ob] at hp;obtain ⟨n,rfl,rfl,hn⟩:∃ n:Int,p=Own 3 1 A5 1 1 [.int .i64 n]∧v=.bool (aQ (f.data.getD s.toNat []) 4)∧(aQ (f.data.getD s.toNat []) 4=true→n=(pN (cr (f.data.getD s.toNat []) 4):Int)):=by
  rcases hp with ⟨⟨hk,rfl⟩,rfl⟩|⟨⟨hk,rfl⟩,rfl⟩
  ·exact ⟨_,rfl,by rw [hk],fun _=>rfl⟩
  exact ⟨_,rfl,by rw [hk],fun h=>by rw [hk] at h;cases h⟩
 apply Zu 0xe91<;>intro hc14
 ·apply Y 0xe3e5c
  unfold l4 av;rw [if_neg (by simpa using hc14)]
  rfl
 apply Y 0xe3e395a94e2e8;have hk:aQ (f.data.getD s.toNat []) 4=true:=by simpa using hc14
 unfold l4 av;rw [if_pos hk,hn hk]
 rfl
theorem IB (A B:Option Addr)(c bc:Nat)(l:List UInt8)(x:UInt8):
    Ctr X 174 [.slice A l.length c,.slice B 1 bc] [Rd A (U8 l),Rd B (U8 [x])] [] (fun v R' H'=>v=.int .i64 ((l.count x:Nat):Int)∧R'=[]∧H'=[]):=by
 refine co Tryz.func174 ?_;intro β;apply Zu 0x40e158da<;>intro
 ·omega
 apply Zu 0x40e158aa<;>intro
 ·apply Y 0x58;refine sp (ae (k:=0) rfl rfl rfl rfl rfl rfl rfl ob (Src.r 1 rfl) Ox) ?_;refine sp (Ev.load rfl rfl rfl (Src.r 1 rfl) (bE Ox)) ?_;refine sp (CT (fn:=Tryz.f220) Tryz.func220 rfl rfl oa oa rfl (Src.r 0 rfl) rfl) ?_;exact Zm 0xd1e394a
 omega
theorem Fm (A:Option Addr)(c:Nat)(l:List UInt8):
    Ctr X 108 [.slice A l.length c] [Rd A (U8 l)] [] (fun v R' H'=>v=.bool (bZ l)∧R'=[]∧H'=[]):=by
 refine co Tryz.func108 ?_;intro β;apply Y 0x7a4812;intro A4;apply Y 0xa20f;refine an (IB A A4 c 1 l 255) ?_;apply Y 0xfc395ac829;rw [← uE,Bool.eq_iff_iff,beq_iff_eq,beq_iff_eq]
 omega
theorem NF (A:Option Addr)(c:Nat)(l:List UInt8)(hc:l.length≤c)(hl:30≤l.length):
    Ctr X 109 [.slice A l.length c] [Rd A (U8 l)] [] (fun v R' H'=>v=.tuple #[.agg (List.toArray (st9 ((cm l).getD (List.replicate 9 0)))),.bool (cm l).isSome]∧R'=[]∧H'=[]):=by
 refine co Tryz.func109 ?_;intro β;apply Y 0x882;intro A2;apply Y 0x581;refine L.call (js:=[0]) (js':=[]) (wJ 175 #[ag A2 0] A l c (Own 73 9 A2 1 1 (I64 (List.replicate 9 0))) (fun p=>aQ l 15=true∧p=Own 73 9 A2 1 1 (I64 (wL (cr l 15)))) (fun p=>aQ l 15=false∧∃ xs:List Int,xs.length=9∧p=Own 73 9 A2 1 1 (I64 xs)) (fun D=>NG D A2 A l c hc hl)) rfl rfl rfl ob hcx rfl ?_;rintro v _ _ ⟨p,rfl,rfl,hp⟩;obtain ⟨ys,hyl,rfl,rfl,hy⟩:∃ ys:List Int,ys.length=9∧p=Own 73 9 A2 1 1 (I64 ys)∧v=.bool (aQ l 15)∧(aQ l 15=true→ys=wL (cr l 15)):=by
  rcases hp with ⟨⟨hk,rfl⟩,rfl⟩|⟨⟨hk,xs,hx,rfl⟩,rfl⟩
  ·exact ⟨_,ij _,rfl,by rw [hk],fun _=>rfl⟩
  exact ⟨xs,hx,rfl,by rw [hk],fun h=>by rw [hk] at h;cases h⟩
 have hall:(I64 ys).all Value.oneCell'=true:=List.all_eq_true.2 (dk _);apply Zu 0xe92d28<;>intro hc8
 ·have hno:cm l=none:=by unfold cm;rw [if_neg (by simpa using hc8)]
  apply Y 0x8c;refine dd (j:=0) rfl rfl rfl rfl rfl (Nat.zero_lt_succ _) rfl oag ?_;apply Y 0xf7e4a;rw [hno];exact Zm 0xd1e
 have hk:aQ l 15=true:=by simpa using hc8
 have hyes:cm l=some ys:=by unfold cm;rw [if_pos hk,hy hk]
 apply Y 0x2e8;refine sp (ab rfl rfl rfl (Src.o 0 rfl) (vs:=I64 ys) (by rw [List.drop_zero,List.take_of_length_le oas]) oag ob) ?_;refine dd (j:=0) (vs:=I64 ys) rfl rfl rfl hall oag oas rfl oag ?_;apply Y 0x5a;refine qrt [] [] [_,_] rfl ⟨⟨_,_,0,_,rfl,rfl,Src.o 0 rfl,.inl ⟨rfl,by decide,I64 ys,(by rw [List.drop_zero,List.take_zero,List.nil_append,List.take_append_of_le_length oas,List.take_of_length_le oas]),oag,rfl⟩⟩,rfl,trivial⟩ ?_;rw [hyes,← vg (show ((some ys).getD (List.replicate 9 0)).length=9 from hyl)];exact Zm 0xd1e
theorem Iu (f:Fl)(a:Fa)(_ok:f.Ok)(_hh:a.hs.length=f.data.length)(y:Ly):
    Ctr X 106 [flV f a,.agg (List.toArray [.int .i64 y.n,.int .i64 y.a,.int .i64 y.b,.int .i64 y.s0,.int .i64 y.s1,.slice y.T y.tn y.tc,.slice y.U y.un y.uc,.slice y.V y.vn y.vc])] (flR f a) [] (fun v R' H'=>v=.bool (cN f y.a y.b)∧R'=[]∧H'=[]):=by
 refine co Tryz.func106 ?_;intro β;apply Y 0x2a;intro A2;apply Y 0xdd;intro A3;apply Y 0x60e3d15e8d28;refine sq (aV (k:=0) (m:=1) rfl rfl rfl rfl rfl rfl ob (Src.r 0 rfl) Ox rfl) ?_;apply Y 0x60e30e;refine sq (aV (k:=1) (m:=2) rfl rfl rfl rfl rfl rfl ob (Src.r 0 rfl) Ox rfl) ?_;apply Y 0x5589ab930e;refine L.bool 16 rfl (imp tf ?_) (imp tg ?_)<;>intro
 ·apply Zu 0x301fc8b82c<;>intro hg22
  ·have q22:0≤y.a∧0≤y.b:=by simp only [Bool.false_eq_true,if_false] at hg22;split at hg22<;>omega
   apply Zu 0x601fc8b812e7d0eb82c<;>intro hg31
   ·have q31:y.a<f.data.length∧y.b<f.data.length:=by simp only [if_true] at hg31;split at hg31<;>omega
    apply Y 0xfc395a5712e7d0e7
    unfold cN
    symm;rw [decide_eq_decide]
    omega
   have q31:¬(y.a<f.data.length∧y.b<f.data.length):=by simp only [if_true] at hg31;split at hg31<;>omega
   apply Y 0xfc39bb2b
   unfold cN
   symm;exact Zm 0x5be
  have q22:¬(0≤y.a∧0≤y.b):=by simp only [Bool.false_eq_true,if_false] at hg22;split at hg22<;>omega
  apply Y 0xfc39bb2b52ba8
  unfold cN
  symm;exact Zm 0x5be
 apply Y 0xfc39bb2b52b9da8
 unfold cN
 symm;exact Zm 0x5be
theorem BL (f:Fl)(a:Fa)(ok:f.Ok)(hh:a.hs.length=f.data.length)(y:Ly)(hcap:Caps f a):
    Ctr X 64 [flV f a,.agg (List.toArray [.int .i64 y.n,.int .i64 y.a,.int .i64 y.b,.int .i64 y.s0,.int .i64 y.s1,.slice y.T y.tn y.tc,.slice y.U y.un y.uc,.slice y.V y.vn y.vc])] (flR f a) [] (fun v R' H'=>v=.tuple #[.agg (List.toArray [.int .i64 (aL f y.a y.b).sec,.int .i64 (aL f y.a y.b).oth,.int .i64 (aL f y.a y.b).gen,.int .i64 ((aL f y.a y.b).s.getD 0 0),.int .i64 ((aL f y.a y.b).s.getD 1 0),.int .i64 ((aL f y.a y.b).s.getD 2 0),.int .i64 ((aL f y.a y.b).s.getD 3 0),.int .i64 ((aL f y.a y.b).s.getD 4 0),.int .i64 ((aL f y.a y.b).s.getD 5 0),.int .i64 ((aL f y.a y.b).s.getD 6 0),.int .i64 ((aL f y.a y.b).s.getD 7 0),.int .i64 ((aL f y.a y.b).s.getD 8 0),.bool (aL f y.a y.b).found,.int .i64 ((aL f y.a y.b).free:Int),.int .i64 (lgP f y.a y.b:Int),.int .i64 ((aL f y.a y.b).torn:Int)]),.bool (aL f y.a y.b).found]∧R'=[]∧H'=[]):=by
 apply Y 0xc2e;intro hok;obtain ⟨os1,os2,on1,on2,owl,odl,orows,ol1,ol2,owear⟩:=ok;refine co Tryz.func64 ?_;intro β;apply Y 0x2a;intro A2;apply Y 0xdd;intro A3;apply Y 0x88;intro A4;apply Y 0xe2e16e68a0e8d32ec3e428;refine an (Iu f a hok hh y) ?_;apply Zu 0xe913c29<;>intro hc15
 ·have hno:cN f y.a y.b=false:=by simpa using hc15
  apply Y 0xe3ef7e4a598c;rw [show aL f y.a y.b=lg0 from by unfold aL;rw [if_neg (by rw [hno];exact Bool.false_ne_true)],show lgP f y.a y.b=0 from by unfold lgP;rw [if_neg (by rw [hno];exact Bool.false_ne_true)]]
  rfl
 have hft0:cN f y.a y.b=true:=by simpa using hc15
 have hft:=fT hft0;have hps:=rS hft0;have hrow:=orows (ax f y.a y.b).sec.toNat oe;have hcp:=hcap (ax f y.a y.b).sec.toNat oe;apply Y 0xc0e6ba3ec31fdca3eb31fdc2e8;refine sp (Ev.cast (u:=.int .i64 ((bC f:Nat):Int)) (Ev.quo rfl rfl oe oe oe) (congrArg (Value.int .i64) (by unfold bC;omega))) ?_;apply Y 0x88ca;intro A6;apply Y 0xba16e2f8eb;refine an (Gu f a hok hh y.a ⟨hft.2.1,hft.2.2.2.1⟩ oe hcap) ?_;apply Y 0xf8acccdb29;refine jr (fun q:Unit=>[(2,ag A2 0),(3,ag A3 0),(4,ag A4 0),(6,ag A6 0)]) (fun q:Unit=>[Rd A3 [.int .i64 y.n,.int .i64 y.a,.int .i64 y.b,.int .i64 y.s0,.int .i64 y.s1,.slice y.T y.tn y.tc,.slice y.U y.un y.uc,.slice y.V y.vn y.vc],Rd A2 (flL f a),Rd a.D (aB a.hs (B8 f.data)),KidsR a.hs (B8 f.data),Rd a.W (I64 f.wear),Rd a.E (Bs f.dead)]) (fun q:Unit=>[Own 128 16 A4 1 1 [.int .i64 0,.int .i64 0,.int .i64 0,.int .i64 0,.int .i64 0,.int .i64 0,.int .i64 0,.int .i64 0,.int .i64 0,.int .i64 0,.int .i64 0,.int .i64 0,.bool false,.int .i64 0,.int .i64 0,.int .i64 0],Own 128 16 A6 1 1 [.int .i64 (ax f y.a y.b).sec,.int .i64 (ax f y.a y.b).oth,.int .i64 (ax f y.a y.b).gen,.int .i64 ((ax f y.a y.b).s.getD 0 0),.int .i64 ((ax f y.a y.b).s.getD 1 0),.int .i64 ((ax f y.a y.b).s.getD 2 0),.int .i64 ((ax f y.a y.b).s.getD 3 0),.int .i64 ((ax f y.a y.b).s.getD 4 0),.int .i64 ((ax f y.a y.b).s.getD 5 0),.int .i64 ((ax f y.a y.b).s.getD 6 0),.int .i64 ((ax f y.a y.b).s.getD 7 0),.int .i64 ((ax f y.a y.b).s.getD 8 0),.bool (ax f y.a y.b).found,.int .i64 ((ax f y.a y.b).free:Int),.int .i64 (bC f:Int),.int .i64 ((ax f y.a y.b).torn:Int)]]) (fun q:Unit=>True) ?_ ?_
 ·apply Y 0xba16e2;refine an (Gu f a hok hh y.b ⟨hft.2.2.1,hft.2.2.2.2.1⟩ oe hcap) ?_;apply Zu 0x78ba481db29<;>intro hc40
  ·apply Y 0x50eacccacccaccc3baba68;refine QE.join (()) O7 (by exact lk [0,1,2,3,4,5] [0,1] (hh:=⟨rfl,(by unfold ax;rw [if_pos hc40];rfl),trivial⟩))
  apply Y 0xd9;refine QE.join (()) O7 (by exact lk [0,1,2,3,4,5] [0,1] (hh:=⟨rfl,(by unfold ax;rw [if_neg hc40];rfl),trivial⟩))
 rintro _ _;apply Zu 0x78ba24<;>intro hc51
 ·apply Y 0xe3ef7e4a598c;rw [show aL f y.a y.b=lg0 from by unfold aL;rw [if_pos hft0,if_pos hc51],show lgP f y.a y.b=0 from by unfold lgP;rw [if_pos hft0,if_pos hc51]]
  rfl
 apply Y 0x19ba2aa;refine lp [2,3,4,6,54] [_,_,_,_,_] (fun k:Nat=>[(55,.int .i64 (k:Int))]) (kz [_,_,_,_,_,_]) (fun k=>[Own 128 16 A4 1 1 [.int .i64 0,.int .i64 0,.int .i64 0,.int .i64 0,.int .i64 0,.int .i64 0,.int .i64 0,.int .i64 0,.int .i64 0,.int .i64 0,.int .i64 0,.int .i64 0,.bool false,.int .i64 0,.int .i64 0,.int .i64 0],Own 128 16 A6 1 1 [.int .i64 (bN (f.data.getD (ax f y.a y.b).sec.toNat []) (ax f y.a y.b) (k)).sec,.int .i64 (bN (f.data.getD (ax f y.a y.b).sec.toNat []) (ax f y.a y.b) (k)).oth,.int .i64 (bN (f.data.getD (ax f y.a y.b).sec.toNat []) (ax f y.a y.b) (k)).gen,.int .i64 ((bN (f.data.getD (ax f y.a y.b).sec.toNat []) (ax f y.a y.b) (k)).s.getD 0 0),.int .i64 ((bN (f.data.getD (ax f y.a y.b).sec.toNat []) (ax f y.a y.b) (k)).s.getD 1 0),.int .i64 ((bN (f.data.getD (ax f y.a y.b).sec.toNat []) (ax f y.a y.b) (k)).s.getD 2 0),.int .i64 ((bN (f.data.getD (ax f y.a y.b).sec.toNat []) (ax f y.a y.b) (k)).s.getD 3 0),.int .i64 ((bN (f.data.getD (ax f y.a y.b).sec.toNat []) (ax f y.a y.b) (k)).s.getD 4 0),.int .i64 ((bN (f.data.getD (ax f y.a y.b).sec.toNat []) (ax f y.a y.b) (k)).s.getD 5 0),.int .i64 ((bN (f.data.getD (ax f y.a y.b).sec.toNat []) (ax f y.a y.b) (k)).s.getD 6 0),.int .i64 ((bN (f.data.getD (ax f y.a y.b).sec.toNat []) (ax f y.a y.b) (k)).s.getD 7 0),.int .i64 ((bN (f.data.getD (ax f y.a y.b).sec.toNat []) (ax f y.a y.b) (k)).s.getD 8 0),.bool (bN (f.data.getD (ax f y.a y.b).sec.toNat []) (ax f y.a y.b) (k)).found,.int .i64 ((bN (f.data.getD (ax f y.a y.b).sec.toNat []) (ax f y.a y.b) (k)).free:Int),.int .i64 (bC f:Int),.int .i64 ((bN (f.data.getD (ax f y.a y.b).sec.toNat []) (ax f y.a y.b) (k)).torn:Int)]]) (fun k=>k≤bC f) (fun k=>bC f-k) 0 (Nat.zero_le _) (lk [0,1,2,3,4,5] [0,1]) ?_;intro k hk;apply Zu 0x1cda<;>intro
 ·have hkp:=iO (f.data.getD (ax f y.a y.b).sec.toNat []) (ax f y.a y.b) k;have hsl:=bX (f:=f) (row:=(f.data.getD (ax f y.a y.b).sec.toNat [])) (i:=k) hrow oe;have hkl:(bN (f.data.getD (ax f y.a y.b).sec.toNat []) (ax f y.a y.b) (k)).free≤k∧(bN (f.data.getD (ax f y.a y.b).sec.toNat []) (ax f y.a y.b) (k)).torn≤k:=iP fR.1 fR.2 k;have hpl:bC f≤137:=An hok;apply Y 0xba6b22d49;refine sp (ae (k:=(ax f y.a y.b).sec.toNat) rfl rfl rfl rfl rfl rfl (by rw [hkp.1];omega) oe (Src.r 2 rfl) oy) ?_;apply Y 0xd4e3200f;refine sp (Ev.cast (u:=.int .i64 ((8+30*k:Nat):Int)) (Ev.add rfl rfl oe oe) (congrArg (Value.int .i64) oe)) ?_;refine sp (bx (l:=8+30*k) rfl rfl rfl rfl rfl rfl oe) ?_;refine sp (Ev.cast (u:=.slice (bF (a.hs.getD (ax f y.a y.b).sec.toNat (none,0)).1 (a.hs.getD (ax f y.a y.b).sec.toNat (none,0)).2 (8+30*k) 1) (aX (f.data.getD (ax f y.a y.b).sec.toNat []) k).length ((a.hs.getD (ax f y.a y.b).sec.toNat (none,0)).2-(8+30*k))) (br (h:=30) rfl rfl rfl rfl rfl rfl oe) (by rw [hsl.1];rfl)) ?_;apply Y 0x428;refine C.more (r:=Rd (bF (a.hs.getD (ax f y.a y.b).sec.toNat (none,0)).1 (a.hs.getD (ax f y.a y.b).sec.toNat (none,0)).2 (8+30*k) 1) (U8 (aX (f.data.getD (ax f y.a y.b).sec.toNat []) k))) ((((bw (((Has.kid 3 rfl oH ((ax f y.a y.b).sec.toNat) OG).cast (bB _))) (a.hs.getD (ax f y.a y.b).sec.toNat (none,0)).2 (8+30*k) oe).take 30).cast (cj _ _))) ?_;apply Y 0x8a;refine an (Fm (bF (a.hs.getD (ax f y.a y.b).sec.toNat (none,0)).1 (a.hs.getD (ax f y.a y.b).sec.toNat (none,0)).2 (8+30*k) 1) ((a.hs.getD (ax f y.a y.b).sec.toNat (none,0)).2-(8+30*k)) (aX (f.data.getD (ax f y.a y.b).sec.toNat []) k)) ?_;apply Zu 0xe9f8db29<;>intro hc70
  ·apply Y 0xdde1bb9e66e;refine QE.round (k+1) oe oe (by exact lk [1,2,3,4,5,6] [0,1] (hh:=⟨rfl,(by rw [bp,km hc70];rfl),trivial⟩))
  apply Y 0x48f8accc9b48e8;refine an (NF (bF (a.hs.getD (ax f y.a y.b).sec.toNat (none,0)).1 (a.hs.getD (ax f y.a y.b).sec.toNat (none,0)).2 (8+30*k) 1) ((a.hs.getD (ax f y.a y.b).sec.toNat (none,0)).2-(8+30*k)) (aX (f.data.getD (ax f y.a y.b).sec.toNat []) k) oe oe) ?_;apply Y 0x88c8db29;intro A10;apply Zu 0xe912172e<;>intro hc79
  ·obtain ⟨s1,hs1⟩:=Option.isSome_iff_exists.1 hc79;apply Y 0x6d50eacccebcc4a0f68;refine QE.round (k+1) oe oe (by exact lk [1,2,3,4,5,6] [0,1] (hh:=⟨rfl,(by rw [bp,kj hc70 hs1,hs1];rfl),trivial⟩))
  apply Y 0x6d50eaccc9bba68;refine QE.round (k+1) oe oe (by exact lk [1,2,3,4,5,6] [0,1] (hh:=⟨rfl,(by rw [bp,tF hc70 (Option.not_isSome_iff_eq_none.1 (by rw [hc79];exact Bool.false_ne_true))];rfl),trivial⟩))
 apply Y 0xc22f5f0f469;refine mq 1 rfl (faR 6) ?_;refine mq 2 rfl (ldR 6) ?_;refine mfo 3 ?_;apply Y 0xf7e23e1b9c280fc959;obtain rfl:k=bC f:=oe;apply Y 0xe3e;rw [show aL f y.a y.b=(bN (f.data.getD (ax f y.a y.b).sec.toNat []) (ax f y.a y.b) (bC f)) from by unfold aL av;rw [if_pos hft0,if_neg hc51],show lgP f y.a y.b=bC f from by unfold lgP;rw [if_pos hft0,if_neg hc51]]
 rfl
theorem Ce (A:Option Addr)(c:Nat)(l:List UInt8)(hl:l.length≤1000):
    Ctr X 101 [.slice A l.length c] [Rd A (U8 l)] [] (fun v R' H'=>∃ (O:Option Addr) (oc:Nat),v=.slice O (aW l).length oc∧R'=[]∧H'=[Own 5 1 O (aW l).length oc (U8 (aW l))]):=by
 refine co Tryz.func101 ?_;intro β;apply Y 0x7a212;intro A5;apply Y 0x19228;refine lp [] [] (fun q:Nat×Option Addr×Nat=>[(0,.slice A l.length c),(3,.slice q.2.1 (aW (l.take (q.1))).length q.2.2),(4,.int .i64 (q.1:Int))]) (kz [_]) (fun q=>[Own 5 1 q.2.1 (aW (l.take (q.1))).length q.2.2 (U8 (aW (l.take (q.1))))]) (fun q=>q.1≤l.length) (fun q=>l.length-q.1) (0,A5,0) (Nat.zero_le _) (lk [0] [0]) ?_;apply Y 0xb1e;intro k O oc hk
 dsimp only at hk ⊢;apply Zu 0x786c4<;>intro
 ·have hbl:(aW (l.take (k))).length≤2000:=by rw [dg,List.length_take];omega
  have hst:(aW (l.take (k+1)))=(aW (l.take (k)))++[l.getD k 0,~~~(l.getD k 0)]:=by rw [aC _ 0 k oe,lz,sW]
  apply Y 0x4debaed2e420f49;refine mq 3 rfl (ae (k:=k) rfl rfl rfl rfl rfl rfl rfl oe (Src.r 0 rfl) oO) ?_;refine mq 4 rfl (Ev.load rfl rfl rfl (Src.r 0 rfl) (bE oe)) ?_;apply Y 0xc4e;refine mfo 6 ?_;apply Y 0xc7e6bbeb4e6952fd3e63;refine sp (CP rfl) ?_;apply Y 0x7a69e6;intro A22;apply Y 0x17ec9;refine L.append (j:=0) rfl rfl rfl rfl ob rfl rfl rfl rfl (Src.o 1 rfl) rfl (by intro v hv;simp at hv;rcases hv with rfl|rfl<;>rfl) oe oM rfl (fun A23 cc23=>?_);apply Y 0x3a9c27e6;refine QE.round (i:=(k,O,oc)) ((k+1,A23,cc23)) ou ou (by exact lk [0] [0] ⟨rfl,qk,rfl,trivial⟩ (hh:=⟨O6,trivial⟩))
 apply Y 0x7c69;obtain rfl:k=l.length:=oe;exact Zm 0xc60f20ee4e
theorem ek (m w:Nat)(hw:w≤4):
    Ctr X 102 [.int .i64 (m:Int),.int .i64 (w:Int)] [] [] (fun v R' H'=>∃ (O:Option Addr) (oc:Nat),v=.slice O w oc∧R'=[]∧H'=[Own 5 1 O w oc (U8 (cz m w))]):=by
 refine co Tryz.func102 ?_;intro β;apply Y 0x7a212;intro A7;apply Y 0x19c0e4828;refine lp [] [] (fun q:Nat×Option Addr×Nat=>[(0,.int .i64 (m:Int)),(5,.slice q.2.1 q.1 q.2.2),(6,.int .i64 ((w:Int)-1-(q.1:Int)))]) nz (fun q=>[Own 5 1 q.2.1 q.1 q.2.2 (U8 ((cz m w).take q.1))]) (fun q=>q.1≤w) (fun q=>w-q.1) (0,A7,0) (Nat.zero_le _) (by exact lk [] [0] ⟨rfl,rfl,Q4,trivial⟩) ?_;apply Y 0xb1e;intro k O oc hk
 dsimp only at hk ⊢;apply Zu 0x78484<;>intro
 ·apply Y 0x771f;intro hb;apply Y 0x642fc86849;refine sp (CQ rfl rfl oe) ?_;refine sp (mV rfl rfl rfl rfl) ?_;apply Y 0x7a;intro A20;refine L.append (j:=0) rfl rfl rfl rfl ob rfl rfl rfl rfl (Src.o 1 rfl) rfl (by intro v hv;simp at hv;subst hv;rfl) oe oM rfl (fun A21 cc21=>?_);apply Y 0x90ec0e8a73e90e;refine QE.round (i:=(k,O,oc)) ((k+1,A21,cc21)) ou ou (by exact lk [] [0] ⟨rfl,rfl,QF,trivial⟩ (hh:=⟨(by dsimp only;rw [aC _ 0 k oa1,hb,← cy];rfl),trivial⟩))
 apply Y 0x7c69;obtain rfl:k=w:=oe;rw [List.take_of_length_le oa1];exact Zm 0xc60f20e
theorem vw (s:List Int):
    Ctr X 55 [.agg (List.toArray (st9 s))] [] [] (fun v R' H'=>v=.bool (aN s)∧R'=[]∧H'=[]):=by
 refine co Tryz.func55 ?_;intro β;apply Y 0x2a;intro A1;apply Y 0x15e28;refine C.join (fun q:Option Addr×Option Addr=>[(1,ag A1 0),(3,ag q.1 0),(4,ag q.2 0)]) (fun q:Option Addr×Option Addr=>[Rd A1 (st9 s)]) (fun q:Option Addr×Option Addr=>[Own 189 5 q.1 1 1 (smV s),Own 104 3 q.2 1 1 (lgV s)]) (fun q:Option Addr×Option Addr=>True) ?_ ?_
 ·apply Y 0x230f420f;refine mq 1 rfl (ldR 0) ?_;apply Y 0x530f;refine mq 3 rfl (ldR 0) ?_;refine mq 4 rfl (faR 0) ?_;refine mq 5 rfl (ldR 0) ?_;refine mq 6 rfl (faR 0) ?_;refine mq 7 rfl (ldR 0) ?_;refine mq 8 rfl (faR 0) ?_;refine mq 9 rfl (ldR 0) ?_;refine mq 10 rfl (gM rfl rfl rfl rfl rfl rfl rfl) ?_;refine mq 11 rfl (faR 0) ?_;refine mq 12 rfl (ldR 0) ?_;refine mq 13 rfl (faR 0) ?_;refine mq 14 rfl (ldR 0) ?_;refine mq 15 rfl (faR 0) ?_;refine mq 16 rfl (ldR 0) ?_;refine mq 17 rfl (gM rfl rfl rfl rfl rfl rfl rfl) ?_;refine LM.alt [18,19] oa ob hcx ⟨⟨_,rfl,?_⟩,⟨_,rfl,?_⟩,trivial⟩
  ·apply Y 0x88;intro A3;apply Y 0x6;refine mfo 19 ?_;apply Y 0x88;intro A4;apply Y 0x6;refine mfo 20 ?_;apply Y 0xc959;refine LM.f 21 rfl oa trivial ?_;apply Y 0x70eeb
   exact aZ ((A3,A4)) trivial (lk [0] [0,1])
  apply Y 0x88;intro A4;apply Y 0x6;refine mfo 18 ?_;apply Y 0x88;intro A3;apply Y 0x6;refine mfo 20 ?_;apply Y 0xc9eb;refine LM.f 21 rfl oa trivial ?_;apply Y 0x70e59
  exact aZ ((A3,A4)) trivial (lk [0] [1,0])
 rintro ⟨A3,A4⟩ _
 dsimp only;apply Y 0x19241b;refine lp [1,3,4] [_,_,_] (fun k:Nat=>[(5,.int .i64 (k:Int))]) (kz [_]) (kz [_,_]) (fun k=>k≤5∧small s k) (fun k=>5-k) 0 ⟨by decide,fun j hj=>by omega⟩ (lk [0] [0,1]) ?_;apply Y 0xf0e;intro k hk hs;apply Zu 0x78484<;>intro
 ·apply Y 0x262f4849;refine sp (Ev.load rfl rfl rfl (Src.o 0 rfl) (G3 s oe)) ?_;apply Zu 0xe912947e<;>intro hc33
  ·have q:¬(0≤s.getD (smI.getD k 0) 0∧s.getD (smI.getD k 0) 0≤255):=by simp [-List.getD_eq_getElem?_getD] at hc33;omega
   apply Y 0xfc4babf9
   symm;rw [← Bool.not_eq_true,kD]
   exact fun h=>q (h.1 k oe)
  have q:0≤s.getD (smI.getD k 0) 0∧s.getD (smI.getD k 0) 0≤255:=by simp [-List.getD_eq_getElem?_getD] at hc33;omega
  apply Y 0x3ad9;refine QE.round (k+1) (by exact ⟨by omega,xA hs q⟩) oe (lk [0] [0,1])
 apply Y 0x192469;refine lp [1,4] [_,_] (fun k:Nat=>[(6,.int .i64 (k:Int))]) (kz [_]) (kz [_]) (fun k=>k≤3∧Ez s k) (fun k=>3-k) 0 ⟨by decide,fun j hj=>by omega⟩ (lk [0] [1]) ?_;obtain rfl:k=5:=oe;apply Y 0xf0e;intro k hk3 hl;apply Zu 0x78484<;>intro
 ·apply Y 0x262f4849;refine sp (Ev.load rfl rfl rfl (Src.o 0 rfl) (H6 s oe)) ?_;apply Zu 0xe912947e<;>intro hc42
  ·have q:¬(0≤s.getD (lgI.getD k 0) 0∧s.getD (lgI.getD k 0) 0≤65535):=by simp [-List.getD_eq_getElem?_getD] at hc42;omega
   apply Y 0xfc4babf9
   symm;rw [← Bool.not_eq_true,kD]
   exact fun h=>q (h.2.1 k oe)
  have q:0≤s.getD (lgI.getD k 0) 0∧s.getD (lgI.getD k 0) 0≤65535:=by simp [-List.getD_eq_getElem?_getD] at hc42;omega
  apply Y 0x3ad9;refine QE.round (k+1) (by exact ⟨by omega,xO hl q⟩) oe (lk [0] [0])
 apply Y 0x5a2947ed8269;obtain rfl:k=3:=oe;apply Y 0xfc39;rw [Bool.eq_iff_iff,kD,Bool.and_eq_true,decide_eq_true_eq,decide_eq_true_eq];exact ⟨fun h=>⟨hs,hl,h⟩,fun h=>h.2.2⟩
theorem G5 (s:List Int):
    Ctr X 100 [.agg (List.toArray (st9 s))] [] [] (fun v R' H'=>∃ (O:Option Addr) (oc:Nat),v=.slice O (ak s).length oc∧R'=[]∧H'=[Own 5 1 O (ak s).length oc (U8 (ak s))]):=by
 refine co Tryz.func100 ?_;intro β;apply Y 0x2a;intro A1;apply Y 0xe2efb428;refine an (vw s) ?_;apply Zu 0xe9129<;>intro hc6
 ·have hno:aN s=false:=by simpa using hc6
  apply Y 0x7a2;intro A7;apply Y 0x20e4a;exact ⟨A7,0,by rw [gV hno];rfl,rfl,by rw [gV hno];rfl⟩
 have hyes:aN s=true:=by simpa using hc6
 have hr:=fun k (hk:k<9)=>bI hyes hk
 apply Y 0xaa;refine C.join (fun q:Option Addr×Nat=>[(1,ag A1 0),(3,.slice q.1 3 q.2)]) (fun q:Option Addr×Nat=>[Rd A1 (st9 s)]) (fun q:Option Addr×Nat=>[Own 5 1 q.1 3 q.2 (U8 ([UInt8.ofInt (s.getD 0 0)]++cz (s.getD 1 0).toNat 2))]) (fun q:Option Addr×Nat=>True) ?_ ?_
 ·apply Y 0x230f420f;refine mq 1 rfl (ldR 0) ?_;refine mq 2 rfl (lV rfl rfl rfl rfl) ?_;refine mq 4 rfl (faR 0) ?_;refine mq 5 rfl (Ev.cast (u:=.int .i64 (((s.getD 1 0).toNat:Nat):Int)) (ldR 0) (congrArg (Value.int .i64) (Int.toNat_of_nonneg (hr 1 ob).1).symm)) ?_;refine LM.alt [3,6] oa ob hcx ⟨⟨_,rfl,?_⟩,⟨_,rfl,?_⟩,trivial⟩
  ·apply Y 0x7a;intro A11;apply Y 0x6;refine mfo 6 ?_;refine an (ek (s.getD 1 0).toNat 2 ob) ?_;apply Y 0x89;intro N nc;apply Y 0x7f0fa7ec9;intro A15 cc15;exact Zm 0x112f9c19e6
  refine an (ek (s.getD 1 0).toNat 2 ob) ?_;apply Y 0x89;intro N nc;apply Y 0x6;refine mfo 3 ?_;apply Y 0x7a;intro A11;apply Y 0x7f0fa7ec9;intro A15 cc15;exact Zm 0x112f9c19e6
 rintro ⟨A15,cc15⟩ _
 dsimp only;apply Y 0x7a7ded8481b;intro A20;refine L.append (j:=0) rfl rfl rfl rfl ob rfl rfl rfl rfl (Src.o 1 rfl) rfl (by intro v hv;simp at hv;subst hv;rfl) oe oM rfl (fun A21 cc21=>?_);apply Y 0xdc481;refine sp (Ev.cast (u:=.int .i64 (((s.getD 3 0).toNat:Nat):Int)) (ldR 0) (congrArg (Value.int .i64) (Int.toNat_of_nonneg (hr 3 ob).1).symm)) ?_;refine an (ek (s.getD 3 0).toNat 4 ob) ?_;apply Y 0x89;intro N nc;apply Y 0x7f0f;intro A26 cc26;apply Y 0x7a7ded87ded87ded8481;intro A37;refine L.append (j:=1) rfl rfl rfl rfl ob rfl rfl rfl rfl (Src.o 3 rfl) rfl (by intro v hv;simp at hv;rcases hv with rfl|rfl|rfl<;>rfl) oe oM rfl (fun A38 cc38=>?_);apply Y 0xdc481;refine sp (Ev.cast (u:=.int .i64 (((s.getD 7 0).toNat:Nat):Int)) (ldR 0) (congrArg (Value.int .i64) (Int.toNat_of_nonneg (hr 7 ob).1).symm)) ?_;refine an (ek (s.getD 7 0).toNat 2 ob) ?_;apply Y 0x89;intro N nc;refine L.append (j:=2) rfl rfl rfl rfl ob rfl rfl rfl rfl (Src.o 0 rfl) QU (b4 _) oe oM rfl (fun A43 cc43=>?_);apply Y 0xdc481;refine sp (Ev.cast (u:=.int .i64 (((s.getD 8 0).toNat:Nat):Int)) (ldR 0) (congrArg (Value.int .i64) (Int.toNat_of_nonneg (hr 8 ob).1).symm)) ?_;refine an (ek (s.getD 8 0).toNat 2 ob) ?_;apply Y 0x89;intro N nc;refine L.append (j:=3) rfl rfl rfl rfl ob rfl rfl rfl rfl (Src.o 0 rfl) QU (b4 _) oe oM rfl (fun A48 cc48=>?_);apply Y 0x481;refine L.call (js:=[]) (js':=[0,1,2,3,4,5]) (Ce A48 cc48 (pZ s) (by rw [show (pZ s).length=15 from rfl];decide)) rfl rfl rfl ob ⟨(((Has.o 3 rfl)).cast (by simp [pZ,U8])),trivial⟩ rfl ?_;apply Y 0x89;intro O oc;apply Y 0x20e5a;exact ⟨O,oc,by rw [dG hyes,← pY hyes];rfl,rfl,by rw [dG hyes,← pY hyes];rfl⟩
theorem It (f:Fl)(a:Fa)(ok:f.Ok)(_hh:a.hs.length=f.data.length)(y:Ly):
    Ctr X 54 [flV f a,.agg (List.toArray [.int .i64 y.n,.int .i64 y.a,.int .i64 y.b,.int .i64 y.s0,.int .i64 y.s1,.slice y.T y.tn y.tc,.slice y.U y.un y.uc,.slice y.V y.vn y.vc])] (flR f a) [] (fun v R' H'=>v=.bool (cN f y.a y.b)∧R'=[]∧H'=[]):=by
 obtain ⟨os1,os2,on1,on2,owl,odl,orows,ol1,ol2,owear⟩:=ok;refine co Tryz.func54 ?_;intro β;apply Y 0x2a;intro A2;apply Y 0xdd;intro A3;apply Y 0x32947e3a3eb31fdc21c0e36bfb8d28;refine L.bool 15 rfl ?_ ?_<;>intro hg15
 ·have q15:0≤y.a∧y.a≤(f.data.length:Int)-1:=by simp at hg15;omega
  apply Y 0x52947eb8a3e7c31fb8e7;refine L.bool 22 rfl ?_ ?_<;>intro hg22
  ·have q22:0≤y.b∧y.b≤(f.data.length:Int)-1:=by simp at hg22;omega
   apply Y 0xc87a3e7c31fb8e7a3e7b31fb8e7;refine L.bool 31 rfl (imp tf ?_) (imp tg ?_)<;>intro
   ·apply Y 0xfc395a5712e7d0e7
    unfold cN
    symm;rw [decide_eq_decide]
    omega
   apply Y 0xfc39bb2b
   unfold cN
   symm;exact Zm 0x5be
  have q22:¬(0≤y.b∧y.b≤(f.data.length:Int)-1):=by simp at hg22;omega
  apply Y 0xfc39bb2b52ba8
  unfold cN
  symm;exact Zm 0x5be
 have q15:¬(0≤y.a∧y.a≤(f.data.length:Int)-1):=by simp at hg15;omega
 apply Y 0xfc39bb2b52b9dfa
 unfold cN
 symm;exact Zm 0x5be
theorem tQ (f:Fl)(a:Fa)(ok:f.Ok)(hh:a.hs.length=f.data.length)(y:Ly)(hcap:Caps f a):
    Ctr X 25 [flV f a,.agg (List.toArray [.int .i64 y.n,.int .i64 y.a,.int .i64 y.b,.int .i64 y.s0,.int .i64 y.s1,.slice y.T y.tn y.tc,.slice y.U y.un y.uc,.slice y.V y.vn y.vc])] (flR f a) [] (fun v R' H'=>v=.tuple #[.agg (List.toArray (st9 (a6 f y.a y.b).1)),.int .i64 ((a6 f y.a y.b).2.1:Int),.int .i64 (a6 f y.a y.b).2.2]∧R'=[]∧H'=[]):=by
 apply Y 0xc2e;intro hok;obtain ⟨os1,os2,on1,on2,owl,odl,orows,ol1,ol2,owear⟩:=ok;refine co Tryz.func25 ?_;intro β;apply Y 0x2a;intro A2;apply Y 0xdd;intro A3;apply Y 0x88;intro A4;apply Y 0xe2e16e688dc3e283;refine an (BL f a hok hh y hcap) ?_;apply Y 0x88c829;intro A7;apply Zu 0xe92d28eb<;>intro hc16
 ·have hno:(aY f y.a y.b).found=false:=obh;apply Y 0xe3e832f4a3598c;rw [D6 hno]
  rfl
 have hyes:(aY f y.a y.b).found=true:=obh;apply Y 0x5f0faa;refine mq 0 rfl (faR 6) ?_;refine mq 1 rfl (ab rfl rfl rfl (Src.r 6 rfl) rfl rfl ob) ?_;refine mq 2 rfl (faR 6) ?_;refine mq 3 rfl (ldR 6) ?_;apply Y 0xe3e832f23e1b9cf8e63380fc95978e;rw [rH hyes,← c7 hyes]
 rfl
end Go.Proofs.YtbpddeiogcgegaaGreat
namespace Go.Sl
section
variable {f:Fl}{x:Fo}{mk:Nat→UInt8}
def Phase (k:Nat)(f:Fl)(w:List UInt8):Prop:=
  k=0∨(k=1∧(f.data.getD 0 []=w∨(f.dead.getD 0 false=false∧∀ i,i<f.size→(f.data.getD 0 []).getD i 0=255)))∨(k=2∧f.data.getD 0 []=w)
end
end Go.Sl
