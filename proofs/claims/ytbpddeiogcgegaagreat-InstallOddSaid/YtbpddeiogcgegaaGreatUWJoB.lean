/-
  Part of a proof.
-/
import Derived.Test.YtbpddeiogcgegaaGreatUWFlF
set_option maxHeartbeats 0
set_option maxRecDepth 4000
set_option linter.all false
namespace Go.Proofs.YtbpddeiogcgegaaGreat
open Go.Sl
def pwJ:Value:=.iface 303 (.agg #[])
theorem wg (D A:Option Addr)(l:List UInt8)(c w:Nat)(hc:l.length≤c)(hl:2*w≤l.length)(hw:w≤4):
    dr X 173 [ag D 0,.int .i64 (w:Int)] [Rd A (U8 l)] [Own 305 1 D 1 1 [.slice A l.length c]] (bX [{ v:=pwJ,recovered:=false }] (fun v R' H'=>aM l w=true∧∃ (A':Option Addr) (c':Nat),(l.drop (2*(w))).length≤c'∧v=.int .i64 (gR (bY l w):Int)∧R'=[Rd A' (U8 (l.drop (2*(w))))]∧H'=[Own 305 1 D 1 1 [.slice A' (l.drop (2*(w))).length c']]) (fun R' H'=>aM l w=false∧∃ u:Value,R'=[]∧H'=[Own 305 1 D 1 1 [u]])):=by
 refine dr.of (X:=X) (fn:=Tryz.f173) Tryz.func173 rfl oa rfl ?_;intro β;apply Y 0xaa38581a1a;refine lp [] [] (fun q:Nat×Option Addr×Nat=>[(0,ag D 0),(5,.int .i64 (gR (bY l q.1):Int)),(6,.int .i64 (w:Int)),(7,.int .i64 (q.1:Int))]) (fun q=>[Rd q.2.1 (U8 (l.drop (2*(q.1))))]) (fun q=>[Own 305 1 D 1 1 [.slice q.2.1 (l.drop (2*(q.1))).length q.2.2]]) (fun q=>q.1≤w∧aM l q.1=true∧(l.drop (2*(q.1))).length≤q.2.2) (fun q=>w-q.1) (0,A,c) ⟨Nat.zero_le _,rfl,hc⟩ (lk [0] [0]) ?_;apply Y 0x3a2f;intro k A c hkw hk hcc
 dsimp only at hkw hk hcc ⊢;apply Zu 0x7930e<;>intro
 ·have hv:=kZ (bY l k);rw [bO] at hv;have hp:(256^k:Nat)≤16777216:=Nat.le_trans (Nat.pow_le_pow_right ob (show k≤3 by omega)) ob;apply Y 0xb8e44ec8e6dad5599;refine sq (ae (k:=0) rfl rfl rfl rfl rfl rfl rfl oo (Src.r 0 rfl) Qb) ?_;apply Y 0xb8e44ec8e6dda3f;refine sq (ae (k:=1) rfl rfl rfl rfl rfl rfl rfl oo (Src.r 0 rfl) Qb) ?_;apply Y 0xda3f;refine sq (Aj rfl) ?_;apply Zu 0xdd40e<;>intro hc22
  ·have hno:aM l w=false:=n8 (k:=k) oe (by
    unfold cZ;rw [beq_eq_false_iff_ne];intro h;refine hc22 (dJ.2 ?_);rw [cy,cy]
    exact h)
   apply Y 0x13ed80f13e620f7ba78;refine r7 (js:=[]) (hs:=[0]) ob ⟨rfl,?_⟩;exact ⟨hno,_,rfl,rfl⟩
  have hk1:aM l (k+1)=true:=by
   rw [cJ,hk,Bool.true_and]
   unfold cZ;have h:=dJ.1 hc22;rw [cy,cy] at h;rw [beq_iff_eq];exact Zm 0xc2e
  have hv1:gR (bY l (k+1))=gR (bY l k)*256+(l.getD (2*k) 0).toNat:=by rw [kN,mQ,Nat.mul_comm]
  apply Y 0xb959;refine sp (Ae (k:=8) rfl oP ob oe) ?_;apply Y 0x94ee95d7;refine sp (ae (k:=0) rfl rfl rfl rfl rfl rfl rfl oo (Src.r 0 rfl) Qb) ?_;apply Y 0x1be483f;refine sp (Dx rfl rfl oe (UInt8.toNat_lt _)) ?_;apply Y 0x94ee95dac1;refine sp (bt (l:=2) rfl rfl rfl rfl rfl rfl oo) ?_;apply Y 0x20efb60e49ee95d;refine QE.more (r:=Rd (bh A c 2 1) (U8 (l.drop (2*(k+1))))) (((aQ (Has.r 0 rfl) c 2 hcc).cast (by rw [List.drop_drop,Nat.mul_add]))) ?_;refine QE.round (i:=(k,A,c)) ((k+1,bh A c 2 1,c-2)) (by exact ⟨by dsimp only;omega,hk1,by dsimp only;rw [List.length_drop] at hcc ⊢;omega⟩) ot (by exact lk [0] [0] ⟨rfl,(by exact congrArg some (congrArg (Value.int .i64) (by dsimp only;rw [hv1,cy];rfl))),rfl,rfl,trivial⟩ (hh:=⟨(by exact congrArg some (ay rfl (by dsimp only;rw [show (l.drop (2*(k+1))).length=(l.drop (2*k)).length-2 from by rw [List.length_drop,List.length_drop];omega];rfl))),trivial⟩))
 apply Y 0xe8c8a9;obtain rfl:k=w:=oe;apply Y 0xc81f;exact ⟨hk,A,c,hcc,rfl,rfl,rfl⟩
theorem IW (D N A:Option Addr)(l:List UInt8)(c:Nat)(n0:Int)(hc:l.length≤c)(hl:8≤l.length):
    dr X 172 [ag D 0,ag N 0] [Rd A (U8 l)] [Own 305 1 D 1 1 [.slice A l.length c],Own 3 1 N 1 1 [.int .i64 n0]] (bX [{ v:=pwJ,recovered:=false }] (fun v R' H'=>∃ (u:Value) (p:Pr),(aM l 4=true∧p=Own 3 1 N 1 1 [.int .i64 (gR (bY l 4):Int)])∧v=.tuple #[]∧R'=[]∧H'=[Own 305 1 D 1 1 [u],p]) (fun R' H'=>∃ (u:Value) (p:Pr),(aM l 4=false∧p=Own 3 1 N 1 1 [.int .i64 n0])∧R'=[]∧H'=[Own 305 1 D 1 1 [u],p])):=by
 refine dr.of (X:=X) (fn:=Tryz.f172) Tryz.func172 rfl oa rfl ?_;intro β;apply Y 0xab;refine ba (js:=[0]) (js':=[1]) (wg D A l c 4 hc oe ob) rfl rfl rfl ob hcx rfl ?_ ?_
 rotate_left;apply Y 0xc0e;intro hk u;apply Y 0x703f;exact ⟨u,_,⟨hk,rfl⟩,rfl,rfl⟩;apply Y 0x50e;intro hk A' c' hcc;exact Zm 0x3b2fa03f16e60e9be
theorem rS (β:Base)(D:Option Addr)(Q:Exit→Act→World→Prop)(h:QE β 15 [] Q .normal [] [] [Own 4 1 D 1 1 [.bool false]]):
    C X β 15 [] Q (match Tryz.f218.body with|some (.seq _ b)=>b|_=>.skip) [(1,pwJ),(4,pwJ),(0,ag D 0)] [] [Own 4 1 D 1 1 [.bool false]]:=by
 apply Y 0x988c1fb9;refine C.cond rfl (fun _=>?_) (fun h=>by cases h);apply Y 0x758;refine sp (EB rfl rfl rfl) ?_;apply Y 0xb8;refine L.alloc (cs:=[]) rfl rfl rfl (fun A2=>?_);refine Dn (j:=1) (m:=0) rfl rfl rfl rfl rfl ?_;apply Y 0xc81;refine C.cond rfl (fun h=>by cases h) (fun _=>?_);apply Y 0x60e49e7859
 exact QE.le (Γ':=[]) (R':=[]) (H':=[Own 4 1 D 1 1 [.bool false]]) (aB (rs:=[]) (hs:=[0]) trivial trivial rt ob) h
theorem frJ (v p:Value):Fr 15 [] { tmps:=#[p]++((Array.replicate 14 undef).setIfInBounds 3 v).setIfInBounds 0 v,defers:=[] } [(1,v),(4,v),(0,p)]:=
  KZ oa oa oa oa
theorem MC (w:World):Sat ⟨w,fun _=>False,fun _=>False⟩ w [] []:=⟨⟨rfl,rfl,rfl,Nat.le_refl _,fun _ _ _=>rfl⟩,by simp,by simp,by simp,by simp,by simp,by simp⟩
theorem yQ (β:Base)(p:Value)(Q:Exit→Act→World→Prop)(h:∀ Γ,QE β 15 [] Q .normal Γ [] []):
    C X β 15 [] Q (match Tryz.f218.body with|some (.seq _ b)=>b|_=>.skip) [(1,.nilIface),(4,.nilIface),(0,p)] [] []:=by
 apply Y 0x989c1fb9;refine C.cond rfl (fun h=>by cases h) (fun _=>?_);apply Y 0x7a
 exact h _
theorem B5 {D:Option Addr}{w w':World}(h:(Own 4 1 D 1 1 [.bool false]).p w)(h':(Own 4 1 D 1 1 [.bool false]).p w')(k:Nat)(hk:(Own 4 1 D 1 1 [.bool false]).fp k):w'.heap[k]?=w.heap[k]?:=by
 obtain ⟨g,cur,hA,hg,_,_,hs,ht⟩:=cC h ob;obtain ⟨g',cur',hA',hg',_,_,hs',ht'⟩:=cC h' ob;apply Y 0x341f;intro a ha hak;rw [hA] at hA' ha
 injection hA' with hA'
 injection hA' with hA'
 injection ha with ha
 subst ha hA';have e:∀ c:Array Value,c.size=1*1→c.toList.take (1*1)=[.bool false]→c=#[.bool false]:=by
  intro c h1 h2;rw [List.take_of_length_le (by simpa using Nat.le_of_eq h1)] at h2
  apply Array.ext'
  exact h2
 rw [← hak]
 show w'.heap[g]?=w.heap[g]?;rw [hg,hg',e cur hs ht,e cur' hs' ht']
theorem Rp (w:World)(D:Option Addr)(h:(Own 4 1 D 1 1 [.bool false]).p w):Sat ⟨w,fun k=>(Own 4 1 D 1 1 [.bool false]).fp k,fun _=>False⟩ w [] [Own 4 1 D 1 1 [.bool false]]:=by
 have hlt:∀ k,(Own 4 1 D 1 1 [.bool false]).fp k→k<w.heap.size:=by
  apply Y 0xd92f;intro k a ha hk;obtain ⟨g,cur,hA,hg,_⟩:=cC h ob;rw [hA] at ha
  injection ha with ha
  subst ha;have:=(Array.getElem?_eq_some_iff.1 hg).1
  exact hk▸this
 refine ⟨⟨rfl,rfl,rfl,Nat.le_refl _,fun _ _ _=>rfl⟩,by simp,by simp,fun i c hc=>?_,fun i c hc k hk=>?_,fun i j c d hc hd hne k _ _=>?_,by simp⟩
 ·match i,hc with
  |0,hc=>injection hc with hc;subst hc;exact h
  |i+1,hc=>cases hc
 ·match i,hc with
  |0,hc=>injection hc with hc;subst hc;exact ⟨hlt k hk,.inr hk⟩
  |i+1,hc=>cases hc
 match i,j,hc,hd with
 |0,0,_,_=>exact hne rfl
 |0,j+1,_,hd=>cases hd
 |i+1,_,hc,_=>cases hc
theorem xD:RecC X.P 218 4 pwJ:=by
 refine ⟨fun p w=>?_,fun p w=>?_,fun D w hD=>?_⟩
 ·have hf:X.P.funcs[218]?=some Tryz.f218:=Tryz.func218;have hb:Tryz.f218.body.isNone=false:=rfl;have hname:(Tryz.f218.name== "runtime.NumGoroutine")=false:=rfl
  simp only [beq_eq_false_iff_ne] at hname;apply Y 0x4e1f;intro h;rw [h] at hb
  cases hb
 ·refine callsD_of_wpS (P:=X.P) Tryz.func218 rfl fun c₀ cs hu=>?_
  apply wpS_seq
  apply wpS_region;apply Y 0xe30f;refine wpS_of_wp (yQ _ p _ (fun Γ a' w' hf' hs'=>?_) _ w (frJ .nilIface p) (MC w));apply Y 0x390f;intro hst;apply Y 0xa10f;intro hd
  cases c₀
  simp only at hu;subst hu;exact Zm 0xf30f
 refine callsD_of_wpS (P:=X.P) Tryz.func218 rfl fun c₀ cs hu=>?_
 apply wpS_seq
 apply wpS_region;apply Y 0xe30f;refine wpS_of_wp (rS _ D _ (fun a' w' hf' hs'=>?_) _ w (frJ pwJ (ag D 0)) (Rp w D hD));have hown:=hs'.own 0 _ rfl;have hst:Stp w w' (fun _=>False):=by
  refine ⟨hs'.ext.os,hs'.ext.tape,hs'.ext.output,hs'.ext.size,fun k hk _=>?_⟩
  by_cases h:(Own 4 1 D 1 1 [.bool false]).fp k
  ·exact B5 hD hown k h
  exact hs'.ext.block k hk h
 apply Y 0xa10f;intro hd
 cases c₀
 simp only at hu;subst hu;exact Zm 0xf30f
theorem ud (fid:Nat)(cap:Array Value)(A:Option Addr)(l:List UInt8)(c:Nat)(pc:Pr)(Φ Ψ:Pr→Prop)(hw:∀ D,dr X fid ([ag D 0]++cap.toList) [Rd A (U8 l)] [Own 305 1 D 1 1 [.slice A l.length c],pc] (bX [{ v:=pwJ,recovered:=false }] (fun v R' H'=>∃ (u:Value) (p:Pr),Φ p∧v=.tuple #[]∧R'=[]∧H'=[Own 305 1 D 1 1 [u],p]) (fun R' H'=>∃ (u:Value) (p:Pr),Ψ p∧R'=[]∧H'=[Own 305 1 D 1 1 [u],p]))):
    Ctr X 171 [.slice A l.length c,.func (.func fid) #[] cap] [Rd A (U8 l)] [pc] (fun v R' H'=>∃ p,R'=[]∧H'=[p]∧((Φ p∧v=.bool true)∨(Ψ p∧v=.bool false))):=by
 refine sf (X:=X) (fn:=Tryz.f171) Tryz.func171 rfl oa rfl ?_;intro β;apply Y 0xa848;intro A4;apply Y 0xb998;refine Dq rfl ?_;apply Y 0x7bba1c98;intro A9;refine Dr (js:=[2,0]) (js':=[1]) (hw A9) rfl rfl rfl rfl rfl ob hcx rfl ?_ ?_
 ·apply Y 0x23e;intro u p hp;apply Y 0xe89848e4898;refine GJ (js:=[]) (hs:=[1]) (vs:=[_]) xD rfl ⟨⟨_,_,0,_,rfl,rfl,Src.o 2 rfl,.inr ⟨rfl,rfl⟩⟩,trivial⟩ ob ?_;exact ⟨p,rfl,rfl,.inl ⟨hp,rfl⟩⟩
 rintro _ _ ⟨u,p,hp,rfl,rfl⟩;apply Y 0x13e;refine GL (js:=[]) (hs:=[1]) (vs:=[_]) 2 rfl xD rfl ⟨⟨_,_,0,_,rfl,rfl,Src.o 2 rfl,.inr ⟨rfl,rfl⟩⟩,trivial⟩ ob ?_;exact ⟨p,rfl,rfl,.inr ⟨hp,rfl⟩⟩
theorem Mz (D S A:Option Addr)(l:List UInt8)(c:Nat)(hc:l.length≤c)(hl:30≤l.length):
    dr X 175 [ag D 0,ag S 0] [Rd A (U8 l)] [Own 305 1 D 1 1 [.slice A l.length c],Own 73 9 S 1 1 (I64 (List.replicate 9 0))] (bX [{ v:=pwJ,recovered:=false }] (fun v R' H'=>∃ (u:Value) (p:Pr),(aM l 15=true∧p=Own 73 9 S 1 1 (I64 (pK (bY l 15))))∧v=.tuple #[]∧R'=[]∧H'=[Own 305 1 D 1 1 [u],p]) (fun R' H'=>∃ (u:Value) (p:Pr),(aM l 15=false∧∃ xs:List Int,xs.length=9∧p=Own 73 9 S 1 1 (I64 xs))∧R'=[]∧H'=[Own 305 1 D 1 1 [u],p])):=by
 refine dr.of (X:=X) (fn:=Tryz.f175) Tryz.func175 rfl oa rfl ?_;intro β;apply Y 0x48;refine al (ub S (List.replicate 9 0) rfl) ?_;apply Y 0x41e;intro A5;apply Y 0xaa38;refine lp [0,1,5,6] [_,_,_,_] (fun q:Nat×Option Addr×Nat=>[(7,.int .i64 (q.1:Int))]) (fun q=>[Rd q.2.1 (U8 (l.drop (2*rq (q.1))))]) (fun q=>[Own 305 1 D 1 1 [.slice q.2.1 (l.drop (2*rq (q.1))).length q.2.2],Own 73 9 S 1 1 (I64 (ig l (q.1))),Own 266 2 A5 9 9 (gN S)]) (fun q=>q.1≤9∧aM l (rq q.1)=true∧(l.drop (2*rq (q.1))).length≤q.2.2) (fun q=>9-q.1) (0,A,c) ⟨Nat.zero_le _,rfl,hc⟩ (lk [0] [1,2,0]) ?_;apply Y 0x3a2f;intro k A c hkw hk hcc
 dsimp only at hkw hk hcc ⊢;apply Zu 0x7930e<;>intro
 ·apply Y 0x682f;intro hw;have ho:=ya (k:=k) oe;apply Y 0x4899;refine sp (cn (k:=k) (m:=k*2) rfl rfl rfl rfl rfl rfl oe (Src.o 2 rfl) oX rfl) ?_;refine sp (ab (k:=k*2) rfl rfl rfl (Src.o 2 rfl) (kK S oe) rfl ob) ?_;apply Y 0xa8;intro A4;apply Y 0x9856e;refine C.join (fun q:Option Addr×Nat=>[(0,ag D 0),(1,ag S 0),(5,.slice A5 9 9),(6,.int .i64 9),(7,.int .i64 (k:Int))]) (fun q:Option Addr×Nat=>[Rd q.1 (U8 ((l.drop (2*rq (k))).drop (2*(wds.getD k 0))))]) (fun q:Option Addr×Nat=>[Own 305 1 D 1 1 [.slice q.1 ((l.drop (2*rq (k))).drop (2*(wds.getD k 0))).length q.2],Own 73 9 S 1 1 (I64 (ig l (k+1))),Own 266 2 A5 9 9 (gN S)]) (fun q:Option Addr×Nat=>aM (l.drop (2*rq (k))) (wds.getD k 0)=true∧((l.drop (2*rq (k))).drop (2*(wds.getD k 0))).length≤q.2) ?_ ?_
  ·refine pG ?_;refine LA.alt [0,2,3] oa ob ⟨⟨_,rfl,?_⟩,⟨_,rfl,?_⟩,⟨_,rfl,?_⟩,trivial⟩
   ·apply Y 0x6814e;refine LA.alt [1,2,3] oa ob ⟨⟨_,rfl,?_⟩,⟨_,rfl,?_⟩,⟨_,rfl,?_⟩,trivial⟩
    ·apply Y 0x3c;refine LA.alt [2,3] oa ob ⟨⟨_,rfl,?_⟩,⟨_,rfl,?_⟩,trivial⟩
     ·apply Zu 0xf0e72e3c59e6814eb4e5a
      rotate_left;apply Y 0xc0e;intro hk1 u;exact Zm 0xd0e;apply Y 0x50e;intro hk1 A' c' hcc';exact Zm 0xe0e68
     apply Zu 0x5d0f6814e
     ·apply Zu 0xf0e72e3c59e5a
      rotate_left;apply Y 0xc0e;intro hk1 u;exact Zm 0xd0e;apply Y 0x50e;intro hk1 A' c' hcc';exact Zm 0xe0e68
     apply Zu 0xf0e72e5ad6e3c
     rotate_left;apply Y 0xc0e;intro hk1 u;exact Zm 0xd0e;apply Y 0x50e;intro hk1 A' c' hcc';exact Zm 0xe0e68
    ·apply Zu 0x4f2f5a
     ·apply Zu 0xf0e72e3c59e6814eb4e3c
      rotate_left;apply Y 0xc0e;intro hk1 u;exact Zm 0xd0e;apply Y 0x50e;intro hk1 A' c' hcc';exact Zm 0xe0e68
     apply Zu 0x700f6814e
     ·apply Zu 0xf0e72e3c59e3c
      rotate_left;apply Y 0xc0e;intro hk1 u;exact Zm 0xd0e;apply Y 0x50e;intro hk1 A' c' hcc';exact Zm 0xe0e68
     apply Zu 0x58e3c
     ·apply Zu 0xf0e72e3c
      rotate_left;apply Y 0xc0e;intro hk1 u;exact Zm 0xd0e;apply Y 0x50e;intro hk1 A' c' hcc';exact Zm 0xe0e68
     apply Zu 0xf0e
     rotate_left;apply Y 0xc0e;intro hk1 u;exact Zm 0xd0e;apply Y 0x50e;intro hk1 A' c' hcc';exact Zm 0xe0e3ca5e68
    apply Y 0x6814e;refine LA.alt [1,2,4] oa ob ⟨⟨_,rfl,?_⟩,⟨_,rfl,?_⟩,⟨_,rfl,?_⟩,trivial⟩
    ·apply Zu 0x5d0f3c
     ·apply Zu 0xf0e72e3c59e5a
      rotate_left;apply Y 0xc0e;intro hk1 u;exact Zm 0xd0e;apply Y 0x50e;intro hk1 A' c' hcc';exact Zm 0xe0e68
     apply Zu 0xf0e72e5ad6e3c
     rotate_left;apply Y 0xc0e;intro hk1 u;exact Zm 0xd0e;apply Y 0x50e;intro hk1 A' c' hcc';exact Zm 0xe0e68
    ·apply Zu 0x700f5a
     ·apply Zu 0xf0e72e3c59e3c
      rotate_left;apply Y 0xc0e;intro hk1 u;exact Zm 0xd0e;apply Y 0x50e;intro hk1 A' c' hcc';exact Zm 0xe0e68
     apply Zu 0x58e3c
     ·apply Zu 0xf0e72e3c
      rotate_left;apply Y 0xc0e;intro hk1 u;exact Zm 0xd0e;apply Y 0x50e;intro hk1 A' c' hcc';exact Zm 0xe0e68
     apply Zu 0xf0e
     rotate_left;apply Y 0xc0e;intro hk1 u;exact Zm 0xd0e;apply Y 0x50e;intro hk1 A' c' hcc';exact Zm 0xe0e3ca5e68
    apply Zu 0x871f3c
    ·apply Zu 0xf0e72e5ad6e3c
     rotate_left;apply Y 0xc0e;intro hk1 u;exact Zm 0xd0e;apply Y 0x50e;intro hk1 A' c' hcc';exact Zm 0xe0e68
    apply Zu 0x58e5a
    ·apply Zu 0xf0e72e3c
     rotate_left;apply Y 0xc0e;intro hk1 u;exact Zm 0xd0e;apply Y 0x50e;intro hk1 A' c' hcc';exact Zm 0xe0e68
    apply Zu 0xf0e
    rotate_left;apply Y 0xc0e;intro hk1 u;exact Zm 0xd0e;apply Y 0x50e;intro hk1 A' c' hcc';exact Zm 0xe0e3ca5e68
   ·apply Y 0x5a;refine LA.alt [0,3] oa ob ⟨⟨_,rfl,?_⟩,⟨_,rfl,?_⟩,trivial⟩
    ·apply Zu 0x4f2f6814e
     ·apply Zu 0xf0e72e3c59e6814eb4e3c
      rotate_left;apply Y 0xc0e;intro hk1 u;exact Zm 0xd0e;apply Y 0x50e;intro hk1 A' c' hcc';exact Zm 0xe0e68
     apply Zu 0x700f6814e
     ·apply Zu 0xf0e72e3c59e3c
      rotate_left;apply Y 0xc0e;intro hk1 u;exact Zm 0xd0e;apply Y 0x50e;intro hk1 A' c' hcc';exact Zm 0xe0e68
     apply Zu 0x58e3c
     ·apply Zu 0xf0e72e3c
      rotate_left;apply Y 0xc0e;intro hk1 u;exact Zm 0xd0e;apply Y 0x50e;intro hk1 A' c' hcc';exact Zm 0xe0e68
     apply Zu 0xf0e
     rotate_left;apply Y 0xc0e;intro hk1 u;exact Zm 0xd0e;apply Y 0x50e;intro hk1 A' c' hcc';exact Zm 0xe0e3ca5e68
    apply Zu 0x771f6814e
    ·apply Zu 0x700f6814e
     ·apply Zu 0xf0e72e3c59e3c
      rotate_left;apply Y 0xc0e;intro hk1 u;exact Zm 0xd0e;apply Y 0x50e;intro hk1 A' c' hcc';exact Zm 0xe0e68
     apply Zu 0x58e3c
     ·apply Zu 0xf0e72e3c
      rotate_left;apply Y 0xc0e;intro hk1 u;exact Zm 0xd0e;apply Y 0x50e;intro hk1 A' c' hcc';exact Zm 0xe0e68
     apply Zu 0xf0e
     rotate_left;apply Y 0xc0e;intro hk1 u;exact Zm 0xd0e;apply Y 0x50e;intro hk1 A' c' hcc';exact Zm 0xe0e3ca5e68
    apply Zu 0x3d0f3c
    ·apply Zu 0x58e6814e
     ·apply Zu 0xf0e72e3c
      rotate_left;apply Y 0xc0e;intro hk1 u;exact Zm 0xd0e;apply Y 0x50e;intro hk1 A' c' hcc';exact Zm 0xe0e68
     apply Zu 0xf0e
     rotate_left;apply Y 0xc0e;intro hk1 u;exact Zm 0xd0e;apply Y 0x50e;intro hk1 A' c' hcc';exact Zm 0xe0e3ca5e68
    apply Zu 0xf0e
    rotate_left;apply Y 0xc0e;intro hk1 u;exact Zm 0xd0e;apply Y 0x50e;intro hk1 A' c' hcc';exact Zm 0xe0e3ca5e6814e4d0f68
   apply Y 0x6814e;refine LA.alt [0,2,4] oa ob ⟨⟨_,rfl,?_⟩,⟨_,rfl,?_⟩,⟨_,rfl,?_⟩,trivial⟩
   ·apply Y 0x6814e;refine LA.alt [1,2,4] oa ob ⟨⟨_,rfl,?_⟩,⟨_,rfl,?_⟩,⟨_,rfl,?_⟩,trivial⟩
    ·apply Zu 0x5d0f3c
     ·apply Zu 0xf0e72e3c59e5a
      rotate_left;apply Y 0xc0e;intro hk1 u;exact Zm 0xd0e;apply Y 0x50e;intro hk1 A' c' hcc';exact Zm 0xe0e68
     apply Zu 0xf0e72e5ad6e3c
     rotate_left;apply Y 0xc0e;intro hk1 u;exact Zm 0xd0e;apply Y 0x50e;intro hk1 A' c' hcc';exact Zm 0xe0e68
    ·apply Zu 0x700f5a
     ·apply Zu 0xf0e72e3c59e3c
      rotate_left;apply Y 0xc0e;intro hk1 u;exact Zm 0xd0e;apply Y 0x50e;intro hk1 A' c' hcc';exact Zm 0xe0e68
     apply Zu 0x58e3c
     ·apply Zu 0xf0e72e3c
      rotate_left;apply Y 0xc0e;intro hk1 u;exact Zm 0xd0e;apply Y 0x50e;intro hk1 A' c' hcc';exact Zm 0xe0e68
     apply Zu 0xf0e
     rotate_left;apply Y 0xc0e;intro hk1 u;exact Zm 0xd0e;apply Y 0x50e;intro hk1 A' c' hcc';exact Zm 0xe0e3ca5e68
    apply Zu 0x871f3c
    ·apply Zu 0xf0e72e5ad6e3c
     rotate_left;apply Y 0xc0e;intro hk1 u;exact Zm 0xd0e;apply Y 0x50e;intro hk1 A' c' hcc';exact Zm 0xe0e68
    apply Zu 0x58e5a
    ·apply Zu 0xf0e72e3c
     rotate_left;apply Y 0xc0e;intro hk1 u;exact Zm 0xd0e;apply Y 0x50e;intro hk1 A' c' hcc';exact Zm 0xe0e68
    apply Zu 0xf0e
    rotate_left;apply Y 0xc0e;intro hk1 u;exact Zm 0xd0e;apply Y 0x50e;intro hk1 A' c' hcc';exact Zm 0xe0e3ca5e68
   ·apply Zu 0x771f5a
    ·apply Zu 0x700f6814e
     ·apply Zu 0xf0e72e3c59e3c
      rotate_left;apply Y 0xc0e;intro hk1 u;exact Zm 0xd0e;apply Y 0x50e;intro hk1 A' c' hcc';exact Zm 0xe0e68
     apply Zu 0x58e3c
     ·apply Zu 0xf0e72e3c
      rotate_left;apply Y 0xc0e;intro hk1 u;exact Zm 0xd0e;apply Y 0x50e;intro hk1 A' c' hcc';exact Zm 0xe0e68
     apply Zu 0xf0e
     rotate_left;apply Y 0xc0e;intro hk1 u;exact Zm 0xd0e;apply Y 0x50e;intro hk1 A' c' hcc';exact Zm 0xe0e3ca5e68
    apply Zu 0x3d0f3c
    ·apply Zu 0x58e6814e
     ·apply Zu 0xf0e72e3c
      rotate_left;apply Y 0xc0e;intro hk1 u;exact Zm 0xd0e;apply Y 0x50e;intro hk1 A' c' hcc';exact Zm 0xe0e68
     apply Zu 0xf0e
     rotate_left;apply Y 0xc0e;intro hk1 u;exact Zm 0xd0e;apply Y 0x50e;intro hk1 A' c' hcc';exact Zm 0xe0e3ca5e68
    apply Zu 0xf0e
    rotate_left;apply Y 0xc0e;intro hk1 u;exact Zm 0xd0e;apply Y 0x50e;intro hk1 A' c' hcc';exact Zm 0xe0e3ca5e6814e4d0f68
   apply Y 0x3c;refine LA.alt [0,2] oa ob ⟨⟨_,rfl,?_⟩,⟨_,rfl,?_⟩,trivial⟩
   ·apply Zu 0x871f6814e
    ·apply Zu 0xf0e72e5ad6e3c
     rotate_left;apply Y 0xc0e;intro hk1 u;exact Zm 0xd0e;apply Y 0x50e;intro hk1 A' c' hcc';exact Zm 0xe0e68
    apply Zu 0x58e5a
    ·apply Zu 0xf0e72e3c
     rotate_left;apply Y 0xc0e;intro hk1 u;exact Zm 0xd0e;apply Y 0x50e;intro hk1 A' c' hcc';exact Zm 0xe0e68
    apply Zu 0xf0e
    rotate_left;apply Y 0xc0e;intro hk1 u;exact Zm 0xd0e;apply Y 0x50e;intro hk1 A' c' hcc';exact Zm 0xe0e3ca5e68
   apply Zu 0x3d0f5a
   ·apply Zu 0x58e6814e
    ·apply Zu 0xf0e72e3c
     rotate_left;apply Y 0xc0e;intro hk1 u;exact Zm 0xd0e;apply Y 0x50e;intro hk1 A' c' hcc';exact Zm 0xe0e68
    apply Zu 0xf0e
    rotate_left;apply Y 0xc0e;intro hk1 u;exact Zm 0xd0e;apply Y 0x50e;intro hk1 A' c' hcc';exact Zm 0xe0e3ca5e68
   apply Zu 0xf0e
   rotate_left;apply Y 0xc0e;intro hk1 u;exact Zm 0xd0e;apply Y 0x50e;intro hk1 A' c' hcc';exact Zm 0xe0e3ca5e6814e4d0f68
  apply Y 0xc40f;intro A' c' hk1 hcc'
  dsimp only at hk1 hcc' ⊢;apply Y 0x20efb;refine QE.round (i:=(k,A,c)) ((k+1,A',c')) (by exact ⟨by dsimp only;omega,by dsimp only;rw [jt oe,← jK hk];exact hk1,by dsimp only;rw [jt oe,Nat.mul_add,← List.drop_drop];exact hcc'⟩) ot (by exact lk [0] [0,1,2] (hr:=⟨QK,trivial⟩) (hh:=⟨QK,rfl,rfl,trivial⟩))
 apply Y 0x16ee5e;obtain rfl:k=9:=oe;rw [vo];exact Zm 0x3b2fa03f
theorem Ef (f:Fl)(a:Fa)(ok:f.Ok)(hh:a.hs.length=f.data.length)(s:Int)(hs:0≤s∧s<(f.data.length:Int))(h8:8≤f.size)(hcap:Caps f a):
    Ctr X 107 [flV f a,.int .i64 s] (flR f a) [] (fun v R' H'=>v=.int .i64 (rN (aV f s))∧R'=[]∧H'=[]):=by
 obtain ⟨os1,os2,on1,on2,owl,odl,orows,ol1,ol2,owear⟩:=ok;have hrow:=orows s.toNat oe;have hcp:=hcap s.toNat oe;refine co Tryz.func107 ?_;intro β;apply Y 0x6a;intro A2;apply Y 0xa8db49;intro A5;apply Y 0x7563f2fe673f7f8589849e;refine L.call (js:=[0]) (js':=[]) (ud 172 #[ag A5 0] (a.hs.getD s.toNat (none,0)).1 ((f.data.getD s.toNat []).take 8) (a.hs.getD s.toNat (none,0)).2 (Own 3 1 A5 1 1 [.int .i64 (-1)]) (fun p=>aM ((f.data.getD s.toNat []).take 8) 4=true∧p=Own 3 1 A5 1 1 [.int .i64 (gR (bY ((f.data.getD s.toNat []).take 8) 4):Int)]) (fun p=>aM ((f.data.getD s.toNat []).take 8) 4=false∧p=Own 3 1 A5 1 1 [.int .i64 (-1)]) (fun D=>IW D A5 _ _ _ (-1) oN oN)) rfl rfl rfl ob ⟨(((((Has.kid 2 rfl oC (s.toNat) oZ).cast (a7 _))).take 8).cast (bu _ _)),trivial⟩ rfl ?_;rintro v _ _ ⟨p,rfl,rfl,hp⟩;rw [jJ ob,kM ob] at hp;obtain ⟨n,rfl,rfl,hn⟩:∃ n:Int,p=Own 3 1 A5 1 1 [.int .i64 n]∧v=.bool (aM (f.data.getD s.toNat []) 4)∧(aM (f.data.getD s.toNat []) 4=true→n=(gR (bY (f.data.getD s.toNat []) 4):Int)):=by
  rcases hp with ⟨⟨hk,rfl⟩,rfl⟩|⟨⟨hk,rfl⟩,rfl⟩
  ·exact ⟨_,rfl,by rw [hk],fun _=>rfl⟩
  exact ⟨_,rfl,by rw [hk],fun h=>by rw [hk] at h;cases h⟩
 apply Zu 0x3a1<;>intro hc14
 ·apply Y 0x84e6c
  unfold rN aV;rw [if_neg (by simpa using hc14)];exact Zm 0x2
 apply Y 0x84ed9194e8d;have hk:aM (f.data.getD s.toNat []) 4=true:=by simpa using hc14
 unfold rN aV;rw [if_pos hk,hn hk];exact Zm 0x2
theorem Gp (A B:Option Addr)(c bc:Nat)(l:List UInt8)(x:UInt8):
    Ctr X 174 [.slice A l.length c,.slice B 1 bc] [Rd A (U8 l),Rd B (U8 [x])] [] (fun v R' H'=>v=.int .i64 ((l.count x:Nat):Int)∧R'=[]∧H'=[]):=by
 refine co Tryz.func174 ?_;intro β;apply Zu 0x4dd8581a<;>intro
 ·exact Zm 0x18
 apply Zu 0x4dd85859<;>intro
 ·apply Y 0x1c;refine sp (ae (k:=0) rfl rfl rfl rfl rfl rfl rfl ob (Src.r 1 rfl) oX) ?_;refine sp (Ev.load rfl rfl rfl (Src.r 1 rfl) (bp oX)) ?_;refine sp (Ai (fn:=Tryz.f220) Tryz.func220 rfl rfl oa oa rfl (Src.r 0 rfl) rfl) ?_;exact Zm 0x33e4b891
 exact Zm 0x18
theorem C3 (A:Option Addr)(c:Nat)(l:List UInt8):
    Ctr X 108 [.slice A l.length c] [Rd A (U8 l)] [] (fun v R' H'=>v=.bool (cG l)∧R'=[]∧H'=[]):=by
 refine co Tryz.func108 ?_;intro β;apply Y 0x2bb91a;intro A4;apply Y 0x520f;refine al (Gp A A4 c 1 l 255) ?_;apply Y 0xecd9382888;rw [← rT,Bool.eq_iff_iff,beq_iff_eq,beq_iff_eq];exact Zm 0x18
theorem My (A:Option Addr)(c:Nat)(l:List UInt8)(hc:l.length≤c)(hl:30≤l.length):
    Ctr X 109 [.slice A l.length c] [Rd A (U8 l)] [] (fun v R' H'=>v=.tuple #[.agg (List.toArray (st9 ((b7 l).getD (List.replicate 9 0)))),.bool (b7 l).isSome]∧R'=[]∧H'=[]):=by
 refine co Tryz.func109 ?_;intro β;apply Y 0xa848;intro A2;apply Y 0x1c1;refine L.call (js:=[0]) (js':=[]) (ud 175 #[ag A2 0] A l c (Own 73 9 A2 1 1 (I64 (List.replicate 9 0))) (fun p=>aM l 15=true∧p=Own 73 9 A2 1 1 (I64 (pK (bY l 15)))) (fun p=>aM l 15=false∧∃ xs:List Int,xs.length=9∧p=Own 73 9 A2 1 1 (I64 xs)) (fun D=>Mz D A2 A l c hc hl)) rfl rfl rfl ob hcx rfl ?_;rintro v _ _ ⟨p,rfl,rfl,hp⟩;obtain ⟨ys,hyl,rfl,rfl,hy⟩:∃ ys:List Int,ys.length=9∧p=Own 73 9 A2 1 1 (I64 ys)∧v=.bool (aM l 15)∧(aM l 15=true→ys=pK (bY l 15)):=by
  rcases hp with ⟨⟨hk,rfl⟩,rfl⟩|⟨⟨hk,xs,hx,rfl⟩,rfl⟩
  ·exact ⟨_,mf _,rfl,by rw [hk],fun _=>rfl⟩
  exact ⟨xs,hx,rfl,by rw [hk],fun h=>by rw [hk] at h;cases h⟩
 have hall:(I64 ys).all Value.oneCell'=true:=List.all_eq_true.2 (cY _);apply Zu 0x3a38581<;>intro hc8
 ·have hno:b7 l=none:=by unfold b7;rw [if_neg (by simpa using hc8)]
  apply Y 0x8b;refine cO (j:=0) rfl rfl rfl rfl rfl (Nat.zero_lt_succ _) rfl oal ?_;apply Y 0xa9e891;rw [hno];exact Zm 0x33e
 have hk:aM l 15=true:=by simpa using hc8
 have hyes:b7 l=some ys:=by unfold b7;rw [if_pos hk,hy hk]
 apply Y 0x8d;refine sp (ab rfl rfl rfl (Src.o 0 rfl) (vs:=I64 ys) (by rw [List.drop_zero,List.take_of_length_le oaw]) oal ob) ?_;refine cO (j:=0) (vs:=I64 ys) rfl rfl rfl hall oal oaw rfl oal ?_;apply Y 0xe81;refine qrt [] [] [_,_] rfl ⟨⟨_,_,0,_,rfl,rfl,Src.o 0 rfl,.inl ⟨rfl,by decide,I64 ys,(by rw [List.drop_zero,List.take_zero,List.nil_append,List.take_append_of_le_length oaw,List.take_of_length_le oaw]),oal,rfl⟩⟩,rfl,trivial⟩ ?_;rw [hyes,← sJ (show ((some ys).getD (List.replicate 9 0)).length=9 from hyl)];exact Zm 0x33e
theorem Gf (f:Fl)(a:Fa)(_ok:f.Ok)(_hh:a.hs.length=f.data.length)(y:Ly):
    Ctr X 106 [flV f a,.agg (List.toArray [.int .i64 y.n,.int .i64 y.a,.int .i64 y.b,.int .i64 y.s0,.int .i64 y.s1,.slice y.T y.tn y.tc,.slice y.U y.un y.uc,.slice y.V y.vn y.vc])] (flR f a) [] (fun v R' H'=>v=.bool (du f y.a y.b)∧R'=[]∧H'=[]):=by
 refine co Tryz.func106 ?_;intro β;apply Y 0x6a;intro A2;apply Y 0x7b;intro A3;apply Y 0x31eadcae7c49;refine sq (av (k:=0) (m:=1) rfl rfl rfl rfl rfl rfl ob (Src.r 0 rfl) oX rfl) ?_;apply Y 0x31e90e;refine sq (av (k:=1) (m:=2) rfl rfl rfl rfl rfl rfl ob (Src.r 0 rfl) oX rfl) ?_;apply Zu 0x5d2f281c32ec990e<;>intro
 ·apply Zu 0x9c0fb87dbc<;>intro hg22
  ·have q22:0≤y.a∧0≤y.b:=by simp only [Bool.false_eq_true,if_false] at hg22;split at hg22<;>omega
   apply Zu 0xc61fb8f9a1e480e7dbc<;>intro hg31
   ·have q31:y.a<f.data.length∧y.b<f.data.length:=by simp only [if_true] at hg31;split at hg31<;>omega
    apply Y 0xafeecd9d84a1e480e4
    symm;rw [decide_eq_decide];exact Zm 0x18
   have q31:¬(y.a<f.data.length∧y.b<f.data.length):=by simp only [if_true] at hg31;split at hg31<;>omega
   apply Y 0xafeecd938ca
   symm;exact Zm 0xaee
  have q22:¬(0≤y.a∧0≤y.b):=by simp only [Bool.false_eq_true,if_false] at hg22;split at hg22<;>omega
  apply Y 0xafeecd938ca28ca39
  symm;exact Zm 0xaee
 apply Y 0xafeecd938ca28ca1d39
 symm;exact Zm 0xaee
theorem Gi (f:Fl)(a:Fa)(ok:f.Ok)(hh:a.hs.length=f.data.length)(y:Ly)(hcap:Caps f a):
    Ctr X 64 [flV f a,.agg (List.toArray [.int .i64 y.n,.int .i64 y.a,.int .i64 y.b,.int .i64 y.s0,.int .i64 y.s1,.slice y.T y.tn y.tc,.slice y.U y.un y.uc,.slice y.V y.vn y.vc])] (flR f a) [] (fun v R' H'=>v=.tuple #[.agg (List.toArray [.int .i64 (aK f y.a y.b).sec,.int .i64 (aK f y.a y.b).oth,.int .i64 (aK f y.a y.b).gen,.int .i64 ((aK f y.a y.b).s.getD 0 0),.int .i64 ((aK f y.a y.b).s.getD 1 0),.int .i64 ((aK f y.a y.b).s.getD 2 0),.int .i64 ((aK f y.a y.b).s.getD 3 0),.int .i64 ((aK f y.a y.b).s.getD 4 0),.int .i64 ((aK f y.a y.b).s.getD 5 0),.int .i64 ((aK f y.a y.b).s.getD 6 0),.int .i64 ((aK f y.a y.b).s.getD 7 0),.int .i64 ((aK f y.a y.b).s.getD 8 0),.bool (aK f y.a y.b).found,.int .i64 ((aK f y.a y.b).free:Int),.int .i64 (lgP f y.a y.b:Int),.int .i64 ((aK f y.a y.b).torn:Int)]),.bool (aK f y.a y.b).found]∧R'=[]∧H'=[]):=by
 apply Y 0xc1e;intro hok;obtain ⟨os1,os2,on1,on2,owl,odl,orows,ol1,ol2,owear⟩:=ok;refine co Tryz.func64 ?_;intro β;apply Y 0x6a;intro A2;apply Y 0x7b;intro A3;apply Y 0xa8;intro A4;apply Y 0x63ef4e788c7c71ed1e549;refine al (Gf f a hok hh y) ?_;apply Zu 0x3a14a88<;>intro hc15
 ·have hno:du f y.a y.b=false:=by simpa using hc15
  apply Y 0x84ea9e8916b8b;rw [show aK f y.a y.b=lg0 from by unfold aK;rw [if_neg oau],show lgP f y.a y.b=0 from by unfold lgP;rw [if_neg oau]];exact Zm 0x2
 have hft0:du f y.a y.b=true:=by simpa using hc15
 have hft:=ft hft0;have hps:=jq hft0;apply Y 0x372f;intro hrow;apply Y 0xf52f;intro hcp;apply Y 0xa8ba363f61e3ba4e501f21ea4ebb1f21e8d;intro A6;apply Y 0xfaf4e48984c;refine al (Ef f a hok hh y.a ⟨hft.2.1,hft.2.2.2.1⟩ oe hcap) ?_;apply Y 0x989c2c88;refine fE (fun q:Unit=>[(2,ag A2 0),(3,ag A3 0),(4,ag A4 0),(6,ag A6 0)]) (fun q:Unit=>[Rd A3 [.int .i64 y.n,.int .i64 y.a,.int .i64 y.b,.int .i64 y.s0,.int .i64 y.s1,.slice y.T y.tn y.tc,.slice y.U y.un y.uc,.slice y.V y.vn y.vc],Rd A2 (flL f a),Rd a.D (aC a.hs (B8 f.data)),aS a.hs (B8 f.data),Rd a.W (I64 f.wear),Rd a.E (Bs f.dead)]) (fun q:Unit=>[Own 128 16 A4 1 1 [.int .i64 0,.int .i64 0,.int .i64 0,.int .i64 0,.int .i64 0,.int .i64 0,.int .i64 0,.int .i64 0,.int .i64 0,.int .i64 0,.int .i64 0,.int .i64 0,.bool false,.int .i64 0,.int .i64 0,.int .i64 0],Own 128 16 A6 1 1 [.int .i64 (aj f y.a y.b).sec,.int .i64 (aj f y.a y.b).oth,.int .i64 (aj f y.a y.b).gen,.int .i64 ((aj f y.a y.b).s.getD 0 0),.int .i64 ((aj f y.a y.b).s.getD 1 0),.int .i64 ((aj f y.a y.b).s.getD 2 0),.int .i64 ((aj f y.a y.b).s.getD 3 0),.int .i64 ((aj f y.a y.b).s.getD 4 0),.int .i64 ((aj f y.a y.b).s.getD 5 0),.int .i64 ((aj f y.a y.b).s.getD 6 0),.int .i64 ((aj f y.a y.b).s.getD 7 0),.int .i64 ((aj f y.a y.b).s.getD 8 0),.bool (aj f y.a y.b).found,.int .i64 ((aj f y.a y.b).free:Int),.int .i64 (ej f:Int),.int .i64 ((aj f y.a y.b).torn:Int)]]) (fun q:Unit=>True) ?_ ?_
 ·apply Y 0xfaf4e48;refine al (Ef f a hok hh y.b ⟨hft.2.2.1,hft.2.2.2.2.1⟩ oe hcap) ?_;apply Zu 0x791fab912c88<;>intro hc40
  ·apply Y 0x60e9c9c9c7fafa78;refine QE.join (()) OS (by exact lk [0,1,2,3,4,5] [0,1] (hh:=⟨rfl,(by unfold aj;rw [if_pos hc40];rfl),trivial⟩))
  apply Y 0x7a;refine QE.join (()) OS (by exact lk [0,1,2,3,4,5] [0,1] (hh:=⟨rfl,(by unfold aj;rw [if_neg hc40];rfl),trivial⟩))
 rintro _ _;apply Zu 0x791fa58<;>intro hc51
 ·apply Y 0x84ea9e8916b8b;rw [show aK f y.a y.b=lg0 from by unfold aK;rw [if_pos hft0,if_pos hc51],show lgP f y.a y.b=0 from by unfold lgP;rw [if_pos hft0,if_pos hc51]];exact Zm 0x2
 apply Y 0xaa1fa5859;refine lp [2,3,4,6,54] [_,_,_,_,_] (fun k:Nat=>[(55,.int .i64 (k:Int))]) (kz [_,_,_,_,_,_]) (fun k=>[Own 128 16 A4 1 1 [.int .i64 0,.int .i64 0,.int .i64 0,.int .i64 0,.int .i64 0,.int .i64 0,.int .i64 0,.int .i64 0,.int .i64 0,.int .i64 0,.int .i64 0,.int .i64 0,.bool false,.int .i64 0,.int .i64 0,.int .i64 0],Own 128 16 A6 1 1 [.int .i64 (bz (f.data.getD (aj f y.a y.b).sec.toNat []) (aj f y.a y.b) (k)).sec,.int .i64 (bz (f.data.getD (aj f y.a y.b).sec.toNat []) (aj f y.a y.b) (k)).oth,.int .i64 (bz (f.data.getD (aj f y.a y.b).sec.toNat []) (aj f y.a y.b) (k)).gen,.int .i64 ((bz (f.data.getD (aj f y.a y.b).sec.toNat []) (aj f y.a y.b) (k)).s.getD 0 0),.int .i64 ((bz (f.data.getD (aj f y.a y.b).sec.toNat []) (aj f y.a y.b) (k)).s.getD 1 0),.int .i64 ((bz (f.data.getD (aj f y.a y.b).sec.toNat []) (aj f y.a y.b) (k)).s.getD 2 0),.int .i64 ((bz (f.data.getD (aj f y.a y.b).sec.toNat []) (aj f y.a y.b) (k)).s.getD 3 0),.int .i64 ((bz (f.data.getD (aj f y.a y.b).sec.toNat []) (aj f y.a y.b) (k)).s.getD 4 0),.int .i64 ((bz (f.data.getD (aj f y.a y.b).sec.toNat []) (aj f y.a y.b) (k)).s.getD 5 0),.int .i64 ((bz (f.data.getD (aj f y.a y.b).sec.toNat []) (aj f y.a y.b) (k)).s.getD 6 0),.int .i64 ((bz (f.data.getD (aj f y.a y.b).sec.toNat []) (aj f y.a y.b) (k)).s.getD 7 0),.int .i64 ((bz (f.data.getD (aj f y.a y.b).sec.toNat []) (aj f y.a y.b) (k)).s.getD 8 0),.bool (bz (f.data.getD (aj f y.a y.b).sec.toNat []) (aj f y.a y.b) (k)).found,.int .i64 ((bz (f.data.getD (aj f y.a y.b).sec.toNat []) (aj f y.a y.b) (k)).free:Int),.int .i64 (ej f:Int),.int .i64 ((bz (f.data.getD (aj f y.a y.b).sec.toNat []) (aj f y.a y.b) (k)).torn:Int)]]) (fun k=>k≤ej f) (fun k=>ej f-k) 0 (Nat.zero_le _) (lk [0,1,2,3,4,5] [0,1]) ?_;intro k hk;apply Zu 0x7930e<;>intro
 ·apply Y 0x141f;intro hkp;apply Y 0xc72f;intro hsl;apply Y 0x102f;intro hkl;apply Y 0xb22f;intro hpl;apply Y 0xf53f15e7430fe63ffa3b48c899;refine sp (bt (l:=8+30*k) rfl rfl rfl rfl rfl rfl oe) ?_;refine sp (Ev.cast (u:=.slice (bh (a.hs.getD (aj f y.a y.b).sec.toNat (none,0)).1 (a.hs.getD (aj f y.a y.b).sec.toNat (none,0)).2 (8+30*k) 1) (cf (f.data.getD (aj f y.a y.b).sec.toNat []) k).length ((a.hs.getD (aj f y.a y.b).sec.toNat (none,0)).2-(8+30*k))) (bn (h:=30) rfl rfl rfl rfl rfl rfl oe) (by rw [hsl.1];rfl)) ?_;apply Y 0xab3c2f549;refine al (C3 (bh (a.hs.getD (aj f y.a y.b).sec.toNat (none,0)).1 (a.hs.getD (aj f y.a y.b).sec.toNat (none,0)).2 (8+30*k) 1) ((a.hs.getD (aj f y.a y.b).sec.toNat (none,0)).2-(8+30*k)) (cf (f.data.getD (aj f y.a y.b).sec.toNat []) k)) ?_;apply Zu 0x3a982c88<;>intro hc70
  ·apply Y 0x20e8aece39e;refine QE.round (k+1) oe oe (by exact lk [1,2,3,4,5,6] [0,1] (hh:=⟨rfl,(by rw [bT,wE hc70];rfl),trivial⟩))
  apply Y 0xb9989cdab959;refine al (My (bh (a.hs.getD (aj f y.a y.b).sec.toNat (none,0)).1 (a.hs.getD (aj f y.a y.b).sec.toNat (none,0)).2 (8+30*k) 1) ((a.hs.getD (aj f y.a y.b).sec.toNat (none,0)).2-(8+30*k)) (cf (f.data.getD (aj f y.a y.b).sec.toNat []) k) oe oe) ?_;apply Y 0xa8b82c88;intro A10;apply Zu 0x3a1a1a3e<;>intro hc79
  ·obtain ⟨s1,hs1⟩:=Option.isSome_iff_exists.1 hc79;apply Y 0x20efb60e9c4c3bec70f78;refine QE.round (k+1) oe oe (by exact lk [1,2,3,4,5,6] [0,1] (hh:=⟨rfl,(by rw [bT,wC hc70 hs1,hs1];rfl),trivial⟩))
  apply Y 0x20efb60e9cdafa78;refine QE.round (k+1) oe oe (by exact lk [1,2,3,4,5,6] [0,1] (hh:=⟨rfl,(by rw [bT,wB hc70 (Option.not_isSome_iff_eq_none.1 (by rw [hc79];exact Bool.false_ne_true))];rfl),trivial⟩))
 apply Y 0x633f5c0f5a9;refine mq 1 rfl (faR 6) ?_;refine mq 2 rfl (ldR 6) ?_;apply Y 0xa9ee88a5c8ae696b89e;obtain rfl:k=ej f:=oe;apply Y 0x84e;rw [show aK f y.a y.b=(bz (f.data.getD (aj f y.a y.b).sec.toNat []) (aj f y.a y.b) (ej f)) from by unfold aK aV;rw [if_pos hft0,if_neg hc51],show lgP f y.a y.b=ej f from by unfold lgP;rw [if_pos hft0,if_neg hc51]];exact Zm 0x2
end Go.Proofs.YtbpddeiogcgegaaGreat
