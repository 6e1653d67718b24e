/-
  Part of a proof.
-/
import Derived.Test.YtbpddeiogcgegaaGreatVWFlH
set_option maxHeartbeats 0
set_option maxRecDepth 4000
set_option linter.all false
namespace Go.Proofs.YtbpddeiogcgegaaGreat
open Go.Sl
def pwJ:Value:=.iface 303 (.agg #[])
theorem xk (D A:Option Addr)(l:List UInt8)(c w:Nat)(hc:l.length≤c)(hl:2*w≤l.length)(hw:w≤4):
    du X 173 [ag D 0,.int .i64 (w:Int)] [Rd A (U8 l)] [Own 305 1 D 1 1 [.slice A l.length c]] (b5 [{ v:=pwJ,recovered:=false }] (fun v R' H'=>aO l w=true∧∃ (A':Option Addr) (c':Nat),(l.drop (2*(w))).length≤c'∧v=.int .i64 (ia (b6 l w):Int)∧R'=[Rd A' (U8 (l.drop (2*(w))))]∧H'=[Own 305 1 D 1 1 [.slice A' (l.drop (2*(w))).length c']]) (fun R' H'=>aO l w=false∧∃ u:Value,R'=[]∧H'=[Own 305 1 D 1 1 [u]])):=by
 refine du.of (X:=X) (fn:=Tryz.f173) Tryz.func173 rfl oa rfl ?_;intro β;apply Y 0xba3858c9c9;refine lp [] [] (fun q:Nat×Option Addr×Nat=>[(0,ag D 0),(5,.int .i64 (ia (b6 l q.1):Int)),(6,.int .i64 (w:Int)),(7,.int .i64 (q.1:Int))]) (fun q=>[Rd q.2.1 (U8 (l.drop (2*(q.1))))]) (fun q=>[Own 305 1 D 1 1 [.slice q.2.1 (l.drop (2*(q.1))).length q.2.2]]) (fun q=>q.1≤w∧aO l q.1=true∧(l.drop (2*(q.1))).length≤q.2.2) (fun q=>w-q.1) (0,A,c) ⟨Nat.zero_le _,rfl,hc⟩ (lk [0] [0]) ?_;apply Y 0xac2f;intro k A c hkw hk hcc
 dsimp only at hkw hk hcc ⊢;apply Zu 0x7920e<;>intro
 ·have hv:=jh (b6 l k);rw [bT] at hv;have hp:(256^k:Nat)≤16777216:=Nat.le_trans (Nat.pow_le_pow_right ob (show k≤3 by omega)) ob;apply Y 0xf8e64e19efc6d5589;refine sq (ae (k:=0) rfl rfl rfl rfl rfl rfl rfl oo (Src.r 0 rfl) Qd) ?_;apply Y 0xf8e64e19efc624f;refine sq (ae (k:=1) rfl rfl rfl rfl rfl rfl rfl oo (Src.r 0 rfl) Qd) ?_;apply Y 0x624f;refine sq (Bv rfl) ?_;apply Zu 0x5d80e<;>intro hc22
  ·have hno:aO l w=false:=pM (k:=k) oe (by
    unfold c6;rw [beq_eq_false_iff_ne];intro h;refine hc22 (dN.2 ?_);rw [cy,cy]
    exact h)
   apply Y 0x83ee90f83e530f6fa68;refine s4 (js:=[]) (hs:=[0]) ob ⟨rfl,?_⟩;exact ⟨hno,_,rfl,rfl⟩
  have hk1:aO l (k+1)=true:=by
   rw [cK,hk,Bool.true_and]
   unfold c6;have h:=dN.1 hc22;rw [cy,cy] at h;rw [beq_iff_eq];exact Zm 0x22e
  have hv1:ia (b6 l (k+1))=ia (b6 l k)*256+(l.getD (2*k) 0).toNat:=by rw [lz,nr,Nat.mul_comm]
  apply Y 0xf999;refine sp (Bn (k:=8) rfl oT ob oe) ?_;apply Y 0x56eaa8d6;refine sp (ae (k:=0) rfl rfl rfl rfl rfl rfl rfl oo (Src.r 0 rfl) Qd) ?_;apply Y 0x9fe3f3f;refine sp (Er rfl rfl oe (UInt8.toNat_lt _)) ?_;apply Y 0x56eaa8d9c1;refine sp (bw (l:=2) rfl rfl rfl rfl rfl rfl oo) ?_;apply Y 0xd0efde00faa8d;refine QE.more (r:=Rd (bj A c 2 1) (U8 (l.drop (2*(k+1))))) (((aT (Has.r 0 rfl) c 2 hcc).cast (by rw [List.drop_drop,Nat.mul_add]))) ?_;refine QE.round (i:=(k,A,c)) ((k+1,bj A c 2 1,c-2)) (by exact ⟨by dsimp only;omega,hk1,by dsimp only;rw [List.length_drop] at hcc ⊢;omega⟩) ou (by exact lk [0] [0] ⟨rfl,(by exact congrArg some (congrArg (Value.int .i64) (by dsimp only;rw [hv1,cy];rfl))),rfl,rfl,trivial⟩ (hh:=⟨(by exact congrArg some (ax rfl (by dsimp only;rw [show (l.drop (2*(k+1))).length=(l.drop (2*k)).length-2 from by rw [List.length_drop,List.length_drop];omega];rfl))),trivial⟩))
 apply Y 0xd8c8a9;obtain rfl:k=w:=oe;apply Y 0x4a1f;exact ⟨hk,A,c,hcc,rfl,rfl,rfl⟩
theorem Jl (D N A:Option Addr)(l:List UInt8)(c:Nat)(n0:Int)(hc:l.length≤c)(hl:8≤l.length):
    du X 172 [ag D 0,ag N 0] [Rd A (U8 l)] [Own 305 1 D 1 1 [.slice A l.length c],Own 3 1 N 1 1 [.int .i64 n0]] (b5 [{ v:=pwJ,recovered:=false }] (fun v R' H'=>∃ (u:Value) (p:Pr),(aO l 4=true∧p=Own 3 1 N 1 1 [.int .i64 (ia (b6 l 4):Int)])∧v=.tuple #[]∧R'=[]∧H'=[Own 305 1 D 1 1 [u],p]) (fun R' H'=>∃ (u:Value) (p:Pr),(aO l 4=false∧p=Own 3 1 N 1 1 [.int .i64 n0])∧R'=[]∧H'=[Own 305 1 D 1 1 [u],p])):=by
 refine du.of (X:=X) (fn:=Tryz.f172) Tryz.func172 rfl oa rfl ?_;intro β;apply Y 0x2c;refine bb (js:=[0]) (js':=[1]) (xk D A l c 4 hc oe ob) rfl rfl rfl ob hcx rfl ?_ ?_
 rotate_left;apply Y 0xf0e;intro hk u;apply Y 0xa63f;exact ⟨u,_,⟨hk,rfl⟩,rfl,rfl⟩;apply Y 0xb0e;intro hk A' c' hcc;exact Zm 0xcd2fd63f96efdcbe
theorem sK (β:Base)(D:Option Addr)(Q:Exit→Act→World→Prop)(h:QE β 15 [] Q .normal [] [] [Own 4 1 D 1 1 [.bool false]]):
    C X β 15 [] Q (match Tryz.f218.body with|some (.seq _ b)=>b|_=>.skip) [(1,pwJ),(4,pwJ),(0,ag D 0)] [] [Own 4 1 D 1 1 [.bool false]]:=by
 apply Y 0x888e1ff9;refine C.cond rfl (fun _=>?_) (fun h=>by cases h);apply Y 0x658;refine sp (FB rfl rfl rfl) ?_;apply Y 0xb8;refine L.alloc (cs:=[]) rfl rfl rfl (fun A2=>?_);refine Eh (j:=1) (m:=0) rfl rfl rfl rfl rfl ?_;apply Y 0xc81;refine C.cond rfl (fun h=>by cases h) (fun _=>?_);apply Y 0xfde00f6899
 exact QE.le (Γ':=[]) (R':=[]) (H':=[Own 4 1 D 1 1 [.bool false]]) (aA (rs:=[]) (hs:=[0]) trivial trivial rt ob) h
theorem frJ (v p:Value):Fr 15 [] { tmps:=#[p]++((Array.replicate 14 undef).setIfInBounds 3 v).setIfInBounds 0 v,defers:=[] } [(1,v),(4,v),(0,p)]:=
  LF oa oa oa oa
theorem MZ (w:World):Sat ⟨w,fun _=>False,fun _=>False⟩ w [] []:=⟨⟨rfl,rfl,rfl,Nat.le_refl _,fun _ _ _=>rfl⟩,by simp,by simp,by simp,by simp,by simp,by simp⟩
theorem zR (β:Base)(p:Value)(Q:Exit→Act→World→Prop)(h:∀ Γ,QE β 15 [] Q .normal Γ [] []):
    C X β 15 [] Q (match Tryz.f218.body with|some (.seq _ b)=>b|_=>.skip) [(1,.nilIface),(4,.nilIface),(0,p)] [] []:=by
 apply Y 0x889e1ff9;refine C.cond rfl (fun h=>by cases h) (fun _=>?_);apply Y 0x5a
 exact h _
theorem C1 {D:Option Addr}{w w':World}(h:(Own 4 1 D 1 1 [.bool false]).p w)(h':(Own 4 1 D 1 1 [.bool false]).p w')(k:Nat)(hk:(Own 4 1 D 1 1 [.bool false]).fp k):w'.heap[k]?=w.heap[k]?:=by
 obtain ⟨g,cur,hA,hg,_,_,hs,ht⟩:=cF h ob;obtain ⟨g',cur',hA',hg',_,_,hs',ht'⟩:=cF h' ob;apply Y 0x751f;intro a ha hak;rw [hA] at hA' ha
 injection hA' with hA'
 injection hA' with hA'
 injection ha with ha
 subst ha hA';have e:∀ c:Array Value,c.size=1*1→c.toList.take (1*1)=[.bool false]→c=#[.bool false]:=by
  intro c h1 h2;rw [List.take_of_length_le (by simpa using Nat.le_of_eq h1)] at h2
  apply Array.ext'
  exact h2
 rw [← hak]
 show w'.heap[g]?=w.heap[g]?;rw [hg,hg',e cur hs ht,e cur' hs' ht']
theorem Rh (w:World)(D:Option Addr)(h:(Own 4 1 D 1 1 [.bool false]).p w):Sat ⟨w,fun k=>(Own 4 1 D 1 1 [.bool false]).fp k,fun _=>False⟩ w [] [Own 4 1 D 1 1 [.bool false]]:=by
 have hlt:∀ k,(Own 4 1 D 1 1 [.bool false]).fp k→k<w.heap.size:=by
  apply Y 0x4c2f;intro k a ha hk;obtain ⟨g,cur,hA,hg,_⟩:=cF h ob;rw [hA] at ha
  injection ha with ha
  subst ha;have:=(Array.getElem?_eq_some_iff.1 hg).1
  exact hk▸this
 refine ⟨⟨rfl,rfl,rfl,Nat.le_refl _,fun _ _ _=>rfl⟩,by simp,by simp,fun i c hc=>?_,fun i c hc k hk=>?_,fun i j c d hc hd hne k _ _=>?_,by simp⟩
 ·match i,hc with
  |0,hc=>injection hc with hc;subst hc;exact h
  |i+1,hc=>cases hc
 ·match i,hc with
  |0,hc=>injection hc with hc;subst hc;exact ⟨hlt k hk,.inr hk⟩
  |i+1,hc=>cases hc
 match i,j,hc,hd with
 |0,0,_,_=>exact hne rfl
 |0,j+1,_,hd=>cases hd
 |i+1,_,hc,_=>cases hc
theorem yq:RecC X.P 218 4 pwJ:=by
 refine ⟨fun p w=>?_,fun p w=>?_,fun D w hD=>?_⟩
 ·have hf:X.P.funcs[218]?=some Tryz.f218:=Tryz.func218;have hb:Tryz.f218.body.isNone=false:=rfl;have hname:(Tryz.f218.name== "runtime.NumGoroutine")=false:=rfl
  simp only [beq_eq_false_iff_ne] at hname;apply Y 0x302f;intro h;rw [h] at hb
  cases hb
 ·refine callsD_of_wpS (P:=X.P) Tryz.func218 rfl fun c₀ cs hu=>?_
  apply wpS_seq
  apply wpS_region;apply Y 0xf40f;refine wpS_of_wp (zR _ p _ (fun Γ a' w' hf' hs'=>?_) _ w (frJ .nilIface p) (MZ w));apply Y 0x4a0f;intro hst;apply Y 0x520f;intro hd
  cases c₀
  simp only at hu;subst hu;exact Zm 0x150f
 refine callsD_of_wpS (P:=X.P) Tryz.func218 rfl fun c₀ cs hu=>?_
 apply wpS_seq
 apply wpS_region;apply Y 0xf40f;refine wpS_of_wp (sK _ D _ (fun a' w' hf' hs'=>?_) _ w (frJ pwJ (ag D 0)) (Rh w D hD));have hown:=hs'.own 0 _ rfl;have hst:Stp w w' (fun _=>False):=by
  refine ⟨hs'.ext.os,hs'.ext.tape,hs'.ext.output,hs'.ext.size,fun k hk _=>?_⟩
  by_cases h:(Own 4 1 D 1 1 [.bool false]).fp k
  ·exact C1 hD hown k h
  exact hs'.ext.block k hk h
 apply Y 0x520f;intro hd
 cases c₀
 simp only at hu;subst hu;exact Zm 0x150f
theorem uZ (fid:Nat)(cap:Array Value)(A:Option Addr)(l:List UInt8)(c:Nat)(pc:Pr)(Φ Ψ:Pr→Prop)(hw:∀ D,du X fid ([ag D 0]++cap.toList) [Rd A (U8 l)] [Own 305 1 D 1 1 [.slice A l.length c],pc] (b5 [{ v:=pwJ,recovered:=false }] (fun v R' H'=>∃ (u:Value) (p:Pr),Φ p∧v=.tuple #[]∧R'=[]∧H'=[Own 305 1 D 1 1 [u],p]) (fun R' H'=>∃ (u:Value) (p:Pr),Ψ p∧R'=[]∧H'=[Own 305 1 D 1 1 [u],p]))):
    Ctr X 171 [.slice A l.length c,.func (.func fid) #[] cap] [Rd A (U8 l)] [pc] (fun v R' H'=>∃ p,R'=[]∧H'=[p]∧((Φ p∧v=.bool true)∨(Ψ p∧v=.bool false))):=by
 refine ta (X:=X) (fn:=Tryz.f171) Tryz.func171 rfl oa rfl ?_;intro β;apply Y 0x987;intro A4;apply Y 0xf988;refine Ek rfl ?_;apply Y 0x2bfa2d88;intro A9;refine El (js:=[2,0]) (js':=[1]) (hw A9) rfl rfl rfl rfl rfl ob hcx rfl ?_ ?_
 ·apply Y 0xf1e;intro u p hp;apply Y 0xd888a8e788;refine HD (js:=[]) (hs:=[1]) (vs:=[_]) yq rfl ⟨⟨_,_,0,_,rfl,rfl,Src.o 2 rfl,.inr ⟨rfl,rfl⟩⟩,trivial⟩ ob ?_;exact ⟨p,rfl,rfl,.inl ⟨hp,rfl⟩⟩
 rintro _ _ ⟨u,p,hp,rfl,rfl⟩;apply Y 0x83e;refine HF (js:=[]) (hs:=[1]) (vs:=[_]) 2 rfl yq rfl ⟨⟨_,_,0,_,rfl,rfl,Src.o 2 rfl,.inr ⟨rfl,rfl⟩⟩,trivial⟩ ob ?_;exact ⟨p,rfl,rfl,.inr ⟨hp,rfl⟩⟩
theorem MX (D S A:Option Addr)(l:List UInt8)(c:Nat)(hc:l.length≤c)(hl:30≤l.length):
    du X 175 [ag D 0,ag S 0] [Rd A (U8 l)] [Own 305 1 D 1 1 [.slice A l.length c],Own 73 9 S 1 1 (I64 (List.replicate 9 0))] (b5 [{ v:=pwJ,recovered:=false }] (fun v R' H'=>∃ (u:Value) (p:Pr),(aO l 15=true∧p=Own 73 9 S 1 1 (I64 (pH (b6 l 15))))∧v=.tuple #[]∧R'=[]∧H'=[Own 305 1 D 1 1 [u],p]) (fun R' H'=>∃ (u:Value) (p:Pr),(aO l 15=false∧∃ xs:List Int,xs.length=9∧p=Own 73 9 S 1 1 (I64 xs))∧R'=[]∧H'=[Own 305 1 D 1 1 [u],p])):=by
 refine du.of (X:=X) (fn:=Tryz.f175) Tryz.func175 rfl oa rfl ?_;intro β;apply Y 0x7;refine al (uY S (List.replicate 9 0) rfl) ?_;apply Y 0x71e;intro A5;apply Y 0xba38;refine lp [0,1,5,6] [_,_,_,_] (fun q:Nat×Option Addr×Nat=>[(7,.int .i64 (q.1:Int))]) (fun q=>[Rd q.2.1 (U8 (l.drop (2*ni (q.1))))]) (fun q=>[Own 305 1 D 1 1 [.slice q.2.1 (l.drop (2*ni (q.1))).length q.2.2],Own 73 9 S 1 1 (I64 (iB l (q.1))),Own 266 2 A5 9 9 (gY S)]) (fun q=>q.1≤9∧aO l (ni q.1)=true∧(l.drop (2*ni (q.1))).length≤q.2.2) (fun q=>9-q.1) (0,A,c) ⟨Nat.zero_le _,rfl,hc⟩ (lk [0] [1,2,0]) ?_;apply Y 0xac2f;intro k A c hkw hk hcc
 dsimp only at hkw hk hcc ⊢;apply Zu 0x7920e<;>intro
 ·apply Y 0xba2f;intro hw;have ho:=zd (k:=k) oe;apply Y 0x789;refine sp (cf (k:=k) (m:=k*2) rfl rfl rfl rfl rfl rfl oe (Src.o 2 rfl) Oc rfl) ?_;refine sp (aa (k:=k*2) rfl rfl rfl (Src.o 2 rfl) (lu S oe) rfl ob) ?_;apply Y 0x98;intro A4;apply Y 0x8895e;refine C.join (fun q:Option Addr×Nat=>[(0,ag D 0),(1,ag S 0),(5,.slice A5 9 9),(6,.int .i64 9),(7,.int .i64 (k:Int))]) (fun q:Option Addr×Nat=>[Rd q.1 (U8 ((l.drop (2*ni (k))).drop (2*(wds.getD k 0))))]) (fun q:Option Addr×Nat=>[Own 305 1 D 1 1 [.slice q.1 ((l.drop (2*ni (k))).drop (2*(wds.getD k 0))).length q.2],Own 73 9 S 1 1 (I64 (iB l (k+1))),Own 266 2 A5 9 9 (gY S)]) (fun q:Option Addr×Nat=>aO (l.drop (2*ni (k))) (wds.getD k 0)=true∧((l.drop (2*ni (k))).drop (2*(wds.getD k 0))).length≤q.2) ?_ ?_
  ·refine rp ?_;refine LA.alt [0,2,3] oa ob ⟨⟨_,rfl,?_⟩,⟨_,rfl,?_⟩,⟨_,rfl,?_⟩,trivial⟩
   ·apply Y 0x7873e;refine LA.alt [1,2,3] oa ob ⟨⟨_,rfl,?_⟩,⟨_,rfl,?_⟩,⟨_,rfl,?_⟩,trivial⟩
    ·apply Y 0x8c;refine LA.alt [2,3] oa ob ⟨⟨_,rfl,?_⟩,⟨_,rfl,?_⟩,trivial⟩
     ·apply Zu 0x41ef2e8c89e7873ed4e7a
      rotate_left;apply Y 0xf0e;intro hk1 u;exact Zm 0x21e;apply Y 0xb0e;intro hk1 A' c' hcc';exact Zm 0x31e78
     apply Zu 0x9e0f7873e
     ·apply Zu 0x41ef2e8c89e7a
      rotate_left;apply Y 0xf0e;intro hk1 u;exact Zm 0x21e;apply Y 0xb0e;intro hk1 A' c' hcc';exact Zm 0x31e78
     apply Zu 0x41ef2e7a37e8c
     rotate_left;apply Y 0xf0e;intro hk1 u;exact Zm 0x21e;apply Y 0xb0e;intro hk1 A' c' hcc';exact Zm 0x31e78
    ·apply Zu 0x823f7a
     ·apply Zu 0x41ef2e8c89e7873ed4e8c
      rotate_left;apply Y 0xf0e;intro hk1 u;exact Zm 0x21e;apply Y 0xb0e;intro hk1 A' c' hcc';exact Zm 0x31e78
     apply Zu 0xf00f7873e
     ·apply Zu 0x41ef2e8c89e8c
      rotate_left;apply Y 0xf0e;intro hk1 u;exact Zm 0x21e;apply Y 0xb0e;intro hk1 A' c' hcc';exact Zm 0x31e78
     apply Zu 0xb8e8c
     ·apply Zu 0x41ef2e8c
      rotate_left;apply Y 0xf0e;intro hk1 u;exact Zm 0x21e;apply Y 0xb0e;intro hk1 A' c' hcc';exact Zm 0x31e78
     apply Zu 0x41e
     rotate_left;apply Y 0xf0e;intro hk1 u;exact Zm 0x21e;apply Y 0xb0e;intro hk1 A' c' hcc';exact Zm 0x31e8c16e78
    apply Y 0x7873e;refine LA.alt [1,2,4] oa ob ⟨⟨_,rfl,?_⟩,⟨_,rfl,?_⟩,⟨_,rfl,?_⟩,trivial⟩
    ·apply Zu 0x9e0f8c
     ·apply Zu 0x41ef2e8c89e7a
      rotate_left;apply Y 0xf0e;intro hk1 u;exact Zm 0x21e;apply Y 0xb0e;intro hk1 A' c' hcc';exact Zm 0x31e78
     apply Zu 0x41ef2e7a37e8c
     rotate_left;apply Y 0xf0e;intro hk1 u;exact Zm 0x21e;apply Y 0xb0e;intro hk1 A' c' hcc';exact Zm 0x31e78
    ·apply Zu 0xf00f7a
     ·apply Zu 0x41ef2e8c89e8c
      rotate_left;apply Y 0xf0e;intro hk1 u;exact Zm 0x21e;apply Y 0xb0e;intro hk1 A' c' hcc';exact Zm 0x31e78
     apply Zu 0xb8e8c
     ·apply Zu 0x41ef2e8c
      rotate_left;apply Y 0xf0e;intro hk1 u;exact Zm 0x21e;apply Y 0xb0e;intro hk1 A' c' hcc';exact Zm 0x31e78
     apply Zu 0x41e
     rotate_left;apply Y 0xf0e;intro hk1 u;exact Zm 0x21e;apply Y 0xb0e;intro hk1 A' c' hcc';exact Zm 0x31e8c16e78
    apply Zu 0xf81f8c
    ·apply Zu 0x41ef2e7a37e8c
     rotate_left;apply Y 0xf0e;intro hk1 u;exact Zm 0x21e;apply Y 0xb0e;intro hk1 A' c' hcc';exact Zm 0x31e78
    apply Zu 0xb8e7a
    ·apply Zu 0x41ef2e8c
     rotate_left;apply Y 0xf0e;intro hk1 u;exact Zm 0x21e;apply Y 0xb0e;intro hk1 A' c' hcc';exact Zm 0x31e78
    apply Zu 0x41e
    rotate_left;apply Y 0xf0e;intro hk1 u;exact Zm 0x21e;apply Y 0xb0e;intro hk1 A' c' hcc';exact Zm 0x31e8c16e78
   ·apply Y 0x7a;refine LA.alt [0,3] oa ob ⟨⟨_,rfl,?_⟩,⟨_,rfl,?_⟩,trivial⟩
    ·apply Zu 0x823f7873e
     ·apply Zu 0x41ef2e8c89e7873ed4e8c
      rotate_left;apply Y 0xf0e;intro hk1 u;exact Zm 0x21e;apply Y 0xb0e;intro hk1 A' c' hcc';exact Zm 0x31e78
     apply Zu 0xf00f7873e
     ·apply Zu 0x41ef2e8c89e8c
      rotate_left;apply Y 0xf0e;intro hk1 u;exact Zm 0x21e;apply Y 0xb0e;intro hk1 A' c' hcc';exact Zm 0x31e78
     apply Zu 0xb8e8c
     ·apply Zu 0x41ef2e8c
      rotate_left;apply Y 0xf0e;intro hk1 u;exact Zm 0x21e;apply Y 0xb0e;intro hk1 A' c' hcc';exact Zm 0x31e78
     apply Zu 0x41e
     rotate_left;apply Y 0xf0e;intro hk1 u;exact Zm 0x21e;apply Y 0xb0e;intro hk1 A' c' hcc';exact Zm 0x31e8c16e78
    apply Zu 0xe81f7873e
    ·apply Zu 0xf00f7873e
     ·apply Zu 0x41ef2e8c89e8c
      rotate_left;apply Y 0xf0e;intro hk1 u;exact Zm 0x21e;apply Y 0xb0e;intro hk1 A' c' hcc';exact Zm 0x31e78
     apply Zu 0xb8e8c
     ·apply Zu 0x41ef2e8c
      rotate_left;apply Y 0xf0e;intro hk1 u;exact Zm 0x21e;apply Y 0xb0e;intro hk1 A' c' hcc';exact Zm 0x31e78
     apply Zu 0x41e
     rotate_left;apply Y 0xf0e;intro hk1 u;exact Zm 0x21e;apply Y 0xb0e;intro hk1 A' c' hcc';exact Zm 0x31e8c16e78
    apply Zu 0x7e0f8c
    ·apply Zu 0xb8e7873e
     ·apply Zu 0x41ef2e8c
      rotate_left;apply Y 0xf0e;intro hk1 u;exact Zm 0x21e;apply Y 0xb0e;intro hk1 A' c' hcc';exact Zm 0x31e78
     apply Zu 0x41e
     rotate_left;apply Y 0xf0e;intro hk1 u;exact Zm 0x21e;apply Y 0xb0e;intro hk1 A' c' hcc';exact Zm 0x31e8c16e78
    apply Zu 0x41e
    rotate_left;apply Y 0xf0e;intro hk1 u;exact Zm 0x21e;apply Y 0xb0e;intro hk1 A' c' hcc';exact Zm 0x31e8c16e7873e8e0f78
   apply Y 0x7873e;refine LA.alt [0,2,4] oa ob ⟨⟨_,rfl,?_⟩,⟨_,rfl,?_⟩,⟨_,rfl,?_⟩,trivial⟩
   ·apply Y 0x7873e;refine LA.alt [1,2,4] oa ob ⟨⟨_,rfl,?_⟩,⟨_,rfl,?_⟩,⟨_,rfl,?_⟩,trivial⟩
    ·apply Zu 0x9e0f8c
     ·apply Zu 0x41ef2e8c89e7a
      rotate_left;apply Y 0xf0e;intro hk1 u;exact Zm 0x21e;apply Y 0xb0e;intro hk1 A' c' hcc';exact Zm 0x31e78
     apply Zu 0x41ef2e7a37e8c
     rotate_left;apply Y 0xf0e;intro hk1 u;exact Zm 0x21e;apply Y 0xb0e;intro hk1 A' c' hcc';exact Zm 0x31e78
    ·apply Zu 0xf00f7a
     ·apply Zu 0x41ef2e8c89e8c
      rotate_left;apply Y 0xf0e;intro hk1 u;exact Zm 0x21e;apply Y 0xb0e;intro hk1 A' c' hcc';exact Zm 0x31e78
     apply Zu 0xb8e8c
     ·apply Zu 0x41ef2e8c
      rotate_left;apply Y 0xf0e;intro hk1 u;exact Zm 0x21e;apply Y 0xb0e;intro hk1 A' c' hcc';exact Zm 0x31e78
     apply Zu 0x41e
     rotate_left;apply Y 0xf0e;intro hk1 u;exact Zm 0x21e;apply Y 0xb0e;intro hk1 A' c' hcc';exact Zm 0x31e8c16e78
    apply Zu 0xf81f8c
    ·apply Zu 0x41ef2e7a37e8c
     rotate_left;apply Y 0xf0e;intro hk1 u;exact Zm 0x21e;apply Y 0xb0e;intro hk1 A' c' hcc';exact Zm 0x31e78
    apply Zu 0xb8e7a
    ·apply Zu 0x41ef2e8c
     rotate_left;apply Y 0xf0e;intro hk1 u;exact Zm 0x21e;apply Y 0xb0e;intro hk1 A' c' hcc';exact Zm 0x31e78
    apply Zu 0x41e
    rotate_left;apply Y 0xf0e;intro hk1 u;exact Zm 0x21e;apply Y 0xb0e;intro hk1 A' c' hcc';exact Zm 0x31e8c16e78
   ·apply Zu 0xe81f7a
    ·apply Zu 0xf00f7873e
     ·apply Zu 0x41ef2e8c89e8c
      rotate_left;apply Y 0xf0e;intro hk1 u;exact Zm 0x21e;apply Y 0xb0e;intro hk1 A' c' hcc';exact Zm 0x31e78
     apply Zu 0xb8e8c
     ·apply Zu 0x41ef2e8c
      rotate_left;apply Y 0xf0e;intro hk1 u;exact Zm 0x21e;apply Y 0xb0e;intro hk1 A' c' hcc';exact Zm 0x31e78
     apply Zu 0x41e
     rotate_left;apply Y 0xf0e;intro hk1 u;exact Zm 0x21e;apply Y 0xb0e;intro hk1 A' c' hcc';exact Zm 0x31e8c16e78
    apply Zu 0x7e0f8c
    ·apply Zu 0xb8e7873e
     ·apply Zu 0x41ef2e8c
      rotate_left;apply Y 0xf0e;intro hk1 u;exact Zm 0x21e;apply Y 0xb0e;intro hk1 A' c' hcc';exact Zm 0x31e78
     apply Zu 0x41e
     rotate_left;apply Y 0xf0e;intro hk1 u;exact Zm 0x21e;apply Y 0xb0e;intro hk1 A' c' hcc';exact Zm 0x31e8c16e78
    apply Zu 0x41e
    rotate_left;apply Y 0xf0e;intro hk1 u;exact Zm 0x21e;apply Y 0xb0e;intro hk1 A' c' hcc';exact Zm 0x31e8c16e7873e8e0f78
   apply Y 0x8c;refine LA.alt [0,2] oa ob ⟨⟨_,rfl,?_⟩,⟨_,rfl,?_⟩,trivial⟩
   ·apply Zu 0xf81f7873e
    ·apply Zu 0x41ef2e7a37e8c
     rotate_left;apply Y 0xf0e;intro hk1 u;exact Zm 0x21e;apply Y 0xb0e;intro hk1 A' c' hcc';exact Zm 0x31e78
    apply Zu 0xb8e7a
    ·apply Zu 0x41ef2e8c
     rotate_left;apply Y 0xf0e;intro hk1 u;exact Zm 0x21e;apply Y 0xb0e;intro hk1 A' c' hcc';exact Zm 0x31e78
    apply Zu 0x41e
    rotate_left;apply Y 0xf0e;intro hk1 u;exact Zm 0x21e;apply Y 0xb0e;intro hk1 A' c' hcc';exact Zm 0x31e8c16e78
   apply Zu 0x7e0f7a
   ·apply Zu 0xb8e7873e
    ·apply Zu 0x41ef2e8c
     rotate_left;apply Y 0xf0e;intro hk1 u;exact Zm 0x21e;apply Y 0xb0e;intro hk1 A' c' hcc';exact Zm 0x31e78
    apply Zu 0x41e
    rotate_left;apply Y 0xf0e;intro hk1 u;exact Zm 0x21e;apply Y 0xb0e;intro hk1 A' c' hcc';exact Zm 0x31e8c16e78
   apply Zu 0x41e
   rotate_left;apply Y 0xf0e;intro hk1 u;exact Zm 0x21e;apply Y 0xb0e;intro hk1 A' c' hcc';exact Zm 0x31e8c16e7873e8e0f78
  apply Y 0xa20f;intro A' c' hk1 hcc'
  dsimp only at hk1 hcc' ⊢;apply Y 0xd0e;refine QE.round (i:=(k,A,c)) ((k+1,A',c')) (by exact ⟨by dsimp only;omega,by dsimp only;rw [jO oe,← ka hk];exact hk1,by dsimp only;rw [jO oe,Nat.mul_add,← List.drop_drop];exact hcc'⟩) ou (by exact lk [0] [0,1,2] (hr:=⟨QP,trivial⟩) (hh:=⟨QP,rfl,rfl,trivial⟩))
 apply Y 0x96e66e;obtain rfl:k=9:=oe;rw [wi];exact Zm 0xcd2fd63f
theorem Fe (f:Fl)(a:Fa)(ok:f.Ok)(hh:a.hs.length=f.data.length)(s:Int)(hs:0≤s∧s<(f.data.length:Int))(h8:8≤f.size)(hcap:Caps f a):
    Ctr X 107 [flV f a,.int .i64 s] (flR f a) [] (fun v R' H'=>v=.int .i64 (sE (aX f s))∧R'=[]∧H'=[]):=by
 obtain ⟨os1,os2,on1,on2,owl,odl,orows,ol1,ol2,owear⟩:=ok;have hrow:=orows s.toNat oe;have hcp:=hcap s.toNat oe;refine co Tryz.func107 ?_;intro β;apply Y 0x4a;intro A2;apply Y 0x987c49;intro A5;apply Y 0x6dc3fbfefd3f6f85888e00f;refine L.call (js:=[0]) (js':=[]) (uZ 172 #[ag A5 0] (a.hs.getD s.toNat (none,0)).1 ((f.data.getD s.toNat []).take 8) (a.hs.getD s.toNat (none,0)).2 (Own 3 1 A5 1 1 [.int .i64 (-1)]) (fun p=>aO ((f.data.getD s.toNat []).take 8) 4=true∧p=Own 3 1 A5 1 1 [.int .i64 (ia (b6 ((f.data.getD s.toNat []).take 8) 4):Int)]) (fun p=>aO ((f.data.getD s.toNat []).take 8) 4=false∧p=Own 3 1 A5 1 1 [.int .i64 (-1)]) (fun D=>Jl D A5 _ _ _ (-1) oP oP)) rfl rfl rfl ob ⟨(((((Has.kid 2 rfl oC (s.toNat) oZ).cast (aW _))).take 8).cast (bz _ _)),trivial⟩ rfl ?_;rintro v _ _ ⟨p,rfl,rfl,hp⟩;rw [j9 ob,ly ob] at hp;obtain ⟨n,rfl,rfl,hn⟩:∃ n:Int,p=Own 3 1 A5 1 1 [.int .i64 n]∧v=.bool (aO (f.data.getD s.toNat []) 4)∧(aO (f.data.getD s.toNat []) 4=true→n=(ia (b6 (f.data.getD s.toNat []) 4):Int)):=by
  rcases hp with ⟨⟨hk,rfl⟩,rfl⟩|⟨⟨hk,rfl⟩,rfl⟩
  ·exact ⟨_,rfl,by rw [hk],fun _=>rfl⟩
  exact ⟨_,rfl,by rw [hk],fun h=>by rw [hk] at h;cases h⟩
 apply Zu 0x1a1<;>intro hc14
 ·apply Y 0x44e4c
  unfold sE aX;rw [if_neg (by simpa using hc14)];exact Zm 0x2
 apply Y 0x44ed9156e3c;have hk:aO (f.data.getD s.toNat []) 4=true:=by simpa using hc14
 unfold sE aX;rw [if_pos hk,hn hk];exact Zm 0x2
theorem Hb (A B:Option Addr)(c bc:Nat)(l:List UInt8)(x:UInt8):
    Ctr X 174 [.slice A l.length c,.slice B 1 bc] [Rd A (U8 l),Rd B (U8 [x])] [] (fun v R' H'=>v=.int .i64 ((l.count x:Nat):Int)∧R'=[]∧H'=[]):=by
 refine co Tryz.func174 ?_;intro β;apply Zu 0xece858c9<;>intro
 ·exact Zm 0x18
 apply Zu 0xece85899<;>intro
 ·apply Y 0x2d;refine sp (ae (k:=0) rfl rfl rfl rfl rfl rfl rfl ob (Src.r 1 rfl) Oc) ?_;refine sp (Ev.load rfl rfl rfl (Src.r 1 rfl) (bn Oc)) ?_;refine sp (Bu (fn:=Tryz.f220) Tryz.func220 rfl rfl oa oa rfl (Src.r 0 rfl) rfl) ?_;exact Zm 0x53e8b591
 exact Zm 0x18
theorem DY (A:Option Addr)(c:Nat)(l:List UInt8):
    Ctr X 108 [.slice A l.length c] [Rd A (U8 l)] [] (fun v R' H'=>v=.bool (cH l)∧R'=[]∧H'=[]):=by
 refine co Tryz.func108 ?_;intro β;apply Y 0x3bf9c9;intro A4;apply Y 0x430f;refine al (Hb A A4 c 1 l 255) ?_;apply Y 0x4dd93848a8;rw [← sL,Bool.eq_iff_iff,beq_iff_eq,beq_iff_eq];exact Zm 0x18
theorem MW (A:Option Addr)(c:Nat)(l:List UInt8)(hc:l.length≤c)(hl:30≤l.length):
    Ctr X 109 [.slice A l.length c] [Rd A (U8 l)] [] (fun v R' H'=>v=.tuple #[.agg (List.toArray (st9 ((bX l).getD (List.replicate 9 0)))),.bool (bX l).isSome]∧R'=[]∧H'=[]):=by
 refine co Tryz.func109 ?_;intro β;apply Y 0x987;intro A2;apply Y 0x2d1;refine L.call (js:=[0]) (js':=[]) (uZ 175 #[ag A2 0] A l c (Own 73 9 A2 1 1 (I64 (List.replicate 9 0))) (fun p=>aO l 15=true∧p=Own 73 9 A2 1 1 (I64 (pH (b6 l 15)))) (fun p=>aO l 15=false∧∃ xs:List Int,xs.length=9∧p=Own 73 9 A2 1 1 (I64 xs)) (fun D=>MX D A2 A l c hc hl)) rfl rfl rfl ob hcx rfl ?_;rintro v _ _ ⟨p,rfl,rfl,hp⟩;obtain ⟨ys,hyl,rfl,rfl,hy⟩:∃ ys:List Int,ys.length=9∧p=Own 73 9 A2 1 1 (I64 ys)∧v=.bool (aO l 15)∧(aO l 15=true→ys=pH (b6 l 15)):=by
  rcases hp with ⟨⟨hk,rfl⟩,rfl⟩|⟨⟨hk,xs,hx,rfl⟩,rfl⟩
  ·exact ⟨_,mQ _,rfl,by rw [hk],fun _=>rfl⟩
  exact ⟨xs,hx,rfl,by rw [hk],fun h=>by rw [hk] at h;cases h⟩
 have hall:(I64 ys).all Value.oneCell'=true:=List.all_eq_true.2 (cZ _);apply Zu 0x1a38581<;>intro hc8
 ·have hno:bX l=none:=by unfold bX;rw [if_neg (by simpa using hc8)]
  apply Y 0xcb;refine cN (j:=0) rfl rfl rfl rfl rfl (Nat.zero_lt_succ _) rfl oar ?_;apply Y 0xf9e591;rw [hno];exact Zm 0x53e
 have hk:aO l 15=true:=by simpa using hc8
 have hyes:bX l=some ys:=by unfold bX;rw [if_pos hk,hy hk]
 apply Y 0x3c;refine sp (aa rfl rfl rfl (Src.o 0 rfl) (vs:=I64 ys) (by rw [List.drop_zero,List.take_of_length_le oaC]) oar ob) ?_;refine cN (j:=0) (vs:=I64 ys) rfl rfl rfl hall oar oaC rfl oar ?_;apply Y 0xd81;refine qrt [] [] [_,_] rfl ⟨⟨_,_,0,_,rfl,rfl,Src.o 0 rfl,.inl ⟨rfl,by decide,I64 ys,(by rw [List.drop_zero,List.take_zero,List.nil_append,List.take_append_of_le_length oaC,List.take_of_length_le oaC]),oar,rfl⟩⟩,rfl,trivial⟩ ?_;rw [hyes,← tB (show ((some ys).getD (List.replicate 9 0)).length=9 from hyl)];exact Zm 0x53e
theorem G4 (f:Fl)(a:Fa)(_ok:f.Ok)(_hh:a.hs.length=f.data.length)(y:Ly):
    Ctr X 106 [flV f a,.agg (List.toArray [.int .i64 y.n,.int .i64 y.a,.int .i64 y.b,.int .i64 y.s0,.int .i64 y.s1,.slice y.T y.tn y.tc,.slice y.U y.un y.uc,.slice y.V y.vn y.vc])] (flR f a) [] (fun v R' H'=>v=.bool (cY f y.a y.b)∧R'=[]∧H'=[]):=by
 refine co Tryz.func106 ?_;intro β;apply Y 0x4a;intro A2;apply Y 0x2b;intro A3;apply Y 0xa0e6d7aedb49;refine sq (aC (k:=0) (m:=1) rfl rfl rfl rfl rfl rfl ob (Src.r 0 rfl) Oc rfl) ?_;apply Y 0xa0e50e;refine sq (aC (k:=1) (m:=2) rfl rfl rfl rfl rfl rfl ob (Src.r 0 rfl) Oc rfl) ?_;apply Zu 0x203f482d52e2a50e<;>intro
 ·apply Zu 0xdd0fb8edac<;>intro hg22
  ·have q22:0≤y.a∧0≤y.b:=by simp only [Bool.false_eq_true,if_false] at hg22;split at hg22<;>omega
   apply Zu 0xfd0fb8b961e440eedac<;>intro hg31
   ·have q31:y.a<f.data.length∧y.b<f.data.length:=by simp only [if_true] at hg31;split at hg31<;>omega
    apply Y 0x300f4dd9e8461e440e4
    symm;rw [decide_eq_decide];exact Zm 0x18
   have q31:¬(y.a<f.data.length∧y.b<f.data.length):=by simp only [if_true] at hg31;split at hg31<;>omega
   apply Y 0x300f4dd9389a
   symm;exact Zm 0x2fe
  have q22:¬(0≤y.a∧0≤y.b):=by simp only [Bool.false_eq_true,if_false] at hg22;split at hg22<;>omega
  apply Y 0x300f4dd9389a489a39
  symm;exact Zm 0x2fe
 apply Y 0x300f4dd9389a489aea39
 symm;exact Zm 0x2fe
theorem G6 (f:Fl)(a:Fa)(ok:f.Ok)(hh:a.hs.length=f.data.length)(y:Ly)(hcap:Caps f a):
    Ctr X 64 [flV f a,.agg (List.toArray [.int .i64 y.n,.int .i64 y.a,.int .i64 y.b,.int .i64 y.s0,.int .i64 y.s1,.slice y.T y.tn y.tc,.slice y.U y.un y.uc,.slice y.V y.vn y.vc])] (flR f a) [] (fun v R' H'=>v=.tuple #[.agg (List.toArray [.int .i64 (aN f y.a y.b).sec,.int .i64 (aN f y.a y.b).oth,.int .i64 (aN f y.a y.b).gen,.int .i64 ((aN f y.a y.b).s.getD 0 0),.int .i64 ((aN f y.a y.b).s.getD 1 0),.int .i64 ((aN f y.a y.b).s.getD 2 0),.int .i64 ((aN f y.a y.b).s.getD 3 0),.int .i64 ((aN f y.a y.b).s.getD 4 0),.int .i64 ((aN f y.a y.b).s.getD 5 0),.int .i64 ((aN f y.a y.b).s.getD 6 0),.int .i64 ((aN f y.a y.b).s.getD 7 0),.int .i64 ((aN f y.a y.b).s.getD 8 0),.bool (aN f y.a y.b).found,.int .i64 ((aN f y.a y.b).free:Int),.int .i64 (lgP f y.a y.b:Int),.int .i64 ((aN f y.a y.b).torn:Int)]),.bool (aN f y.a y.b).found]∧R'=[]∧H'=[]):=by
 apply Y 0xe1e;intro hok;obtain ⟨os1,os2,on1,on2,owl,odl,orows,ol1,ol2,owear⟩:=ok;refine co Tryz.func64 ?_;intro β;apply Y 0x4a;intro A2;apply Y 0x2b;intro A3;apply Y 0x98;intro A4;apply Y 0xc3e15e68ebdb90eb1e549;refine al (G4 f a hok hh y) ?_;apply Zu 0x1a13aa8<;>intro hc15
 ·have hno:cY f y.a y.b=false:=by simpa using hc15
  apply Y 0x44ef9e5915bcb;rw [show aN f y.a y.b=lg0 from by unfold aN;rw [if_neg oaA],show lgP f y.a y.b=0 from by unfold lgP;rw [if_neg oaA]];exact Zm 0x2
 have hft0:cY f y.a y.b=true:=by simpa using hc15
 have hft:=eD hft0;have hps:=gr hft0;apply Y 0x892f;intro hrow;apply Y 0x582f;intro hcp;apply Y 0x98faac3fc1e1bc4e811fc0ec4e9d1fc0e3c;intro A6;apply Y 0xda15e7886b;refine al (Fe f a hok hh y.a ⟨hft.2.1,hft.2.2.2.1⟩ oe hcap) ?_;apply Y 0x88bbaba8;refine eK (fun q:Unit=>[(2,ag A2 0),(3,ag A3 0),(4,ag A4 0),(6,ag A6 0)]) (fun q:Unit=>[Rd A3 [.int .i64 y.n,.int .i64 y.a,.int .i64 y.b,.int .i64 y.s0,.int .i64 y.s1,.slice y.T y.tn y.tc,.slice y.U y.un y.uc,.slice y.V y.vn y.vc],Rd A2 (flL f a),Rd a.D (ay a.hs (B8 f.data)),KidsR a.hs (B8 f.data),Rd a.W (I64 f.wear),Rd a.E (Bs f.dead)]) (fun q:Unit=>[Own 128 16 A4 1 1 [.int .i64 0,.int .i64 0,.int .i64 0,.int .i64 0,.int .i64 0,.int .i64 0,.int .i64 0,.int .i64 0,.int .i64 0,.int .i64 0,.int .i64 0,.int .i64 0,.bool false,.int .i64 0,.int .i64 0,.int .i64 0],Own 128 16 A6 1 1 [.int .i64 (aj f y.a y.b).sec,.int .i64 (aj f y.a y.b).oth,.int .i64 (aj f y.a y.b).gen,.int .i64 ((aj f y.a y.b).s.getD 0 0),.int .i64 ((aj f y.a y.b).s.getD 1 0),.int .i64 ((aj f y.a y.b).s.getD 2 0),.int .i64 ((aj f y.a y.b).s.getD 3 0),.int .i64 ((aj f y.a y.b).s.getD 4 0),.int .i64 ((aj f y.a y.b).s.getD 5 0),.int .i64 ((aj f y.a y.b).s.getD 6 0),.int .i64 ((aj f y.a y.b).s.getD 7 0),.int .i64 ((aj f y.a y.b).s.getD 8 0),.bool (aj f y.a y.b).found,.int .i64 ((aj f y.a y.b).free:Int),.int .i64 (ef f:Int),.int .i64 ((aj f y.a y.b).torn:Int)]]) (fun q:Unit=>True) ?_ ?_
 ·apply Y 0xda15e7;refine al (Fe f a hok hh y.b ⟨hft.2.2.1,hft.2.2.2.2.1⟩ oe hcap) ?_;apply Zu 0x791daf91aba8<;>intro hc40
  ·apply Y 0xfdbbbbbb6dada68;refine QE.join (()) Oz (by exact lk [0,1,2,3,4,5] [0,1] (hh:=⟨rfl,(by unfold aj;rw [if_pos hc40];rfl),trivial⟩))
  apply Y 0x5a;refine QE.join (()) Oz (by exact lk [0,1,2,3,4,5] [0,1] (hh:=⟨rfl,(by unfold aj;rw [if_neg hc40];rfl),trivial⟩))
 rintro _ _;apply Zu 0x791da58<;>intro hc51
 ·apply Y 0x44ef9e5915bcb;rw [show aN f y.a y.b=lg0 from by unfold aN;rw [if_pos hft0,if_pos hc51],show lgP f y.a y.b=0 from by unfold lgP;rw [if_pos hft0,if_pos hc51]];exact Zm 0x2
 apply Y 0xba1da5899;refine lp [2,3,4,6,54] [_,_,_,_,_] (fun k:Nat=>[(55,.int .i64 (k:Int))]) (kz [_,_,_,_,_,_]) (fun k=>[Own 128 16 A4 1 1 [.int .i64 0,.int .i64 0,.int .i64 0,.int .i64 0,.int .i64 0,.int .i64 0,.int .i64 0,.int .i64 0,.int .i64 0,.int .i64 0,.int .i64 0,.int .i64 0,.bool false,.int .i64 0,.int .i64 0,.int .i64 0],Own 128 16 A6 1 1 [.int .i64 (bA (f.data.getD (aj f y.a y.b).sec.toNat []) (aj f y.a y.b) (k)).sec,.int .i64 (bA (f.data.getD (aj f y.a y.b).sec.toNat []) (aj f y.a y.b) (k)).oth,.int .i64 (bA (f.data.getD (aj f y.a y.b).sec.toNat []) (aj f y.a y.b) (k)).gen,.int .i64 ((bA (f.data.getD (aj f y.a y.b).sec.toNat []) (aj f y.a y.b) (k)).s.getD 0 0),.int .i64 ((bA (f.data.getD (aj f y.a y.b).sec.toNat []) (aj f y.a y.b) (k)).s.getD 1 0),.int .i64 ((bA (f.data.getD (aj f y.a y.b).sec.toNat []) (aj f y.a y.b) (k)).s.getD 2 0),.int .i64 ((bA (f.data.getD (aj f y.a y.b).sec.toNat []) (aj f y.a y.b) (k)).s.getD 3 0),.int .i64 ((bA (f.data.getD (aj f y.a y.b).sec.toNat []) (aj f y.a y.b) (k)).s.getD 4 0),.int .i64 ((bA (f.data.getD (aj f y.a y.b).sec.toNat []) (aj f y.a y.b) (k)).s.getD 5 0),.int .i64 ((bA (f.data.getD (aj f y.a y.b).sec.toNat []) (aj f y.a y.b) (k)).s.getD 6 0),.int .i64 ((bA (f.data.getD (aj f y.a y.b).sec.toNat []) (aj f y.a y.b) (k)).s.getD 7 0),.int .i64 ((bA (f.data.getD (aj f y.a y.b).sec.toNat []) (aj f y.a y.b) (k)).s.getD 8 0),.bool (bA (f.data.getD (aj f y.a y.b).sec.toNat []) (aj f y.a y.b) (k)).found,.int .i64 ((bA (f.data.getD (aj f y.a y.b).sec.toNat []) (aj f y.a y.b) (k)).free:Int),.int .i64 (ef f:Int),.int .i64 ((bA (f.data.getD (aj f y.a y.b).sec.toNat []) (aj f y.a y.b) (k)).torn:Int)]]) (fun k=>k≤ef f) (fun k=>ef f-k) 0 (Nat.zero_le _) (lk [0,1,2,3,4,5] [0,1]) ?_;intro k hk;apply Zu 0x7920e<;>intro
 ·apply Y 0x451f;intro hkp;apply Y 0x2a2f;intro hsl;apply Y 0x322f;intro hkl;apply Y 0xe42f;intro hpl;apply Y 0x7c3f55e6610f7d3fda1b7c889;refine sp (bw (l:=8+30*k) rfl rfl rfl rfl rfl rfl oe) ?_;refine sp (Ev.cast (u:=.slice (bj (a.hs.getD (aj f y.a y.b).sec.toNat (none,0)).1 (a.hs.getD (aj f y.a y.b).sec.toNat (none,0)).2 (8+30*k) 1) (ck (f.data.getD (aj f y.a y.b).sec.toNat []) k).length ((a.hs.getD (aj f y.a y.b).sec.toNat (none,0)).2-(8+30*k))) (bx (h:=30) rfl rfl rfl rfl rfl rfl oe) (by rw [hsl.1];rfl)) ?_;apply Y 0x2cfe2f549;refine al (DY (bj (a.hs.getD (aj f y.a y.b).sec.toNat (none,0)).1 (a.hs.getD (aj f y.a y.b).sec.toNat (none,0)).2 (8+30*k) 1) ((a.hs.getD (aj f y.a y.b).sec.toNat (none,0)).2-(8+30*k)) (ck (f.data.getD (aj f y.a y.b).sec.toNat []) k)) ?_;apply Zu 0x1a88aba8<;>intro hc70
  ·apply Y 0xe10f6a5de79e;refine QE.round (k+1) oe oe (by exact lk [1,2,3,4,5,6] [0,1] (hh:=⟨rfl,(by rw [bK,xz hc70];rfl),trivial⟩))
  apply Y 0xf988bbcaf999;refine al (MW (bj (a.hs.getD (aj f y.a y.b).sec.toNat (none,0)).1 (a.hs.getD (aj f y.a y.b).sec.toNat (none,0)).2 (8+30*k) 1) ((a.hs.getD (aj f y.a y.b).sec.toNat (none,0)).2-(8+30*k)) (ck (f.data.getD (aj f y.a y.b).sec.toNat []) k) oe oe) ?_;apply Y 0x98b8aba8;intro A10;apply Zu 0x1ac9132e<;>intro hc79
  ·obtain ⟨s1,hs1⟩:=Option.isSome_iff_exists.1 hc79;apply Y 0xd0efdbb6b91ec80f68;refine QE.round (k+1) oe oe (by exact lk [1,2,3,4,5,6] [0,1] (hh:=⟨rfl,(by rw [bK,xx hc70 hs1,hs1];rfl),trivial⟩))
  apply Y 0xd0efdbbcada68;refine QE.round (k+1) oe oe (by exact lk [1,2,3,4,5,6] [0,1] (hh:=⟨rfl,(by rw [bK,xw hc70 (Option.not_isSome_iff_eq_none.1 (by rw [hc79];exact Bool.false_ne_true))];rfl),trivial⟩))
 apply Y 0xa93f9d0f5a9;refine mq 1 rfl (faR 6) ?_;refine mq 2 rfl (ldR 6) ?_;apply Y 0xf9ed86a6ceae695bc9e;obtain rfl:k=ef f:=oe;apply Y 0x44e;rw [show aN f y.a y.b=(bA (f.data.getD (aj f y.a y.b).sec.toNat []) (aj f y.a y.b) (ef f)) from by unfold aN aX;rw [if_pos hft0,if_neg hc51],show lgP f y.a y.b=ef f from by unfold lgP;rw [if_pos hft0,if_neg hc51]];exact Zm 0x2
end Go.Proofs.YtbpddeiogcgegaaGreat
