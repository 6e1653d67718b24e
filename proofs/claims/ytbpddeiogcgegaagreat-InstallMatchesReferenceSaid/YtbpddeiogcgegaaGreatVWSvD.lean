/-
  Part of a proof.
-/
import Derived.Test.YtbpddeiogcgegaaGreatVWSvA
set_option maxHeartbeats 0
set_option maxRecDepth 4000
set_option linter.all false
namespace Go.Proofs.YtbpddeiogcgegaaGreat
open Go.Sl
theorem Ix {x:UInt8}{a b:List UInt8}{k:Nat}(h:k<(aE a b a.length).length):U8 (iN x a (aE a b a.length) k)++U8 (tw ((aE a b a.length).getD k (0,0)).1)++U8 (tw (((aE a b a.length).getD k (0,0)).2-((aE a b a.length).getD k (0,0)).1))++U8 ((a.drop ((aE a b a.length).getD k (0,0)).1).take (((aE a b a.length).getD k (0,0)).2-((aE a b a.length).getD k (0,0)).1))=U8 (iN x a (aE a b a.length) (k+1)):=by
 rw [b9,b9,b9,nS h]
theorem CI {x:UInt8}{a b:List UInt8}{k:Nat}(h:k<(aE a b a.length).length):(iN x a (aE a b a.length) k).length+2+2+(((aE a b a.length).getD k (0,0)).2-((aE a b a.length).getD k (0,0)).1)=(iN x a (aE a b a.length) (k+1)).length:=by
 have hr:=fh h;rw [← nS h]
 simp only [List.length_append,List.length_take,List.length_drop,tw,List.length_cons,List.length_nil];exact Zm 0x18
theorem BQ (n:Nat)(_hn:n≤1000000):
    Ctr X 229 [.int .i64 (n:Int)] [] [] (fun v R' H'=>∃ A,v=.slice A 2 2∧R'=[]∧H'=[Own 5 1 A 2 2 (U8 (tw n))]):=by
 refine co Tryz.func229 ?_;intro β;apply Y 0xf9c9;refine sp (Ev.shr rfl rfl ob) ?_;apply Y 0x3b4ee64ee;intro A8;apply Y 0x11ed81;refine ⟨A8,rfl,rfl,?_⟩;rw [show tw n=[UInt8.ofInt ((n:Int).fdiv (2^8)),UInt8.ofInt (n:Int)] from by rw [L0,gu];rfl];exact Zm 0x2
theorem lL (n:Nat)(hn:n≤1000000):
    Ctr X 159 [.int .i64 (n:Int)] [] [] (fun v R' H'=>∃ A,v=.slice A 2 2∧R'=[]∧H'=[Own 5 1 A 2 2 (U8 (tw n))]):=by
 refine co Tryz.func159 ?_;intro β;apply Y 0xf9c9;refine sp (Ev.quo rfl rfl oe oe oe) ?_;apply Y 0x64ee;refine sp (Ev.rem rfl rfl oe oe) ?_;apply Y 0x3b4ee;intro A9;apply Y 0x11ed81;refine ⟨A9,rfl,rfl,?_⟩;rw [show tw n=[UInt8.ofInt ((n:Int)/256),UInt8.ofInt ((n:Int)%256)] from by rw [H5,H4];rfl];exact Zm 0x2
theorem jS (A:Option Addr)(l:List UInt8)(c at_:Nat)(hl:l.length≤9223372036854775807)(ha:at_≤1000000):
    Ctr X 155 [.slice A l.length c,.int .i64 (at_:Int)] [Rd A (U8 l)] [] (fun v R' H'=>v=.int .i64 (cV l at_)∧R'=[]∧H'=[]):=by
 refine co Tryz.func155 ?_;intro β;apply Zu 0x79e8ca658c9<;>intro
 ·apply Y 0x4c;exact ⟨congrArg (Value.int .i64) (if_neg oe).symm,rfl,rfl⟩
 apply Y 0x9d;have hb0:=ns (l.getD at_ 0);have hb1:=ns (l.getD (at_+1) 0);apply Y 0x2a6d;refine sq (ae (k:=at_) rfl rfl rfl rfl rfl rfl rfl oe (Src.r 0 rfl) oI) ?_;apply Y 0x190faae;refine sq (Ev.mul rfl rfl oe oe) ?_;apply Y 0xdce2a;refine sq (ae (k:=(at_+1)) rfl rfl rfl rfl rfl rfl oe oe (Src.r 0 rfl) oI) ?_;apply Y 0xffed980edce190faae
 unfold cV;apply Y 0x890f
 exact C7 l at_
theorem Cc (A:Option Addr)(l:List UInt8)(c:Nat)(hl:0<l.length):
    Ctr X 192 [.slice A l.length c] [Rd A (U8 l)] [] (fun v R' H'=>v=.int .i64 ((l.getD 0 0).toNat:Int)∧R'=[]∧H'=[]):=by
 refine co Tryz.func192 ?_;intro β;apply Y 0xf9c9;refine sp (ae (k:=0) rfl rfl rfl rfl rfl rfl rfl hl (Src.r 0 rfl) (by rw [aG];exact hl)) ?_;refine sp (Ev.load rfl rfl rfl (Src.r 0 rfl) (bn hl)) ?_;exact Zm 0x53ed919fe
theorem kj (SA SB:Option Addr)(a b:List UInt8)(ca cb:Nat)(hab:a.length=b.length)(hal:a.length≤100000):
    Ctr X 135 [.slice SA a.length ca,.slice SB b.length cb] [Rd SA (U8 a),Rd SB (U8 b)] [] (fun v R' H'=>∃ (O:Option Addr) (c:Nat),v=.slice O (aE a b a.length).length c∧R'=[]∧H'=[Own 223 2 O (aE a b a.length).length c (a7 (aE a b a.length))]):=by
 refine co Tryz.func135 ?_;intro β;apply Y 0x7c9;refine Bd rfl rfl rfl rfl (fun A8=>?_);apply Y 0xad49;refine lp [] [] (fun q:Nat×Option Addr×Nat=>[(0,.slice SA a.length ca),(1,.slice SB b.length cb),(5,.slice q.2.1 (aE a b q.1).length q.2.2),(6,.int .i64 (q.1:Int))]) (kz [_,_]) (fun q=>[Own 223 2 q.2.1 (aE a b q.1).length q.2.2 (a7 (aE a b q.1))]) (fun q=>q.1≤a.length) (fun q=>a.length-q.1) (0,A8,0) (Nat.zero_le _) (lk [0,1] [0]) ?_;apply Y 0x72e;intro k O c hk
 dsimp only at hk ⊢;apply Y 0x55;have hcl:=fg a b k;apply Zu 0xe99c<;>intro
 ·apply Zu 0xec80efe1fce1f2aaae290f2a6d5589<;>intro hc23
  ·apply Y 0x400f6a5de79e;have e1:aE a b (k+1)=aE a b k:=by rw [aE,if_pos (dN.1 hc23)]
   refine QE.round (i:=(k,O,c)) ((k+1,O,c)) ou ou (by exact lk [0,1] [0] ⟨rfl,rfl,(by dsimp only;rw [e1];rfl),rfl,trivial⟩ (hh:=⟨(by dsimp only;rw [e1];rfl),trivial⟩))
  apply Zu 0xf71fb87e83c<;>intro
  ·apply Y 0x4ec3f42d3f4c1eed;refine sp (Ev.load rfl rfl rfl (Src.o 0 rfl) (bI (aE a b k) ((aE a b k).length-1) 1 oe ob)) ?_;apply Zu 0xec38b9<;>intro hc37
   ·apply Y 0xec3f2d3fca6c1e9c;refine L.store (j:=0) rfl rfl rfl rfl rfl rfl rfl (by exact bI (aE a b k) ((aE a b k).length-1) 1 oe ob) ?_;apply Y 0x8afd;have e1:aE a b (k+1)=(aE a b k).set ((aE a b k).length-1) (((aE a b k).getD ((aE a b k).length-1) (0,0)).1,k+1):=by rw [aE,if_neg (fun e=>hc23 (dN.2 e)),xr oe (by exact Int.ofNat.inj hc37)]
    have e2:(aE a b (k+1)).length=(aE a b k).length:=by rw [e1,List.length_set]
    refine QE.round (i:=(k,O,c)) ((k+1,O,c)) ou ou (by exact lk [0,1] [0] ⟨rfl,rfl,obl,rfl,trivial⟩ (hh:=⟨(congrArg some (ax e2.symm (by dsimp only;rw [e1];exact ie _ _ (k+1) oe))),trivial⟩))
   apply Y 0xf13ffacab868;intro A50;apply Y 0xbf2f;intro A51 cc51;apply Y 0x8ad1e;have hst:(aE a b k).length=0∨((aE a b k).getD ((aE a b k).length-1) (0,0)).2≠k:=.inr (fun e=>hc37 (congrArg Int.ofNat e));apply Y 0xc32f;intro e1;apply Y 0x712f;intro e2;exact Zm 0x473f
  apply Y 0x13939;refine C.cond rfl (fun h=>by cases h) (fun _=>?_);apply Y 0xf13ffacab868;intro A50;apply Y 0xbf2f;intro A51 cc51;apply Y 0x8ad1e;have hst:(aE a b k).length=0∨((aE a b k).getD ((aE a b k).length-1) (0,0)).2≠k:=.inl oe;apply Y 0xc32f;intro e1;apply Y 0x712f;intro e2;exact Zm 0x473f
 apply Y 0x11ed8c8a9;obtain rfl:k=a.length:=oe;exact Zm 0x260f
theorem CH (sec:Int)(SA SB:Option Addr)(a b:List UInt8)(ca cb:Nat)(hca:a.length≤ca)(_hal:a.length≤9223372036854775807)(hbl:b.length≤9223372036854775807):
    Ctr X 189 [.int .i64 sec,.slice SA a.length ca,.slice SB b.length cb] [Rd SA (U8 a),Rd SB (U8 b)] [] (fun v R' H'=>∃ (A:Option Addr) (c:Nat),v=.tuple #[.slice A (gT sec a b).length c,.int .i64 (HS sec a b)]∧R'=[]∧H'=[Own 5 1 A (gT sec a b).length c (U8 (gT sec a b))]):=by
 refine co Tryz.func189 ?_;intro β;apply Zu 0x771fb858c8<;>intro
 ·apply Y 0x19a489a48cdeadd;refine C.cond rfl (fun _=>?_) (fun h=>by cases h);apply Y 0x8bea2e63e59c8;intro hB;exact Zm 0xece
 apply Zu 0xc71fb8b9<;>intro
 ·apply Y 0x19a489a481d;refine C.cond rfl (fun _=>?_) (fun h=>by cases h);apply Y 0x8bea2e63e59c8;intro hB;exact Zm 0xece
 apply Zu 0x703fb8edacac<;>intro
 ·apply Y 0x19a489a;refine C.cond rfl (fun _=>?_) (fun h=>by cases h);apply Y 0x8bea2e63e59c8;intro hB;exact Zm 0xece
 apply Zu 0x281fb8ed<;>intro
 ·apply Y 0x19a;refine C.cond rfl (fun _=>?_) (fun h=>by cases h);apply Y 0x8bea2e63e59c8;intro hB;exact Zm 0xece
 apply Zu 0xe9ed<;>intro
 ·apply Y 0x8bea2e63e59c8;intro hB;exact Zm 0xece
 apply Y 0xf52f9d;intro hB;apply Y 0xea0f;intro hcl;apply Y 0x9c;refine al (pU SA SB a b ca cb oe oe) ?_;apply Y 0x19;intro O oc;apply Y 0x3b4ee2c7ae49;intro A40;apply Y 0x48;refine al (BQ (aE a b a.length).length oe) ?_;apply Y 0x71e;intro A43;apply Y 0xc00f;intro A44 cc44;apply Y 0xbae8581;refine lp [] [] (fun q:Nat×Option Addr×Nat=>[(1,.slice SA a.length ca),(9,.slice q.2.1 (iN (UInt8.ofInt sec) a (aE a b a.length) q.1).length q.2.2),(45,.slice O (aE a b a.length).length oc),(46,.int .i64 ((aE a b a.length).length:Int)),(47,.int .i64 (q.1:Int))]) (kz [_,_,_]) (fun q=>[Own 5 1 q.2.1 (iN (UInt8.ofInt sec) a (aE a b a.length) q.1).length q.2.2 (U8 (iN (UInt8.ofInt sec) a (aE a b a.length) q.1))]) (fun q=>q.1≤(aE a b a.length).length) (fun q=>(aE a b a.length).length-q.1) (0,A44,cc44) (Nat.zero_le _) (lk [0,1,2] [1]) ?_;apply Y 0x72e;intro k A c hk
 dsimp only at hk ⊢;apply Y 0xe92f;intro hpl;apply Y 0xd92f;intro hpe;apply Zu 0x7920e<;>intro
 ·apply Y 0x242f;intro hk2;have hr:=fh hk2;apply Y 0x511f789;refine sp (aa (k:=k*2) rfl rfl rfl (Src.r 0 rfl) (rangesV_at (aE a b a.length) k hk2) rfl ob) ?_;apply Y 0x98;intro A11;apply Y 0xdaf9886b;refine al (BQ ((aE a b a.length).getD k (0,0)).1 oe) ?_;apply Y 0x71e;intro A54;apply Y 0xc00f;intro A55 cc55;apply Y 0xdb3f7ee46e7ee46ef91;refine al (BQ (((aE a b a.length).getD k (0,0)).2-((aE a b a.length).getD k (0,0)).1) oe) ?_;apply Y 0x71e;intro A62;apply Y 0xff2f;intro A63 cc63;apply Y 0xa14f8ee73e8ee73e9c1;refine L.append (j:=2) rfl rfl rfl rfl ob rfl rfl rfl rfl (Src.cast (Src.take (Src.sub (Src.r 1 rfl) ca ((aE a b a.length).getD k (0,0)).1 1 oI) (((aE a b a.length).getD k (0,0)).2-((aE a b a.length).getD k (0,0)).1)) QZ) Qk (bN _) oe oJ rfl (fun A71 cc71=>?_);apply Y 0xd0ed1e;refine QE.round (i:=(k,A,c)) ((k+1,A71,cc71)) ou ou (by exact lk [0,1,2] [2] ⟨rfl,(by dsimp only;rw [← CI hk2];rfl),rfl,rfl,rfl,trivial⟩ (hh:=⟨(congrArg some (ax (CI hk2) (Ix hk2))),trivial⟩))
 apply Y 0x5c3fb87a9;refine al (BQ ((iN (UInt8.ofInt sec) a (aE a b a.length) k).length+2) oe) ?_;apply Y 0x71e;intro A77;apply Y 0xc00f;intro A78 cc78;apply Y 0xe8ed838;obtain rfl:k=(aE a b a.length).length:=oe;refine ⟨A78,cc78,?_,rfl,?_⟩
 ·rw [rM hB,jC hB]
  unfold EM;exact Zm 0x27f1f
 rw [jC hB]
 unfold EM;rw [← b9,List.length_append];exact Zm 0x2
theorem vT (sec:Int)(SA SB:Option Addr)(a b:List UInt8)(ca cb:Nat)(hca:a.length≤ca)(_hal:a.length≤9223372036854775807)(hbl:b.length≤9223372036854775807):
    Ctr X 97 [.agg (List.toArray [.int .i64 sec,.slice SA a.length ca,.slice SB b.length cb])] [Rd SA (U8 a),Rd SB (U8 b)] [] (fun v R' H'=>∃ (A:Option Addr) (c:Nat),v=.tuple #[.slice A (gT sec a b).length c,.int .i64 (HS sec a b)]∧R'=[]∧H'=[Own 5 1 A (gT sec a b).length c (U8 (gT sec a b))]):=by
 refine co Tryz.func97 ?_;intro β;apply Y 0x4a;intro A1;apply Zu 0xcd0f48f87c5538<;>intro
 ·apply Y 0x1eaea9aea9a;refine C.cond rfl (fun _=>?_) (fun h=>by cases h);apply Y 0x8bea2e63e59c8;intro hB;exact Zm 0xece
 apply Zu 0x871fb841c<;>intro
 ·apply Y 0x1eaea9a39;refine C.cond rfl (fun _=>?_) (fun h=>by cases h);apply Y 0x8bea2e63e59c8;intro hB;exact Zm 0xece
 apply Y 0xb8b9b2eb91c;refine L.bool 24 rfl (imp ky ?_) (imp kA ?_)<;>intro
 ·apply Y 0x1ea39;refine C.cond rfl (fun _=>?_) (fun h=>by cases h);apply Y 0x8bea2e63e59c8;intro hB;exact Zm 0xece
 apply Zu 0x281fb8b91c<;>intro
 ·apply Y 0x139;refine C.cond rfl (fun _=>?_) (fun h=>by cases h);apply Y 0x8bea2e63e59c8;intro hB;exact Zm 0xece
 apply Zu 0xe9b91c<;>intro
 ·apply Y 0x8bea2e63e59c8;intro hB;exact Zm 0xece
 apply Y 0xf52f9d;intro hB;apply Y 0xea0f;intro hcl;apply Y 0xf8f868;refine al (kj SA SB a b ca cb oe oe) ?_;apply Y 0x19;intro O oc;apply Y 0x7ae49;refine C.join (fun q:Option Addr×Nat=>[(1,ag A1 0),(4,.slice O (aE a b a.length).length oc),(5,.slice q.1 (iN (UInt8.ofInt sec) a (aE a b a.length) 0).length q.2)]) (fun q:Option Addr×Nat=>[Rd O (a7 (aE a b a.length)),Rd A1 [.int .i64 sec,.slice SA a.length ca,.slice SB b.length cb],Rd SA (U8 a),Rd SB (U8 b)]) (fun q:Option Addr×Nat=>[Own 5 1 q.1 (iN (UInt8.ofInt sec) a (aE a b a.length) 0).length q.2 (U8 (iN (UInt8.ofInt sec) a (aE a b a.length) 0))]) (fun q:Option Addr×Nat=>True) ?_ ?_
 ·apply Y 0xf61f;refine mq 0 rfl (faR 1) ?_;refine mq 1 rfl (ldR 1) ?_;apply Zu 0x923f36e9aee93f
  ·apply Y 0x3b;intro A44;apply Y 0x71e193f45e3;intro A47;apply Y 0xc00fd6e69;intro A48 cc48;exact Zm 0x463f6ce6e3
  apply Y 0x71e193f;intro A47;apply Y 0x3bc9e3;intro A44;apply Y 0xc00fd6e69;intro A48 cc48;exact Zm 0x463f6ce6e3
 rintro ⟨A48,cc48⟩ _;apply Y 0xad56a84e;refine lp [] [] (fun q:Nat×Option Addr×Nat=>[(1,ag A1 0),(4,.slice O (aE a b a.length).length oc),(5,.slice q.2.1 (iN (UInt8.ofInt sec) a (aE a b a.length) q.1).length q.2.2),(6,.int .i64 (q.1:Int))]) (kz [_,_,_,_]) (fun q=>[Own 5 1 q.2.1 (iN (UInt8.ofInt sec) a (aE a b a.length) q.1).length q.2.2 (U8 (iN (UInt8.ofInt sec) a (aE a b a.length) q.1))]) (fun q=>q.1≤(aE a b a.length).length) (fun q=>(aE a b a.length).length-q.1) (0,A48,cc48) (Nat.zero_le _) (lk [0,1,2,3] [0]) ?_;apply Y 0x72e;intro k A c hk
 dsimp only at hk ⊢;apply Y 0xe92f;intro hpl;apply Y 0xd92f;intro hpe;apply Zu 0xe9bd<;>intro
 ·apply Y 0x242f;intro hk2;have hr:=fh hk2;apply Y 0xee3f3d1f511fb8789;refine al (lL ((aE a b a.length).getD k (0,0)).1 oe) ?_;apply Y 0x71e;intro A61;apply Y 0xc00f;intro A62 cc62;apply Y 0xdde3beb3ef61f49;refine mq 3 rfl (cf (k:=k) (m:=k*2) rfl rfl rfl rfl rfl rfl hk2 (Src.r 0 rfl) (bC hk2) rfl) ?_;refine mq 4 rfl (Ev.fieldAddr rfl rfl rfl rfl rfl rfl (Src.r 0 rfl) (bC hk2) rfl) ?_;refine mq 5 rfl (Ev.load rfl rfl rfl (Src.r 0 rfl) ((bI (aE a b a.length) k 1 hk2 ob).trans rfl)) ?_;apply Y 0xe3e3db3fb4e3ee3f57e33d1ff6e3511f54e3634ee9e;refine al (lL (((aE a b a.length).getD k (0,0)).2-((aE a b a.length).getD k (0,0)).1) oe) ?_;apply Y 0x71e;intro A75;apply Y 0xff2fc8e69;intro A76 cc76;apply Y 0x9aeede6ce4beb3ef61f6a6c42e3;refine mq 5 rfl (cf (k:=k) (m:=k*2) rfl rfl rfl rfl rfl rfl hk2 (Src.r 0 rfl) (bC hk2) rfl) ?_;refine mq 6 rfl (Ev.fieldAddr rfl rfl rfl rfl rfl rfl (Src.r 0 rfl) (bC hk2) rfl) ?_;refine mq 7 rfl (Ev.load rfl rfl rfl (Src.r 0 rfl) ((bI (aE a b a.length) k 0 hk2 ob).trans rfl)) ?_;apply Y 0xe3e33d1fb4e3511f57e36f6e67e;refine sp (Ev.load rfl rfl rfl (Src.r 0 rfl) ((bI (aE a b a.length) k 1 hk2 ob).trans rfl)) ?_;apply Y 0x42e69a14fa5e3;refine L.append (j:=2) rfl rfl rfl rfl ob rfl rfl rfl rfl (Src.cast (Src.take (Src.sub (Src.r 2 rfl) ca ((aE a b a.length).getD k (0,0)).1 1 oI) (((aE a b a.length).getD k (0,0)).2-((aE a b a.length).getD k (0,0)).1)) QZ) Qk (bN _) oe oJ rfl (fun A91 cc91=>?_);apply Y 0x8a6cebe3;refine QE.round (i:=(k,A,c)) ((k+1,A91,cc91)) ou ou (by exact lk [0,1,2,3] [2] ⟨rfl,rfl,(by dsimp only;rw [← CI hk2];rfl),rfl,trivial⟩ (hh:=⟨(congrArg some (ax (CI hk2) (Ix hk2))),trivial⟩))
 apply Y 0x5c3fb87a9;refine al (lL ((iN (UInt8.ofInt sec) a (aE a b a.length) k).length+2) oe) ?_;apply Y 0x71e;intro A96;apply Y 0xc00f;intro A97 cc97;apply Y 0xe8ed838;obtain rfl:k=(aE a b a.length).length:=oe;refine ⟨A97,cc97,?_,rfl,?_⟩
 ·rw [rM hB,jC hB]
  unfold EM;exact Zm 0x27f1f
 rw [jC hB]
 unfold EM;rw [← b9,List.length_append];exact Zm 0x2
theorem yf (x y:UInt8)(k n:Nat)(h:k<n):(List.replicate k x++List.replicate (n-k) y).set k x=List.replicate (k+1) x++List.replicate (n-(k+1)) y:=by
 obtain ⟨m,rfl⟩:∃ m,n=k+1+m:=⟨n-(k+1),by omega⟩;rw [show k+1+m-k=m+1 from by omega,show k+1+m-(k+1)=m from by omega,List.set_append_right _ _ oS,List.replicate_succ (n:=m)]
 simp [List.replicate_succ']
theorem PN (a lo hi:Int):
    Ctr X 99 [.int .i64 a,.int .i64 lo,.int .i64 hi] [] [] (fun v R' H'=>v=.bool (decide (lo≤a)&&decide (a≤hi))∧R'=[]∧H'=[]):=by
 refine co Tryz.func99 ?_;intro β;apply Zu 0xcd0f482dc9<;>intro hg10
 ·apply Y 0x44ed9e8ed
  simp [tup,hg10]
  try omega
 apply Y 0x44ed9389a
 simp [tup,hg10]
 try omega
theorem sT (n:Nat)(hn:n≤1000000):
    Ctr X 31 [.int .i64 (n:Int)] [] [] (fun v R' H'=>∃ A,v=.slice A n n∧R'=[]∧H'=[Own 5 1 A n n (U8 (List.replicate n 255))]):=by
 refine co Tryz.func31 ?_;intro β;apply Y 0xc81ff9c9;intro A6;apply Y 0xad49;refine lp [0,3] [_,_] (fun k:Nat=>[(4,.int .i64 (k:Int))]) nz (fun k=>[Own 5 1 A6 n n (U8 (List.replicate k 255++List.replicate (n-k) 0))]) (fun k=>k≤n) (fun k=>n-k) 0 oe (by exact lk [] [0] (hh:=⟨(by simp [U8,ti5]),trivial⟩)) ?_;intro k hk;apply Zu 0x79e858<;>intro
 ·apply Y 0x9c89;refine sp (ae (k:=k) rfl rfl rfl rfl rfl rfl rfl oe (Src.o 0 rfl) (by rw [aG];simp;omega)) ?_;refine L.store (j:=0) (v:=.int .u8 ((255:UInt8).toNat:Int)) rfl rfl rfl rfl rfl rfl rfl (bn qb) ?_;apply Y 0x8afd;refine QE.round (k+1) oe oe (by exact lk [] [0] (hh:=⟨(by simp only [List.set_cons_zero,List.getElem?_cons_zero];rw [im];congr 3;exact yf _ _ k n oe),trivial⟩))
 apply Y 0x11ed8c8a9;obtain rfl:k=n:=oe;refine ⟨A6,rfl,rfl,?_⟩
 simp [sel]
def flO (f:Fl)(a:Fa):List Pr:=[Own 24 1 a.D f.data.length a.cD (ay a.hs (B8 f.data)),au 5 a.hs (B8 f.data),Own 3 1 a.W f.wear.length a.cW (I64 f.wear),Own 4 1 a.E f.dead.length a.cE (Bs f.dead)]
def flR (f:Fl)(a:Fa):List Pr:=[Rd a.D (ay a.hs (B8 f.data)),KidsR a.hs (B8 f.data),Rd a.W (I64 f.wear),Rd a.E (Bs f.dead)]
def fl0 (s m:Nat)(l:Int):Fl:=⟨s,List.replicate m (List.replicate s 255),List.replicate m 0,l,List.replicate m false⟩
def okR (z:Int)(f:Fl)(i:Nat):Bool:=decide (((f.data.getD i []).length:Int)=z∧0≤f.wear.getD i 0∧f.wear.getD i 0≤f.limit)
def okB (z:Int)(f:Fl):Bool:=decide (1≤z∧z≤4096∧1≤f.limit∧f.limit≤100000∧1≤f.data.length∧f.data.length≤64∧f.wear.length=f.data.length∧f.dead.length=f.data.length)&&(List.range f.data.length).all (okR z f)
theorem IR {z:Int}{f:Fl}(h:¬ (1≤z∧z≤4096∧1≤f.limit∧f.limit≤100000∧1≤f.data.length∧f.data.length≤64∧f.wear.length=f.data.length∧f.dead.length=f.data.length)):okB z f=false:=by unfold okB;rw [decide_eq_false h];rfl
theorem zc {z:Int}{f:Fl}{k:Nat}(hk:k<f.data.length)(h:okR z f k=false):okB z f=false:=by
 unfold okB;rw [Bool.and_eq_false_iff];refine .inr (List.all_eq_false.2 ⟨k,by simpa using hk,by simp [h]⟩)
theorem r5 {z:Int}{f:Fl}(h:1≤z∧z≤4096∧1≤f.limit∧f.limit≤100000∧1≤f.data.length∧f.data.length≤64∧f.wear.length=f.data.length∧f.dead.length=f.data.length)(hr:∀ i,i<f.data.length→okR z f i=true):okB z f=true:=by
 unfold okB;rw [decide_eq_true h,Bool.true_and,List.all_eq_true]
 exact fun i hi=>hr i (by simpa using hi)
theorem zb {z:Int}{f:Fl}{k:Nat}(h1:((f.data.getD k []).length:Int)=z)(h2:0≤f.wear.getD k 0∧f.wear.getD k 0≤f.limit):okR z f k=true:=decide_eq_true ⟨h1,h2⟩
theorem EZ {z:Int}{f:Fl}{k:Nat}(h:¬ (((f.data.getD k []).length:Int)=z∧0≤f.wear.getD k 0∧f.wear.getD k 0≤f.limit)):okR z f k=false:=decide_eq_false h
theorem xe (z:Int)(f:Fl)(a:Fa)(hh:a.hs.length=f.data.length)(hn:f.data.length≤9223372036854775807):
    Ctr X 62 [.agg (List.toArray [.int .i64 z,.slice a.D f.data.length a.cD,.slice a.W f.wear.length a.cW,.int .i64 f.limit,.slice a.E f.dead.length a.cE])] (flR f a) [] (fun v R' H'=>v=.bool (okB z f)∧R'=[]∧H'=[]):=by
 refine co Tryz.func62 ?_;intro β;apply Y 0x4a;intro A1;apply Y 0x48a8a9ef85838f87c49;refine L.bool 12 rfl ?_ ?_<;>intro hg12
 ·have q12:¬(1≤z∧z≤4096):=by simp at hg12;omega
  apply Y 0x1cdeacdea9a4839;refine C.cond rfl (fun _=>?_) (fun h=>by cases h);exact Zm 0x49ee5e4c
 have q12:1≤z∧z≤4096:=by simp at hg12;omega
 apply Y 0xb84a8a9e41c;refine L.bool 18 rfl ?_ ?_<;>intro hg18
 ·have q18:¬(1≤f.limit∧f.limit≤100000):=by simp at hg18;omega
  apply Y 0x1cdeacdea9a;refine C.cond rfl (fun _=>?_) (fun h=>by cases h);exact Zm 0x49ee5e4c
 have q18:1≤f.limit∧f.limit≤100000:=by simp at hg18;omega
 apply Y 0xb84a8a9eb9;refine L.bool 23 rfl ?_ ?_<;>intro hg23
 ·have q23:¬(1≤(f.data.length:Int)∧(f.data.length:Int)≤64):=by simp at hg23;omega
  apply Y 0x1cdea1d;refine C.cond rfl (fun _=>?_) (fun h=>by cases h);exact Zm 0x49ee5e4c
 have q23:1≤(f.data.length:Int)∧(f.data.length:Int)≤64:=by simp at hg23;omega
 apply Y 0xb8ed1c;refine L.bool 30 rfl (imp ky ?_) (imp kA ?_)<;>intro
 ·apply Y 0x11d;refine C.cond rfl (fun _=>?_) (fun h=>by cases h);exact Zm 0x49ee5e4c
 apply Zu 0x5d38ed1c<;>intro
 ·exact Zm 0x49ee5e4c
 apply Y 0xad9d;refine lp [0,1,3] [_,_,_] (fun k:Nat=>[(4,.int .i64 (k:Int))]) (kz [_,_,_,_,_]) nz (fun k=>k≤f.data.length∧∀ i,i<k→okR z f i=true) (fun k=>f.data.length-k) 0 ⟨by omega,fun i h=>absurd h (Nat.not_lt_zero i)⟩ (lk [0,1,2,3,4] []) ?_;apply Y 0xa1e;intro k hk hr;apply Zu 0x79e858<;>intro
 ·apply Y 0xfc50ea0e6d589;refine sq (ae (k:=k) rfl rfl rfl rfl rfl rfl rfl oe (Src.r 1 rfl) ow) ?_;apply Zu 0xa53f2a50ea0efc724f<;>intro
  ·apply Y 0x80ee4efbfb;refine C.cond rfl (fun _=>?_) (fun h=>by cases h);exact Zm 0xdc0fe5e8bdc70e
  have q51:0=0:=rfl;apply Y 0x2850e28a0e282f1f28de1f283d50e28a0e28;refine LQ.call (.bool _) (PN _ _ _) (fun _ _ _ h=>h.1) rfl trivial rfl ?_;apply Zu 0x1a52e2a28<;>intro hc61
  ·apply Y 0xe5e8bdc70e
   exact zc (k:=k) oe (EZ (by simp [-List.getD_eq_getElem?_getD] at hc61;omega))
  apply Y 0x973f8a5a;refine ⟨by omega,fun i hi=>?_⟩
  by_cases hik:i<k
  ·exact hr i hik
  obtain rfl:i=k:=oe
  exact zb oe (by simp [-List.getD_eq_getElem?_getD] at hc61;omega)
 apply Y 0xe5ed9c9a9
 exact r5 oe (fun i hi=>hr i oe)
theorem FD (z:Int)(f:Fl)(a:Fa)(hh:a.hs.length=f.data.length)(hn:f.data.length≤9223372036854775807):
    Ctr X 58 [.agg (List.toArray [.int .i64 z,.slice a.D f.data.length a.cD,.slice a.W f.wear.length a.cW,.int .i64 f.limit,.slice a.E f.dead.length a.cE])] (flR f a) [] (fun v R' H'=>v=.bool (okB z f)∧R'=[]∧H'=[]):=by
 refine co Tryz.func58 ?_;intro β;apply Y 0x4a;intro A1;apply Y 0x48f85838f87c49;refine L.bool 12 rfl (imp of_decide_eq_true ?_) (imp of_decide_eq_false ?_)<;>intro
 ·apply Y 0x1cdeacdeadd48dd489a489a489a;refine C.cond rfl (fun _=>?_) (fun h=>by cases h);exact Zm 0x49ee5e4c
 apply Zu 0x303fb841c<;>intro
 ·apply Y 0x1cdeacdeadd48dd489a489a;refine C.cond rfl (fun _=>?_) (fun h=>by cases h);exact Zm 0x49ee5e4c
 apply Zu 0xdd0fb841c<;>intro
 ·apply Y 0x1cdeacdeadd48dd489a;refine C.cond rfl (fun _=>?_) (fun h=>by cases h);exact Zm 0x49ee5e4c
 apply Zu 0xa03fb841c<;>intro
 ·apply Y 0x1cdeacdeadd48dd;refine C.cond rfl (fun _=>?_) (fun h=>by cases h);exact Zm 0x49ee5e4c
 apply Zu 0xfd0fb8b9<;>intro
 ·apply Y 0x1cdeacdeadd;refine C.cond rfl (fun _=>?_) (fun h=>by cases h);exact Zm 0x49ee5e4c
 apply Zu 0xb60fb8b9<;>intro
 ·apply Y 0x1cdea1d;refine C.cond rfl (fun _=>?_) (fun h=>by cases h);exact Zm 0x49ee5e4c
 apply Y 0xb8ed1c;refine L.bool 42 rfl (imp ky ?_) (imp kA ?_)<;>intro
 ·apply Y 0x11d;refine C.cond rfl (fun _=>?_) (fun h=>by cases h);exact Zm 0x49ee5e4c
 apply Zu 0x5d38ed1c<;>intro
 ·exact Zm 0x49ee5e4c
 apply Y 0xba38f85899;refine lp [1,3,50,51] [_,_,_,_] (fun k:Nat=>[(52,.int .i64 (k:Int))]) (kz [_,_,_,_,_]) nz (fun k=>k≤f.data.length∧∀ i,i<k→okR z f i=true) (fun k=>f.data.length-k) 0 ⟨by omega,fun i h=>absurd h (Nat.not_lt_zero i)⟩ (lk [0,1,2,3,4] []) ?_;apply Y 0xa1e;intro k hk hr;apply Zu 0x7920e<;>intro
 ·apply Y 0xf989;refine sp (ae (k:=k) rfl rfl rfl rfl rfl rfl rfl oe (Src.r 1 rfl) ow) ?_;apply Y 0x2a50ea0e2a6d538bfe;refine LQ.bool 62 rfl (imp ky ?_) (imp kA ?_)<;>intro
  ·apply Y 0x80efbfb2a3aefb;refine C.cond rfl (fun _=>?_) (fun h=>by cases h);exact Zm 0xdc0fe5e8bdc70e
  apply Y 0xfc2a282f1f28de1f283d50e28a0e28;refine LQ.bool 70 rfl (imp of_decide_eq_true ?_) (imp of_decide_eq_false ?_)<;>intro
  ·apply Y 0x80efbfb;refine C.cond rfl (fun _=>?_) (fun h=>by cases h);exact Zm 0xdc0fe5e8bdc70e
  apply Zu 0x7952e2a2850e28a0e282f1f28de1f283d50e28a0e28<;>intro
  ·exact Zm 0xdc0fe5e8bdc70e
  apply Y 0x973fd0e5a;refine ⟨by omega,fun i hi=>?_⟩
  by_cases hik:i<k
  ·exact hr i hik
  obtain rfl:i=k:=oe
  exact zb oe oe
 apply Y 0xe5ed9c9a9
 exact r5 oe (fun i hi=>hr i oe)
end Go.Proofs.YtbpddeiogcgegaaGreat
