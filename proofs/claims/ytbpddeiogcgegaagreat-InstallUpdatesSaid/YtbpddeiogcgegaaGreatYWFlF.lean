/-
  Part of a proof.
-/
import Derived.Test.YtbpddeiogcgegaaGreatYWSvB
set_option maxHeartbeats 0
set_option maxRecDepth 4000
set_option linter.all false
namespace Go.Proofs.YtbpddeiogcgegaaGreat
open Go.Sl
theorem wN (f:Fl)(a:Fa)(ok:f.Ok)(hh:a.hs.length=f.data.length):
    Ctr X 28 [flV f a] (flR f a) [] (fun v R' H'=>∃ b:Fa,v=flV f b∧R'=[]∧H'=flO f b∧b.hs.length=f.data.length):=by
 obtain ⟨os1,os2,on1,on2,owl,odl,orows,ol1,ol2,owear⟩:=ok;refine co Tryz.func28 ?_;intro β;apply Y 0x2a;intro A1;apply Y 0x88;intro A2;apply Y 0x8d7b;refine C.join (fun q:Option Addr×Option Addr×Nat×Option Addr×Nat=>[(0,flV f a),(1,ag A1 0),(2,ag A2 0),(3,ag q.1 0)]) (fun q:Option Addr×Option Addr×Nat×Option Addr×Nat=>[Rd A1 (flL f a),Rd a.D (aB a.hs (B8 f.data)),KidsR a.hs (B8 f.data),Rd a.W (I64 f.wear),Rd a.E (Bs f.dead)]) (fun q:Option Addr×Option Addr×Nat×Option Addr×Nat=>[Own 34 5 A2 1 1 [.int .i64 0,.slice none 0 0,.slice none 0 0,.int .i64 0,.slice none 0 0],Own 34 5 q.1 1 1 [.int .i64 (f.size:Int),.slice none 0 0,.slice q.2.1 f.wear.length q.2.2.1,.int .i64 f.limit,.slice q.2.2.2.1 f.dead.length q.2.2.2.2],Own 3 1 q.2.1 f.wear.length q.2.2.1 (I64 f.wear),Own 4 1 q.2.2.2.1 f.dead.length q.2.2.2.2 (Bs f.dead)]) (fun q:Option Addr×Option Addr×Nat×Option Addr×Nat=>True) ?_ ?_
 ·refine aG [_,_,_,_,_] (Hq [0,1,2,3,4] rfl) ?_;apply Y 0x230f;refine mq 1 rfl (ldR 0) ?_;apply Y 0x530f;refine mq 3 rfl (ldR 0) ?_;refine mq 5 rfl (faR 0) ?_;refine mq 6 rfl (ldR 0) ?_;refine mq 9 rfl (faR 0) ?_;refine mq 10 rfl (ldR 0) ?_;refine LM.alt [4,8,13] oa ob hcx ⟨⟨_,rfl,?_⟩,⟨_,rfl,?_⟩,⟨_,rfl,?_⟩,trivial⟩
  ·apply Y 0x7a;intro A9;apply Y 0x6;refine LM.alt [7,8,13] oa ob hcx ⟨⟨_,rfl,?_⟩,⟨_,rfl,?_⟩,⟨_,rfl,?_⟩,trivial⟩
   ·apply Y 0x620f;intro A12 cc12;apply Y 0x6;refine LM.alt [8,13] oa ob hcx ⟨⟨_,rfl,?_⟩,⟨_,rfl,?_⟩,trivial⟩
    ·apply Y 0x7a;intro A13;apply Zu 0x611f6
     ·apply Y 0x1fe;intro A16 cc16;apply Y 0x88c5ef21f6;intro A3;exact Zm 0xc20f70ef4e82ec9
     apply Y 0x88;intro A3;apply Y 0x1fe84e6;intro A16 cc16;exact Zm 0xc20f70ef4e82ec9ca63e6
    apply Y 0x88;intro A3;apply Y 0x7ab4e6;intro A13;apply Y 0x720f84e6;intro A16 cc16;exact Zm 0xa11f70e72e82ec9ca63e6
   ·apply Y 0x7a;intro A13;apply Zu 0x902f6
    ·apply Y 0x620f;intro A12 cc12;apply Zu 0x611f6
     ·apply Y 0x1fe;intro A16 cc16;apply Y 0x88c5ef21f6;intro A3;exact Zm 0xc20f70ef4e82ec9
     apply Y 0x88;intro A3;apply Y 0x1fe84e6;intro A16 cc16;exact Zm 0xc20f70ef4e82ec9ca63e6
    apply Y 0x88;intro A3;apply Y 0x620fd3e6;intro A12 cc12;apply Y 0x1fe84e6;intro A16 cc16;exact Zm 0xc20f70ef4e82ec9ca63e6
   apply Y 0x88;intro A3;apply Zu 0xa02f6
   ·apply Y 0x620f;intro A12 cc12;apply Y 0x7ab4e6;intro A13;apply Y 0x720f84e6;intro A16 cc16;exact Zm 0xa11f70e72e82ec9ca63e6
   apply Y 0x7a;intro A13;apply Y 0x620fd3e6;intro A12 cc12;apply Y 0x720f84e6;intro A16 cc16;exact Zm 0xa11f70e72e82ec9ca63e6
  ·apply Y 0x7a;intro A13;apply Y 0x6;refine LM.alt [4,13] oa ob hcx ⟨⟨_,rfl,?_⟩,⟨_,rfl,?_⟩,trivial⟩
   ·apply Y 0x7a;intro A9;apply Zu 0x902f6
    ·apply Y 0x470f;intro A12 cc12;apply Zu 0x611f6
     ·apply Y 0x370f;intro A16 cc16;apply Y 0x88c5ef21f6;intro A3;exact Zm 0xb11f70ef4e82ec9
     apply Y 0x88;intro A3;apply Y 0x370f84e6;intro A16 cc16;exact Zm 0xb11f70ef4e82ec9ca63e6
    apply Y 0x88;intro A3;apply Y 0x470fd3e6;intro A12 cc12;apply Y 0x370f84e6;intro A16 cc16;exact Zm 0xb11f70ef4e82ec9ca63e6
   apply Y 0x88;intro A3;apply Y 0x7a78e6;intro A9;apply Y 0x3f1fd3e6;intro A12 cc12;apply Y 0x370f84e6;intro A16 cc16;apply Y 0x70e72e82ec9ca63e6;refine aZ ((A3,A12,cc12,A16,cc16)) O7 (by exact lk [0,1,2,3,4] [0,2,3,1] (hh:=⟨rfl,oC,oC,oC,trivial⟩))
  apply Y 0x88;intro A3;apply Y 0x6;refine LM.alt [4,8] oa ob hcx ⟨⟨_,rfl,?_⟩,⟨_,rfl,?_⟩,trivial⟩
  ·apply Y 0x7a;intro A9;apply Zu 0xa02f6
   ·apply Y 0x470f;intro A12 cc12;apply Y 0x7ab4e6;intro A13;apply Y 0x720f84e6;intro A16 cc16;exact Zm 0x212f70eeb82ec9ca63e6
   apply Y 0x7a;intro A13;apply Y 0x470fd3e6;intro A12 cc12;apply Y 0x720f84e6;intro A16 cc16;exact Zm 0x212f70eeb82ec9ca63e6
  apply Y 0x7a;intro A13;apply Y 0x7a78e6;intro A9;apply Y 0x3f1fd3e6;intro A12 cc12;apply Y 0x1fe84e6;intro A16 cc16;apply Y 0x70eeb82ec9ca63e6;refine aZ ((A3,A12,cc12,A16,cc16)) O7 (by exact lk [0,1,2,3,4] [0,1,3,2] (hh:=⟨rfl,oC,oC,oC,trivial⟩))
 rintro ⟨A3,A12,c12,A16,c16⟩ _
 dsimp only;apply Y 0x19241b;refine C.nil_own 24 1 ?_;refine C.kids0 5 ?_;refine lp [0,1,2,3] [_,_,_,_] (fun q:Nat×Option Addr×Nat×List Hd=>[(4,.int .i64 (q.1:Int))]) (kz [_,_,_,_,_]) (fun q=>[Own 34 5 A2 1 1 [.int .i64 0,.slice none 0 0,.slice none 0 0,.int .i64 0,.slice none 0 0],Own 34 5 A3 1 1 [.int .i64 (f.size:Int),.slice q.2.1 q.1 q.2.2.1,.slice A12 f.wear.length c12,.int .i64 f.limit,.slice A16 f.dead.length c16],Own 3 1 A12 f.wear.length c12 (I64 f.wear),Own 4 1 A16 f.dead.length c16 (Bs f.dead),Own 24 1 q.2.1 q.1 q.2.2.1 (aB q.2.2.2 (B8 (f.data.take q.1))),aw 5 q.2.2.2 (B8 (f.data.take q.1))]) (fun q=>q.1≤f.data.length∧q.2.2.2.length=q.1) (fun q=>f.data.length-q.1) (0,none,0,[]) ⟨by simp,rfl⟩ (lk [0,1,2,3,4] [0,1,2,3,4,5]) ?_;apply Y 0xaee;intro k D cD hs hk hl
 dsimp only at hk hl ⊢;apply Zu 0x783d8484<;>intro
 ·apply Y 0x49;have hrow:=orows k oe;refine aG [_,_,_,_,_,_] ⟨Has.r 0 rfl,Has.r 1 rfl,Has.r 2 rfl,Has.r 3 rfl,Has.r 4 rfl,Has.o 1 rfl,trivial⟩ ?_;refine mq 0 rfl (faR 5) ?_;refine mq 1 rfl (ldR 5) ?_;refine mq 3 rfl (faR 0) ?_;refine mq 4 rfl (ldR 0) ?_;apply Y 0xc4e;refine mq 6 rfl (ae (k:=k) rfl rfl rfl rfl rfl rfl rfl oe (Src.r 1 rfl) oy) ?_;refine mq 7 rfl (Ev.load rfl rfl rfl (Src.r 1 rfl) (bm hh oe)) ?_;refine mfo 2 ?_;apply Y 0x7a;intro A27;apply Y 0xb4e6;refine L.append (j:=6) rfl rfl rfl rfl ob rfl rfl rfl rfl ((Src.kid 2 rfl oH (k) OG).cast (bB _)) qP (b4 _) oe oM rfl (fun A33 cc33=>?_);apply Y 0x7ac7e6;intro A34;apply Y 0x48ec9;refine L.append (j:=4) rfl rfl rfl rfl ob rfl rfl rfl rfl (Src.o 7 rfl) rfl (by intro v hv;simp at hv;subst hv;rfl) oe Qa rfl (fun A35 cc35=>?_);apply Y 0x3a70eac27e6cc17e6;refine QE.absorb 5 6 rfl rfl [0,1,2,3,4,7] ob ?_;have hrow:=orows k oe;refine QE.round (i:=(k,D,cD,hs)) ((k+1,A35,cc35,hs++[(A33,cc33)])) (by exact ⟨by dsimp only;omega,by simp [hl]⟩) ou (by exact lk [0,1,2,3,4] [1,2,3,4,5,0] (hh:=⟨rfl,rfl,rfl,rfl,(congrArg some (ay rfl (by rw [aC f.data [] k oe,← ru Oq,Nat.zero_add]))),(congrArg some (by rw [aC f.data [] k oe,← C0];rfl)),trivial⟩))
 apply Y 0xbd5985e269;refine qrt [] [4,5,2,3] [_] rfl ⟨⟨_,_,0,_,rfl,rfl,Src.o 0 rfl,.inl ⟨rfl,by decide,_,rfl,rfl,rfl⟩⟩,trivial⟩ ?_;obtain rfl:f.data.length=k:=oe;apply Y 0xe4e;exact ⟨⟨D,cD,hs,A12,c12,A16,c16⟩,rfl,rfl,rfl,hl⟩
theorem Cs (f:Fl)(a:Fa)(ok:f.Ok)(hh:a.hs.length=f.data.length)(x:Fo)(XA:Option Addr)(xc:Nat)(hxl:x.data.length≤9223372036854775807)(hE:ao f x=0):
    Ctr X 52 [flV f a,.agg (List.toArray [.int .i64 x.kind,.int .i64 x.sec,.int .i64 x.at_,.slice XA x.data.length xc])] (flR f a++[Rd XA (U8 x.data)]) [] (fun v R' H'=>∃ A c,v=.slice A f.size c∧R'=[]∧H'=[Own 5 1 A f.size c (U8 (gj f x))]):=by
 obtain ⟨os1,os2,on1,on2,owl,odl,orows,ol1,ol2,owear⟩:=ok;apply Y 0x9c1f;intro q1 q2 q3 q4 q5 q6;apply Y 0x5d0f;intro hrow;refine co Tryz.func52 ?_;intro β;apply Y 0x2a;intro A2;apply Y 0xdd;intro A3;apply Zu 0x40e16bfb14e428<;>intro hc9
 ·apply Y 0x21ef80fd82;intro A12;apply Y 0x20e4a;exact ⟨A12,f.size,rfl,rfl,by rw [Fs hc9];rfl⟩
 apply Y 0x7a2e8;intro A13;apply Y 0x200fd52f6bd8;refine L.append (j:=0) rfl rfl rfl rfl ob rfl rfl rfl rfl ((Src.kid 3 rfl oH (x.sec.toNat) OG).cast (bB _)) qP (b4 _) oe oM rfl (fun A20 cc20=>?_);apply Y 0x19228;have hk2:x.kind=2:=oe;have hk2b:=q4 hk2;refine lp [] [] (fun k:Nat=>[(2,ag A2 0),(3,ag A3 0),(5,.slice A20 (f.data.getD x.sec.toNat []).length cc20),(6,.int .i64 (k:Int))]) (kz [_,_,_,_,_,_,_]) (fun k=>[Own 5 1 A20 (f.data.getD x.sec.toNat []).length cc20 (U8 (yb (f.data.getD x.sec.toNat []) x.data x.at_.toNat k))]) (fun k=>k≤x.data.length) (fun k=>x.data.length-k) 0 oe (by exact lk [0,1,2,3,4,5,6] [0] ⟨rfl,rfl,oC,rfl,trivial⟩ (hh:=⟨(by rw [Ct];simp only [Nat.zero_add];rfl),trivial⟩)) ?_;intro k hk;apply Zu 0x7836b484<;>intro
 ·apply Y 0x49;refine aG [_,_,_,_,_,_,_,_] ⟨Has.r 0 rfl,Has.r 1 rfl,Has.r 2 rfl,Has.r 3 rfl,Has.r 4 rfl,Has.r 5 rfl,Has.r 6 rfl,Has.o 0 rfl,trivial⟩ ?_;apply Y 0xdfecfe2ded2e;refine mq 4 rfl (Ev.add rfl rfl oe oe) ?_;refine mq 5 rfl (ae (k:=x.at_.toNat+k) rfl rfl rfl rfl rfl rfl oe oe (Src.r 7 rfl) (by rw [aH,cw];omega)) ?_;refine mq 6 rfl (Ev.load rfl rfl rfl (Src.r 7 rfl) (bE (by rw [cw];omega))) ?_;refine mq 7 rfl (faR 1) ?_;refine mq 8 rfl (ldR 1) ?_;apply Y 0x69e63c7e;refine sp (ae (k:=k) rfl rfl rfl rfl rfl rfl rfl oe (Src.r 6 rfl) oO) ?_;apply Y 0x84e6;refine sp (Ev.load rfl rfl rfl (Src.r 6 rfl) (bE oe)) ?_;apply Y 0x6be6efe27ec9;refine sp (ae (k:=x.at_.toNat+k) rfl rfl rfl rfl rfl rfl oe oe (Src.o 0 rfl) (by rw [aH,cw];omega)) ?_;apply Y 0x82e6;refine L.store (j:=0) rfl rfl rfl rfl rfl rfl rfl (by exact bE (by rw [cw];omega)) ?_;apply Y 0x3a70e;refine QE.round (k+1) oe oe (by exact lk [0,1,2,3,4,5,6] [0] (hh:=⟨(by simp only [List.set_cons_zero,List.getElem?_cons_zero];rw [lO,Fu oe,Ft oe]),trivial⟩))
 apply Y 0x20e7c69;obtain rfl:k=x.data.length:=oe;rw [Fv oe oe hrow,hrow];exact ⟨A20,cc20,rfl,rfl,rfl⟩
theorem EY {xs ys:List Value}(h:xs.length≤ys.length):xs.take 0++ys++xs.drop (0+ys.length)=ys:=by
 rw [List.take_zero,List.nil_append,Nat.zero_add,List.drop_eq_nil_of_le h,List.append_nil]
theorem pa (A:Option Addr)(n c:Nat)(xs:List Value)(hx:∀ v∈xs,v.oneCell'=true)(hl:xs.length=n)(hn:n≤1000000):
    Ctr X 179 [.slice A n c] [Rd A xs] [] (fun v R' H'=>∃ A' c',v=.slice A' n c'∧R'=[]∧H'=[Own 5 1 A' n c' xs]):=by
 refine co Tryz.func179 ?_;intro β;apply Zu 0xe9f8e30f48da<;>intro hc4
 ·apply Y 0x25e;obtain rfl:A=none:=obN;refine iC 0 rfl (fun h0=>?_);subst h0;subst hl;exact Zm 0x43e20eb3e
 apply Y 0x7a2e8;intro A5;apply Y 0x2f1f3;intro A7 cc7;exact Zm 0xb60f20e5a
theorem E6 (A:Option Addr)(n c:Nat)(xs:List Value)(hx:∀ v∈xs,v.oneCell'=true)(hl:xs.length=n)(hn:n≤1000000):
    Ctr X 119 [.slice A n c] [Rd A xs] [] (fun v R' H'=>∃ A' c',v=.slice A' n c'∧R'=[]∧H'=[Own 24 1 A' n c' xs]):=by
 refine co Tryz.func119 ?_;intro β;apply Zu 0xe9f8e30f48da<;>intro hc4
 ·apply Y 0x25e;obtain rfl:A=none:=obN;refine iC 0 rfl (fun h0=>?_);subst h0;subst hl;refine QE.nil_own 24 1 ?_;exact Zm 0x43e20e
 apply Y 0x7a2e8;intro A5;apply Y 0x3;refine L.append (j:=0) rfl rfl rfl rfl ob rfl rfl rfl rfl (Src.r 0 rfl) QD hx oe Qa rfl (fun A7 cc7=>?_);exact Zm 0xb60f20e5a
theorem E5 (A:Option Addr)(n c:Nat)(xs:List Value)(hx:∀ v∈xs,v.oneCell'=true)(hl:xs.length=n)(hn:n≤1000000):
    Ctr X 120 [.slice A n c] [Rd A xs] [] (fun v R' H'=>∃ A' c',v=.slice A' n c'∧R'=[]∧H'=[Own 3 1 A' n c' xs]):=by
 refine co Tryz.func120 ?_;intro β;apply Zu 0xe9f8e30f48da<;>intro hc4
 ·apply Y 0x25e;obtain rfl:A=none:=obN;refine iC 0 rfl (fun h0=>?_);subst h0;subst hl;refine QE.nil_own 3 1 ?_;exact Zm 0x43e20e
 apply Y 0x7a2e8;intro A5;apply Y 0x3;refine L.append (j:=0) rfl rfl rfl rfl ob rfl rfl rfl rfl (Src.r 0 rfl) QD hx oe oV rfl (fun A7 cc7=>?_);exact Zm 0xb60f20e5a
theorem E7 (A:Option Addr)(n c:Nat)(xs:List Value)(hx:∀ v∈xs,v.oneCell'=true)(hl:xs.length=n)(hn:n≤1000000):
    Ctr X 121 [.slice A n c] [Rd A xs] [] (fun v R' H'=>∃ A' c',v=.slice A' n c'∧R'=[]∧H'=[Own 4 1 A' n c' xs]):=by
 refine co Tryz.func121 ?_;intro β;apply Zu 0xe9f8e30f48da<;>intro hc4
 ·apply Y 0x25e;obtain rfl:A=none:=obN;refine iC 0 rfl (fun h0=>?_);subst h0;subst hl;refine QE.nil_own 4 1 ?_;exact Zm 0x43e20e
 apply Y 0x7a2e8;intro A5;apply Y 0x2f1f3;intro A7 cc7;exact Zm 0xb60f20e5a
theorem BS (A B:Option Addr)(c d:Nat)(xs ys:List UInt8):
    Ctr X 113 [.slice A xs.length c,.slice B ys.length d] [Rd A (U8 xs),Rd B (U8 ys)] [] (fun v R' H'=>v=.bool (xs==ys)∧R'=[]∧H'=[]):=by
 refine co Tryz.func113 ?_;intro β;apply Y 0x4812;refine sp (j8 rfl rfl rfl rfl rfl rfl rfl (Src.r 0 rfl)) ?_;apply Y 0x3;refine sp (j8 rfl rfl rfl rfl rfl rfl rfl (Src.r 1 rfl)) ?_;refine sp (xk rfl rfl) ?_;apply Y 0xfc395a
 unfold MD;rw [ByteArray.toList_mk,ByteArray.toList_mk]
theorem Cr (Aw XA:Option Addr)(ws zs:List Value)(i:Int)(o:UInt8):
    Ctr X 180 [.int .i64 i,.int .u8 (o.toNat:Int)] [Rd Aw ws,Rd XA zs] [] (fun v R' H'=>v=.int .u8 255∧R'=[]∧H'=[]):=by
 refine co Tryz.func180 ?_;intro β;exact Zm 0xd1e39f912
theorem Cq (x:Fo)(XA:Option Addr)(xc:Nat)(hk:x.kind=1∨x.kind=2)(ha:x.kind=2→0≤x.at_∧x.at_≤1000000)(hxl:x.kind=2→x.data.length≤1000000):
    Ctr X 118 [.agg (List.toArray [.int .i64 x.kind,.int .i64 x.sec,.int .i64 x.at_,.slice XA x.data.length xc])] [] [] (fun v R' H'=>∃ fid cap Aw ws,v=.func (.func fid) #[] cap∧R'=[Rd Aw ws]∧H'=[]∧(∀ (i:Nat) (o:UInt8),i≤1000000→Ctr X fid ([.int .i64 (i:Int),.int .u8 (o.toNat:Int)]++cap.toList) [Rd Aw ws,Rd XA (U8 x.data)] [] (fun v R' H'=>v=.int .u8 ((w9 x i o).toNat:Int)∧R'=[]∧H'=[]))):=by
 refine co Tryz.func118 ?_;intro β;apply Y 0x2a;intro A1;apply Zu 0x40e1d8fb428<;>intro hc5
 ·apply Y 0x80e25e;refine qrt [0] [] [_] rfl rt ?_;refine ⟨180,#[],none,[],rfl,rfl,rfl,fun i o hi=>?_⟩
  exact (Cr _ _ _ _ i o).mono (fun v R' H' h=>⟨by rw [h.1,w8 hc5];rfl,h.2⟩)
 apply Y 0x7ce8;refine qrt [0] [] [_] rfl rt ?_;refine ⟨181,#[ag A1 0],A1,_,rfl,rfl,rfl,fun i o hi=>?_⟩
 exact Fq i o x XA A1 xc hi (ha oe).1 (ha oe).2 (hxl oe) hc5
theorem Ky (Aw XA:Option Addr)(ws zs:List Value)(i:Int):
    Ctr X 116 [.int .i64 i] [Rd Aw ws,Rd XA zs] [] (fun v R' H'=>v=.int .u8 ((255:UInt8).toNat:Int)∧R'=[]∧H'=[]):=by
 refine co Tryz.func116 ?_;intro β;exact Zm 0xd1e39f912
theorem GU (f:Fl)(a:Fa)(ok:f.Ok)(hh:a.hs.length=f.data.length)(sec:Int)(want:List UInt8)(W:Option Addr)(wc:Nat)(_hwl:want.length≤1000000):
    Ctr X 95 [flV f a,.int .i64 sec,.slice W want.length wc] (flR f a++[Rd W (U8 want)]) [] (fun v R' H'=>∃ A c,v=.agg (List.toArray [.int .i64 (aM f sec want).x.kind,.int .i64 (aM f sec want).x.sec,.int .i64 (aM f sec want).x.at_,.slice A (aM f sec want).x.data.length c,.bool (aM f sec want).done,.int .i64 (aM f sec want).e])∧R'=[Rd A (U8 (aM f sec want).x.data)]∧H'=[]):=by
 obtain ⟨os1,os2,on1,on2,owl,odl,orows,ol1,ol2,owear⟩:=ok;apply Y 0xf00f;intro hok;refine co Tryz.func95 ?_;intro β;apply Y 0x2a;intro A3;apply Y 0x88;intro A6;apply Y 0x52947ec0e3d88a8d47b;refine L.bool 17 rfl ?_ ?_<;>intro hg17
 ·have q17:¬(0≤sec∧sec≤(f.data.length:Int)-1):=by simp at hg17;omega
  apply Y 0x1fa;refine C.cond rfl (fun _=>?_) (fun h=>by cases h);apply Zu 0x13ee5e80e22ebd598c
  ·rw [gg oe]
   rfl
  rw [gg oe]
  rfl
 have q17:0≤sec∧sec≤(f.data.length:Int)-1:=by simp at hg17;omega
 apply Zu 0x5d16a42eb86a<;>intro
 ·apply Zu 0x13ee5e80e22ebd598c
  ·rw [gg oe]
   rfl
  rw [gg oe]
  rfl
 have hrow:=orows sec.toNat oe;apply Y 0x36dea31f3d82aa;refine L.call (js:=[]) (js':=[0]) (FZ _ _ _ _ _ _ oe oe) rfl rfl rfl ob ⟨((Has.kid 2 rfl oH (sec.toNat) OG).cast (bB _)),(Has.r 5 rfl),trivial⟩ rfl ?_;apply Zu 0xfe0ff829<;>intro hc31
 ·apply Zu 0x13ee5e80e22ebd598c
  ·rw [mh oe hc31]
   rfl
  rw [mh oe hc31]
  rfl
 replace hc31:(f.data.getD sec.toNat [])≠want:=by simpa using hc31
 apply Y 0x88ca58e8;intro A7;apply Y 0x1927beb;refine lp [1,2,3,6,7] [_,_,_,_,_] (fun q:Nat×Fo×Option Addr×Nat=>[(8,.int .i64 (q.1:Int))]) (kz [_,_,_,_,_,_]) (fun q=>[Own 62 6 A6 1 1 [.int .i64 0,.int .i64 0,.int .i64 0,.slice none 0 0,.bool false,.int .i64 0],Own 60 4 A7 1 1 [.int .i64 q.2.1.kind,.int .i64 q.2.1.sec,.int .i64 q.2.1.at_,.slice q.2.2.1 q.2.1.data.length q.2.2.2]]) (fun q=>q.1≤f.size∧C5 sec want W wc (gq (f.data.getD sec.toNat []) want q.1) q.2.1 q.2.2.1 q.2.2.2) (fun q=>f.size-q.1) (0,⟨2,sec,0,want⟩,W,wc) ⟨Nat.zero_le _,.inl ⟨rfl,rfl,rfl,rfl⟩⟩ (lk [0,1,2,3,4,5] [0,1]) ?_;apply Y 0xaee;intro k x XA xc hk hx
 dsimp only at hk hx ⊢;apply Zu 0x78d8484<;>intro
 ·apply Y 0xa930e60e251fd41fb93d449;refine sq (ae (k:=sec.toNat) rfl rfl rfl rfl rfl rfl oe oe (Src.r 1 rfl) oy) ?_;apply Y 0xa9a82f;refine sq (ae (k:=k) rfl rfl rfl rfl rfl rfl rfl oe ((Src.kid 2 rfl oH (sec.toNat) OG).cast (bB _)) oO) ?_;refine sq (Ev.load rfl rfl rfl ((Src.kid 2 rfl oH (sec.toNat) OG).cast (bB _)) (bE oe)) ?_;refine sq (mY rfl rfl) ?_;apply Zu 0x5d9aa9<;>intro hc55
  ·apply Y 0x3a50eebca8a;refine QE.round (i:=(k,x,XA,xc)) ((k+1,⟨1,sec,0,[]⟩,none,0)) (by exact ⟨by dsimp only;omega,.inr ⟨yH (k:=k) ou (fun h=>hc55 (by rw [h];rfl)),rfl,rfl,rfl⟩⟩) ou (lk [0,1,2,3,4,5] [0,1])
  apply Y 0x3ad9;refine QE.round (i:=(k,x,XA,xc)) ((k+1,x,XA,xc)) (by exact ⟨by dsimp only;omega,by dsimp only;rw [pQ];exact hx.next _ (by simpa [-List.getD_eq_getElem?_getD] using e9.1 hc55)⟩) ou (lk [0,1,2,3,4,5] [0,1])
 apply Y 0x469;obtain rfl:k=f.size:=oe;have hxe:=hx.eq;apply Y 0x85ee2e68;refine L.call (js:=[]) (js':=[0,1]) (s5 f a hok hh x XA xc (by have:=hx.len;omega)) rfl rfl rfl ob ⟨(Has.r 1 rfl),(Has.r 2 rfl),(Has.r 3 rfl),(Has.r 4 rfl),(hx.has (Has.r 5 rfl)),trivial⟩ rfl ?_;apply Zu 0x5d2d2829<;>intro hc62
 ·apply Zu 0x13ee5e80e22ebd59ca48
  ·rw [kg oe hc31 hxe hc62]
   rfl
  rw [kg oe hc31 hxe hc62]
  rfl
 apply Y 0xbd59ca85e2e8;refine QE.more (r:=Rd XA (U8 x.data)) ((hx.has (Has.r 5 rfl))) ?_;apply Y 0xe5e;refine ⟨XA,xc,?_,?_,rfl⟩
 ·rw [gR oe hc31 hxe oe]
  rfl
 rw [gR oe hc31 hxe oe]
 rfl
theorem Jn (f:Fl)(a:Fa)(ok:f.Ok)(hh:a.hs.length=f.data.length)(sec:Int)(want:List UInt8)(W:Option Addr)(wc:Nat)(hwl:want.length≤1000000):
    Ctr X 115 [flV f a,.int .i64 sec,.slice W want.length wc] (flR f a++[Rd W (U8 want)]) [] (fun v R' H'=>∃ A c,v=.tuple #[.agg (List.toArray [.int .i64 (aM f sec want).x.kind,.int .i64 (aM f sec want).x.sec,.int .i64 (aM f sec want).x.at_,.slice A (aM f sec want).x.data.length c]),.bool (aM f sec want).done,.int .i64 (aM f sec want).e]∧R'=[Rd A (U8 (aM f sec want).x.data)]∧H'=[]):=by
 obtain ⟨os1,os2,on1,on2,owl,odl,orows,ol1,ol2,owear⟩:=ok;apply Y 0xf00f;intro hok;refine co Tryz.func115 ?_;intro β;apply Y 0x2a;intro A3;apply Y 0x88;intro A6;apply Y 0xc8688d4283;refine L.bool 15 rfl (imp of_decide_eq_true ?_) (imp of_decide_eq_false ?_)<;>intro
 ·apply Y 0x1fa5fa;refine C.cond rfl (fun _=>?_) (fun h=>by cases h);apply Zu 0x13e24e80e4a3598c
  ·rw [gg oe]
   rfl
  rw [gg oe]
  rfl
 apply Zu 0x301fc8b842eb8<;>intro
 ·apply Y 0x1fa;refine C.cond rfl (fun _=>?_) (fun h=>by cases h);apply Zu 0x13e24e80e4a3598c
  ·rw [gg oe]
   rfl
  rw [gg oe]
  rfl
 apply Zu 0x5d16a42eb86a<;>intro
 ·apply Zu 0x13e24e80e4a3598c
  ·rw [gg oe]
   rfl
  rw [gg oe]
  rfl
 have hrow:=orows sec.toNat oe;apply Y 0x36dea31f3d82aa;refine L.call (js:=[]) (js':=[0]) (BS _ _ _ _ _ _) rfl rfl rfl ob ⟨((Has.kid 2 rfl oH (sec.toNat) OG).cast (bB _)),(Has.r 5 rfl),trivial⟩ rfl ?_;apply Zu 0xfe0ff829<;>intro hc36
 ·apply Zu 0x13e24e80e4a3598c
  ·rw [mh oe hc36]
   rfl
  rw [mh oe hc36]
  rfl
 replace hc36:(f.data.getD sec.toNat [])≠want:=by simpa using hc36
 apply Y 0x88ca58e8;intro A9;apply Y 0x1936dea31f3d827beb;refine lp [1,2,3,6,9,45,46] [_,_,_,_,_,_,_] (fun k:Nat=>[(47,.int .i64 (k:Int))]) (kz [_,_,_,_,_,_]) (kz [_,_]) (fun k=>k≤f.size∧gq (f.data.getD sec.toNat []) want k=true) (fun k=>f.size-k) 0 ⟨Nat.zero_le _,rfl⟩ (lk [0,1,2,3,4,5] [0,1]) ?_;apply Y 0xf0e;intro k hk hb;apply Zu 0x1cda<;>intro
 ·apply Y 0x4849;refine sp (ae (k:=k) rfl rfl rfl rfl rfl rfl rfl oe ((Src.kid 2 rfl oH (sec.toNat) OG).cast (bB _)) oO) ?_;refine sp (Ev.load rfl rfl rfl ((Src.kid 2 rfl oH (sec.toNat) OG).cast (bB _)) (bE oe)) ?_;apply Y 0x251fd41fa9b93d283;refine sq (uX rfl rfl) ?_;apply Zu 0x5d9aa9251fd41fb9<;>intro hc62
  ·have hxe:bQ f sec want=⟨1,sec,0,[]⟩:=fo (yH (k:=k) oe (fun h=>hc62 (e9.2 ((dQ _ _).2 h))));apply Y 0x66ef8ebca48;refine lR rfl ?_;apply Y 0x85ee2e241bbde;refine L.call (js:=[]) (js':=[0,1]) (uH f a hok hh ⟨1,sec,0,[]⟩ none 0 Ob) rfl rfl rfl ob ⟨(Has.r 1 rfl),(Has.r 2 rfl),(Has.r 3 rfl),(Has.r 4 rfl),Has.nil,trivial⟩ rfl ?_;apply Zu 0x5d2d129<;>intro hc70
   ·apply Zu 0x13e24e80e4a35938c
    ·apply Y 0xea0f
     rfl
    apply Y 0xea0f
    rfl
   apply Y 0xba2e8;refine L.call (js:=[]) (js':=[0,1]) (pa none 0 0 (U8 []) (b4 _) rfl oe) rfl rfl rfl ob ⟨Has.nil,trivial⟩ rfl ?_;apply Y 0x89;intro A75 c75;apply Y 0xbbeb4a0f2f897e26e;refine qfz 0 [1,2] ?_;apply Y 0x24e;refine ⟨A75,c75,?_,?_,rfl⟩
   ·rw [gR oe hc36 hxe oe]
    rfl
   rw [gR oe hc36 hxe oe]
   rfl
  have hbb:=(dQ _ _).1 (e9.1 hc62);apply Y 0x6dd9;refine QE.round (k+1) (by exact ⟨by omega,by rw [pQ,hb,hbb];rfl⟩) oe (lk [0,1,2,3,4,5] [0,1])
 obtain rfl:k=f.size:=oe;have hxe:=fq (sec:=sec) hb;apply Y 0x85ee2e2469;refine an (uH f a hok hh ⟨2,sec,0,want⟩ W wc OO) ?_;apply Zu 0x5d2d129<;>intro hc70
 ·apply Zu 0x13e24e80e4a35938c
  ·apply Y 0xea0f
   rfl
  apply Y 0xea0f
  rfl
 apply Y 0xba2e8;refine an (pa W want.length wc (U8 want) (b4 _) (aH _) oe) ?_;apply Y 0x89;intro A75 c75;apply Y 0xbbeb4a0f2f897e26e;refine qfz 0 [1,2] ?_;apply Y 0x24e;refine ⟨A75,c75,?_,?_,rfl⟩
 ·rw [gR oe hc36 hxe oe]
  rfl
 rw [gR oe hc36 hxe oe]
 rfl
theorem Dc (n:Nat)(h:n<4294967296):bop .and .u64 (n:Int) 4294967295=(n:Int):=by
 have:=bits_and_u64_nat n 4294967295 oe ob;refine Eq.trans this ?_
 congr 1;have h2:(4294967295:Nat)=2^32-1:=ob;rw [h2,Nat.and_two_pow_sub_one_eq_mod]
 omega
theorem Jl (n:Nat)(h:n<4294967296):(n:Int).fdiv (2^min (32:Int).toNat IntKind.u64.bits)=0:=by
 have:(2:Int)^min (32:Int).toNat IntKind.u64.bits=4294967296:=ob;rw [this,Int.fdiv_eq_ediv_of_nonneg _ ob]
 omega
theorem uZ (n:Nat)(h:n<4294967296):IntKind.u64.wrap (n:Int)=(n:Int):=by rw [IntKind.wrap_u64];omega
theorem GR (n:Nat)(h:n<4294967296):IntKind.u64.wrap (1*(n:Int))=(n:Int):=by rw [Int.one_mul];exact uZ n h
theorem Db (n:Nat):IntKind.u64.wrap (0*(n:Int))=0:=by rw [Int.zero_mul];decide
theorem yQ {A:Option Addr}{g n p:Nat}(h:A=some ⟨g,0,none⟩)(hp:p<n):bF A n p 1=some ⟨g,p,none⟩:=by
 subst h
 unfold bF;rw [if_neg oe]
 simp [Addr.add]
 exact fun h=>h.symm
theorem nv {p k:Nat}{x:UInt8}{ys:List UInt8}(h:k≤p):(U8 (List.replicate p x++ys)).take k=U8 (List.replicate k x):=by
 rw [cj,List.take_append_of_le_length qi,List.take_replicate,Nat.min_eq_left h]
theorem vy {p n:Nat}{x:UInt8}{ys:List UInt8}(_hy:ys.length=n-p)(_hp:p≤n):
    (U8 (List.replicate p x++ys)).take p++U8 (List.replicate (min p (n-p)) x)++(U8 (List.replicate p x++ys)).drop (p+(U8 (List.replicate (min p (n-p)) x)).length)=U8 (List.replicate (p+min p (n-p)) x++ys.drop (min p (n-p))):=by
 rw [nv (Nat.le_refl p),aH,List.length_replicate];have:(U8 (List.replicate p x++ys)).drop (p+min p (n-p))=U8 (ys.drop (min p (n-p))):=by
  unfold U8;rw [← List.map_drop,List.drop_append,List.drop_of_length_le Ob,List.nil_append]
  simp
 rw [this,cy,cy]
 congr 1;rw [List.append_assoc,← List.append_assoc,List.replicate_append_replicate]
theorem HX (n:Nat)(hn:n<4294967296):
    Ctr X 250 [.int .u64 1,.int .u64 (n:Int)] [] [] (fun v R' H'=>v=.tuple #[.int .u64 0,.int .u64 (n:Int)]∧R'=[]∧H'=[]):=by
 refine co Tryz.func250 ?_;intro β;apply Y 0x481331f481431f482d;refine sp ((Ev.cast (u:=.int .u64 (n)) (Ev.pure rfl) (congrArg (Value.int .u64) (Dc n hn)))) ?_;apply Y 0x581a32f581932f481;refine sp ((Ev.cast (u:=.int .u64 (0)) (Ev.pure rfl) (congrArg (Value.int .u64) (Db n)))) ?_;exact Zm 0xd1e44e5aa32f5815de331f35de35de5815de5de6c1331f4815de4815de932f3
theorem J7 (n:Nat)(hn:n<4294967296):
    Ctr X 222 [.int .u64 1,.int .u64 (n:Int)] [] [] (fun v R' H'=>v=.tuple #[.int .u64 0,.int .u64 (n:Int)]∧R'=[]∧H'=[]):=by
 refine co Tryz.func222 ?_;intro β;apply Y 0x2848;refine C.cond rfl (fun h=>by cases h) (fun _=>?_);apply Y 0x58e8;refine an (HX n hn) ?_;exact Zm 0xd1e44ebb5815529
theorem JW (m i:Nat):UInt8.ofNat (m/256^i)=UInt8.ofNat (m/2^(8*i)):=by rw [Nat.pow_mul]
theorem JP (D A:Option Addr)(l:List UInt8)(c m w:Nat)(hl:l.length≤1000)(hw:w≤4):
    Ctr X 177 [ag D 0,.int .i64 (m:Int),.int .i64 (w:Int)] [] [Own 269 1 D 1 1 [.slice A l.length c],Own 5 1 A l.length c (U8 l)] (fun v R' H'=>∃ (A':Option Addr) (c':Nat),v=.tuple #[]∧R'=[]∧H'=[Own 269 1 D 1 1 [.slice A' (l++aW (cz m w)).length c'],Own 5 1 A' (l++aW (cz m w)).length c' (U8 (l++aW (cz m w)))]):=by
 refine co Tryz.func177 ?_;intro β;apply Y 0x19c0e48;refine lp [] [] (fun q:Nat×Option Addr×Nat=>[(0,ag D 0),(1,.int .i64 (m:Int)),(6,.int .i64 ((w:Int)-1-(q.1:Int)))]) nz (fun q=>[Own 269 1 D 1 1 [.slice q.2.1 (l++aW ((cz m w).take (q.1))).length q.2.2],Own 5 1 q.2.1 (l++aW ((cz m w).take (q.1))).length q.2.2 (U8 (l++aW ((cz m w).take (q.1))))]) (fun q=>q.1≤w) (fun q=>w-q.1) (0,A,c) (Nat.zero_le _) (by exact lk [] [0,1] ⟨rfl,rfl,Q4,trivial⟩ (hh:=⟨(by simp [aW]),(by simp [aW]),trivial⟩)) ?_;apply Y 0xb1e;intro k A c hk
 dsimp only at hk ⊢;apply Zu 0x78484<;>intro
 ·apply Y 0x771f;intro hb;have hbl:(l++aW ((cz m w).take (k))).length≤1100:=by rw [List.length_append,dg,List.length_take,cJ];omega
  have hst:(l++aW ((cz m w).take (k+1)))=(l++aW ((cz m w).take (k)))++[UInt8.ofNat (m/2^(8*(w-1-k))),~~~(UInt8.ofNat (m/2^(8*(w-1-k))))]:=by rw [aC _ 0 k oa1,lz,hb,sW,List.append_assoc]
  apply Y 0x642f5849;refine sp (CQ rfl rfl oe) ?_;refine sp (mV rfl rfl rfl rfl) ?_;apply Y 0x594e994c3b1;refine sp (CU rfl) ?_;apply Y 0x7a;intro A27;refine L.append (j:=1) rfl rfl rfl rfl ob rfl rfl rfl rfl (Src.o 2 rfl) rfl (by intro v hv;simp at hv;rcases hv with rfl|rfl<;>rfl) oe oM rfl (fun A28 cc28=>?_);apply Y 0x90ec0e8a73e50eece994c;refine QE.round (i:=(k,A,c)) ((k+1,A28,cc28)) ou ou (by exact lk [] [0,1] ⟨rfl,rfl,QF,trivial⟩ (hh:=⟨(by exact congrArg some (ay rfl qk)),O6,trivial⟩))
 apply Y 0x64e;refine lQ ?_;obtain rfl:k=w:=oe;refine qrt [] [0,1] [] rfl trivial ?_;rw [show (cz m k).take k=cz m k from by rw [List.take_of_length_le oa1]];exact Zm 0xd6e
theorem wH (S:Option Addr)(s:List Int)(hs:s.length=9):
    Ctr X 176 [ag S 0] [Rd S (I64 s)] [] (fun v R' H'=>∃ A,v=.slice A 9 9∧R'=[]∧H'=[Own 266 2 A 9 9 (iV S)]):=by
 refine co Tryz.func176 ?_;intro β;apply Y 0xd2e420fda;refine mq 1 rfl (Ev.nilCheck rfl (Src.r 0 rfl) ow) ?_;refine mq 2 rfl (Ev.fieldAddr rfl rfl rfl rfl rfl rfl (Src.r 0 rfl) ow rfl) ?_;refine mq 3 rfl (Ev.build rfl rfl rfl rfl rfl rfl rfl) ?_;apply Y 0x88e;refine mq 5 rfl (Ev.nilCheck rfl (Src.r 0 rfl) ow) ?_;refine mq 6 rfl (Ev.fieldAddr rfl rfl rfl rfl rfl rfl (Src.r 0 rfl) ow rfl) ?_;refine mq 7 rfl (Ev.build rfl rfl rfl rfl rfl rfl rfl) ?_;apply Y 0xd5e;refine mq 9 rfl (Ev.nilCheck rfl (Src.r 0 rfl) ow) ?_;refine mq 10 rfl (Ev.fieldAddr rfl rfl rfl rfl rfl rfl (Src.r 0 rfl) ow rfl) ?_;refine mq 11 rfl (Ev.build rfl rfl rfl rfl rfl rfl rfl) ?_;apply Y 0xbfe;refine mq 13 rfl (Ev.nilCheck rfl (Src.r 0 rfl) ow) ?_;refine mq 14 rfl (Ev.fieldAddr rfl rfl rfl rfl rfl rfl (Src.r 0 rfl) ow rfl) ?_;refine mq 15 rfl (Ev.build rfl rfl rfl rfl rfl rfl rfl) ?_;apply Y 0x390f;refine mq 17 rfl (Ev.nilCheck rfl (Src.r 0 rfl) ow) ?_;refine mq 18 rfl (Ev.fieldAddr rfl rfl rfl rfl rfl rfl (Src.r 0 rfl) ow rfl) ?_;refine mq 19 rfl (Ev.build rfl rfl rfl rfl rfl rfl rfl) ?_;refine mq 20 rfl (Ev.pure rfl) ?_;refine mq 21 rfl (Ev.nilCheck rfl (Src.r 0 rfl) ow) ?_;refine mq 22 rfl (Ev.fieldAddr rfl rfl rfl rfl rfl rfl (Src.r 0 rfl) ow rfl) ?_;refine mq 23 rfl (Ev.build rfl rfl rfl rfl rfl rfl rfl) ?_;refine mq 24 rfl (Ev.pure rfl) ?_;refine mq 25 rfl (Ev.nilCheck rfl (Src.r 0 rfl) ow) ?_;refine mq 26 rfl (Ev.fieldAddr rfl rfl rfl rfl rfl rfl (Src.r 0 rfl) ow rfl) ?_;refine mq 27 rfl (Ev.build rfl rfl rfl rfl rfl rfl rfl) ?_;refine mq 28 rfl (Ev.pure rfl) ?_;refine mq 29 rfl (Ev.nilCheck rfl (Src.r 0 rfl) ow) ?_;refine mq 30 rfl (Ev.fieldAddr rfl rfl rfl rfl rfl rfl (Src.r 0 rfl) ow rfl) ?_;refine mq 31 rfl (Ev.build rfl rfl rfl rfl rfl rfl rfl) ?_;refine mfo 32 ?_;apply Y 0x63;refine mfo 33 ?_;refine sp (Ev.nilCheck rfl (Src.r 0 rfl) ow) ?_;apply Y 0x6;refine mfo 34 ?_;refine sp (Ev.fieldAddr rfl rfl rfl rfl rfl rfl (Src.r 0 rfl) ow rfl) ?_;apply Y 0x6;refine mfo 35 ?_;apply Y 0x180fc9ca;refine Mj (cs:=iV S) rfl rfl rfl rfl rfl oa rfl rfl rfl rfl rfl (fun A39=>?_);apply Y 0x6;refine LM.f 37 rfl oa trivial ?_;apply Y 0x20e23e1b9c;exact ⟨A39,rfl,rfl,rfl⟩
theorem G6 (s:List Int)(hs:s.length=9):
    Ctr X 110 [.agg (List.toArray (st9 s))] [] [] (fun v R' H'=>∃ (A:Option Addr) (c:Nat),v=.slice A (ak s).length c∧A.isSome=aN s∧R'=[]∧H'=[Own 5 1 A (ak s).length c (U8 (ak s))]):=by
 rw [← vg hs];refine co Tryz.func110 ?_;intro β;apply Y 0x2a;intro A1;apply Y 0xddcafb28;intro A7;apply Y 0x228;refine an (wH A1 s hs) ?_;apply Y 0x21e;intro A8;apply Y 0x193db;refine C.nil_own 5 1 ?_;refine lp [1,3,8,9] [_,_,_,_] (fun q:Nat×Option Addr×Nat=>[(10,.int .i64 (q.1:Int))]) (kz [_]) (fun q=>[Own 266 2 A8 9 9 (iV A1),Own 269 1 A7 1 1 [.slice q.2.1 (aW (bh s (q.1))).length q.2.2],Own 5 1 q.2.1 (aW (bh s (q.1))).length q.2.2 (U8 (aW (bh s (q.1))))]) (fun q=>q.1≤9∧eK s q.1=true) (fun q=>9-q.1) (0,none,0) ⟨Nat.zero_le _,rfl⟩ (lk [0] [0,1,2]) ?_;rintro ⟨k,A,c⟩ ⟨hk,hr⟩
 dsimp only at hk hr ⊢;apply Zu 0x1cda<;>intro
 ·have hw:=FV (k:=k) oe;have hbl:(aW (bh s (k))).length≤30:=by rw [dg];have:=x7 s (k:=k) oe;omega
  apply Y 0x249;refine sp (cT (k:=k) (m:=k*2) rfl rfl rfl rfl rfl rfl oe (Src.o 0 rfl) Ox rfl) ?_;refine sp (ab (k:=k*2) rfl rfl rfl (Src.o 0 rfl) (mF A1 oe) rfl ob) ?_;apply Y 0x88;intro A5;apply Y 0x3d47bf4e;refine sq (faO 3) ?_;refine sq (ldO 3) ?_;refine sq (Ev.nilCheck rfl (Src.r 0 rfl) ow) ?_;apply Y 0xb92ce;refine LQ.bool 19 rfl (imp of_decide_eq_true ?_) (imp of_decide_eq_false ?_)<;>intro
  ·apply Y 0x9aa9f3e8b8b;refine C.cond rfl (fun _=>?_) (fun h=>by cases h);apply Y 0x691fb3e10eab25e;intro hno;refine qrt [] [4] [_] rfl rt ?_;exact Zm 0x2e1f
  apply Y 0x18;refine sq (faO 3) ?_;apply Y 0x18;refine sq (ldO 3) ?_;apply Y 0x18;refine sq (Ev.nilCheck rfl (Src.r 0 rfl) ow) ?_;apply Y 0x182ce18;refine sq (faO 3) ?_;apply Y 0x18;refine sq (ldO 3) ?_;apply Y 0x18;refine sq (Ev.cast (u:=.int .i64 ((8*(wds.getD k 0):Nat):Int)) (Ev.mul rfl rfl oe oe) (congrArg (Value.int .i64) oe)) ?_;apply Y 0x18;refine sq (Ev.cast (u:=.int .i64 ((256^(wds.getD k 0):Nat):Int)) (CR (m:=1) rfl rfl oe (by rw [Nat.one_mul];exact Nat.lt_of_le_of_lt (Nat.pow_le_pow_right (n:=2) ob (show 8*(wds.getD k 0)≤32 by omega)) ob)) (by rw [Nat.one_mul,Nat.pow_mul])) ?_;apply Zu 0x1c9ab918<;>intro
  ·apply Y 0x691fb3e10eab25e;intro hno;refine qrt [] [4] [_] rfl rt ?_;exact Zm 0x2e1f
  have hfit:EP (s.getD k 0) (wds.getD k 0)=true:=by unfold EP;exact decide_eq_true oe
  have hpw:(256^(wds.getD k 0):Nat)≤4294967296:=Nat.le_trans (Nat.pow_le_pow_right ob (show (wds.getD k 0)≤4 by omega)) ob;have hst:(aW (bh s (k+1)))=(aW (bh s (k)))++aW (cz (s.getD k 0).toNat (wds.getD k 0)):=by rw [dY,lz]
  apply Y 0xe8;refine aG [_,_] ⟨Has.r 0 rfl,Has.o 3 rfl,trivial⟩ ?_;apply Y 0xcfe2ded2e;refine mq 3 rfl (Ev.nilCheck rfl (Src.r 0 rfl) ow) ?_;refine mq 4 rfl (Ev.cast (u:=.int .i64 (((s.getD k 0).toNat:Nat):Int)) (Ev.load rfl rfl rfl (Src.r 0 rfl) (aJ oe)) (congrArg (Value.int .i64) oe)) ?_;refine mfo 5 ?_;apply Y 0x6f1e;refine mfo 6 ?_;apply Y 0xa7ec9fae;refine L.call (js:=[1,2]) (js':=[0,3]) (JP A7 A (aW (bh s (k))) c (s.getD k 0).toNat (wds.getD k 0) oe oe) rfl rfl rfl ob trivial rfl ?_;apply Y 0x89;intro A' c';apply Y 0x6d70eaae;refine QE.round (i:=(k,A,c)) ((k+1,A',c')) (by exact ⟨by dsimp only;omega,by dsimp only;rw [rz,hr,hfit];rfl⟩) ou (by exact lk [0] [2,0,1] (hh:=⟨rfl,(by dsimp only;rw [hst];rfl),(by dsimp only;rw [hst];rfl),trivial⟩))
 apply Y 0x4869;refine sp (nkO 1) ?_;apply Y 0x5aba;obtain rfl:k=9:=oe;refine FA 2 rfl (fun hsome=>?_);refine qrt [] [2] [_] rfl rt ?_;exact ⟨A,c,by rw [dG hr];rfl,by rw [show aN s=true from hr];exact hsome (by rw [aH,dg,dZ];decide),rfl,by rw [dG hr];rfl⟩
end Go.Proofs.YtbpddeiogcgegaaGreat
