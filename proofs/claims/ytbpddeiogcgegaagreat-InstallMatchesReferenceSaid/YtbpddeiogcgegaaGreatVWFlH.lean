/-
  Part of a proof.
-/
import Derived.Test.YtbpddeiogcgegaaGreatVWFlD
set_option maxHeartbeats 0
set_option maxRecDepth 4000
set_option linter.all false
namespace Go.Proofs.YtbpddeiogcgegaaGreat
open Go.Sl
theorem Nx.beq {r s:Nx}(h1:r.x=s.x)(h2:r.done=s.done):(r.e==s.e)=decide (r=s):=by
 cases r
 cases s
 simp only at h1 h2;subst h1 h2;exact Zm 0x81ef3e
theorem FI (f:Fl)(a:Fa)(ok:f.Ok)(hh:a.hs.length=f.data.length)(sec:Int)(want:List UInt8)(W:Option Addr)(wc:Nat)(_hwl:want.length≤1000000):
    Ctr X 95 [flV f a,.int .i64 sec,.slice W want.length wc] (flR f a++[Rd W (U8 want)]) [] (fun v R' H'=>∃ A c,v=.agg (List.toArray [.int .i64 (aS f sec want).x.kind,.int .i64 (aS f sec want).x.sec,.int .i64 (aS f sec want).x.at_,.slice A (aS f sec want).x.data.length c,.bool (aS f sec want).done,.int .i64 (aS f sec want).e])∧R'=[Rd A (U8 (aS f sec want).x.data)]∧H'=[]):=by
 obtain ⟨os1,os2,on1,on2,owl,odl,orows,ol1,ol2,owear⟩:=ok;apply Y 0x550f;intro hok;refine co Tryz.func95 ?_;intro β;apply Y 0x4a;intro A3;apply Y 0x98;intro A6;apply Zu 0xb71f48a8a9ec1e6f82cdb57b<;>intro hg17
 ·have q17:¬(0≤sec∧sec≤(f.data.length:Int)-1):=by simp at hg17;omega
  apply Y 0x11d;refine C.cond rfl (fun _=>?_) (fun h=>by cases h);apply Zu 0x10ebce0e9bcb
  ·exact Zm 0x21de
  exact Zm 0x21de
 have q17:0≤sec∧sec≤(f.data.length:Int)-1:=by simp at hg17;omega
 apply Zu 0x5d384b2eed<;>intro
 ·apply Zu 0x10ebce0e9bcb
  ·exact Zm 0x21de
  exact Zm 0x21de
 apply Y 0xa92f;intro hrow;apply Y 0x6bfe8d1f6f85899;refine L.call (js:=[]) (js':=[0]) (kY _ _ _ _ _ _ oe oe) rfl rfl rfl ob ⟨((Has.kid 2 rfl oC (sec.toNat) oZ).cast (aW _)),(Has.r 5 rfl),trivial⟩ rfl ?_;apply Zu 0x3d0f88a8<;>intro hc31
 ·apply Zu 0x10ebce0e9bcb
  ·rw [kU oe hc31];exact Zm 0x2
  rw [kU oe hc31];exact Zm 0x2
 replace hc31:(f.data.getD sec.toNat [])≠want:=by simpa using hc31
 apply Y 0x98fa483c;intro A7;apply Y 0xad7b6b;refine lp [1,2,3,6,7] [_,_,_,_,_] (fun q:Nat×Fo×Option Addr×Nat=>[(8,.int .i64 (q.1:Int))]) (kz [_,_,_,_,_,_]) (fun q=>[Own 62 6 A6 1 1 [.int .i64 0,.int .i64 0,.int .i64 0,.slice none 0 0,.bool false,.int .i64 0],Own 60 4 A7 1 1 [.int .i64 q.2.1.kind,.int .i64 q.2.1.sec,.int .i64 q.2.1.at_,.slice q.2.2.1 q.2.1.data.length q.2.2.2]]) (fun q=>q.1≤f.size∧BI sec want W wc (lM (f.data.getD sec.toNat []) want q.1) q.2.1 q.2.2.1 q.2.2.2) (fun q=>f.size-q.1) (0,⟨2,sec,0,want⟩,W,wc) ⟨Nat.zero_le _,.inl ⟨rfl,rfl,rfl,rfl⟩⟩ (lk [0,1,2,3,4,5] [0,1]) ?_;apply Y 0x920f;intro k x XA xc hk hx
 dsimp only at hk hx ⊢;apply Zu 0x791f8658<;>intro
 ·apply Y 0xfc50ea0e3f1fee1f2a6d589;refine sq (ae (k:=sec.toNat) rfl rfl rfl rfl rfl rfl oe oe (Src.r 1 rfl) ow) ?_;apply Y 0xfc724f;refine sq (ae (k:=k) rfl rfl rfl rfl rfl rfl rfl oe ((Src.kid 2 rfl oC (sec.toNat) oZ).cast (aW _)) oI) ?_;refine sq (Ev.load rfl rfl rfl ((Src.kid 2 rfl oC (sec.toNat) oZ).cast (aW _)) (bn oe)) ?_;refine sq (lI rfl rfl) ?_;apply Zu 0x5d80e<;>intro hc55
  ·apply Y 0x8afd6bfa2c;refine QE.round (i:=(k,x,XA,xc)) ((k+1,⟨1,sec,0,[]⟩,none,0)) (by exact ⟨by dsimp only;omega,.inr ⟨xi (k:=k) ou (fun h=>hc55 (by rw [h];rfl)),rfl,rfl,rfl⟩⟩) ou (lk [0,1,2,3,4,5] [0,1])
  apply Y 0x8a5a;refine QE.round (i:=(k,x,XA,xc)) ((k+1,x,XA,xc)) (by exact ⟨by dsimp only;omega,by dsimp only;rw [nv];exact hx.next _ (by simpa [-List.getD_eq_getElem?_getD] using dN.1 hc55)⟩) ou (lk [0,1,2,3,4,5] [0,1])
 apply Y 0x5a9;obtain rfl:k=f.size:=oe;have hxe:=hx.eq;apply Y 0xf4ec3e68;refine L.call (js:=[]) (js':=[0,1]) (pT f a hok hh x XA xc (by have:=hx.len;omega)) rfl rfl rfl ob ⟨(Has.r 1 rfl),(Has.r 2 rfl),(Has.r 3 rfl),(Has.r 4 rfl),(hx.has (Has.r 5 rfl)),trivial⟩ rfl ?_;apply Zu 0x5d38581a8<;>intro hc62
 ·apply Zu 0x10ebce0e9bfaf9
  ·rw [nu oe hc31 hxe hc62];exact Zm 0x2
  rw [nu oe hc31 hxe hc62];exact Zm 0x2
 apply Y 0xd89bfaf4e3c;refine QE.more (r:=Rd XA (U8 x.data)) ((hx.has (Has.r 5 rfl))) ?_;apply Zu 0xf11fbc
 ·rw [kT oe hc31 hxe oe];exact Zm 0x2
 rw [kT oe hc31 hxe oe];exact Zm 0x2
theorem H8 (f:Fl)(a:Fa)(ok:f.Ok)(hh:a.hs.length=f.data.length)(sec:Int)(want:List UInt8)(W:Option Addr)(wc:Nat)(hwl:want.length≤1000000):
    Ctr X 115 [flV f a,.int .i64 sec,.slice W want.length wc] (flR f a++[Rd W (U8 want)]) [] (fun v R' H'=>∃ A c,v=.tuple #[.agg (List.toArray [.int .i64 (aS f sec want).x.kind,.int .i64 (aS f sec want).x.sec,.int .i64 (aS f sec want).x.at_,.slice A (aS f sec want).x.data.length c]),.bool (aS f sec want).done,.int .i64 (aS f sec want).e]∧R'=[Rd A (U8 (aS f sec want).x.data)]∧H'=[]):=by
 obtain ⟨os1,os2,on1,on2,owl,odl,orows,ol1,ol2,owear⟩:=ok;apply Y 0x550f;intro hok;refine co Tryz.func115 ?_;intro β;apply Y 0x4a;intro A3;apply Y 0x98;intro A6;apply Zu 0x871fb868db5538<;>intro
 ·apply Y 0x1cdea1d;refine C.cond rfl (fun _=>?_) (fun h=>by cases h);apply Zu 0x10ec5ee0e385bcb
  ·exact Zm 0x21de
  exact Zm 0x21de
 apply Zu 0xdd0fb8b9b2eb9<;>intro
 ·apply Y 0x11d;refine C.cond rfl (fun _=>?_) (fun h=>by cases h);apply Zu 0x10ec5ee0e385bcb
  ·exact Zm 0x21de
  exact Zm 0x21de
 apply Zu 0x5d384b2eed<;>intro
 ·apply Zu 0x10ec5ee0e385bcb
  ·exact Zm 0x21de
  exact Zm 0x21de
 apply Y 0xa92f;intro hrow;apply Y 0x6bfe8d1f6f85899;refine L.call (js:=[]) (js':=[0]) (Ai _ _ _ _ _ _) rfl rfl rfl ob ⟨((Has.kid 2 rfl oC (sec.toNat) oZ).cast (aW _)),(Has.r 5 rfl),trivial⟩ rfl ?_;apply Zu 0x3d0f88a8<;>intro hc36
 ·apply Zu 0x10ec5ee0e385bcb
  ·rw [kU oe hc36];exact Zm 0x2
  rw [kU oe hc36];exact Zm 0x2
 replace hc36:(f.data.getD sec.toNat [])≠want:=by simpa using hc36
 apply Y 0x98fa483c;intro A9;apply Y 0xba38bfe8d1f6f858886b;refine lp [1,2,3,6,9,45,46] [_,_,_,_,_,_,_] (fun k:Nat=>[(47,.int .i64 (k:Int))]) (kz [_,_,_,_,_,_]) (kz [_,_]) (fun k=>k≤f.size∧lM (f.data.getD sec.toNat []) want k=true) (fun k=>f.size-k) 0 ⟨Nat.zero_le _,rfl⟩ (lk [0,1,2,3,4,5] [0,1]) ?_;apply Y 0xa1e;intro k hk hb;apply Zu 0x7920e<;>intro
 ·apply Y 0xf989;refine sp (ae (k:=k) rfl rfl rfl rfl rfl rfl rfl oe ((Src.kid 2 rfl oC (sec.toNat) oZ).cast (aW _)) oI) ?_;refine sp (Ev.load rfl rfl rfl ((Src.kid 2 rfl oC (sec.toNat) oZ).cast (aW _)) (bn oe)) ?_;apply Zu 0x5d80e3f1fee1f2aae1f3f1fee1ffc2a6d538<;>intro hc62
  ·have hxe:ed f sec want=⟨1,sec,0,[]⟩:=tj (xi (k:=k) oe (fun h=>hc62 (dN.2 ((eH _ _).2 h))));apply Y 0xf4ec3e586a450f4f0f79e886bfaf9;refine L.call (js:=[]) (js':=[0,1]) (sP f a hok hh ⟨1,sec,0,[]⟩ none 0 oS) rfl rfl rfl ob ⟨(Has.r 1 rfl),(Has.r 2 rfl),(Has.r 3 rfl),(Has.r 4 rfl),Has.nil,trivial⟩ rfl ?_;apply Zu 0x5dc81a8<;>intro hc70
   ·apply Zu 0x10ec5ee0e385b6cb
    ·exact Zm 0x2c21f
    exact Zm 0x2c21f
   apply Y 0xda3c;refine L.call (js:=[]) (js':=[0,1]) (mU none 0 0 (U8 []) (bN _) rfl oe) rfl rfl rfl ob ⟨Has.nil,trivial⟩ rfl ?_;apply Y 0x19;intro A75 c75;apply Y 0xd8386bc80f788a8e46e;refine qfz 0 [1,2] ?_;apply Y 0xc5e;refine ⟨A75,c75,?_,?_,rfl⟩
   ·exact Zm 0x2d21f
   exact Zm 0x2d21f
  have hbb:=(eH _ _).1 (dN.1 hc62);apply Y 0xd0e5a;refine QE.round (k+1) (by exact ⟨by omega,by rw [nv,hb,hbb];rfl⟩) oe (lk [0,1,2,3,4,5] [0,1])
 obtain rfl:k=f.size:=oe;have hxe:=tm (sec:=sec) hb;apply Y 0xf4ec3e58a9;refine al (sP f a hok hh ⟨2,sec,0,want⟩ W wc qb) ?_;apply Zu 0x5dc81a8<;>intro hc70
 ·apply Zu 0x10ec5ee0e385b6cb
  ·exact Zm 0x2c21f
  exact Zm 0x2c21f
 apply Y 0xda3c;refine al (mU W want.length wc (U8 want) (bN _) (aG _) oe) ?_;apply Y 0x19;intro A75 c75;apply Y 0xd8386bc80f788a8e46e;refine qfz 0 [1,2] ?_;apply Y 0xc5e;refine ⟨A75,c75,?_,?_,rfl⟩
 ·exact Zm 0x2d21f
 exact Zm 0x2d21f
theorem BO (n:Nat)(h:n<4294967296):bop .and .u64 (n:Int) 4294967295=(n:Int):=by
 have:=bits_and_u64_nat n 4294967295 oe ob;refine Eq.trans this ?_
 congr 1;have h2:(4294967295:Nat)=2^32-1:=ob;rw [h2,Nat.and_two_pow_sub_one_eq_mod];exact Zm 0x18
theorem HZ (n:Nat)(h:n<4294967296):(n:Int).fdiv (2^min (32:Int).toNat IntKind.u64.bits)=0:=by
 have:(2:Int)^min (32:Int).toNat IntKind.u64.bits=4294967296:=ob;rw [this,Int.fdiv_eq_ediv_of_nonneg _ ob];exact Zm 0x18
theorem tg (n:Nat)(h:n<4294967296):IntKind.u64.wrap (n:Int)=(n:Int):=by rw [IntKind.wrap_u64];omega
theorem FE (n:Nat)(h:n<4294967296):IntKind.u64.wrap (1*(n:Int))=(n:Int):=by rw [Int.one_mul];exact tg n h
theorem BN (n:Nat):IntKind.u64.wrap (0*(n:Int))=0:=by rw [Int.zero_mul];decide
theorem xp {A:Option Addr}{g n p:Nat}(h:A=some ⟨g,0,none⟩)(hp:p<n):bj A n p 1=some ⟨g,p,none⟩:=by
 subst h
 unfold bj;apply Y 0xe40f
 simp [Addr.add]
 exact fun h=>h.symm
theorem lZ {p k:Nat}{x:UInt8}{ys:List UInt8}(h:k≤p):(U8 (List.replicate p x++ys)).take k=U8 (List.replicate k x):=by
 rw [bz,List.take_append_of_le_length qD,List.take_replicate,Nat.min_eq_left h]
theorem tS {p n:Nat}{x:UInt8}{ys:List UInt8}(_hy:ys.length=n-p)(_hp:p≤n):
    (U8 (List.replicate p x++ys)).take p++U8 (List.replicate (min p (n-p)) x)++(U8 (List.replicate p x++ys)).drop (p+(U8 (List.replicate (min p (n-p)) x)).length)=U8 (List.replicate (p+min p (n-p)) x++ys.drop (min p (n-p))):=by
 rw [lZ (Nat.le_refl p),aG,List.length_replicate];have:(U8 (List.replicate p x++ys)).drop (p+min p (n-p))=U8 (ys.drop (min p (n-p))):=by
  unfold U8;rw [← List.map_drop,List.drop_append,List.drop_of_length_le oS,List.nil_append];exact Zm 0x81e
 rw [this,b9,b9]
 congr 1;rw [List.append_assoc,← List.append_assoc,List.replicate_append_replicate]
theorem GC (n:Nat)(hn:n<4294967296):
    Ctr X 250 [.int .u64 1,.int .u64 (n:Int)] [] [] (fun v R' H'=>v=.tuple #[.int .u64 0,.int .u64 (n:Int)]∧R'=[]∧H'=[]):=by
 refine co Tryz.func250 ?_;intro β;apply Y 0xf91dc1ff91ec1ff9c8;refine sp ((Ev.cast (u:=.int .u64 (n)) (Ev.pure rfl) (congrArg (Value.int .u64) (BO n hn)))) ?_;apply Y 0x2d18b3f2d17b3ff91;refine sp ((Ev.cast (u:=.int .u64 (0)) (Ev.pure rfl) (congrArg (Value.int .u64) (BN n)))) ?_;exact Zm 0x53ed5ed818b3f2d1510fdc1f6510f6510f2d1510f510fb871dc1ff91510ff91510f7b3f6
theorem IX (n:Nat)(hn:n<4294967296):
    Ctr X 222 [.int .u64 1,.int .u64 (n:Int)] [] [] (fun v R' H'=>v=.tuple #[.int .u64 0,.int .u64 (n:Int)]∧R'=[]∧H'=[]):=by
 refine co Tryz.func222 ?_;intro β;apply Y 0x5c8;refine C.cond rfl (fun h=>by cases h) (fun _=>?_);apply Y 0x483c;refine al (GC n hn) ?_;exact Zm 0x53ed5ed8382de848a8
theorem II (m i:Nat):UInt8.ofNat (m/256^i)=UInt8.ofNat (m/2^(8*i)):=by rw [Nat.pow_mul]
theorem IF (D A:Option Addr)(l:List UInt8)(c m w:Nat)(hl:l.length≤1000)(hw:w≤4):
    Ctr X 177 [ag D 0,.int .i64 (m:Int),.int .i64 (w:Int)] [] [Own 269 1 D 1 1 [.slice A l.length c],Own 5 1 A l.length c (U8 l)] (fun v R' H'=>∃ (A':Option Addr) (c':Nat),v=.tuple #[]∧R'=[]∧H'=[Own 269 1 D 1 1 [.slice A' (l++bt (dd m w)).length c'],Own 5 1 A' (l++bt (dd m w)).length c' (U8 (l++bt (dd m w)))]):=by
 refine co Tryz.func177 ?_;intro β;apply Y 0xba1c1ef9;refine lp [] [] (fun q:Nat×Option Addr×Nat=>[(0,ag D 0),(1,.int .i64 (m:Int)),(6,.int .i64 ((w:Int)-1-(q.1:Int)))]) nz (fun q=>[Own 269 1 D 1 1 [.slice q.2.1 (l++bt ((dd m w).take (q.1))).length q.2.2],Own 5 1 q.2.1 (l++bt ((dd m w).take (q.1))).length q.2.2 (U8 (l++bt ((dd m w).take (q.1))))]) (fun q=>q.1≤w) (fun q=>w-q.1) (0,A,c) (Nat.zero_le _) (by exact lk [] [0,1] ⟨rfl,rfl,oag,trivial⟩ (hh:=⟨(by simp [bt]),(by simp [bt]),trivial⟩)) ?_;apply Y 0x72e;intro k A c hk
 dsimp only at hk ⊢;apply Zu 0xe958<;>intro
 ·apply Y 0xd12f;intro hb;have hbl:(l++bt ((dd m w).take (k))).length≤1100:=by rw [List.length_append,cQ,List.length_take,dE];omega
  have hst:(l++bt ((dd m w).take (k+1)))=(l++bt ((dd m w).take (k)))++[UInt8.ofNat (m/2^(8*(w-1-k))),~~~(UInt8.ofNat (m/2^(8*(w-1-k))))]:=by rw [aB _ 0 k oa6,kb,hb,pN,List.append_assoc]
  apply Y 0x6c3f2d89;refine sp (Bk rfl rfl oe) ?_;apply Y 0x4856eaa8d9c1b14f;refine sp (Bv rfl) ?_;apply Y 0x3b;intro A27;refine L.append (j:=1) rfl rfl rfl rfl ob rfl rfl rfl rfl (Src.o 2 rfl) rfl (by intro v hv;simp at hv;rcases hv with rfl|rfl<;>rfl) oe oJ rfl (fun A28 cc28=>?_);apply Y 0xd1ec1e2c74efde00faa8d;refine QE.round (i:=(k,A,c)) ((k+1,A28,cc28)) ou ou (by exact lk [] [0,1] ⟨rfl,rfl,qS,trivial⟩ (hh:=⟨(by exact congrArg some (ax rfl qB)),qj,trivial⟩))
 apply Y 0x270f66e;obtain rfl:k=w:=oe;refine qrt [] [0,1] [] rfl trivial ?_;rw [show (dd m k).take k=dd m k from by rw [List.take_of_length_le oa6]];exact Zm 0x78e
theorem uY (S:Option Addr)(s:List Int)(hs:s.length=9):
    Ctr X 176 [ag S 0] [Rd S (I64 s)] [] (fun v R' H'=>∃ A,v=.slice A 9 9∧R'=[]∧H'=[Own 266 2 A 9 9 (gY S)]):=by
 refine co Tryz.func176 ?_;intro β;apply Y 0xb3e760f20e;refine mq 1 rfl (Ev.nilCheck rfl (Src.r 0 rfl) ox) ?_;refine mq 2 rfl (Ev.fieldAddr rfl rfl rfl rfl rfl rfl (Src.r 0 rfl) ox rfl) ?_;refine mq 3 rfl (Ev.build rfl rfl rfl rfl rfl rfl rfl) ?_;apply Y 0x9ae;refine mq 5 rfl (Ev.nilCheck rfl (Src.r 0 rfl) ox) ?_;refine mq 6 rfl (Ev.fieldAddr rfl rfl rfl rfl rfl rfl (Src.r 0 rfl) ox rfl) ?_;apply Y 0x67e9a3f;refine mq 9 rfl (Ev.nilCheck rfl (Src.r 0 rfl) ox) ?_;refine mq 10 rfl (Ev.fieldAddr rfl rfl rfl rfl rfl rfl (Src.r 0 rfl) ox rfl) ?_;apply Y 0x201fb93f;refine mq 13 rfl (Ev.nilCheck rfl (Src.r 0 rfl) ox) ?_;refine mq 14 rfl (Ev.fieldAddr rfl rfl rfl rfl rfl rfl (Src.r 0 rfl) ox rfl) ?_;refine mq 15 rfl (Ev.build rfl rfl rfl rfl rfl rfl rfl) ?_;apply Y 0x301f;refine mq 17 rfl (Ev.nilCheck rfl (Src.r 0 rfl) ox) ?_;refine mq 18 rfl (Ev.fieldAddr rfl rfl rfl rfl rfl rfl (Src.r 0 rfl) ox rfl) ?_;refine mq 19 rfl (Ev.build rfl rfl rfl rfl rfl rfl rfl) ?_;refine mq 20 rfl (Ev.pure rfl) ?_;refine mq 21 rfl (Ev.nilCheck rfl (Src.r 0 rfl) ox) ?_;refine mq 22 rfl (Ev.fieldAddr rfl rfl rfl rfl rfl rfl (Src.r 0 rfl) ox rfl) ?_;refine mq 23 rfl (Ev.build rfl rfl rfl rfl rfl rfl rfl) ?_;refine mq 24 rfl (Ev.pure rfl) ?_;refine mq 25 rfl (Ev.nilCheck rfl (Src.r 0 rfl) ox) ?_;refine mq 26 rfl (Ev.fieldAddr rfl rfl rfl rfl rfl rfl (Src.r 0 rfl) ox rfl) ?_;refine mq 27 rfl (Ev.build rfl rfl rfl rfl rfl rfl rfl) ?_;refine mq 28 rfl (Ev.pure rfl) ?_;refine mq 29 rfl (Ev.nilCheck rfl (Src.r 0 rfl) ox) ?_;refine mq 30 rfl (Ev.fieldAddr rfl rfl rfl rfl rfl rfl (Src.r 0 rfl) ox rfl) ?_;refine mq 31 rfl (Ev.build rfl rfl rfl rfl rfl rfl rfl) ?_;refine mfo 32 ?_;apply Y 0x36;refine mfo 33 ?_;refine sp (Ev.nilCheck rfl (Src.r 0 rfl) ox) ?_;apply Y 0x3;refine mfo 34 ?_;refine sp (Ev.fieldAddr rfl rfl rfl rfl rfl rfl (Src.r 0 rfl) ox rfl) ?_;apply Y 0x3;refine mfo 35 ?_;apply Y 0xce0f69fa;refine Lw (cs:=gY S) rfl rfl rfl rfl rfl oa rfl rfl rfl rfl rfl (fun A39=>?_);apply Y 0x3;refine LM.f 37 rfl oa trivial ?_;apply Y 0x11ed86a6c;exact ⟨A39,rfl,rfl,rfl⟩
theorem FR (s:List Int)(hs:s.length=9):
    Ctr X 110 [.agg (List.toArray (st9 s))] [] [] (fun v R' H'=>∃ (A:Option Addr) (c:Nat),v=.slice A (aw s).length c∧A.isSome=aI s∧R'=[]∧H'=[Own 5 1 A (aw s).length c (U8 (aw s))]):=by
 rw [← tB hs];refine co Tryz.func110 ?_;intro β;apply Y 0x4a;intro A1;apply Y 0x2bfa7c49;intro A7;apply Y 0x581;refine al (uY A1 s hs) ?_;apply Y 0x71e;intro A8;apply Y 0xba38ab;refine C.nil_own 5 1 ?_;refine lp [1,3,8,9] [_,_,_,_] (fun q:Nat×Option Addr×Nat=>[(10,.int .i64 (q.1:Int))]) (kz [_]) (fun q=>[Own 266 2 A8 9 9 (gY A1),Own 269 1 A7 1 1 [.slice q.2.1 (bt (bQ s (q.1))).length q.2.2],Own 5 1 q.2.1 (bt (bQ s (q.1))).length q.2.2 (U8 (bt (bQ s (q.1))))]) (fun q=>q.1≤9∧dP s q.1=true) (fun q=>9-q.1) (0,none,0) ⟨Nat.zero_le _,rfl⟩ (lk [0] [0,1,2]) ?_;apply Y 0xbc2f;intro k A c hk hr
 dsimp only at hk hr ⊢;apply Zu 0x7920e<;>intro
 ·apply Y 0xba2f;intro hw;have hbl:(bt (bQ s (k))).length≤30:=by rw [cQ];have:=wG s (k:=k) oe;omega
  apply Y 0x789;refine sp (cf (k:=k) (m:=k*2) rfl rfl rfl rfl rfl rfl oe (Src.o 0 rfl) Oc rfl) ?_;refine sp (aa (k:=k*2) rfl rfl rfl (Src.o 0 rfl) (lu A1 oe) rfl ob) ?_;apply Y 0x98;intro A5;apply Y 0x6d57b95e;refine sq (faO 3) ?_;refine sq (ldO 3) ?_;apply Y 0x2aefeb24f;refine LQ.bool 19 rfl (imp of_decide_eq_true ?_) (imp of_decide_eq_false ?_)<;>intro
  ·apply Y 0x80ee4efbfb;refine C.cond rfl (fun _=>?_) (fun h=>by cases h);apply Y 0x352f63edc12e17e;intro hno;refine qrt [] [4] [_] rfl rt ?_;exact Zm 0x9e2f
  apply Y 0x28;refine sq (faO 3) ?_;apply Y 0x28;refine sq (ldO 3) ?_;apply Y 0x28efe28b24f28;refine sq (faO 3) ?_;apply Y 0x28;refine sq (ldO 3) ?_;apply Y 0x28;refine sq (Ev.cast (u:=.int .i64 ((8*(wds.getD k 0):Nat):Int)) (Ev.mul rfl rfl oe oe) (congrArg (Value.int .i64) oe)) ?_;apply Y 0x28;refine sq (Ev.cast (u:=.int .i64 ((256^(wds.getD k 0):Nat):Int)) (Bn (m:=1) rfl rfl oe (by rw [Nat.one_mul];exact Nat.lt_of_le_of_lt (Nat.pow_le_pow_right (n:=2) ob (show 8*(wds.getD k 0)≤32 by omega)) ob)) (by rw [Nat.one_mul,Nat.pow_mul])) ?_;apply Zu 0x7952e2a28<;>intro
  ·apply Y 0x352f63edc12e17e;intro hno;refine qrt [] [4] [_] rfl rt ?_;exact Zm 0x9e2f
  have hfit:Dw (s.getD k 0) (wds.getD k 0)=true:=by unfold Dw;exact decide_eq_true oe
  have hpw:(256^(wds.getD k 0):Nat)≤4294967296:=Nat.le_trans (Nat.pow_le_pow_right ob (show (wds.getD k 0)≤4 by omega)) ob;have hst:(bt (bQ s (k+1)))=(bt (bQ s (k)))++bt (dd (s.getD k 0).toNat (wds.getD k 0)):=by rw [ik,kb]
  apply Y 0x99;refine av [_,_] ⟨Has.r 0 rfl,Has.o 3 rfl,trivial⟩ ?_;apply Y 0x6ce4beb3e;refine mq 3 rfl (Ev.nilCheck rfl (Src.r 0 rfl) ox) ?_;refine mq 4 rfl (Ev.cast (u:=.int .i64 (((s.getD k 0).toNat:Nat):Int)) (Ev.load rfl rfl rfl (Src.r 0 rfl) (aH oe)) (congrArg (Value.int .i64) oe)) ?_;apply Y 0xd6e698ee45e373e8ae;refine L.call (js:=[1,2]) (js':=[0,3]) (IF A7 A (bt (bQ s (k))) c (s.getD k 0).toNat (wds.getD k 0) oe oe) rfl rfl rfl ob trivial rfl ?_;apply Y 0x19;intro A' c';apply Y 0xd0ecc5ce;refine QE.round (i:=(k,A,c)) ((k+1,A',c')) (by exact ⟨by dsimp only;omega,by dsimp only;rw [nO,hr,hfit];rfl⟩) ou (by exact lk [0] [2,0,1] (hh:=⟨rfl,(by dsimp only;rw [hst];rfl),(by dsimp only;rw [hst];rfl),trivial⟩))
 apply Y 0xf9a9;refine sp (nkO 1) ?_;apply Y 0xd81da;obtain rfl:k=9:=oe;refine Ec 2 rfl (fun hsome=>?_);apply Y 0xcc1f;exact ⟨A,c,by rw [eW hr];rfl,by rw [show aI s=true from hr];exact hsome (by rw [aG,cQ,il];decide),rfl,by rw [eW hr];rfl⟩
end Go.Proofs.YtbpddeiogcgegaaGreat
